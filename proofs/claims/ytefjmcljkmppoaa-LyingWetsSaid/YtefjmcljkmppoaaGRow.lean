/- Arguments of any kind opened: what a row says of data, as the kinds of the walk say it. -/
import Derived.Test.YtefjmcljkmppoaaWMore
import Derived.Test.YtefjmcljkmppoaaWSized
import Derived.Deep.Slices
import Derived.ProofKit
import Derived.OpenShut
import Derived.ShutString
import Derived.ChangeOld
import Derived.SizedLaws
import Derived.WideShapes
namespace Go.Proofs.Ytefjmcljkmppoaa.GRow
open Go.RowKit Go.ChangeShapes Go.WideShapes Go.Proofs.YtefjmcljkmppoaaW.PrintWords
set_option linter.unusedVariables false
def Opens (P : Program) (t : TypeId) {α : Type} (k : Kd α) (ok : α → Prop) : Prop :=
  P.cellsOf t = k.sz ∧ ∀ {H : Type} (enc : TypeId × Value → H) (w : World) (base : Nat) (spare : Nat → Bool) (held : Bool) (fuel : Nat) (cs : List Value) (y : DataW H × List MemPlace), DataW.trod enc P w base spare held fuel t cs = some y → ∃ x, k.K w x cs ∧ ok x
theorem Opens.imp {P : Program} {t : TypeId} {α : Type} {k : Kd α} {ok ok' : α → Prop} (h : Opens P t k ok) (hi : ∀ x, ok x → ok' x) : Opens P t k ok' :=
  ⟨h.1, fun enc w base spare held fuel cs y hy => by
    obtain ⟨x, h1, h2⟩ := h.2 enc w base spare held fuel cs y hy
    exact ⟨x, h1, hi x h2⟩⟩
section
variable {P : Program} {t e : TypeId}
theorem opens_int {q : IntKind} (ht : P.underlying t = some (.int q)) (hc : P.cellsOf t = 1) : Opens P t (Kd.int q) (fun x => (Lit.int q x).wf = true) :=
  ⟨hc, fun enc w base spare held fuel cs y hy => by
    obtain ⟨n, rfl, _, hw⟩ := DataW.trod_int ht hy
    exact ⟨n, rfl, hw⟩⟩
theorem opens_string (ht : P.underlying t = some .string) (hc : P.cellsOf t = 1) : Opens P t Kd.string (fun s => s.size ≤ maxLen) :=
  ⟨hc, fun enc w base spare held fuel cs y hy => by
    obtain ⟨s, rfl, _, hs⟩ := DataW.trod_string ht hy
    exact ⟨s, rfl, hs⟩⟩
end
theorem list_upto {α : Type} {p : Nat → α → Prop} : ∀ n : Nat, (∀ i, i < n → ∃ x, p i x) → ∃ xs : List α, xs.length = n ∧ ∀ (j : Nat) x, xs[j]? = some x → p j x
  | 0, _ => ⟨[], rfl, fun j x hx => by simp at hx⟩
  | n + 1, h => by
    obtain ⟨xs, hl, hp⟩ := list_upto n (fun i hi => h i (Nat.lt_succ_of_lt hi))
    obtain ⟨x, hx⟩ := h n (Nat.lt_succ_self n)
    refine ⟨xs ++ [x], by simp [hl], fun j y hy => ?_⟩
    by_cases hj : j < xs.length
    · rw [List.getElem?_append_left hj] at hy
      exact hp j y hy
    · have hj' : j = n := by
        have := (List.getElem?_eq_some_iff.1 hy).1
        simp at this
        omega
      subst hj'
      rw [List.getElem?_append_right (by omega)] at hy
      have : x = y := by simpa [hl] using hy
      exact this ▸ hx
theorem opens_slice {P : Program} {t e : TypeId} {α : Type} {k : Kd α} {ok : α → Prop} (ht : P.underlying t = some (.slice e)) (hc : P.cellsOf t = 1) (h : Opens P e k ok) : Opens P t (Kd.slice e k) (fun xs => xs.length ≤ maxLen ∧ ∀ x ∈ xs, ok x) :=
  ⟨hc, fun enc w base spare held fuel cs y hy => by
    rcases DataW.trod_slice ht hy with ⟨rfl, _⟩ | ⟨a, len, cap, elems, rest, n, _, rfl, _, _, hl, hm, hlen, hel, _⟩
    · exact ⟨[], ⟨none, 0, rfl, Nat.le_refl _, rfl, Nat.zero_le _, fun h0 => absurd h0 (Nat.lt_irrefl 0)⟩, Nat.zero_le _, fun x hx => by simp at hx⟩
    · obtain ⟨xs, hxl, hxs⟩ := list_upto (p := fun i (x : α) => ok x ∧ ∃ c, c.length = k.sz ∧ k.K w x c ∧ ∀ j u, c[j]? = some u → w.cell? (a.add (i * k.sz + j)) = some u) len (fun i hi => by
        have hb := hel i hi
        rw [List.getElem?_eq_getElem (by omega)] at hb
        obtain ⟨cs', hcs, hy'⟩ := Option.bind_eq_some_iff.1 hb
        obtain ⟨x, h1, h2⟩ := h.2 enc w base spare held n cs' _ hy'
        obtain ⟨_, hcl, hce⟩ := World.cells?_some hcs
        refine ⟨x, h2, cs', k.K_len h1, h1, fun j u hu => ?_⟩
        have hj : j < cs'.length := (List.getElem?_eq_some_iff.1 hu).1
        have := hce j (by omega)
        rw [hu, h.1, Deep.add_add] at this
        exact this)
      refine ⟨xs, ⟨some a, cap, by rw [hxl], by omega, rfl, ?_, fun _ => ⟨a, rfl, fun j p hp => (hxs j p hp).2⟩⟩, by omega, fun x hx => ?_⟩
      · have : maxLen = 9223372036854775807 := rfl
        omega
      · obtain ⟨j, hj⟩ := List.getElem?_of_mem hx
        exact (hxs j x hj).1⟩
structure FieldsOpen (P : Program) (off : Nat) (fs : List Field) {α : Type} (k : Kd α) (ok : α → Prop) : Prop where
  out : ∀ {H : Type} (enc : TypeId × Value → H) (w : World) (base : Nat) (spare : Nat → Bool) (held : Bool) (n : Nat) (cs : List Value), cs.length = off + k.sz →
    (∀ f ∈ fs, ∃ y, DataW.trod enc P w base spare held n f.type ((cs.drop f.offset).take (P.cellsOf f.type)) = some y) → ∃ x, k.K w x (cs.drop off) ∧ ok x
theorem fields_last {P : Program} {off : Nat} {t : TypeId} {f : Field} {α : Type} {k : Kd α} {ok : α → Prop} (h : Opens P t k ok) (ht : f.type = t) (ho : f.offset = off) : FieldsOpen P off [f] k ok := by
  subst ht
  refine ⟨?_⟩
  intro H enc w base spare held n cs hl hf
  obtain ⟨y, hy⟩ := hf f List.mem_cons_self
  rw [ho, h.1, List.take_of_length_le (by rw [List.length_drop]; omega)] at hy
  exact h.2 enc w base spare held n _ y hy
def Two {α β : Type} (p : α → Prop) (q : β → Prop) : α × β → Prop := fun x => p x.1 ∧ q x.2
theorem fields_cons {P : Program} {off : Nat} {t : TypeId} {f : Field} {fs : List Field} {α β : Type} {k : Kd α} {k' : Kd β} {ok : α → Prop} {ok' : β → Prop} (h : Opens P t k ok) (ht : f.type = t) (ho : f.offset = off) (h' : FieldsOpen P (off + k.sz) fs k' ok') : FieldsOpen P off (f :: fs) (Kd.pair k k') (Two ok ok') := by
  subst ht
  refine ⟨?_⟩
  intro H enc w base spare held n cs hl hf
  obtain ⟨y, hy⟩ := hf f List.mem_cons_self
  rw [ho, h.1] at hy
  obtain ⟨x, hx, hok⟩ := h.2 enc w base spare held n _ y hy
  obtain ⟨x', hx', hok'⟩ := h'.out enc w base spare held n cs (by have : (Kd.pair k k').sz = k.sz + k'.sz := rfl; omega) (fun g hg => hf g (List.mem_cons_of_mem _ hg))
  refine ⟨(x, x'), ⟨_, _, ?_, hx, hx'⟩, hok, hok'⟩
  rw [← List.drop_drop, List.take_append_drop]
theorem opens_struct {P : Program} {t : TypeId} {fs : List Field} {α : Type} {k : Kd α} {ok : α → Prop} (ht : P.underlying t = some (.struct fs.toArray)) (hc : P.cellsOf t = k.sz) (h : FieldsOpen P 0 fs k ok) : Opens P t k ok :=
  ⟨hc, fun enc w base spare held fuel cs y hy => by
    obtain ⟨xs, n, _, _, hl, hxl, hf⟩ := DataW.trod_struct ht hy
    obtain ⟨x, hx, hok⟩ := h.out enc w base spare held n cs (by omega) (fun f hf' => by
      obtain ⟨i, hi⟩ := List.getElem?_of_mem hf'
      have hi' : fs.toArray[i]? = some f := by simpa using hi
      have hlt : i < xs.length := by
        have := (Array.getElem?_eq_some_iff.1 hi').1
        omega
      exact ⟨xs[i], by rw [hf i f hi', List.getElem?_eq_getElem hlt]⟩)
    exact ⟨x, by simpa using hx, hok⟩⟩
theorem opens_iso {P : Program} {t : TypeId} {α β : Type} {k : Kd α} {ok : α → Prop} (h : Opens P t k ok) (f : β → α) (g : α → β) (hg : ∀ a, f (g a) = a) : Opens P t (Kd.iso k f) (fun b => ok (f b)) :=
  ⟨h.1, fun enc w base spare held fuel cs y hy => by
    obtain ⟨x, hx, hok⟩ := h.2 enc w base spare held fuel cs y hy
    refine ⟨g x, ?_, ?_⟩
    · show k.K w (f (g x)) cs
      rw [hg]; exact hx
    · show ok (f (g x))
      rw [hg]; exact hok⟩
end Go.Proofs.Ytefjmcljkmppoaa.GRow
