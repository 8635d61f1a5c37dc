/- By hand: the keys of suspect.groups, in ascending order. -/
import Derived.Test.YtfhmjleimampeaaGWho
import Derived.Test.YtfhmjleimampeaaGSort
import Derived.Test.YtfhmjleimampeaaPFault
namespace Go.Proofs.Ytfhmjleimampeaa.K
open Go Go.RowKit Go.Maps Go.Sort Go.Shelf Go.Proofs.YtfhmjleimampeaaW.PrintWords Go.Proofs.YtfhmjleimampeaaW.PrintLast Go.Proofs.YtfhmjleimampeaaW.PrintMore Go.Proofs.Ytfhmjleimampeaa.GW Go.Proofs.Ytfhmjleimampeaa.RM
set_option linter.unusedVariables false
set_option linter.unusedSimpArgs false
def insU (x : Int) : List Int → List Int
  | [] => [x]
  | y :: l => if x < y then x :: y :: l else if x = y then y :: l else y :: insU x l
theorem mem_insU (x z : Int) : ∀ l, z ∈ insU x l ↔ z = x ∨ z ∈ l
  | [] => by simp [insU]
  | y :: l => by
    unfold insU
    have ih := mem_insU x z l
    split
    · simp
    · split
      · rename_i h
        subst h
        simp
      · rw [List.mem_cons, ih, List.mem_cons]
        constructor
        · rintro (h | h | h)
          · exact .inr (.inl h)
          · exact .inl h
          · exact .inr (.inr h)
        · rintro (h | h | h)
          · exact .inr (.inl h)
          · exact .inl h
          · exact .inr (.inr h)
theorem asc_insU (x : Int) : ∀ l : List Int, l.Pairwise (· < ·) → (insU x l).Pairwise (· < ·)
  | [], _ => by simp [insU]
  | y :: l, h => by
    obtain ⟨h1, h2⟩ := List.pairwise_cons.1 h
    unfold insU
    split
    · rename_i hx
      refine List.pairwise_cons.2 ⟨fun z hz => ?_, h⟩
      rcases List.mem_cons.1 hz with rfl | hz
      · exact hx
      · have := h1 z hz
        omega
    · split
      · exact h
      · rename_i hx hne
        refine List.pairwise_cons.2 ⟨fun z hz => ?_, asc_insU x l h2⟩
        rcases (mem_insU x z l).1 hz with rfl | hz
        · omega
        · exact h1 z hz
theorem asc_ext : ∀ a b : List Int, a.Pairwise (· < ·) → b.Pairwise (· < ·) → (∀ x, x ∈ a ↔ x ∈ b) → a = b
  | [], [], _, _, _ => rfl
  | [], y :: b, _, _, h => by have := (h y).2 (by simp); simp at this
  | x :: a, [], _, _, h => by have := (h x).1 (by simp); simp at this
  | x :: a, y :: b, ha, hb, h => by
    obtain ⟨a1, a2⟩ := List.pairwise_cons.1 ha
    obtain ⟨b1, b2⟩ := List.pairwise_cons.1 hb
    have e : x = y := by
      rcases List.mem_cons.1 ((h x).1 (by simp)) with e | hx
      · exact e
      · rcases List.mem_cons.1 ((h y).2 (by simp)) with e | hy
        · exact e.symm
        · have := a1 y hy
          have := b1 x hx
          omega
    subst e
    congr 1
    refine asc_ext a b a2 b2 (fun z => ⟨fun hz => ?_, fun hz => ?_⟩)
    · rcases List.mem_cons.1 ((h z).1 (List.mem_cons_of_mem _ hz)) with e | hz'
      · have := a1 z hz
        omega
      · exact hz'
    · rcases List.mem_cons.1 ((h z).2 (List.mem_cons_of_mem _ hz)) with e | hz'
      · have := b1 z hz
        omega
      · exact hz'
/-- Who is told of findings, in ascending order, each once. -/
def keysOf (kf : S30 → Int) (l : List S30) : List Int := l.foldr (fun y ks => insU (kf y) ks) []
theorem mem_keysOf (kf : S30 → Int) (z : Int) : ∀ l : List S30, z ∈ keysOf kf l ↔ ∃ y, y ∈ l ∧ kf y = z
  | [] => by simp [keysOf]
  | p :: ps => by
    show z ∈ insU (kf p) (keysOf kf ps) ↔ _
    rw [mem_insU, mem_keysOf kf z ps]
    constructor
    · rintro (h | ⟨y, h1, h2⟩)
      · exact ⟨p, by simp, h.symm⟩
      · exact ⟨y, List.mem_cons_of_mem _ h1, h2⟩
    · rintro ⟨y, h1, h2⟩
      rcases List.mem_cons.1 h1 with rfl | h1
      · exact .inl h2.symm
      · exact .inr ⟨y, h1, h2⟩
theorem asc_keysOf (kf : S30 → Int) : ∀ l : List S30, (keysOf kf l).Pairwise (· < ·)
  | [] => by simp [keysOf]
  | p :: ps => asc_insU _ _ (asc_keysOf kf ps)
theorem len_insU (x : Int) : ∀ l : List Int, (insU x l).length ≤ l.length + 1
  | [] => by simp [insU]
  | y :: l => by
    have ih := len_insU x l
    unfold insU
    split
    · simp
    · split
      · simp
      · simp; omega
theorem len_keysOf (kf : S30 → Int) : ∀ l : List S30, (keysOf kf l).length ≤ l.length
  | [] => by simp [keysOf]
  | p :: ps => by
    have h1 := len_insU (kf p) (keysOf kf ps)
    have h2 := len_keysOf kf ps
    show (insU (kf p) (keysOf kf ps)).length ≤ _
    rw [List.length_cons]
    omega
theorem grp_ne {kf : S30 → Int} {l : List S30} {x : Int} : grp kf l x ≠ [] ↔ ∃ y, y ∈ l ∧ kf y = x := by
  unfold grp
  constructor
  · intro h
    obtain ⟨y, hy⟩ := List.exists_mem_of_ne_nil _ h
    obtain ⟨z, hz, _⟩ := List.mem_map.1 hy
    obtain ⟨h1, h2⟩ := List.mem_filter.1 hz
    exact ⟨z, h1, of_decide_eq_true h2⟩
  · rintro ⟨y, h1, h2⟩ e
    have : y.f3 ∈ ((l.filter (fun y => decide (kf y = x))).map (fun y => y.f3)) := List.mem_map.2 ⟨y, List.mem_filter.2 ⟨h1, decide_eq_true h2⟩, rfl⟩
    rw [e] at this
    cases this
theorem RMap_keys {w : World} {base gm n : Nat} {M : Int → Option Value} {kf : S30 → Int} {l : List S30} (h : RMap w base gm n M (grp kf l)) : ∃ D : DataW Value, w.ownsMap Try.prog 3 hR gm n D ∧ (keysOf kf l).Perm (intKeys D) := by
  obtain ⟨D, hm, hr⟩ := h.map.out
  refine ⟨D, hm, CollectedI.perm (left := fun _ => false) ⟨?_, fun x => ?_⟩ hm (int_keyed Try.underlying3) Try.underlying3 (fun _ => rfl)⟩
  · exact (asc_keysOf kf l).imp (fun h => Int.ne_of_lt h)
  · rw [mem_keysOf, hr.1 x, ← grp_ne]
    cases hM : M x with
    | none => simp [h.non x hM]
    | some v => simp [(h.row x v hM).2.2]
theorem own_low {e n : Nat} {w : World} {b base : Nat} {v : Value} {xs : List Value} (h : w.ownsRow b e 1 v n xs) (hle : base ≤ b) : w.ownsRow base e 1 v n xs :=
  ⟨h.1, h.2.imp id (fun ⟨g, cap, cur, h1, h2, r⟩ => ⟨g, cap, cur, h1, Nat.le_trans hle h2, r⟩)⟩
theorem keys_row {W w9 : World} {base : Nat} {v : Value} {ss : List Int} {D : DataW Value} {ks : List Int} (hk : ks.Pairwise (· < ·)) (hS : ss.Perm (intKeys D)) (hP : ks.Perm (intKeys D)) (hrow : w9.ownsRow W.heap.size 3 1 v ss.length ((ss.mergeSort (fun x y => decide (x ≤ y))).map encZ)) (hb : base ≤ W.heap.size) : Kd.R (Kd.int .i64) 3 w9 base (fun _ => True) v ks := by
  have hsort : ss.mergeSort (fun x y => decide (x ≤ y)) = ks := by
    have e1 := mergeSort_of_perm_i (hS.trans hP.symm)
    have e2 : ks.mergeSort leI = ks := List.mergeSort_of_pairwise (hk.imp (fun h => decide_eq_true (Int.le_of_lt h)))
    exact e1.trans e2
  have hlen : ss.length = ks.length := (hS.trans hP.symm).length_eq
  rw [hsort, hlen] at hrow
  exact Row.toR (own_low hrow hb)
end Go.Proofs.Ytfhmjleimampeaa.K
