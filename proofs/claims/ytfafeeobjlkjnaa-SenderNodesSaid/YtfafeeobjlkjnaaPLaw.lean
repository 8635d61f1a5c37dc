/- By hand: what the functions of sender compute, in plain words, wherever enough rounds are given. -/
import Derived.Test.YtfafeeobjlkjnaaK5
import Derived.Test.YtfafeeobjlkjnaaK6
import Derived.Test.YtfafeeobjlkjnaaK7
import Derived.Test.YtfafeeobjlkjnaaGHeard
import Derived.Test.YtfafeeobjlkjnaaGAgain
namespace Go.Proofs.Ytfafeeobjlkjnaa.K
open Go.RowKit Go.Proofs.YtfafeeobjlkjnaaW.PrintWords
set_option linter.unusedVariables false
set_option linter.unusedSimpArgs false

/-! ### enough rounds -/
def Ev {α : Type} (g : Nat → Option α) (r : α) : Prop := ∃ K, ∀ k, K ≤ k → g k = some r
section
variable {α β : Type} {g g' : Nat → Option α} {r : α}
theorem Ev.const (r : α) : Ev (fun _ => some r) r := ⟨0, fun _ _ => rfl⟩
theorem Ev.congr (h : Ev g r) (e : ∀ k, g' k = g k) : Ev g' r := by
  obtain ⟨K, hK⟩ := h
  exact ⟨K, fun k hk => (e k).trans (hK k hk)⟩
theorem Ev.succ (h : Ev g' r) (hs : ∀ k, g (k + 1) = g' k) : Ev g r := by
  obtain ⟨K, hK⟩ := h
  refine ⟨K + 1, fun k hk => ?_⟩
  obtain ⟨m, rfl⟩ : ∃ m, k = m + 1 := ⟨k - 1, by omega⟩
  rw [hs]
  exact hK m (by omega)
theorem Ev.bind {h : Nat → α → Option β} {b : β} (hg : Ev g r) (hh : Ev (fun k => h k r) b) : Ev (fun k => (g k).bind (h k)) b := by
  obtain ⟨K, hK⟩ := hg
  obtain ⟨J, hJ⟩ := hh
  refine ⟨K + J, fun k hk => ?_⟩
  show (g k).bind (h k) = some b
  rw [hK k (by omega)]
  exact hJ k (by omega)
theorem Ev.one (h : Ev g r) : ∃ k, g k = some r := by
  obtain ⟨K, hK⟩ := h
  exact ⟨K, hK K (Nat.le_refl _)⟩
theorem Ev.of_mono (hm : ∀ k, LeO (g k) (g (k + 1))) {k : Nat} (h : g k = some r) : Ev g r := by
  refine ⟨k, fun j hj => ?_⟩
  obtain ⟨d, rfl⟩ := Nat.exists_eq_add_of_le hj
  clear hj
  induction d with
  | zero => exact h
  | succ d ih => exact hm _ _ ih
end

/-! ### nodes, messages, envelopes -/
def nodeB (n : Int) : Bool := decide (1 ≤ n ∧ n ≤ 99)
theorem node_f (n : Int) : sender_node.f n = some (nodeB n) := by
  unfold sender_node.f nodeB
  by_cases h : n ≥ 1
  · have h1 : (1 : Int) ≤ n := h
    simp [h, h1]
  · have h1 : ¬ (1 : Int) ≤ n := h
    simp [h, h1]
def dchk (a0 a1 a2 a3 a4 a5 a6 : Int) : Int := (document_Check.f 3 a0 a1 a2 a3 a4 a5 a6).getD 0
theorem docnode_f (n : Int) : document_node.f n = some (nodeB n) := node_f n
theorem some_ite {α : Type} {c : Prop} [Decidable c] {a b : Option α} (ha : a.isSome = true) (hb : b.isSome = true) : (if c then a else b).isSome = true := by split <;> assumption
theorem doc_some (a0 a1 a2 a3 a4 a5 a6 : Int) : document_Check.f 3 a0 a1 a2 a3 a4 a5 a6 = some (dchk a0 a1 a2 a3 a4 a5 a6) := by
  have h : (document_Check.f 3 a0 a1 a2 a3 a4 a5 a6).isSome = true := by
    simp only [document_Check.f, document_Check.j0, document_Check.j1, docnode_f, Option.bind_some]
    repeat' first
      | rfl
      | with_reducible refine some_ite ?_ ?_
  obtain ⟨v, hv⟩ := Option.isSome_iff_exists.1 h
  rw [dchk, hv]
  rfl
theorem doc_ev (a0 a1 a2 a3 a4 a5 a6 : Int) : Ev (fun k => document_Check.f k a0 a1 a2 a3 a4 a5 a6) (dchk a0 a1 a2 a3 a4 a5 a6) :=
  Ev.of_mono (fun k => document_Check.mono _ _ _ _ _ _ _ _) (doc_some a0 a1 a2 a3 a4 a5 a6)
def echk (x : S33) : Int := if x.f0 < 1 then 2 else if x.f0 > 99 then 2 else if x.f1 < 1 then 2 else if x.f1 > 99 then 2 else if x.f2 < 1 then 2 else if x.f2 > 1073741824 then 2 else
  if x.f0 = x.f1 then 10 else if dchk x.f3.f0 x.f3.f1 x.f3.f2 x.f3.f3 x.f3.f4 x.f3.f5 x.f3.f6 = 0 then 0 else 1
theorem net_ev (x : S33) : ∃ i, Ev (fun k => network_Check.f k [x]) (i, echk x) := by
  have h0 : ∀ k, network_Check.f k [x] = netOne k 0 x := fun k => rfl
  have hb : ∀ (c : Prop) [Decidable c] (g : Nat → Option (Int × Int)) (v : Int × Int) (e : Int), (∃ i, Ev g (i, e)) → (c → v.2 = 2 ∨ v.2 = 10) → ∃ i, Ev (fun k => if c then some v else g k) (i, if c then v.2 else e) := by
    intro c _ g v e hg _
    by_cases hc : c
    · simp only [if_pos hc]
      exact ⟨v.1, Ev.const _⟩
    · simp only [if_neg hc]
      exact hg
  suffices H : ∃ i, Ev (fun k => netOne k 0 x) (i, echk x) by
    obtain ⟨i, hi⟩ := H
    exact ⟨i, hi.congr h0⟩
  unfold netOne echk
  refine hb _ _ (0, 2) _ ?_ (fun _ => .inl rfl)
  refine hb _ _ (0, 2) _ ?_ (fun _ => .inl rfl)
  refine hb _ _ (0, 2) _ ?_ (fun _ => .inl rfl)
  refine hb _ _ (0, 2) _ ?_ (fun _ => .inl rfl)
  refine hb _ _ (0, 2) _ ?_ (fun _ => .inl rfl)
  refine hb _ _ (0, 2) _ ?_ (fun _ => .inl rfl)
  refine hb _ _ (0, 10) _ ?_ (fun _ => .inr rfl)
  by_cases hd : dchk x.f3.f0 x.f3.f1 x.f3.f2 x.f3.f3 x.f3.f4 x.f3.f5 x.f3.f6 = 0
  · rw [if_pos hd]
    refine ⟨-1, Ev.bind (doc_ev _ _ _ _ _ _ _) ?_⟩
    simp only [if_pos hd]
    exact Ev.const _
  · rw [if_neg hd]
    refine ⟨0, Ev.bind (doc_ev _ _ _ _ _ _ _) ?_⟩
    simp only [if_neg hd]
    exact Ev.const _

/-! ### Check -/
def goC (node next : Int) : Option Int → List S33 → Int
  | _, [] => 0
  | prev, x :: l => if echk x = 0 then (if x.f0 = node then (if (∃ p, prev = some p ∧ x.f2 ≤ p) ∨ x.f2 ≥ next then 5 else goC node next (some x.f2) l) else 10) else echk x
def prevAt (l : List S33) (i : Nat) : Option Int := if i = 0 then none else some (rd_T33 l ((i : Int) - 1)).f2
theorem wrap_in (n : Int) (h0 : -9223372036854775808 ≤ n) (h1 : n ≤ 9223372036854775807) : wrap64 n = n := by unfold wrap64; omega
theorem check_l0 (l : List S33) (node next : Int) (hl : l.length ≤ 64) : ∀ (d i : Nat), i + d = l.length → Ev (fun k => sender_Check.l0 k l (l.length : Int) (i : Int) node next l) (goC node next (prevAt l i) (l.drop i))
  | 0, i, h => by
    have hd : l.drop i = [] := List.drop_eq_nil_of_le (by omega)
    have h1 : ¬ ((i : Int) < (l.length : Int)) := by omega
    rw [hd]
    refine Ev.succ (g' := fun k => some 0) (Ev.const _) (fun k => ?_)
    rw [sender_Check.l0, if_neg h1]
  | d + 1, i, h => by
    have hi : i < l.length := by omega
    have h1 : (i : Int) < (l.length : Int) := by omega
    have h0 : (0 : Int) ≤ (i : Int) := by omega
    have hx : rd_T33 l (i : Int) = l[i] := rd_get l i hi
    have ih := check_l0 l node next hl d (i + 1) (by omega)
    rw [List.drop_eq_getElem_cons hi]
    have hw : wrap64 ((i : Int) + 1) = ((i + 1 : Nat) : Int) := by rw [wrap_in _ (by omega) (by omega)]; omega
    have hp : prevAt l (i + 1) = some (l[i]).f2 := by
      unfold prevAt
      rw [if_neg (by omega), show ((i + 1 : Nat) : Int) - 1 = (i : Int) by omega, hx]
    rw [hp] at ih
    obtain ⟨j, hn⟩ := net_ev l[i]
    refine Ev.succ (g' := _) ?_ (fun k => by rw [sender_Check.l0, if_pos h1, if_pos h0, if_pos h1, hx])
    refine Ev.bind hn ?_
    show Ev (fun k => if echk l[i] = 0 then _ else _) _
    unfold goC
    by_cases he : echk l[i] = 0
    · simp only [if_pos he]
      by_cases hf : (l[i]).f0 = node
      · simp only [if_pos hf]
        have j2 : ∀ b : Bool, Ev (fun k => sender_Check.j2 k l (l.length : Int) (i : Int) b node next l) (if b = true then 5 else goC node next (some (l[i]).f2) (l.drop (i + 1))) := by
          intro b
          cases b with
          | true => exact Ev.succ (g' := fun _ => some 5) (Ev.const _) (fun k => by rw [sender_Check.j2]; rfl)
          | false => exact Ev.succ ih (fun k => by rw [sender_Check.j2, hw]; rfl)
        by_cases h2 : (i : Int) > 0
        · have hpv : prevAt l i = some (rd_T33 l ((i : Int) - 1)).f2 := by unfold prevAt; rw [if_neg (by omega)]
          have hw1 : wrap64 ((i : Int) - 1) = (i : Int) - 1 := wrap_in _ (by omega) (by omega)
          have h3 : (0 : Int) ≤ (i : Int) - 1 := by omega
          have h4 : (i : Int) - 1 < (l.length : Int) := by omega
          simp only [if_pos h2, hw1, if_pos h3, if_pos h4, hpv]
          by_cases h5 : (l[i]).f2 ≤ (rd_T33 l ((i : Int) - 1)).f2
          · simp only [if_pos h5]
            rw [if_pos (Or.inl ⟨_, rfl, h5⟩)]
            exact j2 true
          · simp only [if_neg h5]
            have := j2 (decide ((l[i]).f2 ≥ next))
            by_cases h6 : (l[i]).f2 ≥ next
            · rw [if_pos (Or.inr h6)]
              simpa [h6] using this
            · rw [if_neg (fun hc => hc.elim (fun ⟨p, hp, hq⟩ => h5 (by injection hp with hp; rw [hp]; exact hq)) h6)]
              simpa [h6] using this
        · have hpv : prevAt l i = none := by unfold prevAt; rw [if_pos (by omega)]
          simp only [if_neg h2, hpv]
          have := j2 (decide ((l[i]).f2 ≥ next))
          by_cases h6 : (l[i]).f2 ≥ next
          · rw [if_pos (Or.inr h6)]
            simpa [h6] using this
          · rw [if_neg (fun hc => hc.elim (fun ⟨p, hp, hq⟩ => by cases hp) h6)]
            simpa [h6] using this
      · simp only [if_neg hf]
        exact Ev.const _
    · simp only [if_neg he]
      exact Ev.const _
def chk (node next : Int) (l : List S33) : Int :=
  if nodeB node = true then (if next < 1 then 2 else if next > 1073741825 then 2 else if l.length > 64 then 8 else goC node next none l) else 2
theorem check_ev (node next : Int) (l : List S33) : Ev (fun k => sender_Check.f k node next l) (chk node next l) := by
  have j1 : Ev (fun k => sender_Check.j0 k true node next l) 2 := Ev.succ (g' := fun _ => some 2) (Ev.const _) (fun k => by rw [sender_Check.j0]; rfl)
  unfold chk
  simp only [sender_Check.f, node_f, Option.bind_some]
  by_cases hn : nodeB node = true
  · simp only [if_pos hn]
    by_cases h1 : next < 1
    · simp only [if_pos h1]; exact j1
    · simp only [if_neg h1]
      by_cases h2 : next > 1073741825
      · simp only [if_pos h2, h2, decide_true]; exact j1
      · simp only [if_neg h2, h2, decide_false]
        by_cases h3 : l.length > 64
        · rw [if_pos h3]
          exact Ev.succ (g' := fun _ => some 8) (Ev.const _) (fun k => by rw [sender_Check.j0, if_neg (by decide), if_pos (by omega)])
        · rw [if_neg h3]
          exact Ev.succ (check_l0 l node next (by omega) l.length 0 (by omega)) (fun k => by rw [sender_Check.j0, if_neg (by decide), if_neg (by omega)]; rfl)
  · simp only [if_neg hn]; exact j1
theorem goC_next {node next next' : Int} (hn : next ≤ next') : ∀ (l : List S33) (prev : Option Int), goC node next prev l = 0 → goC node next' prev l = 0
  | [], _, _ => rfl
  | x :: l, prev, h => by
    unfold goC at h ⊢
    by_cases he : echk x = 0
    · rw [if_pos he] at h ⊢
      by_cases hf : x.f0 = node
      · rw [if_pos hf] at h ⊢
        by_cases hc : (∃ p, prev = some p ∧ x.f2 ≤ p) ∨ x.f2 ≥ next
        · rw [if_pos hc] at h; cases h
        · rw [if_neg hc] at h
          rw [if_neg (fun hc' => hc (hc'.imp id (fun h' => by have : x.f2 ≥ next' := h'; show x.f2 ≥ next; omega)))]
          exact goC_next hn l _ h
      · rw [if_neg hf] at h; cases h
    · rw [if_neg he] at h; exact absurd h he
theorem goC_snoc {node next : Int} {y : S33} (hy : echk y = 0) (h0 : y.f0 = node) (h2 : y.f2 = next) : ∀ (l : List S33) (prev : Option Int), (∀ p, prev = some p → p < next) → goC node next prev l = 0 → goC node (next + 1) prev (l ++ [y]) = 0
  | [], prev, hp, _ => by
    show goC node (next + 1) prev [y] = 0
    unfold goC
    rw [if_pos hy, if_pos h0, if_neg]
    · rfl
    · rintro (⟨p, hp1, hp2⟩ | h3)
      · have := hp p hp1; omega
      · omega
  | x :: l, prev, hp, h => by
    show goC node (next + 1) prev (x :: (l ++ [y])) = 0
    unfold goC at h ⊢
    by_cases he : echk x = 0
    · rw [if_pos he] at h ⊢
      by_cases hf : x.f0 = node
      · rw [if_pos hf] at h ⊢
        by_cases hc : (∃ p, prev = some p ∧ x.f2 ≤ p) ∨ x.f2 ≥ next
        · rw [if_pos hc] at h; cases h
        · rw [if_neg hc] at h
          rw [if_neg (fun hc' => hc (hc'.imp id (fun h' => by have : x.f2 ≥ next + 1 := h'; show x.f2 ≥ next; omega)))]
          refine goC_snoc hy h0 h2 l _ (fun p hp' => ?_) h
          injection hp' with hp'
          have : ¬ x.f2 ≥ next := fun h' => hc (.inr h')
          omega
      · rw [if_neg hf] at h; cases h
    · rw [if_neg he] at h; exact absurd h he
theorem goC_lt {node next : Int} : ∀ (l : List S33) (prev : Option Int), goC node next prev l = 0 → ∀ x ∈ l, x.f2 < next
  | [], _, _, x, hx => by simp at hx
  | y :: l, prev, h, x, hx => by
    unfold goC at h
    by_cases he : echk y = 0
    · rw [if_pos he] at h
      by_cases hf : y.f0 = node
      · rw [if_pos hf] at h
        by_cases hc : (∃ p, prev = some p ∧ y.f2 ≤ p) ∨ y.f2 ≥ next
        · rw [if_pos hc] at h; cases h
        · rw [if_neg hc] at h
          rcases List.mem_cons.1 hx with rfl | hx
          · have : ¬ x.f2 ≥ next := fun h' => hc (.inr h')
            omega
          · exact goC_lt l _ h x hx
      · rw [if_neg hf] at h; cases h
    · rw [if_neg he] at h; exact absurd h he

/-! ### search -/
theorem search_l0 (p : Int → Bool) (n r : Int) (hlo : ∀ i, 0 ≤ i → i < r → p i = false) (hhi : ∀ i, r ≤ i → i < n → p i = true) : ∀ (d : Nat) (i j : Int), 0 ≤ i → i ≤ r → r ≤ j → j ≤ n → j - i ≤ d → Ev (fun k => sort_Search.l0 p k i j) r
  | 0, i, j, h0, h1, h2, h3, h4 => by
    have : i = r := by omega
    subst this
    exact Ev.succ (g' := fun _ => some i) (Ev.const _) (fun k => by rw [sort_Search.l0, if_neg (by omega)])
  | d + 1, i, j, h0, h1, h2, h3, h4 => by
    by_cases hij : i < j
    · by_cases hp : p ((i + j) / 2) = true
      · have : r ≤ (i + j) / 2 := by
          apply Decidable.byContradiction
          intro hc
          rw [hlo _ (by omega) (by omega)] at hp
          cases hp
        exact Ev.succ (search_l0 p n r hlo hhi d i ((i + j) / 2) h0 h1 this (by omega) (by omega)) (fun k => by rw [sort_Search.l0, if_pos hij, if_pos hp])
      · have : (i + j) / 2 < r := by
          apply Decidable.byContradiction
          intro hc
          exact hp (hhi _ (by omega) (by omega))
        exact Ev.succ (search_l0 p n r hlo hhi d ((i + j) / 2 + 1) j (by omega) (by omega) h2 h3 (by omega)) (fun k => by rw [sort_Search.l0, if_pos hij, if_neg hp])
    · have : i = r := by omega
      subst this
      exact Ev.succ (g' := fun _ => some i) (Ev.const _) (fun k => by rw [sort_Search.l0, if_neg hij])
theorem search_ev (p : Int → Bool) (n r : Int) (h0 : 0 ≤ r) (hn : r ≤ n) (hlo : ∀ i, 0 ≤ i → i < r → p i = false) (hhi : ∀ i, r ≤ i → i < n → p i = true) : Ev (fun k => sort_Search.f k p n) r :=
  search_l0 p n r hlo hhi n.toNat 0 n (Int.le_refl _) h0 hn (Int.le_refl _) (by omega)
end Go.Proofs.Ytfafeeobjlkjnaa.K
