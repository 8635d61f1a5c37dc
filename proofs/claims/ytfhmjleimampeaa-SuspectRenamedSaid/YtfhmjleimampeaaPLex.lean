/- By hand: findings without fault are in strictly ascending order, and so is what is left of them. -/
import Derived.Test.YtfhmjleimampeaaPChk
import Derived.Test.YtfhmjleimampeaaGWithout
import Derived.Test.YtfhmjleimampeaaK23
namespace Go.Proofs.Ytfhmjleimampeaa.K
open Go Go.RowKit Go.Proofs.YtfhmjleimampeaaW.PrintWords
set_option linter.unusedVariables false
set_option linter.unusedSimpArgs false
def lexL (a b : S30) : Prop := a.f0 < b.f0 ∨ (a.f0 = b.f0 ∧ a.f1 < b.f1)
theorem ordB_iff {p x : S30} : ordB p x = false ↔ lexL p x := by
  unfold ordB lexL
  by_cases c1 : x.f0 < p.f0
  · simp [c1]; omega
  · by_cases c2 : x.f0 = p.f0
    · by_cases c3 : x.f1 ≤ p.f1
      · simp [c1, c2, c3]
      · simp [c1, c2, c3]; omega
    · simp [c1, c2]; omega
theorem lexL_trans {a b c : S30} (h1 : lexL a b) (h2 : lexL b c) : lexL a c := by
  unfold lexL at *
  omega
theorem ok_pw : ∀ (suf : List S30) (p : Option S30) (i : Int), (chkGo p i suf).2 = 0 → (∀ q, p = some q → ∀ x ∈ suf, lexL q x) ∧ suf.Pairwise lexL
  | [], p, i, h => ⟨(fun q _ x hx => by cases hx), List.Pairwise.nil⟩
  | y :: suf, p, i, h => by
    rw [chkGo] at h
    by_cases c : rangeB y = true
    · rw [if_pos c] at h; cases h
    · rw [if_neg c] at h
      by_cases c2 : ordO p y = true
      · rw [if_pos c2] at h; cases h
      · rw [if_neg c2] at h
        obtain ⟨h1, h2⟩ := ok_pw suf (some y) (i + 1) h
        have h3 := h1 y rfl
        refine ⟨fun q hq x hx => ?_, List.pairwise_cons.2 ⟨h3, h2⟩⟩
        subst hq
        have h4 : lexL q y := ordB_iff.1 (Bool.eq_false_iff.2 c2)
        rcases List.mem_cons.1 hx with rfl | hx
        · exact h4
        · exact lexL_trans h4 (h3 x hx)
theorem pw_ok : ∀ (suf : List S30) (p : Option S30) (i : Int), (∀ x ∈ suf, rangeB x = false) → (∀ q, p = some q → ∀ x ∈ suf, lexL q x) → suf.Pairwise lexL → chkGo p i suf = (-1, 0)
  | [], p, i, _, _, _ => rfl
  | y :: suf, p, i, h1, h2, h3 => by
    obtain ⟨h4, h5⟩ := List.pairwise_cons.1 h3
    rw [chkGo, if_neg (by rw [h1 y (by simp)]; simp), if_neg]
    · exact pw_ok suf (some y) (i + 1) (fun x hx => h1 x (List.mem_cons_of_mem _ hx)) (fun q hq x hx => by injection hq with hq; subst hq; exact h4 x hx) h5
    · cases p with
      | none => simp [ordO]
      | some q => 
        have := ordB_iff.2 (h2 q rfl y (by simp))
        simp [ordO, this]
theorem chk_sub {l m : List S30} (h : (chkE l).2 = 0) (hs : m.Sublist l) : chkE m = (-1, 0) := by
  have hl := (chk_ok h).1
  have hm := hs.length_le
  unfold chkE at h ⊢
  rw [if_neg (by omega)] at h
  rw [if_neg (by omega)]
  exact pw_ok m none 0 (fun x hx => chkGo_ok l _ _ h x (hs.subset hx)) (fun q hq => by cases hq) ((ok_pw l none 0 h).2.sublist hs)
/-- What is left without those that kf tells id of. -/
def lft (kf : S30 → Int) (l : List S30) (id : Int) : List S30 := l.filter (fun x => !(kf x == id))
theorem oth_lft (kf : S30 → Int) (l : List S30) (id : Int) : oth kf l id = (lft kf l id).map (fun y => y.f3) := by
  unfold oth lft
  congr 1
theorem lft_sub (kf : S30 → Int) (l : List S30) (id : Int) : (lft kf l id).Sublist l := List.filter_sublist
theorem lft_mem {kf : S30 → Int} {l : List S30} {id : Int} {x : S30} (h : x ∈ lft kf l id) : x ∈ l ∧ kf x ≠ id := by
  obtain ⟨h1, h2⟩ := List.mem_filter.1 h
  exact ⟨h1, by simpa using h2⟩
theorem grp_lft (kf : S30 → Int) (l : List S30) (id : Int) : grp kf (lft kf l id) id = [] := by
  unfold grp
  rw [List.map_eq_nil_iff, List.filter_eq_nil_iff]
  intro x hx
  have := (lft_mem hx).2
  simpa using this
theorem sum_len (kf : S30 → Int) (id : Int) : ∀ l : List S30, (grp kf l id).length + (oth kf l id).length = l.length
  | [] => rfl
  | x :: l => by
    have ih := sum_len kf id l
    unfold grp oth at ih ⊢
    by_cases c : kf x = id
    · simp only [List.filter_cons, c, decide_true, if_true, Bool.not_true, Bool.false_eq_true, if_false, List.map_cons, List.length_cons]
      omega
    · simp only [List.filter_cons, c, decide_false, if_true, Bool.not_false, Bool.false_eq_true, if_false, List.map_cons, List.length_cons]
      omega
theorem of_nonzero {l : List S30} {b id : Int} (h : (ofE l b id).2.2 ≠ 0) : (ofE l b id).1 = [] ∧ (ofE l b id).2.1 = [] := by
  unfold ofE at h ⊢
  split
  · exact ⟨rfl, rfl⟩
  · rename_i c0
    rw [if_neg c0] at h
    split
    · exact ⟨rfl, rfl⟩
    · rename_i c1
      rw [if_neg c1] at h
      split
      · exact ⟨rfl, rfl⟩
      · rename_i c2
        rw [if_neg c2] at h
        exact absurd rfl h
theorem find_l0 (l : List S30) (hl : l.length ≤ 1000) (x : S30) : ∀ (suf : List S30) (i : Nat), l.drop i = suf → x ∈ suf → ∃ r : Int, 0 ≤ r ∧ Ev (fun k => api_Finding_55.l0 k l (l.length : Int) (i : Int) x.f0 x.f1 x.f2 x.f3) r
  | [], i, h, hx => by cases hx
  | y :: suf, i, h, hx => by
    obtain ⟨hi, hy, hd⟩ := drop_atF h
    by_cases c : (x.f0 == y.f0 && (x.f1 == y.f1 && (x.f2 == y.f2 && (x.f3 == y.f3)))) = true
    · exact ⟨(i : Int), by omega, Ev.succ (Ev.const _) (fun k => by rw [api_Finding_55.l0, if_pos (by omega), if_pos (by omega), if_pos (by omega), hy, if_pos c])⟩
    · have hx2 : x ∈ suf := by
        rcases List.mem_cons.1 hx with rfl | hx
        · exact absurd (by simp) c
        · exact hx
      obtain ⟨r, h0, hr⟩ := find_l0 l hl x suf (i + 1) hd hx2
      exact ⟨r, h0, Ev.succ hr (fun k => by rw [api_Finding_55.l0, if_pos (by omega), if_pos (by omega), if_pos (by omega), hy, if_neg c, wrap_up (by omega)])⟩
theorem cont_ev (l : List S30) (hl : l.length ≤ 1000) (x : S30) (hx : x ∈ l) : Ev (fun k => api_Finding_29.f k l x.f0 x.f1 x.f2 x.f3) true := by
  obtain ⟨r, h0, hr⟩ := find_l0 l hl x l 0 rfl hx
  unfold api_Finding_29.f
  refine Ev.bind (g := fun k => api_Finding_55.f k l x.f0 x.f1 x.f2 x.f3) hr ?_
  exact Ev.congr (Ev.const _) (fun k => by rw [decide_eq_true h0])
end Go.Proofs.Ytfhmjleimampeaa.K
