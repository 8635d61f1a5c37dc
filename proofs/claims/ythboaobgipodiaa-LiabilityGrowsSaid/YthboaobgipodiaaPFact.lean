/- By hand: plain facts of the greatest liability that several laws share. -/
import Derived.Test.YthboaobgipodiaaPLaw
namespace Go.Proofs.Ythboaobgipodiaa.K
open Go.RowKit Go.Proofs.YthboaobgipodiaaW.PrintWords
set_option linter.unusedVariables false
set_option linter.unusedSimpArgs false

theorem ct_f (a : Int) (l : List S60) (h : l.length ≤ 1000) : spilelaw51_ct.f a l = some (a, l) := by
  unfold spilelaw51_ct.f clone32.f
  rw [if_pos (by omega)]
  rfl
theorem cl13_f (l : List S35) (h : l.length ≤ 1000) : clone13.f l = some l := by
  unfold clone13.f
  rw [if_pos (by omega)]
theorem cl22_f (l : List S51) (h : l.length ≤ 1000) : clone22.f l = some l := by
  unfold clone22.f
  rw [if_pos (by omega)]
theorem few_len {l : List S60} {x : List S35} (h : fewB l x = true) : l.length ≤ 65 ∧ x.length ≤ 17 := by
  unfold fewB at h
  simp only [Bool.and_eq_true, Bool.or_eq_true, decide_eq_true_eq] at h
  omega
theorem frc_inv (cls day : Int) (s : S60 × Bool) (hs : s.2 = true → s.1.f0 = cls ∧ s.1.f1 ≤ day) : ∀ l : List S60, (l.foldl (fstep cls day) s).2 = true → (l.foldl (fstep cls day) s).1.f0 = cls ∧ (l.foldl (fstep cls day) s).1.f1 ≤ day
  | [], h => hs h
  | r :: l, h => by
    rw [List.foldl_cons] at h ⊢
    refine frc_inv cls day _ ?_ l h
    unfold fstep
    split
    · rename_i c
      exact fun _ => c
    · exact hs
theorem grt_inv (cls fr tt : Int) (s : S60 × Bool) (hs : s.2 = true → s.1.f0 = cls ∧ s.1.f1 ≤ tt) : ∀ l : List S60, (l.foldl (gstep cls fr tt) s).2 = true → (l.foldl (gstep cls fr tt) s).1.f0 = cls ∧ (l.foldl (gstep cls fr tt) s).1.f1 ≤ tt
  | [], h => hs h
  | r :: l, h => by
    rw [List.foldl_cons] at h ⊢
    refine grt_inv cls fr tt _ ?_ l h
    unfold gstep
    split
    · rename_i c
      exact fun _ => ⟨c.1, c.2.1.2⟩
    · exact hs
theorem grt_to {cls fr tt : Int} {l : List S60} (hft : fr ≤ tt) (h : (grt cls fr tt l).2 = true) : (grt cls fr tt l).1.f0 = cls ∧ (grt cls fr tt l).1.f1 ≤ tt := by
  refine grt_inv cls fr tt _ (fun h => ?_) l h
  have := frc_inv cls fr (z60, false) (fun h => by cases h) l h
  exact ⟨this.1, by have := this.2; unfold frc; omega⟩
theorem gres_zero {s : S60 × Bool} (h : (gres s).2.2.2 = 0) : s.2 = true ∧ gres s = (s.1.f0, s.1.f1, s.1.f2, 0) := by
  unfold gres at h ⊢
  by_cases h2 : s.2 = true
  · exact ⟨h2, by rw [if_pos h2]⟩
  · rw [if_neg h2] at h
    cases h
theorem grtP_zero {a : Int} {l : List S60} {cls fr tt : Int} (h : (grtP a l cls fr tt).2.2.2 = 0) : spanP a l cls fr tt = 0 ∧ (grt cls fr tt l).2 = true ∧ grtP a l cls fr tt = ((grt cls fr tt l).1.f0, (grt cls fr tt l).1.f1, (grt cls fr tt l).1.f2, 0) := by
  unfold grtP at h ⊢
  by_cases hs : spanP a l cls fr tt = 0
  · rw [if_pos hs] at h ⊢
    have := gres_zero h
    exact ⟨hs, this.1, this.2⟩
  · rw [if_neg hs] at h
    exact absurd h hs
theorem wday_in (a : Int) (l : List S60) (x : S35) (day : Int) (hx : x.f3 ≤ day) : x.f3 ≤ wday a l x day ∧ wday a l x day ≤ day := by
  unfold wday
  by_cases h : (grtP a l x.f2 x.f3 day).2.2.2 = 0
  · rw [if_pos h]
    obtain ⟨_, h2, h3⟩ := grtP_zero h
    rw [h3]
    have h4 := (grt_to hx h2).2
    show x.f3 ≤ mx (grt x.f2 x.f3 day l).1.f1 x.f3 ∧ mx (grt x.f2 x.f3 day l).1.f1 x.f3 ≤ day
    unfold mx
    split <;> omega
  · rw [if_neg h]
    omega
theorem worst_fits (a : Int) (l : List S60) (x : S35) (day : Int) (hx : x.f3 ≤ day) : fitsP x (worstP a l x day) day = true := by
  have h := wday_in a l x day hx
  unfold fitsP
  have : wB (worstP a l x day).f3 x.f3 day = true := wB_iff.2 h
  rw [this]
  simp [worstP]
theorem asks_one {a : Int} {l : List S60} {x : List S35} {day : Int} (h : asksP a l x day = 0) (y : S35) (hy : y ∈ x) : asksP a l [y] day = 0 := by
  obtain ⟨h1, h2, h3, h4⟩ := asks_zero h
  have hk := (lchk_to h2).2 y hy
  unfold asksP
  have e : (lchk [y]).2 = 0 := by
    unfold lchk
    rw [if_neg (by simp), lgo, if_pos hk, if_neg (by simp), lgo]
  rw [if_pos ⟨h1, e⟩, if_pos (wB_iff.2 ⟨h3, h4⟩)]
theorem g_worst {a : Int} {l : List S60} {x : S35} {day : Int} (hx : x.f3 ≤ day) : gP a l day x = causesP a l x (worstP a l x day) := by
  unfold gP
  rw [if_neg (by omega)]
theorem sum_worst (a : Int) (l : List S60) (day : Int) : ∀ (x : List S35) (s : Int), (∀ y ∈ x, y.f3 ≤ day) → sumP a l day s x (x.map fun y => worstP a l y day) = (gsum a l day s x, 0)
  | [], s, _ => by simp [sumP, gsum]
  | y :: x, s, h => by
    have hy := h y List.mem_cons_self
    rw [List.map_cons, sumP, if_pos (worst_fits a l y day hy), ← g_worst hy, sum_worst a l day x _ (fun z hz => h z (List.mem_cons_of_mem _ hz))]
    rfl
end Go.Proofs.Ythboaobgipodiaa.K
