/- By hand: the reference's checks of a cask, and its slices, in plain words. -/
import Derived.Test.YtefjmcljkmppoaaPC08
import Derived.Test.YtefjmcljkmppoaaPLyP
import Derived.Test.YtefjmcljkmppoaaK13
import Derived.Test.YtefjmcljkmppoaaK13
import Derived.Test.YtefjmcljkmppoaaK12
namespace Go.Proofs.Ytefjmcljkmppoaa.K
open Go.RowKit Go.Proofs.YtefjmcljkmppoaaW.PrintWords
set_option linter.unusedVariables false
set_option linter.unusedSimpArgs false
set_option maxHeartbeats 2000000 in
theorem name_step (k : Nat) (x : ByteArray) (i : Int) (h0 : 0 ≤ i) (h1 : i < (x.size : Int)) : spileref09_IsName.l0 (k + 1) x i = spileref09_IsName.j1 k x i (!okB (bt x i)) := by
  rw [spileref09_IsName.l0, if_pos h1, if_pos h0]
  generalize bt x i = b
  repeat' split
  all_goals (congr 1; simp [okB]; try omega)
theorem name_l0 (x : ByteArray) (hl : x.size ≤ 1000) : ∀ (suf : List Nat) (i : Nat), (List.range x.size).drop i = suf → Ev (fun k => spileref09_IsName.l0 k x (i : Int)) (allB x suf && (decide (1 ≤ x.size) && decide (x.size ≤ 64)))
  | [], i, h => by
    have h4 := drop_end h
    rw [List.length_range] at h4
    refine Ev.succ (Ev.const _) (fun k => ?_)
    rw [spileref09_IsName.l0, if_neg (by omega)]
    by_cases c : (x.size : Int) ≥ 1
    · rw [if_pos c, decide_eq_true (show 1 ≤ x.size by omega)]
      have : decide ((x.size : Int) ≤ 64) = decide (x.size ≤ 64) := decide_eq_decide.2 (by omega)
      rw [this]
      rfl
    · rw [if_neg c, decide_eq_false (show ¬ 1 ≤ x.size by omega)]
      rfl
  | m :: suf, i, h => by
    obtain ⟨h1, rfl, h3⟩ := range_at h
    have ih := name_l0 x hl suf (m + 1) h3
    refine Ev.succ ?_ (fun k => name_step k x _ (by omega) (by omega))
    unfold allB at ih ⊢
    rw [List.all_cons]
    cases c : okB (bt x (m : Int)) with
    | true =>
      rw [Bool.true_and]
      refine Ev.succ ih (fun k => ?_)
      rw [spileref09_IsName.j1, if_neg (by simp), wrap_up (by omega)]
    | false =>
      refine Ev.succ (Ev.const _) (fun k => ?_)
      rw [spileref09_IsName.j1, if_pos (by simp)]
      rfl
theorem name_ev (x : ByteArray) (hl : x.size ≤ 1000) : Ev (fun k => spileref09_IsName.f k x) (nmP x) := name_l0 x hl _ 0 List.drop_zero
theorem rcask_ev (a : ByteArray) (p : Int) (l : List S39) (d : Int) (hl : a.size ≤ 1000) : Ev (fun k => spileref09_Check.f k a p l d) (caskC a p l d) := by
  unfold spileref09_Check.f caskC
  refine Ev.bind (name_ev a hl) ?_
  cases c : nmP a with
  | false => exact (Ev.const (4 : Int)).congr (fun k => by rw [if_neg (by simp)])
  | true =>
    rw [if_pos rfl]
    have h0 : ∀ b : Bool, Ev (fun k => spileref09_Check.j0 k b a p l d) (if b = true then 2 else profC l) := fun b => by
      cases b with
      | true => exact Ev.succ (Ev.const _) (fun k => by rw [spileref09_Check.j0, if_pos rfl, if_pos rfl])
      | false =>
        rw [if_neg (by simp)]
        refine Ev.succ (Ev.bind (c08_ev l) (Ev.const (profC l))) (fun k => ?_)
        rw [spileref09_Check.j0, if_neg (by simp)]
    by_cases c0 : p = 1 ∨ p = 2
    · by_cases c1 : d < 0
      · rw [if_pos (.inr (.inl c1))]
        have := h0 true
        rw [if_pos rfl] at this
        exact this.congr (fun k => by
          rw [if_pos rfl]
          rcases c0 with c0 | c0
          · rw [if_pos c0, if_pos c1]
          · rw [if_neg (by omega), if_pos c0, if_pos c1])
      · have := h0 (decide (d > 1073741824))
        rw [show (if (p ≠ 1 ∧ p ≠ 2) ∨ d < 0 ∨ d > 1073741824 then (2 : Int) else profC l) = if (decide (d > 1073741824) = true) then 2 else profC l by
          by_cases c2 : d > 1073741824
          · rw [if_pos (.inr (.inr c2)), if_pos (decide_eq_true c2)]
          · rw [if_neg (by omega), if_neg (by simp; omega)]]
        exact this.congr (fun k => by
          rw [if_pos rfl]
          rcases c0 with c0 | c0
          · rw [if_pos c0, if_neg c1]
          · rw [if_neg (by omega), if_pos c0, if_neg c1])
    · rw [if_pos (.inl (by omega))]
      have := h0 true
      rw [if_pos rfl] at this
      exact this.congr (fun k => by rw [if_pos rfl, if_neg (by omega), if_neg (by omega)])
theorem rbung_l0 (l : List S39) (hl : l.length ≤ 1000) : ∀ (suf : List S39) (b i : Nat), b < l.length → l.drop i = suf → Ev (fun k => spileref08_Bung.l0 k l (b : Int) (i : Int)) ((bgI l b i suf : Int), 0)
  | [], b, i, hb, h => by
    have h4 := drop_end h
    refine Ev.succ (Ev.const _) (fun k => ?_)
    rw [spileref08_Bung.l0, if_neg (by omega)]
    rfl
  | p :: r, b, i, hb, h => by
    obtain ⟨h1, h2, h3⟩ := drop_atP h
    rw [bgI]
    by_cases c : (rd_T39 l (b : Int)).f1 < p.f1
    · rw [if_pos c]
      refine Ev.succ (rbung_l0 l hl r i (i + 1) h1 h3) (fun k => ?_)
      rw [spileref08_Bung.l0, if_pos (by omega), if_pos (by omega), if_pos (by omega), if_pos (by omega), h2, if_pos c, wrap_up (by omega)]
    · rw [if_neg c]
      refine Ev.succ (rbung_l0 l hl r b (i + 1) hb h3) (fun k => ?_)
      rw [spileref08_Bung.l0, if_pos (by omega), if_pos (by omega), if_pos (by omega), if_pos (by omega), h2, if_neg (show ¬ p.f1 > _ by omega), wrap_up (by omega)]
theorem radius_ev (a : ByteArray) (p : Int) (l : List S39) (d : Int) (h : profC l = 0) : Ev (fun k => spileref09_Radius.f k a p l d) (bungR l) := by
  have hl := prof_len l h
  have hi := bgI_lt l l 0 0 (by omega) List.drop_zero
  have hb : Ev (fun k => spileref08_Bung.f k l) ((bgI l 0 0 l : Int), 0) := by
    unfold spileref08_Bung.f
    refine Ev.bind (c08_ev l) ?_
    exact (rbung_l0 l (by omega) l 0 0 (by omega) List.drop_zero).congr (fun k => by rw [if_pos h]; rfl)
  unfold spileref09_Radius.f
  refine Ev.bind hb ?_
  exact (Ev.const _).congr (fun k => by rw [if_pos (by omega), if_pos (by omega)]; rfl)
theorem is_ev (a : ByteArray) (p : Int) (l : List S39) (d : Int) (hl : a.size ≤ 1000) : Ev (fun k => spileref11_is.f k a p l d) (lieC a p l d) := by
  unfold spileref11_is.f lieC
  refine Ev.bind (rcask_ev a p l d hl) ?_
  refine (Ev.const _).congr (fun k => ?_)
  split
  · split <;> rfl
  · rfl
theorem rs_l1 (l : List S39) (m : Int) (hm : 1 ≤ m ∧ m ≤ 64) (j p q : Int) (B : Nat) (hB : B ≤ 100000) (r : List Int → List Int)
    (hn : ∀ out, out ≠ [] → out.length ≤ B → Ev (fun k => spileref11_Places.l0 k l m out (wrap64 (j + 1))) (r out)) (is : List Nat) :
    ∀ (i : Nat) (out : List Int), (List.range' 1 m.toNat).drop i = is → out ≠ [] → out.length + is.length ≤ B → Ev (fun k => spileref11_Places.l1 k l m out j p q ((i + 1 : Nat) : Int)) (r (inS p (wrap64 (q - p)) m is out)) := by
  induction is with
  | nil =>
    intro i out hd h0 hb
    have h4 := drop_end hd
    rw [List.length_range'] at h4
    exact Ev.succ (hn out h0 (by simpa using hb)) (fun k => by rw [spileref11_Places.l1, if_neg (by omega)])
  | cons n is ih =>
    intro i out hd h0 hb
    obtain ⟨h1, rfl, h3⟩ := rng_at hd
    rw [List.length_cons] at hb
    have hl := len_pos h0
    have e1 : wrap64 ((out.length : Int) - 1) = (out.length : Int) - 1 := by unfold wrap64; omega
    have hx : stepX p (wrap64 (q - p)) m (i + 1) = wrap64 (p + wrap64 (Int.tdiv (wrap64 (((i + 1 : Nat) : Int) * wrap64 (q - p))) m)) := rfl
    rw [inS]
    have hpl := (putX_len (stepX p (wrap64 (q - p)) m (i + 1)) out).1
    have ih := ih (i + 1) (putX (stepX p (wrap64 (q - p)) m (i + 1)) out) h3 (putX_ne _ _ h0) (by omega)
    refine Ev.succ ih (fun k => ?_)
    rw [spileref11_Places.l1, if_pos (by omega), if_neg (by omega), e1, if_pos (by omega), if_pos (by omega), wrap_up (by omega), ← hx]
    unfold putX
    by_cases c : stepX p (wrap64 (q - p)) m (i + 1) > rd out ((out.length : Int) - 1)
    · rw [if_pos c, if_pos c, if_pos (by omega)]
    · rw [if_neg c, if_neg c]
theorem rs_l0 (l : List S39) (hl : l.length ≤ 32) (m : Int) (hm : 1 ≤ m ∧ m ≤ 64) (suf : List S39) : ∀ (i : Nat) (p : S39) (out : List Int), l.drop i = p :: suf → out ≠ [] → out.length + suf.length * 64 ≤ 50000 →
    Ev (fun k => spileref11_Places.l0 k l m out ((i + 1 : Nat) : Int)) (ouS m (pairs (p :: suf)) out) := by
  induction suf with
  | nil =>
    intro i p out h h0 hb
    obtain ⟨h1, h2, h3⟩ := drop_atP h
    have h4 := drop_end h3
    exact Ev.succ (Ev.const _) (fun k => by rw [spileref11_Places.l0, if_neg (by omega)]; rfl)
  | cons q suf ih0 =>
    intro i p out h h0 hb
    obtain ⟨h1, h2, h3⟩ := drop_atP h
    obtain ⟨g1, g2, g3⟩ := drop_atP h3
    rw [List.length_cons] at hb
    have e1 : wrap64 (((i + 1 : Nat) : Int) - 1) = (i : Int) := by rw [wrap_dn (by omega) (by omega)]; simp
    have e2 : wrap64 (((i + 1 : Nat) : Int) + 1) = ((i + 1 + 1 : Nat) : Int) := wrap_up (by omega)
    have hr : (List.range' 1 m.toNat).length = m.toNat := List.length_range'
    have ih := rs_l1 l m hm ((i + 1 : Nat) : Int) p.f0 q.f0 (out.length + 64) (by omega) (fun o => ouS m (pairs (q :: suf)) o)
      (fun o ho hlo => by rw [e2]; exact ih0 (i + 1) q o h3 ho (by omega)) (List.range' 1 m.toNat) 0 out List.drop_zero h0 (by omega)
    rw [pairs, ouS]
    refine Ev.succ ih (fun k => ?_)
    rw [spileref11_Places.l0, if_pos (by omega), e1, if_pos (by omega), if_pos (by omega), if_pos (by omega), g2, h2]
    rfl
theorem rslc_ev (l : List S39) (m : Int) : Ev (fun k => spileref11_Slices.f k l m) (slcE l m) := by
  unfold spileref11_Slices.f slcE
  refine Ev.bind (c08_ev l) ?_
  by_cases c : profC l = 0
  · have hl := prof_len l c
    simp only [if_pos c]
    have hj : Ev (fun k => spileref11_Slices.j0 k l m false) (finS (ouS m (pairs l) [0])) ∨ (m < 1 ∨ m > 64) := by
      by_cases c2 : m < 1 ∨ m > 64
      · exact .inr c2
      · left
        obtain ⟨p, suf, hd⟩ := drop0 (l := l) (by omega)
        have hs : suf.length + 1 = l.length := by rw [List.drop_zero] at hd; rw [hd]; rfl
        have := rs_l0 l hl.2 m (by omega) suf 0 p [0] hd (by simp) (by simp; omega)
        rw [← hd, List.drop_zero] at this
        refine Ev.succ (Ev.bind (h := fun k t => if (t.length : Int) > 65 then some (([] : List Int), 15) else some (t, 0)) this ?_) (fun k => by rw [spileref11_Slices.j0, if_neg (by simp)]; rfl)
        refine (Ev.const _).congr (fun k => ?_)
        unfold finS
        by_cases c3 : (ouS m (pairs l) [0]).length > 65
        · rw [if_pos c3, if_pos (by omega)]
        · rw [if_neg c3, if_neg (by omega)]
    have hj2 : Ev (fun k => spileref11_Slices.j0 k l m true) ([], 2) := Ev.succ (Ev.const _) (fun k => by rw [spileref11_Slices.j0, if_pos rfl])
    by_cases c2 : m < 1 ∨ m > 64
    · rw [if_pos c2]
      refine hj2.congr (fun k => ?_)
      by_cases c3 : m < 1
      · rw [if_pos c3]
      · rw [if_neg c3, decide_eq_true (by omega)]
    · rw [if_neg c2]
      refine (hj.resolve_right c2).congr (fun k => ?_)
      rw [if_neg (by omega), decide_eq_false (by omega)]
  · simp only [if_neg c]
    exact Ev.const _
end Go.Proofs.Ytefjmcljkmppoaa.K
