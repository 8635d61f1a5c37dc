/- By hand: what Send says, right or wrong; Heard of the last envelope; equal lists. -/
import Derived.Test.YtfafeeobjlkjnaaPLaw
import Derived.Test.YtfafeeobjlkjnaaK7
import Derived.Test.YtfafeeobjlkjnaaK9
namespace Go.Proofs.Ytfafeeobjlkjnaa.K
open Go.RowKit Go.Proofs.YtfafeeobjlkjnaaW.PrintWords
set_option linter.unusedVariables false
set_option linter.unusedSimpArgs false

theorem send_ok {node next dst : Int} {P : List S33} {m0 m1 m2 m3 m4 m5 m6 : Int} (hc : chk node next P = 0) (hto : nodeB dst = true) (hne : dst ≠ node) (hd : dchk m0 m1 m2 m3 m4 m5 m6 = 0) (hl : P.length < 64) (h0 : 1 ≤ next) (hn : next ≤ 1073741824) :
    Ev (fun k => sender_Send.f k node next P dst m0 m1 m2 m3 m4 m5 m6) (node, next + 1, P ++ [⟨node, dst, next, ⟨m0, m1, m2, m3, m4, m5, m6⟩⟩], node, dst, next, m0, m1, m2, m3, m4, m5, m6, 0) := by
  unfold sender_Send.f
  refine Ev.bind (check_ev _ _ _) ?_
  simp only [hc, if_true, node_f, Option.bind_some, hto, if_neg hne]
  refine Ev.bind (doc_ev _ _ _ _ _ _ _) ?_
  simp only [hd, if_true]
  have h1 : ¬ (P.length : Int) = 64 := by omega
  have h2 : ¬ next > 1073741824 := by omega
  simp only [if_neg h1, if_neg h2]
  refine Ev.succ (g' := fun _ => some _) (Ev.const _) (fun k => ?_)
  have h3 : P.length < 1759218604441 := by omega
  have hw : wrap64 (next + 1) = next + 1 := wrap_in _ (by omega) (by omega)
  rw [sender_Send.j0, if_pos rfl]
  simp only [sender_own.f, api_Envelope_21.f, if_pos h3, Option.bind_some, hw]
theorem send_or (node next dst : Int) (P : List S33) (m0 m1 m2 m3 m4 m5 m6 : Int) :
    (∃ e, e ≠ 0 ∧ Ev (fun k => sender_Send.f k node next P dst m0 m1 m2 m3 m4 m5 m6) (0, 0, ([] : List S33), 0, 0, 0, 0, 0, 0, 0, 0, 0, 0, e)) ∨
    (chk node next P = 0 ∧ nodeB dst = true ∧ dst ≠ node ∧ dchk m0 m1 m2 m3 m4 m5 m6 = 0 ∧ (P.length : Int) ≠ 64 ∧ next ≤ 1073741824) := by
  have j : ∀ e : Int, e ≠ 0 → Ev (fun k => sender_Send.j0 k dst e node next P m0 m1 m2 m3 m4 m5 m6) (0, 0, ([] : List S33), 0, 0, 0, 0, 0, 0, 0, 0, 0, 0, e) := fun e he =>
    Ev.succ (g' := fun _ => some _) (Ev.const _) (fun k => by rw [sender_Send.j0, if_neg he])
  by_cases hc : chk node next P = 0
  · by_cases hto : nodeB dst = true
    · by_cases hne : dst = node
      · refine .inl ⟨10, by decide, ?_⟩
        unfold sender_Send.f
        refine Ev.bind (check_ev _ _ _) ?_
        simp only [hc, if_true, node_f, Option.bind_some, hto, if_pos hne]
        exact j 10 (by decide)
      · by_cases hd : dchk m0 m1 m2 m3 m4 m5 m6 = 0
        · by_cases h1 : (P.length : Int) = 64
          · refine .inl ⟨12, by decide, ?_⟩
            unfold sender_Send.f
            refine Ev.bind (check_ev _ _ _) ?_
            simp only [hc, if_true, node_f, Option.bind_some, hto, if_neg hne]
            refine Ev.bind (doc_ev _ _ _ _ _ _ _) ?_
            simp only [hd, if_true, if_pos h1]
            exact j 12 (by decide)
          · by_cases h2 : next > 1073741824
            · refine .inl ⟨15, by decide, ?_⟩
              unfold sender_Send.f
              refine Ev.bind (check_ev _ _ _) ?_
              simp only [hc, if_true, node_f, Option.bind_some, hto, if_neg hne]
              refine Ev.bind (doc_ev _ _ _ _ _ _ _) ?_
              simp only [hd, if_true, if_neg h1, if_pos h2]
              exact j 15 (by decide)
            · exact .inr ⟨hc, hto, hne, hd, h1, by omega⟩
        · refine .inl ⟨11, by decide, ?_⟩
          unfold sender_Send.f
          refine Ev.bind (check_ev _ _ _) ?_
          simp only [hc, if_true, node_f, Option.bind_some, hto, if_neg hne]
          refine Ev.bind (doc_ev _ _ _ _ _ _ _) ?_
          simp only [if_neg hd]
          exact j 11 (by decide)
    · refine .inl ⟨2, by decide, ?_⟩
      unfold sender_Send.f
      refine Ev.bind (check_ev _ _ _) ?_
      simp only [hc, if_true, node_f, Option.bind_some, if_neg hto]
      exact j 2 (by decide)
  · refine .inl ⟨1, by decide, ?_⟩
    unfold sender_Send.f
    refine Ev.bind (check_ev _ _ _) ?_
    simp only [if_neg hc]
    exact j 1 (by decide)
theorem heard_last {node next : Int} {P : List S33} {y : S33} (hc : chk node next (P ++ [y]) = 0) (hl : P.length < 64) (hlt : ∀ x ∈ P, x.f2 < y.f2) (h0 : 1 ≤ y.f2) (hn : y.f2 < next) :
    Ev (fun k => sender_Heard.f k node next (P ++ [y]) node y.f2) (node, next, P, 0) := by
  unfold sender_Heard.f
  refine Ev.bind (check_ev _ _ _) ?_
  have h1 : ¬ y.f2 < 1 := by omega
  have h2 : ¬ y.f2 ≥ next := by omega
  have hlen : (P ++ [y]).length = P.length + 1 := by simp
  have h3 : (P ++ [y]).length < 1759218604441 := by omega
  simp only [hc, if_true, if_neg h1, if_neg h2, sender_own.f, api_Envelope_21.f, if_pos h3, Option.bind_some]
  have hlast : rd_T33 (P ++ [y]) (P.length : Int) = y := by
    rw [rd_get _ _ (by omega)]
    simp
  refine Ev.bind (search_ev _ _ (P.length : Int) (by omega) (by omega) (fun i hi hj => ?_) (fun i hi hj => ?_)) ?_
  · obtain ⟨j, rfl⟩ := Int.eq_ofNat_of_zero_le hi
    have hj' : j < P.length := by omega
    have := hlt P[j] (List.getElem_mem hj')
    rw [rd_get _ _ (by omega), List.getElem_append_left hj', decide_eq_false_iff_not]
    omega
  · have : i = (P.length : Int) := by omega
    rw [this, hlast, decide_eq_true_eq]
    exact Int.le_refl _
  · have h4 : (P.length : Int) < ((P ++ [y]).length : Int) := by omega
    have h5 : (0 : Int) ≤ (P.length : Int) := by omega
    simp only [if_pos h4, if_pos h5, hlast, if_true, Int.toNat_natCast]
    have h6 : (P ++ [y]).eraseIdx P.length = P := by
      rw [List.eraseIdx_append_of_length_le (Nat.le_refl _)]
      simp
    rw [h6]
    exact Ev.const _
theorem copy_f (a b : Int) (l : List S33) (h : l.length < 1759218604441) : spileref42_Copy.f a b l = some (a, b, l) := by
  unfold spileref42_Copy.f
  simp only [Option.bind_some, List.length_nil, Nat.zero_add, List.nil_append, if_pos h]
theorem chk_zero {node next : Int} {l : List S33} (h : chk node next l = 0) : nodeB node = true ∧ 1 ≤ next ∧ next ≤ 1073741825 ∧ l.length ≤ 64 ∧ goC node next none l = 0 := by
  unfold chk at h
  by_cases h0 : nodeB node = true
  · rw [if_pos h0] at h
    by_cases h1 : next < 1
    · rw [if_pos h1] at h; cases h
    · rw [if_neg h1] at h
      by_cases h2 : next > 1073741825
      · rw [if_pos h2] at h; cases h
      · rw [if_neg h2] at h
        by_cases h3 : l.length > 64
        · rw [if_pos h3] at h; cases h
        · rw [if_neg h3] at h
          exact ⟨h0, by omega, by omega, by omega, h⟩
  · rw [if_neg h0] at h; cases h
theorem echk_ok {node dst next m0 m1 m2 m3 m4 m5 m6 : Int} (h0 : nodeB node = true) (h1 : nodeB dst = true) (hne : dst ≠ node) (h2 : 1 ≤ next) (h3 : next ≤ 1073741824) (hd : dchk m0 m1 m2 m3 m4 m5 m6 = 0) : echk ⟨node, dst, next, ⟨m0, m1, m2, m3, m4, m5, m6⟩⟩ = 0 := by
  have a0 : 1 ≤ node ∧ node ≤ 99 := of_decide_eq_true h0
  have a1 : 1 ≤ dst ∧ dst ≤ 99 := of_decide_eq_true h1
  unfold echk
  show (if node < 1 then (2 : Int) else if node > 99 then 2 else if dst < 1 then 2 else if dst > 99 then 2 else if next < 1 then 2 else if next > 1073741824 then 2 else if node = dst then 10 else if dchk m0 m1 m2 m3 m4 m5 m6 = 0 then 0 else 1) = 0
  rw [if_neg (by omega), if_neg (by omega), if_neg (by omega), if_neg (by omega), if_neg (by omega), if_neg (by omega), if_neg (fun e => hne e.symm), if_pos hd]
theorem same_l0 (l : List S33) (hl : l.length ≤ 1000000) : ∀ (d i : Nat), i + d = l.length → Ev (fun k => api_Envelope_20.l0 k l l (l.length : Int) (i : Int)) true
  | 0, i, h => Ev.succ (g' := fun _ => some true) (Ev.const _) (fun k => by rw [api_Envelope_20.l0, if_neg (by omega)])
  | d + 1, i, h => by
    have hi : (i : Int) < (l.length : Int) := by omega
    have h0 : (0 : Int) ≤ (i : Int) := by omega
    have hw : wrap64 ((i : Int) + 1) = ((i + 1 : Nat) : Int) := by rw [wrap_in _ (by omega) (by omega)]; omega
    have ih := same_l0 l hl d (i + 1) (by omega)
    refine Ev.succ ih (fun k => ?_)
    rw [api_Envelope_20.l0, if_pos hi, if_pos h0, if_pos hi, if_pos hi, hw]
    simp only [beq_self_eq_true, Bool.not_true, Bool.or_self, Bool.false_eq_true, if_false]
theorem same_ev (l : List S33) (hl : l.length ≤ 1000000) : Ev (fun k => api_Envelope_20.f k l l) true := by
  unfold api_Envelope_20.f
  simp only [if_true]
  exact same_l0 l hl l.length 0 (by omega)
end Go.Proofs.Ytfafeeobjlkjnaa.K
