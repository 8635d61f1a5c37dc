/- By hand: the plain law of SenderCounts. -/
import Derived.Test.YtfafeeobjlkjnaaSaySenderCounts
import Derived.Test.YtfafeeobjlkjnaaPLaw
import Derived.Test.YtfafeeobjlkjnaaPAwake
namespace Go.Proofs.Ytfafeeobjlkjnaa.K
open Go.RowKit Go.Proofs.YtfafeeobjlkjnaaW.PrintWords
set_option linter.unusedVariables false
set_option linter.unusedSimpArgs false

theorem dchk_message (m : Int) (h0 : 1 ≤ m) (h1 : m ≤ 1073741824) : dchk m 1 0 0 1 2 10 = 0 := by
  unfold dchk
  simp only [document_Check.f, document_Check.j0, document_Check.j1, docnode_f, Option.bind_some]
  rw [if_neg (by omega), if_neg (by omega)]
  have hn1 : nodeB 1 = true := by decide
  have hn2 : nodeB 2 = true := by decide
  simp [hn1, hn2]
theorem send_ok {node next dst : Int} {P : List S33} {m0 m1 m2 m3 m4 m5 m6 : Int} (hc : chk node next P = 0) (hto : nodeB dst = true) (hne : dst ≠ node) (hd : dchk m0 m1 m2 m3 m4 m5 m6 = 0) (hl : P.length < 64) (h0 : 1 ≤ next) (hn : next ≤ 1073741824) :
    Ev (fun k => sender_Send.f k node next P dst m0 m1 m2 m3 m4 m5 m6) (node, next + 1, P ++ [⟨node, dst, next, ⟨m0, m1, m2, m3, m4, m5, m6⟩⟩], node, dst, next, m0, m1, m2, m3, m4, m5, m6, 0) := by
  unfold sender_Send.f
  refine Ev.bind (check_ev _ _ _) ?_
  simp only [hc, if_true, node_f, Option.bind_some, hto, if_neg hne]
  refine Ev.bind (doc_ev _ _ _ _ _ _ _) ?_
  simp only [hd, if_true]
  have h1 : ¬ (P.length : Int) = 64 := by omega
  have h2 : ¬ next > 1073741824 := by omega
  simp only [if_neg h1, if_neg h2]
  refine Ev.succ (g' := fun _ => some _) (Ev.const _) (fun k => ?_)
  have h3 : P.length < 1759218604441 := by omega
  have hw : wrap64 (next + 1) = next + 1 := wrap_in _ (by omega) (by omega)
  rw [sender_Send.j0, if_pos rfl]
  simp only [sender_own.f, api_Envelope_21.f, if_pos h3, Option.bind_some, hw]
theorem heard_last {node next : Int} {P : List S33} {y : S33} (hc : chk node next (P ++ [y]) = 0) (hl : P.length < 64) (hlt : ∀ x ∈ P, x.f2 < y.f2) (h0 : 1 ≤ y.f2) (hn : y.f2 < next) :
    Ev (fun k => sender_Heard.f k node next (P ++ [y]) node y.f2) (node, next, P, 0) := by
  unfold sender_Heard.f
  refine Ev.bind (check_ev _ _ _) ?_
  have h1 : ¬ y.f2 < 1 := by omega
  have h2 : ¬ y.f2 ≥ next := by omega
  have hlen : (P ++ [y]).length = P.length + 1 := by simp
  have h3 : (P ++ [y]).length < 1759218604441 := by omega
  simp only [hc, if_true, if_neg h1, if_neg h2, sender_own.f, api_Envelope_21.f, if_pos h3, Option.bind_some]
  have hlast : rd_T33 (P ++ [y]) (P.length : Int) = y := by
    rw [rd_get _ _ (by omega)]
    simp
  refine Ev.bind (search_ev _ _ (P.length : Int) (by omega) (by omega) (fun i hi hj => ?_) (fun i hi hj => ?_)) ?_
  · obtain ⟨j, rfl⟩ := Int.eq_ofNat_of_zero_le hi
    have hj' : j < P.length := by omega
    have := hlt P[j] (List.getElem_mem hj')
    rw [rd_get _ _ (by omega), List.getElem_append_left hj', decide_eq_false_iff_not]
    omega
  · have : i = (P.length : Int) := by omega
    rw [this, hlast, decide_eq_true_eq]
    exact Int.le_refl _
  · have h4 : (P.length : Int) < ((P ++ [y]).length : Int) := by omega
    have h5 : (0 : Int) ≤ (P.length : Int) := by omega
    simp only [if_pos h4, if_pos h5, hlast, if_true, Int.toNat_natCast]
    have h6 : (P ++ [y]).eraseIdx P.length = P := by
      rw [List.eraseIdx_append_of_length_le (Nat.le_refl _)]
      simp
    rw [h6]
    exact Ev.const _
theorem counts_l0 (x0 x1 : Int) (l : List Bool) (hl : l.length ≤ 10) (hn0 : nodeB x0 = true) (hn1 : nodeB x1 = true) (hne : x1 ≠ x0) : ∀ (d i : Nat) (P : List S33), i + d = l.length → P.length ≤ i → goC x0 ((i : Int) + 1) none P = 0 →
    Ev (fun k => spilelaw42_SenderCounts.l0 k x0 x1 l (P.length : Int) l (l.length : Int) (i : Int) x0 ((i : Int) + 1) P) true
  | 0, i, P, h, hP, hg => by
    have hw : wrap64 ((l.length : Int) + 1) = (l.length : Int) + 1 := wrap_in _ (by omega) (by omega)
    refine Ev.succ (g' := fun _ => some true) (Ev.const _) (fun k => ?_)
    rw [spilelaw42_SenderCounts.l0, if_neg (by omega), hw]
    have : (i : Int) = (l.length : Int) := by omega
    rw [this]
    simp
  | d + 1, i, P, h, hP, hg => by
    have hi : (i : Int) < (l.length : Int) := by omega
    have hi0 : (0 : Int) ≤ (i : Int) := by omega
    have hw : wrap64 ((i : Int) + 1) = (i : Int) + 1 := wrap_in _ (by omega) (by omega)
    have hwP : wrap64 ((P.length : Int) + 1) = (P.length : Int) + 1 := wrap_in _ (by omega) (by omega)
    have hwP1 : wrap64 ((P.length : Int) + 1 - 1) = (P.length : Int) := by rw [wrap_in _ (by omega) (by omega)]; omega
    have hc : chk x0 ((i : Int) + 1) P = 0 := by
      unfold chk
      rw [if_pos hn0, if_neg (by omega), if_neg (by omega), if_neg (by omega), hg]
    have hd := dchk_message ((i : Int) + 1) (by omega) (by omega)
    have hs := send_ok (m0 := (i : Int) + 1) (m1 := 1) (m2 := 0) (m3 := 0) (m4 := 1) (m5 := 2) (m6 := 10) hc hn1 hne hd (by omega) (by omega) (by omega)
    have hy : echk ⟨x0, x1, (i : Int) + 1, ⟨(i : Int) + 1, 1, 0, 0, 1, 2, 10⟩⟩ = 0 := by
      have a0 : 1 ≤ x0 ∧ x0 ≤ 99 := of_decide_eq_true hn0
      have a1 : 1 ≤ x1 ∧ x1 ≤ 99 := of_decide_eq_true hn1
      unfold echk
      show (if x0 < 1 then (2 : Int) else if x0 > 99 then 2 else if x1 < 1 then 2 else if x1 > 99 then 2 else if (i : Int) + 1 < 1 then 2 else if (i : Int) + 1 > 1073741824 then 2 else if x0 = x1 then 10 else if dchk ((i : Int) + 1) 1 0 0 1 2 10 = 0 then 0 else 1) = 0
      rw [if_neg (by omega), if_neg (by omega), if_neg (by omega), if_neg (by omega), if_neg (by omega), if_neg (by omega), if_neg (fun e => hne e.symm), if_pos hd]
    have hg' := goC_snoc hy rfl rfl P none (fun p hp => by cases hp) hg
    have hlt := goC_lt P none hg
    have hgP := goC_next (next' := (i : Int) + 1 + 1) (by omega) P none hg
    have hc' : chk x0 ((i : Int) + 1 + 1) (P ++ [⟨x0, x1, (i : Int) + 1, ⟨(i : Int) + 1, 1, 0, 0, 1, 2, 10⟩⟩]) = 0 := by
      unfold chk
      rw [if_pos hn0, if_neg (by omega), if_neg (by omega), if_neg (by simp; omega), hg']
    have hcast : ((i + 1 : Nat) : Int) = (i : Int) + 1 := by omega
    refine Ev.succ (g' := _) ?_ (fun k => by rw [spilelaw42_SenderCounts.l0, if_pos hi, if_pos hi0, if_pos hi])
    simp only [hw, hwP, spilelaw42_message.f, Option.bind_some]
    refine Ev.bind hs ?_
    simp only [if_true]
    have hbne : ((i : Int) + 1 != (i : Int) + 1) = false := by simp
    simp only [hbne]
    cases hyes : rdOf false l (i : Int) with
    | true =>
      refine Ev.succ (g' := _) ?_ (fun k => by rw [spilelaw42_SenderCounts.j2, if_neg (by decide), if_pos rfl])
      refine Ev.bind (heard_last hc' (by omega) hlt (by show (1 : Int) ≤ (i : Int) + 1; omega) (by show (i : Int) + 1 < (i : Int) + 1 + 1; omega)) ?_
      simp only [hwP, hwP1]
      have ih := counts_l0 x0 x1 l hl hn0 hn1 hne d (i + 1) P (by omega) (by omega) (by rw [hcast]; exact hgP)
      rw [hcast] at ih
      refine Ev.succ ih (fun k => ?_)
      rw [spilelaw42_SenderCounts.j3, if_pos rfl, if_pos rfl, hw]
    | false =>
      refine Ev.succ (g' := _) ?_ (fun k => by rw [spilelaw42_SenderCounts.j2, if_neg (by decide), if_neg (by decide)])
      have hl1 : ((P ++ [(⟨x0, x1, (i : Int) + 1, ⟨(i : Int) + 1, 1, 0, 0, 1, 2, 10⟩⟩ : S33)]).length : Int) = (P.length : Int) + 1 := by simp
      have ih := counts_l0 x0 x1 l hl hn0 hn1 hne d (i + 1) (P ++ [⟨x0, x1, (i : Int) + 1, ⟨(i : Int) + 1, 1, 0, 0, 1, 2, 10⟩⟩]) (by omega) (by simp; omega) (by rw [hcast]; exact hg')
      rw [hcast, hl1] at ih
      simp only [hwP]
      refine Ev.succ ih (fun k => ?_)
      rw [spilelaw42_SenderCounts.j3, if_pos rfl, if_pos hl1, hw]
theorem counts_pure : SenderCountsPure := by
  intro x0 x1 x2 _ _ _
  refine Ev.one (g := fun k => spilelaw42_SenderCounts.f k x0 x1 x2) ?_
  unfold spilelaw42_SenderCounts.f
  refine Ev.bind awake_ev ?_
  simp only [if_true]
  have j1 : Ev (fun k => spilelaw42_SenderCounts.j0 k x0 x1 x2 true) true := Ev.succ (g' := fun _ => some true) (Ev.const _) (fun k => by rw [spilelaw42_SenderCounts.j0]; rfl)
  by_cases h1 : (x2.length : Int) > 10
  · simp only [if_pos h1]; exact j1
  by_cases h2 : x0 < 1
  · simp only [if_neg h1, if_pos h2]; exact j1
  by_cases h3 : x0 > 99
  · simp only [if_neg h1, if_neg h2, if_pos h3]; exact j1
  by_cases h4 : x1 < 1
  · simp only [if_neg h1, if_neg h2, if_neg h3, if_pos h4]; exact j1
  by_cases h5 : x1 > 99
  · simp only [if_neg h1, if_neg h2, if_neg h3, if_neg h4, if_pos h5]; exact j1
  simp only [if_neg h1, if_neg h2, if_neg h3, if_neg h4, if_neg h5]
  by_cases h6 : x1 = x0
  · have : (x1 == x0) = true := by simp [h6]
    rw [this]; exact j1
  have hb : (x1 == x0) = false := by simp [h6]
  rw [hb]
  have hn0 : nodeB x0 = true := decide_eq_true ⟨by omega, by omega⟩
  have hn1 : nodeB x1 = true := decide_eq_true ⟨by omega, by omega⟩
  have ih := counts_l0 x0 x1 x2 (by omega) hn0 hn1 h6 x2.length 0 [] (by omega) (Nat.le_refl _) rfl
  refine Ev.succ ih (fun k => ?_)
  rw [spilelaw42_SenderCounts.j0, if_neg (by decide)]
  simp only [sender_New.f, node_f, Option.bind_some, hn0, if_true]
  rfl
end Go.Proofs.Ytfafeeobjlkjnaa.K
namespace Go.Proofs.Ytfafeeobjlkjnaa.Pure
theorem SenderCounts : K.SenderCountsPure := K.counts_pure
end Go.Proofs.Ytfafeeobjlkjnaa.Pure
