/- By hand: the law StandingRises in plain words. -/
import Derived.Test.YtmcmbjkjilcmeaaPGeo
import Derived.Test.YtmcmbjkjilcmeaaSayStandingRises
import Derived.Test.YtmcmbjkjilcmeaaK25
namespace Go.Proofs.Ytmcmbjkjilcmeaa.K
open Go.RowKit Go.Proofs.YtmcmbjkjilcmeaaW.PrintWords
set_option linter.unusedVariables false
set_option linter.unusedSimpArgs false
theorem rd_take (lv : List Int) (m i : Nat) (h : i < m) (h2 : m ≤ lv.length) : rd (lv.take m) (i : Int) = rd lv (i : Int) := by
  rw [rdI_get _ i (by rw [List.length_take]; omega), rdI_get _ i (by omega)]
  simp
theorem sB_take (l : List S33) (lv : List Int) (m : Nat) (hm : m ≤ lv.length) : ∀ j : Nat, j < m → sB l (lv.take m) j = sB l lv j := by
  intro j
  induction j with
  | zero => intro _; rfl
  | succ j ih =>
    intro hj
    rw [sB, sB, ih (by omega), show ((j : Int) + 1) = ((j + 1 : Nat) : Int) by omega, rd_take lv m j (by omega) hm, rd_take lv m (j + 1) hj hm]
theorem asc_pw : ∀ (lv : List Int), ascI lv = true → lv.Pairwise (· < ·)
  | [], _ => List.Pairwise.nil
  | [a], _ => by simp
  | a :: b :: r, h => by
    rw [ascI, Bool.and_eq_true, decide_eq_true_eq] at h
    have ih := asc_pw (b :: r) h.2
    refine List.pairwise_cons.2 ⟨fun x hx => ?_, ih⟩
    rcases List.mem_cons.1 hx with e | m
    · rw [e]; exact h.1
    · have := (List.pairwise_cons.1 ih).1 x m
      omega
theorem pw_asc : ∀ (lv : List Int), lv.Pairwise (· < ·) → ascI lv = true
  | [], _ => rfl
  | [a], _ => rfl
  | a :: b :: r, h => by
    obtain ⟨h1, h2⟩ := List.pairwise_cons.1 h
    rw [ascI, decide_eq_true (h1 b (by simp)), pw_asc (b :: r) h2]
    rfl
theorem chk_take (a : ByteArray) (p : Int) (l : List S33) (d : Int) (lv : List Int) (h : chkC a p l d lv = 0) (m : Nat) (h2 : 2 ≤ m) (hm : m ≤ lv.length) : chkC a p l d (lv.take m) = 0 := by
  obtain ⟨h1, hl2, hl3, h4, h5⟩ := chk_in h
  obtain ⟨hasc, hmis⟩ := chkL_asc h4
  have hpw := asc_pw lv hasc
  have hlen : (lv.take m).length = m := by rw [List.length_take]; omega
  unfold chkC
  rw [if_pos h1, hlen, if_neg (by omega), if_neg (by omega)]
  unfold chkL
  have o1 : outL (lv.take m) (lastX l) = false := by
    rw [outL, List.any_eq_false]
    intro x hx
    have := h5 x (List.mem_of_mem_take hx)
    simp
    omega
  have o2 : ascI (lv.take m) = true := pw_asc _ (hpw.sublist (List.take_sublist _ _))
  have o3 : misP (lv.take m) l = false := by
    rw [misP, List.any_eq_false]
    intro q hq
    have hq2 : ¬ (decide (q.f0 > rd lv 0) && (decide (q.f0 < rd lv ((lv.length : Int) - 1)) && !decide (q.f0 ∈ lv))) = true := by
      rw [misP, List.any_eq_false] at hmis
      exact hmis q hq
    rw [hlen, show ((m : Int) - 1) = ((m - 1 : Nat) : Int) by omega, rd_take lv m (m - 1) (by omega) hm, show (0 : Int) = ((0 : Nat) : Int) from rfl, rd_take lv m 0 (by omega) hm]
    simp only [Bool.and_eq_true, decide_eq_true_eq, Bool.not_eq_true', decide_eq_false_iff_not, not_and, Classical.not_not] at hq2 ⊢
    intro g1 g2
    have hle : rd lv ((m - 1 : Nat) : Int) ≤ rd lv ((lv.length : Int) - 1) := by
      rw [show ((lv.length : Int) - 1) = ((lv.length - 1 : Nat) : Int) by omega, rdI_get _ (m - 1) (by omega), rdI_get _ (lv.length - 1) (by omega)]
      by_cases c : m - 1 = lv.length - 1
      · simp [c]
      · exact Int.le_of_lt (List.pairwise_iff_getElem.1 hpw (m - 1) (lv.length - 1) (by omega) (by omega) (by omega))
    have hmem := hq2 g1 (by omega)
    obtain ⟨i, hi, he⟩ := List.mem_iff_getElem.1 hmem
    have him : i < m := by
      apply Nat.lt_of_not_le
      intro hmi
      rw [rdI_get _ (m - 1) (by omega)] at g2
      have := List.pairwise_iff_getElem.1 hpw (m - 1) i (by omega) hi (by omega)
      omega
    rw [← he]
    exact List.mem_take_iff_getElem.2 ⟨i, by omega, rfl⟩
  rw [if_neg (by rw [o1]; simp), if_neg (by rw [o2]; simp), if_neg (by rw [o3]; simp)]
theorem lin_sp (a x y u v : Int) (h0 : 0 ≤ a) (h1 : a ≤ x) (e1 : 318 * u ≤ a * 333) (e2 : x * 355 + 338 < 339 * (v + 1)) : u ≤ v := by omega
theorem div_le (n k : Int) (h : 0 < k) : k * (n / k) ≤ n ∧ n < k * (n / k + 1) := by
  have a1 := Int.mul_ediv_add_emod n k
  have a2 := Int.emod_nonneg n (show k ≠ 0 by omega)
  have a3 := Int.emod_lt_of_pos n h
  rw [Int.mul_add]
  omega
theorem sp_bd (s : S40) (h0 : 0 ≤ s.f0) (h1 : s.f0 ≤ s.f1) (h2 : s.f1 ≤ 4000000000000000) : ¬ (spE s).1 > (spE s).2 ∧ ¬ wrap64 (318 * (spE s).1) > wrap64 (333 * s.f0) ∧ ¬ wrap64 (339 * (spE s).2) < wrap64 (355 * s.f1) ∧ 0 ≤ (spE s).1 := by
  unfold spE
  dsimp only
  rw [wrap_id2 (s.f0 * 333) (by omega), wrap_id2 (s.f1 * 355) (by omega), wrap_id2 (s.f1 * 355 + 338) (by omega), Int.tdiv_eq_ediv_of_nonneg (by omega), Int.tdiv_eq_ediv_of_nonneg (by omega)]
  have a1 := div_le (s.f0 * 333) 318 (by decide)
  have a2 := div_le (s.f1 * 355 + 338) 339 (by decide)
  have a3 : 0 ≤ s.f0 * 333 / 318 := Int.ediv_nonneg (by omega) (by decide)
  have a4 : 0 ≤ (s.f1 * 355 + 338) / 339 := Int.ediv_nonneg (by omega) (by decide)
  obtain ⟨u, hu⟩ : ∃ u, s.f0 * 333 / 318 = u := ⟨_, rfl⟩
  obtain ⟨v, hv⟩ : ∃ v, (s.f1 * 355 + 338) / 339 = v := ⟨_, rfl⟩
  rw [hu] at a1 a3 ⊢
  rw [hv] at a2 a4 ⊢
  clear hu hv
  have hlin := lin_sp s.f0 s.f1 0 u v h0 h1 a1.1 a2.2
  rw [wrap_id2 u (by omega), wrap_id2 v (by omega), wrap_id2 (318 * u) (by omega), wrap_id2 (333 * s.f0) (by omega), wrap_id2 (339 * v) (by omega), wrap_id2 (355 * s.f1) (by omega)]
  exact ⟨by omega, by omega, by omega, a3⟩
theorem out_get (l : List S33) (lv : List Int) (m i : Nat) (h : i < m) : rd_T40 (outS l lv m) (i : Int) = sB l lv (i + 1) := by
  unfold rd_T40
  rw [List.getD_eq_getElem?_getD, Int.toNat_natCast, outS, List.getElem?_map, List.getElem?_range h, Option.map_some, Option.getD_some]
theorem rises_l0 (a : ByteArray) (p : Int) (l : List S33) (d : Int) (lv : List Int) (hc : chkC a p l d lv = 0) (hl : l.length ≤ 1000) : ∀ (m i : Nat), i + m = lv.length - 1 →
    Ev (fun k => spilelaw12_StandingRises.l0 k lv (outS l lv (lv.length - 1)) ((outS l lv (lv.length - 1)).length : Int) (i : Int) a p l d (sB l lv i).f0 (sB l lv i).f1) true := by
  obtain ⟨h1, h2, h3, h4, h5⟩ := chk_in hc
  have hp := std_prof h1
  obtain ⟨hasc, _⟩ := chkL_asc h4
  have hb := last_bd l hp
  have htk := chk_take a p l d lv hc
  clear hc h1 h4
  intro m
  induction m with
  | zero =>
    intro i hi
    exact Ev.succ (Ev.const _) (fun k => by rw [spilelaw12_StandingRises.l0, if_neg (by rw [outS_len]; omega)])
  | succ m ih =>
    intro i hi
    have e1 : wrap64 ((i : Int) + 1) = ((i + 1 : Nat) : Int) := wrap_up (by omega)
    have ht := htk (i + 2) (by omega) (by omega)
    have e2 : wrap64 ((i : Int) + 2) = ((i + 2 : Nat) : Int) := by unfold wrap64; omega
    have q1 : (0 : Int) ≤ ((i + 2 : Nat) : Int) := by omega
    have q2 : ((i + 2 : Nat) : Int) ≤ (lv.length : Int) := by omega
    have q3 : (lv.take (i + 2)).length - 1 = i + 1 := by rw [List.length_take]; omega
    have q4 : (lv.take (i + 2)).length ≤ 1000000 := by rw [List.length_take]; omega
    have q5 : l.length ≤ 1000000 := by omega
    have q6 := sB_take l lv (i + 2) (by omega) (i + 1) (by omega)
    have r1 : (i : Int) < ((outS l lv (lv.length - 1)).length : Int) := by rw [outS_len]; omega
    have r2 : (0 : Int) ≤ (i : Int) := by omega
    have hel := out_get l lv (lv.length - 1) i (by omega)
    have hnext := ih (i + 1) (by omega)
    clear htk
    obtain ⟨hst, g1, g2, g3⟩ := sB_step l hp lv h5 hasc i (by omega)
    have hx := h5 _ (rd_mem lv (i : Int) (by omega) (by omega))
    have hy := h5 _ (rd_mem lv ((i : Int) + 1) (by omega) (by omega))
    have hz := h5 _ (rd_mem lv 0 (by omega) (by omega))
    have hlt := asc_lt lv hasc i (by omega)
    obtain ⟨_, d1, d2, d3⟩ := step_bd l hp _ _ hx.1 hlt hy.2
    have u1 : ¬ (sB l lv (i + 1)).f0 < (sB l lv i).f0 := by rw [hst]; dsimp only; omega
    have u2 : ¬ (sB l lv (i + 1)).f1 < (sB l lv i).f1 := by rw [hst]; dsimp only; omega
    obtain ⟨s1, s2, s3, _⟩ := sp_bd (sB l lv (i + 1)) g1 g2 (by omega)
    refine Ev.succ ?_ (fun k => by rw [spilelaw12_StandingRises.l0, if_pos r1, if_pos r2, if_pos r1, hel, if_neg (Int.not_lt.2 g2), if_neg u1, decide_eq_false u2])
    by_cases c8 : Int.tmod (i : Int) 8 = 0
    · have hbet := sbet_ev a p l d (lv.take (i + 2))
      unfold betE at hbet
      rw [if_pos ht, q3, q6] at hbet
      refine Ev.succ (Ev.bind (own_ev a p l d q5) (h := fun k bt562 => (standing_Between.f k bt562.1 bt562.2.1 bt562.2.2.1 bt562.2.2.2 (lv.take (i + 2))).bind fun bt572 => (if bt572.2.2 = 0 then (if bt572.1 > bt572.2.1 then (none) else (if (wrap64 (318 * bt572.1)) > (wrap64 (333 * (sB l lv (i + 1)).f0)) then (none) else (spilelaw12_StandingRises.j2 k lv (outS l lv (lv.length - 1)) ((outS l lv (lv.length - 1)).length : Int) (i : Int) (decide ((wrap64 (339 * bt572.2.1)) < (wrap64 (355 * (sB l lv (i + 1)).f1)))) a p l d (sB l lv (i + 1)).f0 (sB l lv (i + 1)).f1))) else (none))) ?_) (fun k => ?_)
      · refine Ev.bind hbet ?_
        simp only [if_true, if_neg s1, if_neg s2, decide_eq_false s3]
        exact Ev.succ hnext (fun k => by rw [spilelaw12_StandingRises.j2, if_neg (by simp), e1])
      · rw [spilelaw12_StandingRises.j1, if_neg (by simp), if_pos c8, e2]
        congr 1
        funext t
        rw [if_pos q1, if_pos q2, Int.toNat_natCast, cloneI_ev _ q4]
        rfl
    · exact Ev.succ hnext (fun k => by rw [spilelaw12_StandingRises.j1, if_neg (by simp), if_neg c8, e1])
theorem rises_pure (a : ByteArray) (p : Int) (l : List S33) (d : Int) (lv : List Int) : ∃ k, spilelaw12_StandingRises.f k a p l d lv = some true := by
  refine Ev.one ?_
  unfold spilelaw12_StandingRises.f
  refine Ev.bind awake_ev ?_
  simp only [if_true]
  refine Ev.bind (few_ev a p l d lv) ?_
  cases hf : fewP a l lv with
  | false => exact (Ev.const true).congr (fun k => by rw [if_neg (by simp)])
  | true =>
    obtain ⟨f1, f2, f3⟩ := few_spec hf
    simp only [if_true, cloneI_ev lv (by omega), Option.bind_some]
    refine Ev.bind (own_ev a p l d (by omega)) ?_
    refine Ev.bind (ssums_ev a p l d lv) ?_
    unfold sumsE
    by_cases c1 : chkC a p l d lv = 0
    · obtain ⟨h1, h2, h3, h4, h5⟩ := chk_in c1
      simp only [if_pos c1, if_true]
      have e1 : ((outS l lv (lv.length - 1)).length : Int) = wrap64 ((lv.length : Int) - 1) := by rw [outS_len, wrap_dn (by omega) (by omega)]
      simp only [if_pos e1]
      exact rises_l0 a p l d lv c1 (by omega) (lv.length - 1) 0 (by omega)
    · simp only [if_neg c1]
      exact (Ev.const true).congr (fun k => by rfl)
end Go.Proofs.Ytmcmbjkjilcmeaa.K
namespace Go.Proofs.Ytmcmbjkjilcmeaa.Pure
theorem StandingRises : K.StandingRisesPure := fun x0 x1 _ _ => K.rises_pure x0.f0 x0.f1 x0.f2 x0.f3 x1
end Go.Proofs.Ytmcmbjkjilcmeaa.Pure
