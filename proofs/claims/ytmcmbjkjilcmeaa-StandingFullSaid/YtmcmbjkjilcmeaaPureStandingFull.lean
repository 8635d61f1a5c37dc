/- By hand: the law StandingFull in plain words. -/
import Derived.Test.YtmcmbjkjilcmeaaPFull
import Derived.Test.YtmcmbjkjilcmeaaSayStandingFull
import Derived.Test.YtmcmbjkjilcmeaaK28
namespace Go.Proofs.Ytmcmbjkjilcmeaa.K
open Go.RowKit Go.Proofs.YtmcmbjkjilcmeaaW.PrintWords
set_option linter.unusedVariables false
set_option linter.unusedSimpArgs false
theorem lin_sp' (a x y u v : Int) (h0 : 0 ≤ a) (h1 : a ≤ x) (e1 : 318 * u ≤ a * 333) (e2 : x * 355 + 338 < 339 * (v + 1)) : u ≤ v := by omega
theorem div_le' (n k : Int) (h : 0 < k) : k * (n / k) ≤ n ∧ n < k * (n / k + 1) := by
  have a1 := Int.mul_ediv_add_emod n k
  have a2 := Int.emod_nonneg n (show k ≠ 0 by omega)
  have a3 := Int.emod_lt_of_pos n h
  rw [Int.mul_add]
  omega
theorem sp_bd' (s : S40) (h0 : 0 ≤ s.f0) (h1 : s.f0 ≤ s.f1) (h2 : s.f1 ≤ 4000000000000000) : ¬ (spE s).1 > (spE s).2 ∧ ¬ wrap64 (318 * (spE s).1) > wrap64 (333 * s.f0) ∧ ¬ wrap64 (339 * (spE s).2) < wrap64 (355 * s.f1) ∧ 0 ≤ (spE s).1 := by
  unfold spE
  dsimp only
  rw [wrap_id2 (s.f0 * 333) (by omega), wrap_id2 (s.f1 * 355) (by omega), wrap_id2 (s.f1 * 355 + 338) (by omega), Int.tdiv_eq_ediv_of_nonneg (by omega), Int.tdiv_eq_ediv_of_nonneg (by omega)]
  have a1 := div_le' (s.f0 * 333) 318 (by decide)
  have a2 := div_le' (s.f1 * 355 + 338) 339 (by decide)
  have a3 : 0 ≤ s.f0 * 333 / 318 := Int.ediv_nonneg (by omega) (by decide)
  have a4 : 0 ≤ (s.f1 * 355 + 338) / 339 := Int.ediv_nonneg (by omega) (by decide)
  obtain ⟨u, hu⟩ : ∃ u, s.f0 * 333 / 318 = u := ⟨_, rfl⟩
  obtain ⟨v, hv⟩ : ∃ v, (s.f1 * 355 + 338) / 339 = v := ⟨_, rfl⟩
  rw [hu] at a1 a3 ⊢
  rw [hv] at a2 a4 ⊢
  clear hu hv
  have hlin := lin_sp' s.f0 s.f1 0 u v h0 h1 a1.1 a2.2
  rw [wrap_id2 u (by omega), wrap_id2 v (by omega), wrap_id2 (318 * u) (by omega), wrap_id2 (333 * s.f0) (by omega), wrap_id2 (339 * v) (by omega), wrap_id2 (355 * s.f1) (by omega)]
  exact ⟨by omega, by omega, by omega, a3⟩
theorem sp_le (a b c e : Int) (h0 : 0 ≤ a) (h1 : a ≤ b) (h2 : b ≤ 4000000000000000) : (spE ⟨a, c⟩).1 ≤ (spE ⟨e, b⟩).2 := by
  have := (sp_bd' ⟨a, b⟩ h0 h1 h2).1
  exact Int.not_lt.1 this
theorem pw_asc' : ∀ (lv : List Int), lv.Pairwise (· < ·) → ascI lv = true
  | [], _ => rfl
  | [a], _ => rfl
  | a :: b :: r, h => by
    obtain ⟨h1, h2⟩ := List.pairwise_cons.1 h
    rw [ascI, decide_eq_true (h1 b (by simp)), pw_asc' (b :: r) h2]
    rfl
theorem full_lev (l : List S33) (n : Int) (hp : profC l = 0) (hn : 1 ≤ n ∧ n ≤ 64) (lv : List Int) (hlv : levL l (lastX l) n = lv) (hpos : 0 < lastX l) :
    (∀ x ∈ lv, 0 ≤ x ∧ x ≤ lastX l) ∧ ascI lv = true ∧ misP lv l = false ∧ rd lv 0 = 0 ∧ 2 ≤ lv.length ∧ lv.length ≤ 128 ∧ rd lv ((lv.length : Int) - 1) = lastX l := by
  obtain ⟨f1, f2, f3⟩ := lev_facts l (lastX l) n hp ⟨by omega, Int.le_refl _⟩ hn
  have hl := prof_len l hp
  have hasc : lv.Pairwise (· < ·) := hlv ▸ set_asc _
  have hpts : ∀ p ∈ l, p.f0 < lastX l → p.f0 ∈ lv := fun p hp' h => by
    rw [← hlv]
    exact (set_mem _ _).2 (List.mem_append.2 (.inr (List.mem_map.2 ⟨p, List.mem_filter.2 ⟨hp', by simpa using h⟩, rfl⟩)))
  have hlen : lv.length ≤ 128 := by
    have : lv.length ≤ (gridL (lastX l) n ++ ptsL l (lastX l)).length := by
      rw [← hlv]
      exact Nat.le_trans (compact_le _) (by rw [show (srt (gridL (lastX l) n ++ ptsL l (lastX l))).length = _ from List.length_mergeSort _]; exact Nat.le_refl _)
    have h3 : (ptsL l (lastX l)).length ≤ l.length := by rw [ptsL, List.length_map]; exact List.length_filter_le _ _
    have h4 : (gridL (lastX l) n).length = n.toNat + 1 := by simp [gridL]
    rw [List.length_append] at this
    omega
  rw [hlv] at f1 f2 f3
  clear hlv
  obtain ⟨i0, hi0, e0⟩ := List.mem_iff_getElem.1 f2
  obtain ⟨i1, hi1, e1⟩ := List.mem_iff_getElem.1 f3
  have hne : i0 ≠ i1 := by intro e; subst e; omega
  have h2 : 2 ≤ lv.length := by omega
  have hz : rd lv 0 = 0 := by
    rw [show (0 : Int) = ((0 : Nat) : Int) from rfl, rdI_get _ 0 (by omega)]
    have a := (f1 _ (List.getElem_mem (show 0 < lv.length by omega))).1
    by_cases c : i0 = 0
    · subst c; exact e0
    · have := List.pairwise_iff_getElem.1 hasc 0 i0 (by omega) hi0 (by omega)
      omega
  have he : rd lv ((lv.length : Int) - 1) = lastX l := by
    rw [show (lv.length : Int) - 1 = ((lv.length - 1 : Nat) : Int) by omega, rdI_get _ (lv.length - 1) (by omega)]
    have a := (f1 _ (List.getElem_mem (show lv.length - 1 < lv.length by omega))).2
    by_cases c : i1 = lv.length - 1
    · subst c; exact e1
    · have := List.pairwise_iff_getElem.1 hasc i1 (lv.length - 1) hi1 (by omega) (by omega)
      omega
  refine ⟨f1, pw_asc' lv hasc, ?_, hz, h2, hlen, he⟩
  rw [misP, List.any_eq_false]
  intro q hq
  rw [he]
  simp only [Bool.and_eq_true, decide_eq_true_eq, Bool.not_eq_true', decide_eq_false_iff_not, not_and, Classical.not_not]
  intro _ g
  exact hpts q hq g
theorem last_pos (l : List S33) (hp : profC l = 0) : 0 < lastX l := by
  have hl := prof_len l hp
  have h0 := prof_zero l hp
  have h1 := pt_asc l hp 0 (by omega)
  have h2 := pt_le l hp (l.length - 2) 1 (by omega)
  rw [show ((1 + (l.length - 2) : Nat) : Int) = (l.length : Int) - 1 by omega] at h2
  simp only [Int.natCast_zero, Int.zero_add, Int.natCast_one] at h1 h2
  unfold lastX
  omega
theorem full_j0 (a : ByteArray) (p : Int) (l : List S33) (d n : Int) (hc : caskC a p l d = 0) : Ev (fun k => spilelaw12_StandingFull.j0 k n false a p l d) true := by
  have hp : profC l = 0 := by
    unfold caskC at hc
    split at hc
    · split at hc
      · exact absurd hc (by decide)
      · exact hc
    · exact absurd hc (by decide)
  have hl := prof_len l hp
  have hpos := last_pos l hp
  have hb := last_bd l hp
  have e1 : wrap64 ((l.length : Int) - 1) = (l.length : Int) - 1 := by unfold wrap64; omega
  have p1 : 0 ≤ (l.length : Int) - 1 := by omega
  have p2 : (l.length : Int) - 1 < (l.length : Int) := by omega
  have hw : ∀ k, spilelaw12_StandingFull.j0 (k + 1) n false a p l d = (spilelaw12_own.f k a p l d).bind fun bt600 => ((standing_Wet.f k bt600.1 bt600.2.1 bt600.2.2.1 bt600.2.2.2 (lastX l) n).bind fun bt607 => ((spilelaw12_own.f k a p l d).bind fun bt611 => ((standing_Wet.f k bt611.1 bt611.2.1 bt611.2.2.1 bt611.2.2.2 0 n).bind fun bt617 => (if bt607.2.2 = 0 then ((clone13.f l).bind fun t621 => ((capacity_Space.f t621).bind fun bt624 => (if bt617.2.2 = 0 then (if bt624.2.2 = 0 then (if (bt617.1 == 0 && (bt617.2.1 == 0)) = true then (if bt607.1 ≤ bt624.2.1 then (some (decide (bt624.1 ≤ bt607.2.1))) else (none)) else (none)) else (none)) else (none)))) else (if bt617.2.2 = bt607.2.2 then (some (bt607.1 == 0 && (bt607.2.1 == 0))) else (none)))))) := fun k => by
    rw [spilelaw12_StandingFull.j0, if_neg (by simp)]
    congr 1
    funext t
    simp only [e1, if_pos p1, if_pos p2]
    rfl
  refine Ev.succ ?_ hw
  refine Ev.bind (own_ev a p l d (by omega)) ?_
  refine Ev.bind (swet_ev a p l d (lastX l) n) ?_
  refine Ev.bind (own_ev a p l d (by omega)) ?_
  refine Ev.bind (swet_ev a p l d 0 n) ?_
  unfold wetE
  by_cases c : stdC a p l d = 0
  · simp only [if_pos c]
    by_cases cn : n < 1 ∨ n > 64
    · have l1 : levE l (lastX l) n = ([], 2) := by unfold levE; rw [if_pos hp, if_pos (.inr (.inr cn))]
      have l2 : levE l 0 n = ([], 2) := by unfold levE; rw [if_pos hp, if_pos (.inr (.inr cn))]
      rw [l1, l2]
      exact (Ev.const true).congr (fun k => by simp)
    · have hn : 1 ≤ n ∧ n ≤ 64 := ⟨by omega, by omega⟩
      have l1 : levE l (lastX l) n = (levL l (lastX l) n, 0) := by unfold levE; rw [if_pos hp, if_neg (by omega)]
      have l2 : levE l 0 n = (levL l 0 n, 0) := by unfold levE; rw [if_pos hp, if_neg (by omega)]
      rw [l1, l2]
      simp only [if_true, if_neg (show ¬ lastX l = 0 by omega)]
      obtain ⟨lv, hlv⟩ : ∃ lv, levL l (lastX l) n = lv := ⟨_, rfl⟩
      rw [hlv]
      obtain ⟨g1, g2, g3, g4, g5, g6, g7⟩ := full_lev l n hp hn lv hlv hpos
      have hchk : chkC a p l d lv = 0 := by
        unfold chkC chkL
        have o1 : outL lv (lastX l) = false := by
          rw [outL, List.any_eq_false]
          intro x hx
          have := g1 x hx
          simp
          omega
        rw [if_pos c, if_neg (by omega), if_neg (by omega), if_neg (by rw [o1]; simp), if_neg (by rw [g2]; simp), if_neg (by rw [g3]; simp)]
      obtain ⟨b1, b2⟩ := full_bd l hp lv g1 g2 g3 g4 g5 g7
      have hst := (sB_step l hp lv g1 g2 (lv.length - 2) (by omega)).2
      rw [show lv.length - 2 + 1 = lv.length - 1 by omega, g4] at hst
      have hz := g1 _ (rd_mem lv (((lv.length - 2 : Nat) : Int) + 1) (by omega) (by omega))
      unfold betE
      rw [if_pos hchk]
      simp only [if_true, cloneP_ev l (by omega), Option.bind_some, capacity_Space.f, frus48.f, hp]
      obtain ⟨s, hs⟩ : ∃ s, sB l lv (lv.length - 1) = s := ⟨_, rfl⟩
      obtain ⟨S, hS⟩ : ∃ S, fru (pairs l) = S := ⟨_, rfl⟩
      rw [hs] at b1 b2 hst ⊢
      rw [hS] at b1 b2 ⊢
      clear hs hS hchk g1 g3 hlv l1 l2 c hc hp
      have c1 : (spE s).1 ≤ (spE ⟨S, S⟩).2 := sp_le s.f0 S s.f1 S hst.1 b1 (by omega)
      have c2 : (spE ⟨S, S⟩).1 ≤ (spE s).2 := sp_le S s.f1 S s.f0 (by omega) b2 (by omega)
      refine (Ev.const true).congr (fun k => ?_)
      rw [show (wrap64 ((S * 333 : Int)) : Int) = wrap64 (S * 333) from rfl]
      have d1 : (spE s).1 ≤ wrap64 (Int.tdiv (wrap64 (wrap64 (S * 355) + 338)) 339) := c1
      have d2 : wrap64 (Int.tdiv (wrap64 (S * 333)) 318) ≤ (spE s).2 := c2
      simp [d1, d2]
  · simp only [if_neg c]
    exact (Ev.const true).congr (fun k => by simp)
theorem full_pure (a : ByteArray) (p : Int) (l : List S33) (d n : Int) : ∃ k, spilelaw12_StandingFull.f k a p l d n = some true := by
  refine Ev.one ?_
  unfold spilelaw12_StandingFull.f
  refine Ev.bind awake_ev ?_
  simp only [if_true]
  have ht : Ev (fun k => spilelaw12_StandingFull.j0 k n true a p l d) true := Ev.succ (Ev.const _) (fun k => by rw [spilelaw12_StandingFull.j0, if_pos rfl])
  refine Ev.bind (few_ev a p l d []) ?_
  cases hf : fewP a l [] with
  | false => simp only [Bool.false_eq_true, if_false]; exact ht
  | true =>
    obtain ⟨f1, f2, f3⟩ := few_spec hf
    simp only [if_true]
    refine Ev.bind (rcask_ev a p l d (by omega)) ?_
    by_cases c : caskC a p l d = 0
    · rw [show (caskC a p l d != 0) = false by simp [c]]
      exact full_j0 a p l d n c
    · rw [show (caskC a p l d != 0) = true by simp [c]]
      exact ht
end Go.Proofs.Ytmcmbjkjilcmeaa.K
namespace Go.Proofs.Ytmcmbjkjilcmeaa.Pure
theorem StandingFull : K.StandingFullPure := fun x0 x1 _ _ => K.full_pure x0.f0 x0.f1 x0.f2 x0.f3 x1
end Go.Proofs.Ytmcmbjkjilcmeaa.Pure
