/- By hand: the plain law of SuspectLimits. -/
import Derived.Test.YtfhmjleimampeaaSaySuspectLimits
import Derived.Test.YtfhmjleimampeaaPAwake
import Derived.Test.YtfhmjleimampeaaPAtl
namespace Go.Proofs.Ytfhmjleimampeaa.K
open Go Go.RowKit Go.Proofs.YtfhmjleimampeaaW.PrintWords
set_option linter.unusedVariables false
set_option linter.unusedSimpArgs false
theorem clone_evW (l : List S30) (h : l.length ≤ 1000) : Ev (fun _ => clone13.f l) l := ⟨0, fun _ _ => by unfold clone13.f; rw [if_pos (by omega)]⟩
theorem two_okL {a b : List Int} (h : twoE a b = 0) : a.length + b.length ≤ 24 := (two_ok h).2.2
theorem atl_bd (a b : List Int) : (0 ≤ (atlE a b).1 ∧ (atlE a b).1 ≤ 100000000000) ∧ 0 ≤ (atlE a b).2.1 ∧ (atlE a b).2.1 ≤ 100000000000 := by
  unfold atlE
  by_cases h2 : twoE a b = 0
  · have h24 := two_okL h2
    rw [if_pos h2]
    have hB := cntL_bd ((a ++ b).map (rk (a ++ b))) (fun r hr => by have := RB h24 r hr; omega) _ (Nat.le_refl _)
    rw [List.take_length] at hB
    have hc : ∀ t : Int, (0 : Int) ≤ (cntL ((a ++ b).map (rk (a ++ b))) a.length t : Int) ∧ (cntL ((a ++ b).map (rk (a ++ b))) a.length t : Int) ≤ 16777216 := fun t => by
      have h3 := hB.le a.length t
      have h4 : 2 ^ ((a ++ b).map (rk (a ++ b))).length ≤ 2 ^ 24 := Nat.pow_le_pow_right (by omega) (by simp; omega)
      have h5 : (2 : Nat) ^ 24 = 16777216 := by decide
      refine ⟨by omega, ?_⟩
      have h6 : cntL ((a ++ b).map (rk (a ++ b))) a.length t ≤ 16777216 := by omega
      exact Int.ofNat_le.2 h6
    have hw := sumR_bd (fun t => (cntL ((a ++ b).map (rk (a ++ b))) a.length t : Int)) 16777216 3000 (fun t _ _ => hc t)
    have hg := sumR_bd (fun t => if t ≥ statL a b then (cntL ((a ++ b).map (rk (a ++ b))) a.length t : Int) else 0) 16777216 3000 (fun t _ _ => by
      split
      · exact hc t
      · omega)
    have e1 : (16777216 : Int) * ((3000 : Nat) : Int) ≤ 100000000000 := by decide
    exact ⟨⟨hg.1, Int.le_trans hg.2 e1⟩, hw.1, Int.le_trans hw.2 e1⟩
  · rw [if_neg h2]
    simp
theorem test_bd (l : List S30) (b id : Int) : (0 ≤ (testE l b id).1 ∧ (testE l b id).1 ≤ 100000000000) ∧ 0 ≤ (testE l b id).2.1 ∧ (testE l b id).2.1 ≤ 100000000000 := by
  unfold testE
  split
  · split
    · simp
    · exact atl_bd _ _
  · simp
def limP (l : List S30) (b num den : Int) : Int → Bool := fun id => (testE l b id).2.2 == 0 && decide (wrap64 ((testE l b id).1 * den) ≤ wrap64 ((testE l b id).2.1 * num))
theorem susp_zero {l : List S30} {b num den : Int} (h : (suspE l b num den).2 = 0) : (chkE l).2 = 0 ∧ (b = 1 ∨ b = 2) ∧ (1 ≤ den ∧ den ≤ 1000000 ∧ 0 ≤ num ∧ num ≤ den) ∧ suspE l b num den = ((keysOf (kfE b) l).filter (limP l b num den), 0) := by
  unfold suspE at h ⊢
  by_cases c0 : (chkE l).2 ≠ 0
  · rw [if_pos c0] at h; cases h
  · rw [if_neg c0] at h ⊢
    by_cases c1 : ¬ (b = 1 ∨ b = 2) ∨ den < 1 ∨ den > 1000000 ∨ num < 0 ∨ num > den
    · rw [if_pos c1] at h; cases h
    · rw [if_neg c1]
      exact ⟨Decidable.not_not.1 c0, by omega, by omega, rfl⟩
theorem susp_make {l : List S30} {b num den : Int} (hc : (chkE l).2 = 0) (hb : b = 1 ∨ b = 2) (hd : 1 ≤ den ∧ den ≤ 1000000 ∧ 0 ≤ num ∧ num ≤ den) : suspE l b num den = ((keysOf (kfE b) l).filter (limP l b num den), 0) := by
  unfold suspE
  rw [if_neg (show ¬ (chkE l).2 ≠ 0 from fun e => e hc), if_neg (by omega)]
  rfl
theorem inL_iff (L : List Int) (x : Int) : inL L x = true ↔ x ∈ L := by
  unfold inL
  rw [List.any_eq_true]
  constructor
  · rintro ⟨y, h1, h2⟩
    have := beq_iff_eq.1 h2
    subst this
    exact h1
  · intro h
    exact ⟨x, h, beq_iff_eq.2 rfl⟩
section
variable {l : List S30} {b num den : Int} {L : List Int}
theorem lim_end (hl : l.length ≤ 14) (hc : (chkE l).2 = 0) (hb : b = 1 ∨ b = 2) (hd : 1 ≤ den ∧ den ≤ 1000000 ∧ 0 ≤ num ∧ num ≤ den) (hL : L = (keysOf (kfE b) l).filter (limP l b num den)) (i : Int) (hi : (L.length : Int) ≤ i) :
    Ev (fun k => spilelaw34_SuspectLimits.l1 k l b L L (L.length : Int) i num den) true := by
  refine Ev.shift ?_
  simp only [spilelaw34_SuspectLimits.l1, if_neg (show ¬ i < (L.length : Int) by omega)]
  by_cases c : num < den
  · simp only [if_pos c]
    have w1 : wrap64 (num + 1) = num + 1 := by unfold wrap64; omega
    have hS : Ev (fun _ => suspect_Suspects.f l b (num + 1) den) ((keysOf (kfE b) l).filter (limP l b (num + 1) den), 0) := ⟨0, fun _ _ => by
      unfold suspect_Suspects.f
      rw [susp_make hc hb (by omega)]⟩
    have h2 := len_keysOf (kfE b) l
    have h3 := List.length_filter_le (limP l b (num + 1) den) (keysOf (kfE b) l)
    have hN : L.any (fun x => !(inL ((keysOf (kfE b) l).filter (limP l b (num + 1) den)) x)) = false := by
      rw [List.any_eq_false]
      intro x hx
      rw [hL] at hx
      obtain ⟨m1, m2⟩ := List.mem_filter.1 hx
      have : inL ((keysOf (kfE b) l).filter (limP l b (num + 1) den)) x = true := by
        rw [inL_iff, List.mem_filter]
        refine ⟨m1, ?_⟩
        unfold limP at m2 ⊢
        rw [Bool.and_eq_true, beq_iff_eq, decide_eq_true_eq] at m2 ⊢
        refine ⟨m2.1, ?_⟩
        obtain ⟨⟨p1, p2⟩, p3, p4⟩ := test_bd l b x
        have q1 : (testE l b x).2.1 * (num + 1) = (testE l b x).2.1 * num + (testE l b x).2.1 := by rw [Int.mul_add, Int.mul_one]
        have q2 : 0 ≤ (testE l b x).2.1 * num := Int.mul_nonneg p3 hd.2.2.1
        have q3 : (testE l b x).2.1 * num ≤ 100000000000 * 1000000 := Int.mul_le_mul p4 (by omega) hd.2.2.1 (by decide)
        have q4 : 0 ≤ (testE l b x).1 * den := Int.mul_nonneg p1 (by omega)
        have q5 : (testE l b x).1 * den ≤ 100000000000 * 1000000 := Int.mul_le_mul p2 (by omega) (by omega) (by decide)
        have m3 := m2.2
        rw [q1]
        generalize (testE l b x).2.1 * num = u at *
        generalize (testE l b x).1 * den = v at *
        generalize (testE l b x).2.1 = z at *
        have w2 : wrap64 v = v := by unfold wrap64; omega
        have w3 : wrap64 u = u := by unfold wrap64; omega
        have w4 : wrap64 (u + z) = u + z := by unfold wrap64; omega
        rw [w2, w3] at m3
        rw [w2, w4]
        omega
      rw [this]
      simp
    rw [w1]
    refine Ev.bind (clone_evW l (by omega)) ?_
    refine Ev.bind hS ?_
    simp only [if_true]
    refine Ev.bind (g := fun _ => cont31.f L ((keysOf (kfE b) l).filter (limP l b (num + 1) den))) (r := false) ⟨0, fun _ _ => by unfold cont31.f; rw [if_pos (by omega), hN]⟩ ?_
    exact Ev.const true
  · simp only [if_neg c]
    exact Ev.const true
theorem lim_l1 (hl : l.length ≤ 14) (hc : (chkE l).2 = 0) (hb : b = 1 ∨ b = 2) (hd : 1 ≤ den ∧ den ≤ 1000000 ∧ 0 ≤ num ∧ num ≤ den) (hL : L = (keysOf (kfE b) l).filter (limP l b num den)) : ∀ (suf : List Int) (i : Nat), L.drop i = suf →
    Ev (fun k => spilelaw34_SuspectLimits.l1 k l b L L (L.length : Int) (i : Int) num den) true
  | [], i, h => by
    have := drop_endI h
    exact lim_end hl hc hb hd hL (i : Int) (by omega)
  | x :: suf, i, h => by
    obtain ⟨hi, hx, hdr, _⟩ := drop_atI h
    have ih := lim_l1 hl hc hb hd hL suf (i + 1) hdr
    have hlen : L.length ≤ 14 := by
      have h2 := len_keysOf (kfE b) l
      have h3 := List.length_filter_le (limP l b num den) (keysOf (kfE b) l)
      rw [hL]
      omega
    have hmem : x ∈ L := by
      have : x ∈ L.drop i := by rw [h]; simp
      exact List.mem_of_mem_drop this
    have hasc : L.Pairwise (· < ·) := by rw [hL]; exact (asc_keysOf (kfE b) l).sublist List.filter_sublist
    rw [hL] at hmem
    obtain ⟨y, hy, hk⟩ := (mem_keysOf _ _ _).1 (List.mem_filter.1 hmem).1
    have hwf : (Lit.int .i64 x).wf = true := by rw [← hk]; exact kf_wf hc b y hy
    have hO : Ev (fun _ => suspect_Of.f l b x) (ofE l b x) := ⟨0, fun _ _ => by unfold suspect_Of.f; rw [if_pos hwf]⟩
    have hz : (ofE l b x).2.2 = 0 := by
      unfold ofE
      rw [if_neg (show ¬ (chkE l).2 ≠ 0 from fun e => e hc), if_neg (fun e => e hb), if_neg (grp_ne.2 ⟨y, hy, hk⟩)]
    have j3 : Ev (fun k => spilelaw34_SuspectLimits.j3 k l b L x L (L.length : Int) (i : Int) false num den) true := by
      refine Ev.shift ?_
      simp only [spilelaw34_SuspectLimits.j3, Bool.false_eq_true, if_false]
      refine Ev.bind (clone_evW l (by omega)) ?_
      refine Ev.bind hO ?_
      simp only [if_pos hz, wrap_up (show i ≤ 1000000 by omega)]
      exact ih
    refine Ev.shift ?_
    simp only [spilelaw34_SuspectLimits.l1, if_pos (show (i : Int) < (L.length : Int) by omega), if_pos (show 0 ≤ (i : Int) by omega), hx]
    by_cases c : (i : Int) > 0
    · have hw : wrap64 ((i : Int) - 1) = ((i - 1 : Nat) : Int) := by unfold wrap64; omega
      have hlt : rd L ((i - 1 : Nat) : Int) < x := by
        have e1 : rd L ((i - 1 : Nat) : Int) = L[i - 1] := by unfold rd; simp [List.getD_eq_getElem?_getD, show i - 1 < L.length by omega]
        have e2 : L[i] = x := by
          have := hx
          unfold rd at this
          simpa [List.getD_eq_getElem?_getD, hi] using this
        rw [e1, ← e2]
        exact (List.pairwise_iff_getElem.1 hasc) (i - 1) i (by omega) hi (by omega)
      simp only [if_pos c, hw, if_pos (show (0 : Int) ≤ ((i - 1 : Nat) : Int) by omega), if_pos (show ((i - 1 : Nat) : Int) < (L.length : Int) by omega), decide_eq_false (show ¬ rd L ((i - 1 : Nat) : Int) ≥ x by omega)]
      exact j3
    · simp only [if_neg c]
      exact j3
theorem lim_l0 (hl : l.length ≤ 14) (hc : (chkE l).2 = 0) (hb : b = 1 ∨ b = 2) (hd : 1 ≤ den ∧ den ≤ 1000000 ∧ 0 ≤ num ∧ num ≤ den) (hL : L = (keysOf (kfE b) l).filter (limP l b num den)) : ∀ (suf : List S30) (i : Nat), l.drop i = suf →
    Ev (fun k => spilelaw34_SuspectLimits.l0 k l b L l (l.length : Int) (i : Int) num den) true
  | [], i, h => by
    have := drop_endF h
    refine Ev.shift ?_
    simp only [spilelaw34_SuspectLimits.l0, if_neg (show ¬ (i : Int) < (l.length : Int) by omega)]
    exact lim_l1 hl hc hb hd hL L 0 rfl
  | x :: suf, i, h => by
    obtain ⟨hi, hx, hdr⟩ := drop_atF h
    have ih := lim_l0 hl hc hb hd hL suf (i + 1) hdr
    have hlen : L.length ≤ 14 := by
      have h2 := len_keysOf (kfE b) l
      have h3 := List.length_filter_le (limP l b num den) (keysOf (kfE b) l)
      rw [hL]
      omega
    have hmem : x ∈ l := by
      have : x ∈ l.drop i := by rw [h]; simp
      exact List.mem_of_mem_drop this
    have hwf := kf_wf hc b x hmem
    have hT : Ev (fun _ => suspect_Test.f l b (kfE b x)) (testE l b (kfE b x)) := ⟨0, fun _ _ => test_some hwf⟩
    have hC := contI_ev L (kfE b x) (by omega)
    have hin : inL L (kfE b x) = limP l b num den (kfE b x) := by
      have h1 : inL L (kfE b x) = true ↔ limP l b num den (kfE b x) = true := by
        rw [inL_iff, hL, List.mem_filter, mem_keysOf]
        exact ⟨fun h => h.2, fun h => ⟨⟨x, hmem, rfl⟩, h⟩⟩
      cases h2 : inL L (kfE b x) <;> cases h3 : limP l b num den (kfE b x) <;> simp_all
    have j1 : Ev (fun k => spilelaw34_SuspectLimits.j1 k l b L (kfE b x) l (l.length : Int) (i : Int) num den) true := by
      refine Ev.shift ?_
      simp only [spilelaw34_SuspectLimits.j1]
      refine Ev.bind (clone_evW l (by omega)) ?_
      refine Ev.bind hT ?_
      refine Ev.bind hC ?_
      rw [hin]
      unfold limP
      by_cases c : (testE l b (kfE b x)).2.2 = 0
      · simp only [if_pos c, beq_iff_eq.2 c, Bool.true_and, bne_self_eq_false, Bool.false_eq_true, if_false, wrap_up (show i ≤ 1000000 by omega)]
        exact ih
      · simp only [if_neg c, beq_eq_false_iff_ne.2 c, Bool.false_and, bne_self_eq_false, Bool.false_eq_true, if_false, wrap_up (show i ≤ 1000000 by omega)]
        exact ih
    refine Ev.shift ?_
    simp only [spilelaw34_SuspectLimits.l0, if_pos (show (i : Int) < (l.length : Int) by omega), if_pos (show 0 ≤ (i : Int) by omega), hx]
    by_cases c : b = 1
    · have e : kfE b x = x.f1 := by unfold kfE; rw [if_pos c]
      rw [e] at j1
      simp only [if_pos c]
      exact j1
    · have e : kfE b x = x.f2 := by unfold kfE; rw [if_neg c]
      rw [e] at j1
      simp only [if_neg c]
      exact j1
end
theorem limits_pure : SuspectLimitsPure := by
  intro l b t hl hb ht
  obtain ⟨num, den⟩ := t
  refine Ev.one (g := fun k => spilelaw34_SuspectLimits.f k l b num den) ?_
  unfold spilelaw34_SuspectLimits.f
  refine Ev.bind awake_ev ?_
  simp only [if_true]
  by_cases c : (l.length : Int) > 14
  · simp only [if_pos c]
    exact Ev.const true
  · simp only [if_neg c]
    refine Ev.bind (clone_evW l (by omega)) ?_
    refine Ev.bind (g := fun _ => suspect_Suspects.f l b num den) (r := suspE l b num den) ⟨0, fun _ _ => rfl⟩ ?_
    by_cases c0 : (suspE l b num den).2 = 0
    · obtain ⟨h1, h2, h3, h4⟩ := susp_zero c0
      rw [h4]
      simp only [if_true]
      exact lim_l0 (by omega) h1 h2 h3 rfl l 0 rfl
    · have e1 : (suspE l b num den).1 = [] := by
        unfold suspE at c0 ⊢
        split
        · rfl
        · rename_i d0
          rw [if_neg d0] at c0
          split
          · rfl
          · rename_i d1
            rw [if_neg d1] at c0
            exact absurd rfl c0
      simp only [if_neg c0, e1, List.length_nil]
      exact Ev.const true
end Go.Proofs.Ytfhmjleimampeaa.K
namespace Go.Proofs.Ytfhmjleimampeaa.Pure
theorem SuspectLimits : K.SuspectLimitsPure := K.limits_pure
end Go.Proofs.Ytfhmjleimampeaa.Pure
