/- By hand: the plain law of SuspectWithout. -/
import Derived.Test.YtfhmjleimampeaaSaySuspectWithout
import Derived.Test.YtfhmjleimampeaaPAwake
import Derived.Test.YtfhmjleimampeaaPLex
namespace Go.Proofs.Ytfhmjleimampeaa.K
open Go Go.RowKit Go.Proofs.YtfhmjleimampeaaW.PrintWords
set_option linter.unusedVariables false
set_option linter.unusedSimpArgs false
theorem clone_evW (l : List S30) (h : l.length ≤ 1000) : Ev (fun _ => clone13.f l) l := ⟨0, fun _ _ => by unfold clone13.f; rw [if_pos (by omega)]⟩
theorem without_l0 (l : List S30) (b id : Int) (own : List Int) (hl : l.length ≤ 14) (hid : (Lit.int .i64 id).wf = true) (hc : (chkE l).2 = 0) (hb : b = 1 ∨ b = 2) : ∀ (suf : List S30) (i : Nat), (lft (kfE b) l id).drop i = suf →
    Ev (fun k => spilelaw34_SuspectWithout.l0 k l b id (oth (kfE b) l id) (lft (kfE b) l id) (lft (kfE b) l id) ((lft (kfE b) l id).length : Int) (i : Int)) true
  | [], i, h => by
    have := drop_endF h
    have hs := lft_sub (kfE b) l id
    have hl2 := hs.length_le
    have hck := chk_sub hc hs
    have hW : Ev (fun _ => suspect_Without.f (lft (kfE b) l id) b id) ([], 7) := ⟨0, fun _ _ => by
      unfold suspect_Without.f
      rw [if_pos hid]
      congr 1
      have e : ofE (lft (kfE b) l id) b id = ([], [], 7) := by
        unfold ofE
        rw [if_neg (by rw [hck]; simp), if_neg (fun e => e hb), if_pos (grp_lft _ _ _)]
      unfold withoutE
      rw [e]
      rfl⟩
    refine Ev.shift ?_
    simp only [spilelaw34_SuspectWithout.l0, if_neg (show ¬ (i : Int) < ((lft (kfE b) l id).length : Int) by omega)]
    refine Ev.bind (clone_evW _ (by omega)) ?_
    refine Ev.bind hW ?_
    refine Ev.bind (chk_ev _) ?_
    rw [hck]
    exact Ev.const true
  | x :: suf, i, h => by
    obtain ⟨hi, hx, hd⟩ := drop_atF h
    have ih := without_l0 l b id own hl hid hc hb suf (i + 1) hd
    have hs := lft_sub (kfE b) l id
    have hl2 := hs.length_le
    have hmem : x ∈ lft (kfE b) l id := by
      have : x ∈ (lft (kfE b) l id).drop i := by rw [h]; simp
      exact List.mem_of_mem_drop this
    obtain ⟨m1, m2⟩ := lft_mem hmem
    have ho := oth_lft (kfE b) l id
    have hol : (oth (kfE b) l id).length = (lft (kfE b) l id).length := by rw [ho, List.length_map]
    have hrd : rd (oth (kfE b) l id) (i : Int) = x.f3 := by
      rw [ho]
      have e : (lft (kfE b) l id)[i] = x := by
        have := hx
        unfold rd_T30 at this
        simpa [List.getD_eq_getElem?_getD, hi] using this
      unfold rd
      simp [List.getD_eq_getElem?_getD, hi, e]
    have hj : Ev (fun k => spilelaw34_SuspectWithout.j2 k l b id (oth (kfE b) l id) (lft (kfE b) l id) (lft (kfE b) l id) ((lft (kfE b) l id).length : Int) (i : Int) (!true)) true := by
      refine Ev.succ ih (fun k => ?_)
      rw [spilelaw34_SuspectWithout.j2, if_neg (by simp), wrap_up (by omega)]
    have hcont := cont_ev l (by omega) x m1
    refine Ev.shift ?_
    simp only [spilelaw34_SuspectWithout.l0, if_pos (show (i : Int) < ((lft (kfE b) l id).length : Int) by omega), if_pos (show 0 ≤ (i : Int) by omega), if_pos (show (i : Int) < ((oth (kfE b) l id).length : Int) by omega), hx, hrd, if_true]
    by_cases c : b = 1
    · have hne : ¬ x.f1 = id := by
        intro e
        apply m2
        unfold kfE
        rw [if_pos c]
        exact e
      simp only [if_pos c, if_neg hne, if_neg (show ¬ b = 2 by omega)]
      exact Ev.bind hcont hj
    · have c2 : b = 2 := by omega
      have hne : ¬ x.f2 = id := by
        intro e
        apply m2
        unfold kfE
        rw [if_neg c]
        exact e
      simp only [if_neg c, if_pos c2, if_neg hne]
      exact Ev.bind hcont hj
theorem without_pure : SuspectWithoutPure := by
  intro l b id hl hb hid
  have hid' : (Lit.int .i64 id).wf = true := hid
  refine Ev.one (g := fun k => spilelaw34_SuspectWithout.f k l b id) ?_
  unfold spilelaw34_SuspectWithout.f
  refine Ev.bind awake_ev ?_
  simp only [if_true]
  by_cases c : (l.length : Int) > 14
  · simp only [if_pos c]
    exact Ev.const true
  · simp only [if_neg c]
    have hO : Ev (fun _ => suspect_Of.f l b id) (ofE l b id) := ⟨0, fun _ _ => by unfold suspect_Of.f; rw [if_pos hid']⟩
    have hW : Ev (fun _ => suspect_Without.f l b id) (withoutE l b id) := ⟨0, fun _ _ => by unfold suspect_Without.f; rw [if_pos hid']⟩
    refine Ev.bind (clone_evW l (by omega)) ?_
    refine Ev.bind hO ?_
    refine Ev.bind (clone_evW l (by omega)) ?_
    refine Ev.bind hW ?_
    by_cases c0 : (ofE l b id).2.2 = 0
    · obtain ⟨h1, h2, h3, h4⟩ := of_zero c0
      have hw : withoutE l b id = (lft (kfE b) l id, 0) := by unfold withoutE; rw [if_pos c0]; rfl
      have hs := sum_len (kfE b) id l
      have ho := oth_lft (kfE b) l id
      have hol : (oth (kfE b) l id).length = (lft (kfE b) l id).length := by rw [ho, List.length_map]
      have hg : (grp (kfE b) l id).length ≠ 0 := fun e => h3 (List.eq_nil_of_length_eq_zero e)
      have he : wrap64 (((grp (kfE b) l id).length : Int) + ((oth (kfE b) l id).length : Int)) = (l.length : Int) := by unfold wrap64; omega
      rw [hw, h4]
      simp only [if_true, he, if_pos (show ((lft (kfE b) l id).length : Int) = ((oth (kfE b) l id).length : Int) by omega), beq_eq_false_iff_ne.2 (show ((grp (kfE b) l id).length : Int) ≠ 0 by omega)]
      refine Ev.shift ?_
      simp only [spilelaw34_SuspectWithout.j0, Bool.false_eq_true, if_false]
      exact without_l0 l b id [] (by omega) hid' h1 h2 _ 0 rfl
    · have hw : withoutE l b id = ([], (ofE l b id).2.2) := by unfold withoutE; rw [if_neg c0]
      obtain ⟨e1, e2⟩ := of_nonzero c0
      rw [hw]
      simp only [if_neg c0, if_true, e1, e2, List.length_nil]
      exact Ev.const true
end Go.Proofs.Ytfhmjleimampeaa.K
namespace Go.Proofs.Ytfhmjleimampeaa.Pure
theorem SuspectWithout : K.SuspectWithoutPure := K.without_pure
end Go.Proofs.Ytfhmjleimampeaa.Pure
