/- By hand: the reference's Check, Of and Without in plain words. -/
import Derived.Test.YtfhmjleimampeaaPChk
import Derived.Test.YtfhmjleimampeaaGWithout
import Derived.Test.YtfhmjleimampeaaK13
import Derived.Test.YtfhmjleimampeaaK14
namespace Go.Proofs.Ytfhmjleimampeaa.K
open Go Go.RowKit Go.Proofs.YtfhmjleimampeaaW.PrintWords
set_option linter.unusedVariables false
set_option linter.unusedSimpArgs false
theorem rid_eq (a : Int) : spileref34_id.f a = some (decide (a ≥ 1) && decide (a ≤ 1073741824)) := by
  unfold spileref34_id.f
  by_cases c : a ≥ 1
  · rw [if_pos c, decide_eq_true c, Bool.true_and]
  · rw [if_neg c, decide_eq_false c, Bool.false_and]
theorem rchk_l0 (l : List S30) (hl : l.length ≤ 1000) : ∀ (suf : List S30) (i : Nat), l.drop i = suf → Ev (fun k => spileref34_Check.l0 k l (i : Int)) (chkGo (ahead l i) (i : Int) suf)
  | [], i, h => by
    have := drop_endF h
    exact Ev.succ (Ev.const _) (fun k => by rw [spileref34_Check.l0, if_neg (by omega)]; rfl)
  | x :: suf, i, h => by
    obtain ⟨hi, hx, hd⟩ := drop_atF h
    have ih := rchk_l0 l hl suf (i + 1) hd
    rw [ahead_succ hx] at ih
    have j2f : Ev (fun k => spileref34_Check.j2 k l (i : Int) false) (chkGo (some x) ((i : Int) + 1) suf) := by
      refine Ev.succ ih (fun k => ?_)
      rw [spileref34_Check.j2, if_neg (by simp), wrap_up (by omega)]
    have j2t : Ev (fun k => spileref34_Check.j2 k l (i : Int) true) ((i : Int), 5) := Ev.succ (Ev.const _) (fun k => by rw [spileref34_Check.j2, if_pos rfl])
    have bad : Ev (fun k => spileref34_Check.j1 k l (i : Int) true x.f0 x.f1 x.f2 x.f3) ((i : Int), 2) := Ev.succ (Ev.const _) (fun k => by rw [spileref34_Check.j1, if_pos rfl])
    have good : Ev (fun k => spileref34_Check.j1 k l (i : Int) false x.f0 x.f1 x.f2 x.f3) (if ordO (ahead l i) x = true then ((i : Int), 5) else chkGo (some x) ((i : Int) + 1) suf) := by
      refine Ev.shift ?_
      simp only [spileref34_Check.j1, Bool.false_eq_true, if_false]
      by_cases c0 : i = 0
      · subst c0
        exact j2f
      · have hw : wrap64 ((i : Int) - 1) = (i : Int) - 1 := by unfold wrap64; omega
        have ha : ahead l i = some (rd_T30 l ((i : Int) - 1)) := by unfold ahead; rw [if_neg c0]
        simp only [if_pos (show (i : Int) > 0 by omega), hw, if_pos (show 0 ≤ (i : Int) - 1 by omega), if_pos (show (i : Int) - 1 < (l.length : Int) by omega), ha, ordO, ordB, gt_iff_lt, ge_iff_le]
        by_cases c1 : x.f0 < (rd_T30 l ((i : Int) - 1)).f0
        · simp only [c1, if_true, decide_true, Bool.true_or]
          exact j2t
        · simp only [c1, if_false, decide_false, Bool.false_or]
          by_cases c2 : x.f0 = (rd_T30 l ((i : Int) - 1)).f0
          · simp only [← c2, if_true, decide_true, Bool.true_and]
            by_cases c3 : x.f1 ≤ (rd_T30 l ((i : Int) - 1)).f1
            · simp only [c3, decide_true, if_true]
              exact j2t
            · simp only [c3, decide_false, Bool.false_eq_true, if_false]
              exact j2f
          · simp only [if_neg (show ¬ (rd_T30 l ((i : Int) - 1)).f0 = x.f0 from fun e => c2 e.symm), decide_eq_false c2, Bool.false_and, Bool.false_eq_true, if_false]
            exact j2f
    refine Ev.shift ?_
    simp only [spileref34_Check.l0, if_pos (show (i : Int) < (l.length : Int) by omega), if_pos (show 0 ≤ (i : Int) by omega), hx, rid_eq, Option.bind_some]
    rw [chkGo]
    unfold rangeB
    by_cases c0 : x.f0 < 0
    · simp only [c0, if_true, decide_true, Bool.true_or]; exact bad
    simp only [c0, if_false, decide_false, Bool.false_or]
    by_cases c1 : x.f0 > 100000
    · simp only [c1, if_true, decide_true, Bool.true_or]; exact bad
    simp only [c1, if_false, decide_false, Bool.false_or]
    by_cases c2 : x.f1 < 1
    · simp only [c2, if_true, decide_true, Bool.true_or, show ¬ x.f1 ≥ 1 by omega, decide_false, Bool.false_and, Bool.false_eq_true, if_false]; exact bad
    simp only [c2, if_false, decide_false, Bool.false_or, show x.f1 ≥ 1 by omega, decide_true, Bool.true_and]
    by_cases c3 : x.f1 > 1073741824
    · simp only [c3, if_true, decide_true, Bool.true_or, show ¬ x.f1 ≤ 1073741824 by omega, decide_false, Bool.false_eq_true, if_false]; exact bad
    simp only [c3, if_false, decide_false, Bool.false_or, show x.f1 ≤ 1073741824 by omega, decide_true, if_true]
    by_cases c4 : x.f2 < 1
    · simp only [c4, if_true, decide_true, Bool.true_or, show ¬ x.f2 ≥ 1 by omega, decide_false, Bool.false_and, Bool.false_eq_true, if_false]; exact bad
    simp only [c4, if_false, decide_false, Bool.false_or, show x.f2 ≥ 1 by omega, decide_true, Bool.true_and]
    by_cases c5 : x.f2 > 1073741824
    · simp only [c5, if_true, decide_true, Bool.true_or, show ¬ x.f2 ≤ 1073741824 by omega, decide_false, Bool.false_eq_true, if_false]; exact bad
    simp only [c5, if_false, decide_false, Bool.false_or, show x.f2 ≤ 1073741824 by omega, decide_true, if_true]
    by_cases c6 : x.f3 < 0
    · simp only [c6, if_true, decide_true, Bool.true_or]; exact bad
    simp only [c6, if_false, decide_false, Bool.false_or]
    by_cases c7 : x.f3 > 1099511627776
    · simp only [c7, decide_true, if_true]; exact bad
    · simp only [c7, decide_false, Bool.false_eq_true, if_false]; exact good
theorem rchk_ev (l : List S30) : Ev (fun k => spileref34_Check.f k l) (chkE l) := by
  unfold spileref34_Check.f chkE
  by_cases c : l.length > 24
  · simp only [if_pos c, if_pos (show (l.length : Int) > 24 by omega)]
    exact Ev.const _
  · simp only [if_neg c, if_neg (show ¬ (l.length : Int) > 24 by omega)]
    exact rchk_l0 l (by omega) l 0 rfl
def startE (l : List S30) (b : Int) : Int := if (chkE l).2 = 0 then (if b = 1 then 0 else if b = 2 then 0 else 2) else 1
theorem rstart_ev (l : List S30) (b : Int) : Ev (fun k => spileref34_start.f k l b) (startE l b) := by
  unfold spileref34_start.f startE
  refine Ev.bind (rchk_ev l) ?_
  exact Ev.congr (Ev.const _) (fun k => by
    by_cases c0 : (chkE l).2 = 0
    · rw [if_pos c0, if_pos c0]
      by_cases c1 : b = 1
      · rw [if_pos c1, if_pos c1]
      · rw [if_neg c1, if_neg c1]
        by_cases c2 : b = 2
        · rw [if_pos c2, if_pos c2]
        · rw [if_neg c2, if_neg c2]
    · rw [if_neg c0, if_neg c0])
theorem rhas_eq (x : S30) (b : Int) : spileref34_has.f x.f0 x.f1 x.f2 x.f3 b = some (kfE b x) := by
  unfold spileref34_has.f kfE
  by_cases c : b = 1
  · rw [if_pos c, if_pos c]
  · rw [if_neg c, if_neg c]
theorem grp_cons (kf : S30 → Int) (x : S30) (l : List S30) (id : Int) : grp kf (x :: l) id = if kf x = id then x.f3 :: grp kf l id else grp kf l id := by
  unfold grp
  by_cases c : kf x = id
  · simp [c]
  · simp [c]
theorem oth_cons (kf : S30 → Int) (x : S30) (l : List S30) (id : Int) : oth kf (x :: l) id = if kf x = id then oth kf l id else x.f3 :: oth kf l id := by
  unfold oth
  by_cases c : kf x = id
  · simp [c]
  · simp [c]
theorem rsplit_l0 (l : List S30) (hl : l.length ≤ 1000) (b id : Int) : ∀ (suf : List S30) (i : Nat) (a o : List Int), l.drop i = suf → a.length ≤ i → o.length ≤ i → Ev (fun k => spileref34_split.l0 k l b id a o (i : Int)) (a ++ grp (kfE b) suf id, o ++ oth (kfE b) suf id)
  | [], i, a, o, h, _, _ => by
    have := drop_endF h
    exact Ev.succ (Ev.const _) (fun k => by rw [spileref34_split.l0, if_neg (by omega)]; simp [grp, oth])
  | x :: suf, i, a, o, h, ha, ho => by
    obtain ⟨hi, hx, hd⟩ := drop_atF h
    refine Ev.shift ?_
    simp only [spileref34_split.l0, if_pos (show (i : Int) < (l.length : Int) by omega), if_pos (show 0 ≤ (i : Int) by omega), hx, rhas_eq, Option.bind_some, wrap_up (show i ≤ 1000000 by omega)]
    rw [grp_cons, oth_cons]
    by_cases c : kfE b x = id
    · simp only [if_pos c, if_pos (show a.length < 17592186044416 by omega)]
      have ih := rsplit_l0 l hl b id suf (i + 1) (a ++ [x.f3]) o hd (by simp; omega) (by omega)
      simpa [List.append_assoc] using ih
    · simp only [if_neg c, if_pos (show o.length < 17592186044416 by omega)]
      have ih := rsplit_l0 l hl b id suf (i + 1) a (o ++ [x.f3]) hd (by omega) (by simp; omega)
      simpa [List.append_assoc] using ih
theorem rof_ev (l : List S30) (b id : Int) : Ev (fun k => spileref34_Of.f k l b id) (ofE l b id) := by
  unfold spileref34_Of.f
  refine Ev.bind (rstart_ev l b) ?_
  unfold ofE
  by_cases c0 : (chkE l).2 = 0
  · rw [if_neg (show ¬ (chkE l).2 ≠ 0 from fun e => e c0)]
    have hl := (chk_ok c0).1
    have hs := rsplit_l0 l (by omega) b id l 0 [] [] rfl (Nat.le_refl _) (Nat.le_refl _)
    by_cases c1 : b = 1 ∨ b = 2
    · have e : startE l b = 0 := by
        unfold startE
        rw [if_pos c0]
        rcases c1 with rfl | rfl <;> rfl
      rw [if_neg (show ¬ ¬ (b = 1 ∨ b = 2) from fun e => e c1)]
      simp only [e, if_true]
      refine Ev.bind (g := fun k => spileref34_split.f k l b id) hs ?_
      simp only [List.nil_append]
      by_cases c2 : grp (kfE b) l id = []
      · rw [if_pos c2]
        simp only [c2, List.length_nil]
        exact Ev.const _
      · rw [if_neg c2]
        have : ¬ ((grp (kfE b) l id).length : Int) = 0 := fun e => c2 (List.eq_nil_of_length_eq_zero (by omega))
        simp only [if_neg this]
        exact Ev.const _
    · have e : startE l b = 2 := by
        unfold startE
        rw [if_pos c0, if_neg (fun e => c1 (.inl e)), if_neg (fun e => c1 (.inr e))]
      rw [if_pos c1]
      simp only [e]
      exact Ev.const _
  · have e : startE l b = 1 := by
      unfold startE
      rw [if_neg c0]
    rw [if_pos c0]
    simp only [e]
    exact Ev.const _
theorem rwith_l0 (l : List S30) (hl : l.length ≤ 1000) (b id : Int) : ∀ (suf : List S30) (i : Nat) (o : List S30), l.drop i = suf → o.length ≤ i → Ev (fun k => spileref34_Without.l0 k l b id o (i : Int)) (o ++ suf.filter (fun x => !(kfE b x == id)), 0)
  | [], i, o, h, _ => by
    have := drop_endF h
    exact Ev.succ (Ev.const _) (fun k => by rw [spileref34_Without.l0, if_neg (by omega)]; simp)
  | x :: suf, i, o, h, ho => by
    obtain ⟨hi, hx, hd⟩ := drop_atF h
    refine Ev.shift ?_
    simp only [spileref34_Without.l0, if_pos (show (i : Int) < (l.length : Int) by omega), if_pos (show 0 ≤ (i : Int) by omega), hx, rhas_eq, Option.bind_some, wrap_up (show i ≤ 1000000 by omega)]
    by_cases c : kfE b x = id
    · simp only [if_pos c]
      have ih := rwith_l0 l hl b id suf (i + 1) o hd (by omega)
      rw [List.filter_cons, if_neg (by simp [c])]
      exact ih
    · simp only [if_neg c, if_pos (show o.length < 4398046511104 by omega)]
      have ih := rwith_l0 l hl b id suf (i + 1) (o ++ [x]) hd (by simp; omega)
      rw [List.filter_cons, if_pos (by simp [c])]
      simpa [List.append_assoc] using ih
theorem rwith_ev (l : List S30) (b id : Int) : Ev (fun k => spileref34_Without.f k l b id) (withoutE l b id) := by
  unfold spileref34_Without.f withoutE
  refine Ev.bind (rof_ev l b id) ?_
  by_cases c : (ofE l b id).2.2 = 0
  · simp only [if_pos c]
    have hl := (chk_ok (of_zero c).1).1
    exact rwith_l0 l (by omega) b id l 0 [] rfl (Nat.le_refl _)
  · simp only [if_neg c]
    exact Ev.const _
theorem drop_atN {l suf : List Int} {x : Int} {i : Nat} (h : l.drop i = x :: suf) : i < l.length ∧ l.drop (i + 1) = suf := ⟨(drop_atI h).1, (drop_atI h).2.2.1⟩
theorem same_l0 (l : List Int) (hl : l.length ≤ 1000) : ∀ (suf : List Int) (i : Nat), l.drop i = suf → Ev (fun k => spileref33_Same.l0 k l l (i : Int)) true
  | [], i, h => by
    have := drop_endI h
    exact Ev.succ (Ev.const _) (fun k => by rw [spileref33_Same.l0, if_neg (by omega)])
  | x :: suf, i, h => by
    obtain ⟨hi, hx, hd, _⟩ := drop_atI h
    refine Ev.succ (same_l0 l hl suf (i + 1) hd) (fun k => ?_)
    rw [spileref33_Same.l0, if_pos (by omega), if_pos (by omega), if_pos (by omega), if_pos rfl, wrap_up (by omega)]
theorem same_ev (l : List Int) (hl : l.length ≤ 1000) : Ev (fun k => spileref33_Same.f k l l) true := by
  unfold spileref33_Same.f
  simp only [if_true]
  exact same_l0 l hl l 0 rfl
theorem sameF_l0 (l : List S30) (hl : l.length ≤ 1000) : ∀ (suf : List S30) (i : Nat), l.drop i = suf → Ev (fun k => spileref34_Same.l0 k l l (i : Int)) true
  | [], i, h => by
    have := drop_endF h
    exact Ev.succ (Ev.const _) (fun k => by rw [spileref34_Same.l0, if_neg (by omega)])
  | x :: suf, i, h => by
    obtain ⟨hi, hx, hd⟩ := drop_atF h
    refine Ev.succ (sameF_l0 l hl suf (i + 1) hd) (fun k => ?_)
    rw [spileref34_Same.l0, if_pos (by omega), if_pos (by omega), if_pos (by omega), if_neg (by simp), wrap_up (by omega)]
theorem sameF_ev (l : List S30) (hl : l.length ≤ 1000) : Ev (fun k => spileref34_Same.f k l l) true := by
  unfold spileref34_Same.f
  simp only [if_true]
  exact sameF_l0 l hl l 0 rfl
theorem clone_ev (l : List S30) (h : l.length ≤ 1000) : Ev (fun _ => clone13.f l) l := ⟨0, fun _ _ => by unfold clone13.f; rw [if_pos (by omega)]⟩
theorem fewF_cases (l : List S30) : (spileref34_Few.f l = some true ∧ (l.length ≤ 14 ∨ l.length = 25)) ∨ spileref34_Few.f l = some false := by
  unfold spileref34_Few.f
  by_cases c : (l.length : Int) ≤ 14
  · rw [if_pos c]
    exact .inl ⟨rfl, .inl (by omega)⟩
  · rw [if_neg c]
    by_cases c2 : (l.length : Int) = 25
    · exact .inl ⟨by rw [c2]; rfl, .inr (by omega)⟩
    · exact .inr (by rw [beq_eq_false_iff_ne.2 c2])
end Go.Proofs.Ytfhmjleimampeaa.K
