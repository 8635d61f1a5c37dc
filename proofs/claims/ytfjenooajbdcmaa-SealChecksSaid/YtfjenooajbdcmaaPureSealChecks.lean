/- By hand: the plain law of SealChecks. -/
import Derived.Test.YtfjenooajbdcmaaSaySealChecks
import Derived.Test.YtfjenooajbdcmaaPAwake
import Derived.Test.YtfjenooajbdcmaaPSeal
namespace Go.Proofs.Ytfjenooajbdcmaa.K
open Go Go.RowKit Go.Proofs.YtfjenooajbdcmaaW.PrintWords Go.Proofs.Ytfjenooajbdcmaa.GM
set_option linter.unusedVariables false
set_option linter.unusedSimpArgs false
theorem ok_all {l : List S34} (h : ok22 l) : l.all wf34 = true := List.all_eq_true.2 fun x hx => (h.2 x hx).2.2.1
theorem few_f (l : List S34) : ∃ u, spileref39_Few.f l = some u ∧ (u = true → l.length ≤ 129) := by
  unfold spileref39_Few.f
  by_cases c : (l.length : Int) ≤ 20
  · rw [if_pos c]
    exact ⟨true, rfl, fun _ => by omega⟩
  · rw [if_neg c]
    exact ⟨_, rfl, fun h => by have := beq_iff_eq.1 h; omega⟩
def addE (l : List S34) (e : S34) : List S34 × Int := if (fol l).2.2 = 0 then (if (fol (l ++ [e])).2.2 = 0 then (l ++ [e], 0) else ([], (fol (l ++ [e])).2.2)) else ([], 1)
def histE (l : List S34) (n : Int) : List S34 × Int := if (fol l).2.2 ≠ 0 then ([], 1) else if (histL l n).length = 0 then ([], 7) else (histL l n, 0)
section
variable {l : List S34} (hl : l.length ≤ 129) (hw : l.all wf34 = true)
include hl hw
theorem add_f {e : S34} (he : wf34 e = true) : seal_Add.f l e.f0 e.f1 e.f2 e.f3 = some (addE l e) := by
  have hw2 : (l ++ [e]).all wf34 = true := by rw [List.all_append, hw]; simp [he]
  unfold seal_Add.f addE
  rw [chk_f hw]
  simp only [Option.bind_some]
  by_cases c : (fol l).2.2 = 0
  · rw [if_pos c, if_pos c, clone_f hl]
    simp only [Option.bind_some]
    have e1 : (⟨e.f0, e.f1, e.f2, e.f3⟩ : S34) = e := rfl
    rw [e1, if_pos (by simp; omega), chk_f hw2]
    simp only [Option.bind_some]
    split <;> rfl
  · rw [if_neg c, if_neg c]
omit hl in
theorem hist_f (n : Int) : seal_History.f l n = some (histE l n) := by
  unfold seal_History.f histE
  rw [if_pos hw]
  split
  · rfl
  · split <;> rfl
omit hw in
theorem add_ref (e : S34) : Ev (fun k => spileref39_Add.f k l e.f0 e.f1 e.f2 e.f3) (addE l e) := by
  unfold spileref39_Add.f addE
  refine Ev.bind (right_ev l (by omega)) ?_
  by_cases c : (fol l).2.2 = 0
  · simp only [if_pos (show ((fol l).2.2 == 0) = true by rw [c]; rfl), if_pos c, Option.bind_some, List.nil_append]
    have e1 : (⟨e.f0, e.f1, e.f2, e.f3⟩ : S34) = e := rfl
    simp only [e1, if_pos (show ([] : List S34).length + l.length < 4398046511104 by simp; omega), if_pos (show l.length + [e].length < 4398046511104 by simp; omega)]
    refine Ev.bind (check_ev (l ++ [e]) (by simp; omega)) ?_
    by_cases c2 : (fol (l ++ [e])).2.2 = 0
    · simp only [if_pos c2]
      exact Ev.const _
    · simp only [if_neg c2]
      exact Ev.const _
  · simp only [if_neg (show ¬ ((fol l).2.2 == 0) = true by simp [c]), if_neg c]
    exact Ev.const _
omit hw in
theorem hist_l0 (n : Int) : ∀ (suf : List S34) (i : Nat) (out : List S34), l.drop i = suf → out.length ≤ i →
    Ev (fun k => spileref39_History.l0 k l n out (i : Int)) (if (out ++ histL suf n).length = 0 then ([], 7) else (out ++ histL suf n, 0))
  | [], i, out, h, ho => by
    have := drop_end h
    refine Ev.succ (Ev.const _) (fun k => ?_)
    rw [spileref39_History.l0, if_neg (by omega)]
    simp only [histL, List.filter_nil, List.append_nil]
    by_cases c : out.length = 0
    · rw [if_pos (by omega), if_pos c]
    · rw [if_neg (by omega), if_neg c]
  | x :: suf, i, out, h, ho => by
    obtain ⟨hi, hx, hd, _⟩ := drop_at h
    have p1 : (0 : Int) ≤ (i : Int) := by omega
    have p2 : (i : Int) < (l.length : Int) := by omega
    have hwr := wrap_up (show i ≤ 1000 by omega)
    by_cases c : x.f2 = n
    · have e : out ++ histL (x :: suf) n = (out ++ [x]) ++ histL suf n := by
        unfold histL
        simp [List.filter_cons, c]
      rw [e]
      refine Ev.succ (hist_l0 n suf (i + 1) (out ++ [x]) hd (by simp; omega)) (fun k => ?_)
      rw [spileref39_History.l0, if_pos p2, if_pos p1, hx, if_pos c, if_pos (by omega), hwr]
    · have e : histL (x :: suf) n = histL suf n := by
        unfold histL
        simp [List.filter_cons, c]
      rw [e]
      refine Ev.succ (hist_l0 n suf (i + 1) out hd (by omega)) (fun k => ?_)
      rw [spileref39_History.l0, if_pos p2, if_pos p1, hx, if_neg c, hwr]
omit hw in
theorem hist_ref (n : Int) : Ev (fun k => spileref39_History.f k l n) (histE l n) := by
  unfold spileref39_History.f histE
  refine Ev.bind (right_ev l (by omega)) ?_
  by_cases c : (fol l).2.2 = 0
  · simp only [if_pos (show ((fol l).2.2 == 0) = true by rw [c]; rfl)]
    rw [if_neg (by simp [c])]
    have := hist_l0 (l := l) hl n l 0 [] rfl (by simp)
    simpa using this
  · simp only [if_neg (show ¬ ((fol l).2.2 == 0) = true by simp [c])]
    rw [if_pos c]
    exact Ev.const _
end
theorem same39_l0 (a : List S34) (ha : a.length ≤ 1000) : ∀ (suf : List S34) (i : Nat), a.drop i = suf → Ev (fun k => spileref39_Same.l0 k a a (i : Int)) true
  | [], i, h => by
    have := drop_end h
    exact Ev.succ (Ev.const _) (fun k => by rw [spileref39_Same.l0, if_neg (by omega)])
  | x :: suf, i, h => by
    obtain ⟨hi, hx, hd, _⟩ := drop_at h
    refine Ev.succ (same39_l0 a ha suf (i + 1) hd) (fun k => ?_)
    rw [spileref39_Same.l0, if_pos (by omega), if_pos (by omega), if_pos (by omega), wrap_up (by omega)]
    simp
theorem same39 (a : List S34) (ha : a.length ≤ 1000) : Ev (fun k => spileref39_Same.f k a a) true := by
  unfold spileref39_Same.f
  simp only [if_true]
  exact same39_l0 a ha a 0 rfl
theorem checks_pure : SealChecksPure := by
  intro l e n hl he hn
  refine Ev.one (g := fun k => spilelaw39_SealChecks.f k l e.f0 e.f1 e.f2 e.f3 n) ?_
  unfold spilelaw39_SealChecks.f
  refine Ev.bind awake_ev ?_
  have hw := ok_all hl
  have hwe : wf34 e = true := he.2.2.1
  obtain ⟨u, hu, hu2⟩ := few_f l
  simp only [hu, Option.bind_some, if_true]
  cases u with
  | false => simpa using Ev.const true
  | true =>
    have h129 := hu2 rfl
    have ha : (addE l e).1.length ≤ 1000 := by
      unfold addE
      split
      · split
        · simp; omega
        · simp
      · simp
    have hh : (histE l n).1.length ≤ 1000 := by
      unfold histE
      split
      · simp
      · split
        · simp
        · have := List.length_filter_le (fun x : S34 => !(x.f2 != n)) l
          show (histL l n).length ≤ 1000
          unfold histL
          omega
    simp only [if_true, clone_f h129, Option.bind_some, chk_f hw, add_f h129 hw hwe, hist_f hw]
    refine Ev.bind (check_ev l (by omega)) ?_
    refine Ev.bind (add_ref h129 e) ?_
    refine Ev.bind (hist_ref h129 n) ?_
    simp only [if_true]
    refine Ev.bind (same39 _ ha) ?_
    simp only [if_true]
    refine Ev.bind (same39 _ hh) ?_
    simp only [if_true, beq_self_eq_true]
    exact Ev.const _
end Go.Proofs.Ytfjenooajbdcmaa.K
namespace Go.Proofs.Ytfjenooajbdcmaa.Pure
theorem SealChecks : K.SealChecksPure := K.checks_pure
end Go.Proofs.Ytfjenooajbdcmaa.Pure
