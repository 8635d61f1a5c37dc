/- By hand: the reference's Test and Trend in plain words. -/
import Derived.Test.YtfhmjleimampeaaPRk
import Derived.Test.YtfhmjleimampeaaPRef1
import Derived.Test.YtfhmjleimampeaaK18
import Derived.Test.YtfhmjleimampeaaK19
namespace Go.Proofs.Ytfhmjleimampeaa.K
open Go Go.RowKit Go.Proofs.YtfhmjleimampeaaW.PrintWords
set_option linter.unusedVariables false
set_option linter.unusedSimpArgs false
theorem rtest_ev (l : List S30) (b id : Int) : Ev (fun k => spileref34_Test.f k l b id) (testE l b id) := by
  unfold spileref34_Test.f testE
  refine Ev.bind (rof_ev l b id) ?_
  generalize ofE l b id = z
  by_cases c : z.2.2 = 0
  · simp only [if_pos c]
    by_cases c2 : z.2.1.length = 0
    · simp only [if_pos c2, if_pos (show (z.2.1.length : Int) = 0 by omega)]
      exact Ev.const _
    · simp only [if_neg c2, if_neg (show ¬ (z.2.1.length : Int) = 0 by omega)]
      exact Ev.bind (ratl_ev z.1 z.2.1) (Ev.const _)
  · simp only [if_neg c]
    exact Ev.const _
theorem rtrend_ev (l : List S30) (c : Int) : Ev (fun k => spileref34_Trend.f k l c) (trendE l c) := by
  unfold spileref34_Trend.f trendE
  refine Ev.bind (rof_ev l 1 c) ?_
  unfold ofE
  by_cases c0 : (chkE l).2 ≠ 0
  · rw [if_pos c0, if_pos c0]
    exact Ev.const _
  · rw [if_neg c0, if_neg c0, if_neg (show ¬ ¬ ((1 : Int) = 1 ∨ (1 : Int) = 2) by omega)]
    generalize grp (kfE 1) l c = own
    by_cases c1 : own = []
    · rw [if_pos c1, if_pos (by rw [c1]; rfl)]
      exact Ev.const _
    · have c1' : ¬ own.length = 0 := fun e => c1 (List.eq_nil_of_length_eq_zero e)
      rw [if_neg c1, if_neg c1']
      simp only [if_true]
      by_cases c2 : own.length > 20
      · simp only [if_pos c2, if_pos (show (own.length : Int) > 20 by omega)]
        exact Ev.const _
      · simp only [if_neg c2, if_neg (show ¬ (own.length : Int) > 20 by omega)]
        refine Ev.bind (rrises_ev own) ?_
        refine Ev.bind (ro_ev _ _) ?_
        refine Ev.bind (ro_ev _ _) ?_
        exact Ev.const _
end Go.Proofs.Ytfhmjleimampeaa.K
