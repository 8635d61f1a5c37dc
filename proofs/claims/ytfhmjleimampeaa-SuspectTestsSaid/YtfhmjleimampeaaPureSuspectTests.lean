/- By hand: the plain law of SuspectTests. -/
import Derived.Test.YtfhmjleimampeaaSaySuspectTests
import Derived.Test.YtfhmjleimampeaaPAwake
import Derived.Test.YtfhmjleimampeaaPRef2
namespace Go.Proofs.Ytfhmjleimampeaa.K
open Go Go.RowKit Go.Proofs.YtfhmjleimampeaaW.PrintWords
set_option linter.unusedVariables false
set_option linter.unusedSimpArgs false
theorem tests_pure : SuspectTestsPure := by
  intro l b id hl hb hid
  have hid' : (Lit.int .i64 id).wf = true := hid
  refine Ev.one (g := fun k => spilelaw34_SuspectTests.f k l b id) ?_
  unfold spilelaw34_SuspectTests.f
  refine Ev.bind awake_ev ?_
  simp only [if_true]
  rcases fewF_cases l with ⟨hF, hlen⟩ | hF
  · refine Ev.bind (g := fun _ => spileref34_Few.f l) (r := true) ⟨0, fun _ _ => hF⟩ ?_
    simp only [if_true]
    have h1000 : l.length ≤ 1000 := by omega
    have hT : Ev (fun _ => suspect_Test.f l b id) (testE l b id) := ⟨0, fun _ _ => test_some hid'⟩
    have hR : Ev (fun _ => suspect_Trend.f l id) (trendE l id) := ⟨0, fun _ _ => by unfold suspect_Trend.f; rw [if_pos hid']⟩
    refine Ev.bind (clone_ev l h1000) ?_
    refine Ev.bind hT ?_
    refine Ev.bind (rtest_ev l b id) ?_
    refine Ev.bind (clone_ev l h1000) ?_
    refine Ev.bind hR ?_
    refine Ev.bind (rtrend_ev l id) ?_
    simp only [if_true]
    exact Ev.congr (Ev.const true) (fun k => by simp)
  · refine Ev.bind (g := fun _ => spileref34_Few.f l) (r := false) ⟨0, fun _ _ => hF⟩ ?_
    simp only [Bool.false_eq_true, if_false]
    exact Ev.const true
end Go.Proofs.Ytfhmjleimampeaa.K
namespace Go.Proofs.Ytfhmjleimampeaa.Pure
theorem SuspectTests : K.SuspectTestsPure := K.tests_pure
end Go.Proofs.Ytfhmjleimampeaa.Pure
