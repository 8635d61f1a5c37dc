/- By hand: the plain law of SenderTakes. -/
import Derived.Test.YtfafeeobjlkjnaaSaySenderTakes
import Derived.Test.YtfafeeobjlkjnaaPHeard
import Derived.Test.YtfafeeobjlkjnaaPAwake
namespace Go.Proofs.Ytfafeeobjlkjnaa.K
open Go.RowKit Go.Proofs.YtfafeeobjlkjnaaW.PrintWords
set_option linter.unusedVariables false
set_option linter.unusedSimpArgs false

theorem takes_pure : SenderTakesPure := by
  intro x0 x1 _ _
  refine Ev.one (g := fun k => spilelaw42_SenderTakes.f k x0.f0 x0.f1 x0.f2 x1.f0 x1.f1) ?_
  unfold spilelaw42_SenderTakes.f
  refine Ev.bind awake_ev ?_
  simp only [if_true]
  by_cases h1 : (x0.f2.length : Int) > 14
  · simp only [if_pos h1]; exact Ev.const _
  simp only [if_neg h1]
  have hl : x0.f2.length ≤ 14 := by omega
  have hcopy : spileref42_Copy.f x0.f0 x0.f1 x0.f2 = some (x0.f0, x0.f1, x0.f2) := copy_f _ _ _ (by omega)
  simp only [hcopy, Option.bind_some]
  rcases heard_or x0.f0 x0.f1 x1.f0 x1.f1 x0.f2 with ⟨e, he, hs⟩ | ⟨hc, hf, h2, h3, hs⟩
  · refine Ev.bind hs ?_
    simp only [if_neg he, if_true, List.length_nil]
    exact Ev.const _
  · obtain ⟨hn0, h4, h5, h6, hg⟩ := chk_zero hc
    refine Ev.bind hs ?_
    have hd : delf24.f x0.f2 x1.f0 x1.f1 = some (x0.f2.filter (fun x => !(x.f2 == x1.f1))) := by
      unfold delf24.f api_Envelope_21.f
      rw [if_pos (by omega)]
      rfl
    have hfl := List.length_filter_le (fun x => !(x.f2 == x1.f1)) x0.f2
    simp only [if_true, hd, Option.bind_some]
    refine Ev.bind (same_ev _ (by omega)) ?_
    simp only [if_true]
    have hc' : chk x0.f0 x0.f1 (x0.f2.filter (fun x => !(x.f2 == x1.f1))) = 0 := by
      unfold chk
      rw [if_pos hn0, if_neg (by omega), if_neg (by omega), if_neg (by omega)]
      exact goC_filter _ _ _ _ hg (fun p' e => by cases e)
    refine Ev.bind (check_ev _ _ _) ?_
    simp only [hc']
    exact Ev.const _
end Go.Proofs.Ytfafeeobjlkjnaa.K
namespace Go.Proofs.Ytfafeeobjlkjnaa.Pure
theorem SenderTakes : K.SenderTakesPure := K.takes_pure
end Go.Proofs.Ytfafeeobjlkjnaa.Pure
