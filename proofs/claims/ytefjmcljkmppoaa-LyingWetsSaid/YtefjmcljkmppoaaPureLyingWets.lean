/- By hand: the law LyingWets in plain words. -/
import Derived.Test.YtefjmcljkmppoaaPLyV
import Derived.Test.YtefjmcljkmppoaaPLyA
import Derived.Test.YtefjmcljkmppoaaSayLyingWets
import Derived.Test.YtefjmcljkmppoaaK19
namespace Go.Proofs.Ytefjmcljkmppoaa.K
open Go.RowKit Go.Proofs.YtefjmcljkmppoaaW.PrintWords
set_option linter.unusedVariables false
set_option linter.unusedSimpArgs false
theorem wets_pure (a : ByteArray) (p : Int) (l : List S39) (d dip m n : Int) : ∃ k, spilelaw11_LyingWets.f k a p l d dip m n = some true := by
  refine Ev.one ?_
  unfold spilelaw11_LyingWets.f
  refine Ev.bind awake_ev ?_
  simp only [if_true]
  refine Ev.bind (few_ev a p l d []) ?_
  cases hf : fewP a l [] with
  | false => exact (Ev.const true).congr (fun k => by rw [if_neg (by simp)])
  | true =>
    obtain ⟨⟨f1, f2⟩, f3⟩ := few_spec hf
    simp only [if_true]
    refine Ev.bind (own_ev a p l d (by omega)) ?_
    refine Ev.bind (pwet_ev a p l d dip m n) ?_
    refine Ev.bind (rwet_ev a p l d dip m n (by omega)) ?_
    refine Ev.bind (own_ev a p l d (by omega)) ?_
    refine Ev.bind (pdry_ev a p l d dip m n) ?_
    refine Ev.bind (rdry_ev a p l d dip m n (by omega)) ?_
    exact (Ev.const true).congr (fun k => by simp)
end Go.Proofs.Ytefjmcljkmppoaa.K
namespace Go.Proofs.Ytefjmcljkmppoaa.Pure
theorem LyingWets : K.LyingWetsPure := fun x0 x1 x2 x3 _ _ _ _ => K.wets_pure x0.f0 x0.f1 x0.f2 x0.f3 x1 x2 x3
end Go.Proofs.Ytefjmcljkmppoaa.Pure
