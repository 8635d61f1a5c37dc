/- By hand: the law LyingSlices in plain words. -/
import Derived.Test.YtefjmcljkmppoaaPLyC
import Derived.Test.YtefjmcljkmppoaaPLyA
import Derived.Test.YtefjmcljkmppoaaSayLyingSlices
import Derived.Test.YtefjmcljkmppoaaK21
namespace Go.Proofs.Ytefjmcljkmppoaa.K
open Go.RowKit Go.Proofs.YtefjmcljkmppoaaW.PrintWords
set_option linter.unusedVariables false
set_option linter.unusedSimpArgs false
theorem inS_len2 (m : Int) (hm : m.toNat ≤ 64) : ∀ (ss : List (S39 × S39)) (out : List Int), (ouS m ss out).length ≤ out.length + ss.length * 64
  | [], out => by simp [ouS]
  | x :: r, out => by
    have h1 := inS_len2 m hm r (inS x.1.f0 (wrap64 (x.2.f0 - x.1.f0)) m (List.range' 1 m.toNat) out)
    have h2 := inS_len x.1.f0 (wrap64 (x.2.f0 - x.1.f0)) m (List.range' 1 m.toNat) out
    rw [List.length_range'] at h2
    rw [ouS, List.length_cons]
    omega
theorem slcE_len (l : List S39) (m : Int) : (slcE l m).1.length ≤ 65 := by
  unfold slcE
  split
  · split
    · simp
    · unfold finS
      split
      · simp
      · rename_i h
        exact Nat.le_of_not_lt h
  · simp
theorem slices_pure (a : ByteArray) (p : Int) (l : List S39) (d m : Int) (v : List Int) : ∃ k, spilelaw11_LyingSlices.f k a p l d m v = some true := by
  refine Ev.one ?_
  unfold spilelaw11_LyingSlices.f
  refine Ev.bind awake_ev ?_
  simp only [if_true]
  refine Ev.bind (few_ev a p l d [v]) ?_
  cases hf : fewP a l [v] with
  | false => exact (Ev.const true).congr (fun k => by rw [if_neg (by simp)])
  | true =>
    obtain ⟨⟨f1, f2⟩, f3⟩ := few_spec hf
    have f4 := f3 v (by simp)
    simp only [if_true, cloneP_ev l (show l.length ≤ 1000000 by omega), cloneI_ev v (show v.length ≤ 1000000 by omega), Option.bind_some]
    refine Ev.bind (pslc_ev l m) ?_
    refine Ev.bind (rslc_ev l m) ?_
    refine Ev.bind (eqI_ev _ _ (Nat.le_trans (slcE_len l m) (by decide))) ?_
    simp only [decide_true, if_true]
    refine Ev.bind (own_ev a p l d (by omega)) ?_
    refine Ev.bind (lchk_ev a p l d v) ?_
    refine Ev.bind (rchk_ev a p l d v (by omega)) ?_
    exact (Ev.const true).congr (fun k => by simp)
end Go.Proofs.Ytefjmcljkmppoaa.K
namespace Go.Proofs.Ytefjmcljkmppoaa.Pure
theorem LyingSlices : K.LyingSlicesPure := fun x0 x1 x2 _ _ _ => K.slices_pure x0.f0 x0.f1 x0.f2 x0.f3 x1 x2
end Go.Proofs.Ytefjmcljkmppoaa.Pure
