/- By hand: two rows' outer blocks are apart both ways, where the elements have no rows inside. -/
import Derived.Test.YtefjmcljkmppoaaWWords
namespace Go.Proofs.Ytefjmcljkmppoaa.GW
open Go.RowKit Go.Proofs.YtefjmcljkmppoaaW.PrintWords
theorem R_sym {α : Type} {d : Kd α} {e : Nat} {w : World} {base : Nat} {ok : Nat → Prop} {v v' : Value} {xs : List α} (hE : d.E = []) (h : d.R e w base ok v xs) (h' : ∀ k, v'.ownBlock = some k → some k ≠ v.ownBlock) : d.R e w base (fun k => some k ≠ v'.ownBlock ∧ ok k) v xs := by
  obtain ⟨h0, inner, ho, hr⟩ := h
  refine ⟨fun k hk => ⟨fun he => h' k he.symm hk.symm, h0 k hk⟩, inner, ho, hr.imp_ (fun _ _ hp => d.M_mono (fun k hk => ?_) (d.M_bound hp))⟩
  obtain ⟨_, _, _, q, hq, _⟩ := hk
  rw [hE] at hq
  cases hq
end Go.Proofs.Ytefjmcljkmppoaa.GW
