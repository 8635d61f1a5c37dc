/- By hand: the plain law of SealEnds. -/
import Derived.Test.YtfjenooajbdcmaaSaySealEnds
import Derived.Test.YtfjenooajbdcmaaPMem
namespace Go.Proofs.Ytfjenooajbdcmaa.K
open Go Go.RowKit Go.Proofs.YtfjenooajbdcmaaW.PrintWords Go.Proofs.Ytfjenooajbdcmaa.GM
set_option linter.unusedVariables false
set_option linter.unusedSimpArgs false
theorem ends_pure : SealEndsPure := by
  intro l t d hl ht hd
  refine Ev.one (g := fun k => spilelaw39_SealEnds.f k l t.f0 t.f1 t.f2 d) ?_
  unfold spilelaw39_SealEnds.f
  refine Ev.bind awake_ev ?_
  simp only [if_true]
  have hw := ok_of (fun x hx => (hl.2 x hx).2.2.1)
  have out : Ev (fun k => spilelaw39_SealEnds.j0 k l d true t.f0 t.f1 t.f2) true := Ev.succ (Ev.const _) (fun k => by rw [spilelaw39_SealEnds.j0, if_pos rfl])
  by_cases c : (l.length : Int) > 20
  · simp only [if_pos c]
    exact out
  · simp only [if_neg c]
    by_cases c1 : d < t.f2
    · simp only [if_pos c1]
      exact out
    · simp only [if_neg c1]
      by_cases c2 : t.f2 < t.f1
      · rw [decide_eq_true c2]
        exact out
      · rw [decide_eq_false c2]
        refine Ev.shift ?_
        simp only [spilelaw39_SealEnds.j0, if_neg (show ¬ false = true by decide), clone_f (show l.length ≤ 129 by omega), Option.bind_some, int_f hw]
        have j1t : ∀ (a b z : List Int) (e f : Int), (e ≠ 0 → a = []) → (f ≠ 0 → b = []) → (e = 0 → f = 0 → z = []) → Ev (fun k => spilelaw39_SealEnds.j1 k a e f b z true) true := by
          intro a b z e f he hf hz
          refine Ev.succ (Ev.const _) (fun k => ?_)
          rw [spilelaw39_SealEnds.j1, if_pos rfl]
          by_cases ce : e = 0
          · rw [if_pos ce]
            by_cases cf : f = 0
            · rw [if_pos cf, hz ce cf]
              rfl
            · rw [if_neg cf, hf cf]
              rfl
          · rw [if_neg ce, he ce]
            rfl
        by_cases h1 : askE l t.f0 [t.f1] = 0
        · by_cases h2 : askE l t.f0 [t.f2] = 0
          · by_cases h3 : askE l t.f0 [d] = 0
            · simp only [if_pos h1, if_pos h2, if_pos h3, if_true]
              refine Ev.succ (Ev.const _) (fun k => ?_)
              have : (contC.f (intactL l t.f0 t.f1) (intactL l t.f0 t.f2) (intactL l t.f0 d)) = some false := by
                unfold contC.f
                congr 1
                refine List.any_eq_false.2 fun x hx hb => ?_
                rw [Bool.and_eq_true] at hb
                obtain ⟨s, hs, g1, g2⟩ := (mem_own _ _ _ _).1 hx
                obtain ⟨u, hu, g3, g4⟩ := (mem_own _ _ _ _).1 ((hasI_iff _ _).1 hb.2)
                rw [hs] at hu
                injection hu with hu
                subst hu
                have : hasI (intactL l t.f0 t.f2) x = true := (hasI_iff _ _).2 ((mem_own _ _ _ _).2 ⟨s, hs, by omega, by omega⟩)
                rw [this] at hb
                cases hb.1
              simp only [bne_self_eq_false]
              rw [spilelaw39_SealEnds.j1, if_neg (by decide), this]
              rfl
            · simp only [if_pos h1, if_pos h2, if_neg h3, if_true]
              have : (askE l t.f0 [d] != 0) = true := bne_iff_ne.2 h3
              rw [this]
              exact j1t _ _ _ _ _ (fun h => absurd rfl h) (fun h => absurd rfl h) (fun _ _ => rfl)
          · simp only [if_pos h1, if_neg h2, if_true]
            exact j1t _ _ _ _ _ (fun h => absurd rfl h) (fun _ => rfl) (fun _ h => absurd h h2)
        · simp only [if_neg h1]
          refine j1t _ _ _ _ _ (fun _ => rfl) (fun h => ?_) (fun h => absurd h h1)
          split
          · rename_i h2
            rw [if_pos h2] at h
            exact absurd rfl h
          · rfl
end Go.Proofs.Ytfjenooajbdcmaa.K
namespace Go.Proofs.Ytfjenooajbdcmaa.Pure
theorem SealEnds : K.SealEndsPure := K.ends_pure
end Go.Proofs.Ytfjenooajbdcmaa.Pure
