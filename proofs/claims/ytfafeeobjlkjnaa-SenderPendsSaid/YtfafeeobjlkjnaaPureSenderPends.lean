/- By hand: the plain law of SenderPends. -/
import Derived.Test.YtfafeeobjlkjnaaSaySenderPends
import Derived.Test.YtfafeeobjlkjnaaPLaw
import Derived.Test.YtfafeeobjlkjnaaPAwake
import Derived.Test.YtfafeeobjlkjnaaPSend
namespace Go.Proofs.Ytfafeeobjlkjnaa.K
open Go.RowKit Go.Proofs.YtfafeeobjlkjnaaW.PrintWords
set_option linter.unusedVariables false
set_option linter.unusedSimpArgs false

theorem pends_pure : SenderPendsPure := by
  intro x0 x1 x2 _ _ _
  refine Ev.one (g := fun k => spilelaw42_SenderPends.f k x0.f0 x0.f1 x0.f2 x1 x2.f0 x2.f1 x2.f2 x2.f3 x2.f4 x2.f5 x2.f6) ?_
  unfold spilelaw42_SenderPends.f
  refine Ev.bind awake_ev ?_
  simp only [if_true]
  by_cases h1 : (x0.f2.length : Int) > 14
  · simp only [if_pos h1]; exact Ev.const _
  simp only [if_neg h1]
  have hl : x0.f2.length ≤ 14 := by omega
  have hcopy : spileref42_Copy.f x0.f0 x0.f1 x0.f2 = some (x0.f0, x0.f1, x0.f2) := copy_f _ _ _ (by omega)
  simp only [hcopy, Option.bind_some]
  rcases send_or x0.f0 x0.f1 x1 x0.f2 x2.f0 x2.f1 x2.f2 x2.f3 x2.f4 x2.f5 x2.f6 with ⟨e, he, hs⟩ | ⟨hc, hto, hne, hd, _, hn⟩
  · refine Ev.bind hs ?_
    simp only [if_neg he, if_true, List.length_nil, Int.cast_ofNat_Int, Int.ofNat_zero]
    exact Ev.const _
  · obtain ⟨hn0, h3, h4, h5, hg⟩ := chk_zero hc
    refine Ev.bind (send_ok hc hto hne hd (by omega) h3 hn) ?_
    have hw : wrap64 (x0.f1 + 1) = x0.f1 + 1 := wrap_in _ (by omega) (by omega)
    have hcl : api_Envelope_21.f x0.f2 = some x0.f2 := by unfold api_Envelope_21.f; rw [if_pos (by omega)]
    have hlen : (x0.f2 ++ [(⟨x0.f0, x1, x0.f1, ⟨x2.f0, x2.f1, x2.f2, x2.f3, x2.f4, x2.f5, x2.f6⟩⟩ : S33)]).length = x0.f2.length + 1 := by simp
    have hy := echk_ok hn0 hto hne h3 hn hd
    have hg' := goC_snoc hy rfl rfl x0.f2 none (fun p hp => by cases hp) hg
    have hlt := goC_lt x0.f2 none hg
    have hc' : chk x0.f0 (x0.f1 + 1) (x0.f2 ++ [⟨x0.f0, x1, x0.f1, ⟨x2.f0, x2.f1, x2.f2, x2.f3, x2.f4, x2.f5, x2.f6⟩⟩]) = 0 := by
      unfold chk
      rw [if_pos hn0, if_neg (by omega), if_neg (by omega), if_neg (by simp; omega), hg']
    have hlen1 : x0.f2.length + 1 < 1759218604441 := by omega
    simp only [if_true, beq_self_eq_true, Bool.not_true, Bool.or_self, Bool.false_eq_true, if_false, hw, hcl, Option.bind_some, List.length_singleton, List.length_cons, List.length_nil, if_pos hlen1, Nat.zero_add]
    refine Ev.bind (same_ev _ (by rw [hlen]; omega)) ?_
    simp only [if_true]
    have hcopy' := copy_f x0.f0 (x0.f1 + 1) (x0.f2 ++ [(⟨x0.f0, x1, x0.f1, ⟨x2.f0, x2.f1, x2.f2, x2.f3, x2.f4, x2.f5, x2.f6⟩⟩ : S33)]) (by rw [hlen]; omega)
    simp only [hcopy', Option.bind_some]
    refine Ev.bind (check_ev _ _ _) ?_
    simp only [hc']
    refine Ev.succ (g' := _) ?_ (fun k => by rw [spilelaw42_SenderPends.j0, if_neg (by decide)])
    refine Ev.bind (heard_last hc' (by omega) hlt h3 (by show x0.f1 < x0.f1 + 1; omega)) ?_
    simp only [if_true]
    refine Ev.bind (same_ev _ (by omega)) ?_
    simp only [if_true, beq_self_eq_true]
    exact Ev.const _
end Go.Proofs.Ytfafeeobjlkjnaa.K
namespace Go.Proofs.Ytfafeeobjlkjnaa.Pure
theorem SenderPends : K.SenderPendsPure := K.pends_pure
end Go.Proofs.Ytfafeeobjlkjnaa.Pure
