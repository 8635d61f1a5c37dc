/- By hand: the plain law of SealOnce. -/
import Derived.Test.YtfjenooajbdcmaaSaySealOnce
import Derived.Test.YtfjenooajbdcmaaPMem
namespace Go.Proofs.Ytfjenooajbdcmaa.K
open Go Go.RowKit Go.Proofs.YtfjenooajbdcmaaW.PrintWords Go.Proofs.Ytfjenooajbdcmaa.GM
set_option linter.unusedVariables false
set_option linter.unusedSimpArgs false
theorem once_loop (l : List S34) (hw : l.all wf34 = true) (hl : l.length ≤ 129) (place other day : Int) (hM : (intactL l place day).length ≤ 1000) :
    ∀ (m i : Nat), i + m = (intactL l place day).length → Ev (fun k => spilelaw39_SealOnce.l0 k l other (intactL l place day) place day (intactL l place day) ((intactL l place day).length : Int) (i : Int) place day) true
  | 0, i, h => by
    have hn : ¬ (i : Int) < ((intactL l place day).length : Int) := by omega
    refine Ev.succ (Ev.const _) (fun k => ?_)
    rw [spilelaw39_SealOnce.l0, if_neg hn, clone_f hl]
    simp only [Option.bind_some, int_f hw]
    by_cases ha : askE l other [day] = 0
    · rw [if_pos ha]
      by_cases hp : other = place
      · simp [hp]
      · have : contB.f (intactL l place day) (intactL l other day) = some false := by
          unfold contB.f
          congr 1
          refine List.any_eq_false.2 fun x hx hb => ?_
          obtain ⟨s, hs, g1, g2⟩ := (mem_own _ _ _ _).1 hx
          obtain ⟨u, hu, g3, g4⟩ := (mem_own _ _ _ _).1 ((hasI_iff _ _).1 hb)
          obtain ⟨p1, q1⟩ := own_pl hs
          obtain ⟨p2, q2⟩ := own_pl hu
          rw [q1] at q2
          injection q2 with q2
          subst q2
          exact hp (by rw [← p2, p1])
        simp only [if_neg hp, this, Option.bind_some, if_true]
        rfl
    · rw [if_neg ha]
      simp only [if_neg ha]
  | m + 1, i, h => by
    have hi : i < (intactL l place day).length := by omega
    have p1 : (i : Int) < ((intactL l place day).length : Int) := by omega
    have p2 : (0 : Int) ≤ (i : Int) := by omega
    have hx : rd (intactL l place day) (i : Int) = (intactL l place day)[i] := rdI_get _ i hi
    have ih := once_loop l hw hl place other day hM m (i + 1) (by omega)
    have hw1 : wrap64 ((i : Int) + 1) = ((i + 1 : Nat) : Int) := by unfold wrap64; omega
    have hj : Ev (fun k => spilelaw39_SealOnce.j1 k l other (intactL l place day) place day (intactL l place day) ((intactL l place day).length : Int) (i : Int) false place day) true :=
      Ev.succ ih (fun k => by rw [spilelaw39_SealOnce.j1, if_neg (by decide), hw1])
    have hc : contS.f l (rd (intactL l place day) (i : Int)) place day = some true := by
      unfold contS.f
      congr 1
      obtain ⟨s, hs, g1, g2⟩ := (mem_own _ _ _ _).1 (List.getElem_mem hi)
      obtain ⟨q1, q2⟩ := own_pl hs
      obtain ⟨x, hxl, e1, e2, e3, e4⟩ := fol_app q2
      refine List.any_eq_true.2 ⟨x, hxl, ?_⟩
      unfold appl
      rw [hx]
      simp [e1, e2, e3, e4, q1]
      omega
    refine Ev.succ hj (fun k => ?_)
    rw [spilelaw39_SealOnce.l0, if_pos p1, if_pos p2, if_pos p1, hc]
    simp only [Option.bind_some, Bool.not_true]
    by_cases c : (i : Int) > 0
    · have hw2 : wrap64 ((i : Int) - 1) = ((i - 1 : Nat) : Int) := by unfold wrap64; omega
      have hlt : (intactL l place day)[i - 1] < (intactL l place day)[i] := (List.pairwise_iff_getElem.1 (asc_intactL l place day)) (i - 1) i (by omega) hi (by omega)
      have hx2 : rd (intactL l place day) ((i - 1 : Nat) : Int) = (intactL l place day)[i - 1] := rdI_get _ (i - 1) (by omega)
      rw [if_pos c, hw2, if_pos (by omega), if_pos (by omega), if_neg (by rw [hx, hx2]; omega)]
    · rw [if_neg c]
theorem sids_len (l : List S34) : (sids l).length ≤ l.length := by
  induction l with
  | nil => simp [sids]
  | cons x l ih =>
    have : ∀ (x : Int) (l : List Int), (insU x l).length ≤ l.length + 1 := by
      intro x l
      induction l with
      | nil => simp [insU]
      | cons y l ih =>
        unfold insU
        split
        · simp
        · split
          · simp
          · simp; omega
    have h3 := this x.f2 (sids l)
    show (insU x.f2 (sids l)).length ≤ l.length + 1
    omega
theorem once_pure : SealOncePure := by
  intro l place other day hl h1 h2 h3
  refine Ev.one (g := fun k => spilelaw39_SealOnce.f k l place other day) ?_
  unfold spilelaw39_SealOnce.f
  refine Ev.bind awake_ev ?_
  simp only [if_true]
  have hw := ok_of (fun x hx => (hl.2 x hx).2.2.1)
  by_cases c : (l.length : Int) > 20
  · simp only [if_pos c]
    exact Ev.const _
  · simp only [if_neg c, clone_f (show l.length ≤ 129 by omega), Option.bind_some, int_f hw]
    have hlen : (intactL l place day).length ≤ 1000 := by
      have a1 : (intactL l place day).length ≤ (sids l).length := List.length_filter_le _ _
      have a2 := sids_len l
      omega
    by_cases ha : askE l place [day] = 0
    · simp only [if_pos ha, if_true]
      exact once_loop l hw (by omega) place other day hlen (intactL l place day).length 0 (by omega)
    · simp only [if_neg ha]
      exact Ev.const _
end Go.Proofs.Ytfjenooajbdcmaa.K
namespace Go.Proofs.Ytfjenooajbdcmaa.Pure
theorem SealOnce : K.SealOncePure := K.once_pure
end Go.Proofs.Ytfjenooajbdcmaa.Pure
