/- By hand: the plain law of SuspectParts. -/
import Derived.Test.YtfhmjleimampeaaSaySuspectParts
import Derived.Test.YtfhmjleimampeaaPAwake
import Derived.Test.YtfhmjleimampeaaPRef1
namespace Go.Proofs.Ytfhmjleimampeaa.K
open Go Go.RowKit Go.Proofs.YtfhmjleimampeaaW.PrintWords
set_option linter.unusedVariables false
set_option linter.unusedSimpArgs false
theorem len_of (l : List S30) (b id : Int) (hl : l.length ≤ 1000) : (ofE l b id).1.length ≤ 1000 ∧ (ofE l b id).2.1.length ≤ 1000 ∧ (withoutE l b id).1.length ≤ 1000 := by
  have h1 := grp_len (kfE b) l id
  have h2 := oth_len (kfE b) l id
  have h3 := List.length_filter_le (fun x => !(kfE b x == id)) l
  refine ⟨?_, ?_, ?_⟩
  · unfold ofE
    split
    · simp
    · split
      · simp
      · split
        · simp
        · simp only; omega
  · unfold ofE
    split
    · simp
    · split
      · simp
      · split
        · simp
        · simp only; omega
  · unfold withoutE
    split
    · simp only; omega
    · simp
theorem parts_pure : SuspectPartsPure := by
  intro l b id hl hb hid
  have hid' : (Lit.int .i64 id).wf = true := hid
  refine Ev.one (g := fun k => spilelaw34_SuspectParts.f k l b id) ?_
  unfold spilelaw34_SuspectParts.f
  refine Ev.bind awake_ev ?_
  simp only [if_true]
  rcases fewF_cases l with ⟨hF, hlen⟩ | hF
  · refine Ev.bind (g := fun _ => spileref34_Few.f l) (r := true) ⟨0, fun _ _ => hF⟩ ?_
    simp only [if_true]
    have h1000 : l.length ≤ 1000 := by omega
    obtain ⟨n1, n2, n3⟩ := len_of l b id h1000
    have hO : Ev (fun _ => suspect_Of.f l b id) (ofE l b id) := ⟨0, fun _ _ => by unfold suspect_Of.f; rw [if_pos hid']⟩
    have hW : Ev (fun _ => suspect_Without.f l b id) (withoutE l b id) := ⟨0, fun _ _ => by unfold suspect_Without.f; rw [if_pos hid']⟩
    refine Ev.bind (clone_ev l h1000) ?_
    refine Ev.bind (chk_ev l) ?_
    refine Ev.bind (rchk_ev l) ?_
    refine Ev.bind (clone_ev l h1000) ?_
    refine Ev.bind hO ?_
    refine Ev.bind (rof_ev l b id) ?_
    refine Ev.bind (clone_ev l h1000) ?_
    refine Ev.bind hW ?_
    refine Ev.bind (rwith_ev l b id) ?_
    simp only [if_true]
    refine Ev.bind (same_ev _ n1) ?_
    simp only [if_true]
    refine Ev.bind (same_ev _ n2) ?_
    simp only [if_true]
    refine Ev.bind (sameF_ev _ n3) ?_
    simp only [if_true]
    exact Ev.congr (Ev.const true) (fun k => by simp)
  · refine Ev.bind (g := fun _ => spileref34_Few.f l) (r := false) ⟨0, fun _ _ => hF⟩ ?_
    simp only [Bool.false_eq_true, if_false]
    exact Ev.const true
end Go.Proofs.Ytfhmjleimampeaa.K
namespace Go.Proofs.Ytfhmjleimampeaa.Pure
theorem SuspectParts : K.SuspectPartsPure := K.parts_pure
end Go.Proofs.Ytfhmjleimampeaa.Pure
