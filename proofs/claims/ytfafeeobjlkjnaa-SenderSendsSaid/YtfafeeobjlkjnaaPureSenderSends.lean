import Derived.Test.YtfafeeobjlkjnaaPLaw
import Derived.Test.YtfafeeobjlkjnaaK7
import Derived.Test.YtfafeeobjlkjnaaK9
import Derived.Test.YtfafeeobjlkjnaaK12
import Derived.Test.YtfafeeobjlkjnaaKRSend
import Derived.Test.YtfafeeobjlkjnaaSaySenderSends
import Derived.Test.YtfafeeobjlkjnaaPAwake
/- By hand: the reference functions of the sender's chapter tell what the program's functions tell. -/
namespace Go.Proofs.Ytfafeeobjlkjnaa.K
open Go.RowKit Go.Proofs.YtfafeeobjlkjnaaW.PrintWords
set_option linter.unusedVariables false
set_option linter.unusedSimpArgs false

theorem send_ok {node next dst : Int} {P : List S33} {m0 m1 m2 m3 m4 m5 m6 : Int} (hc : chk node next P = 0) (hto : nodeB dst = true) (hne : dst ≠ node) (hd : dchk m0 m1 m2 m3 m4 m5 m6 = 0) (hl : P.length < 64) (h0 : 1 ≤ next) (hn : next ≤ 1073741824) :
    Ev (fun k => sender_Send.f k node next P dst m0 m1 m2 m3 m4 m5 m6) (node, next + 1, P ++ [⟨node, dst, next, ⟨m0, m1, m2, m3, m4, m5, m6⟩⟩], node, dst, next, m0, m1, m2, m3, m4, m5, m6, 0) := by
  unfold sender_Send.f
  refine Ev.bind (check_ev _ _ _) ?_
  simp only [hc, if_true, node_f, Option.bind_some, hto, if_neg hne]
  refine Ev.bind (doc_ev _ _ _ _ _ _ _) ?_
  simp only [hd, if_true]
  have h1 : ¬ (P.length : Int) = 64 := by omega
  have h2 : ¬ next > 1073741824 := by omega
  simp only [if_neg h1, if_neg h2]
  refine Ev.succ (g' := fun _ => some _) (Ev.const _) (fun k => ?_)
  have h3 : P.length < 1759218604441 := by omega
  have hw : wrap64 (next + 1) = next + 1 := wrap_in _ (by omega) (by omega)
  rw [sender_Send.j0, if_pos rfl]
  simp only [sender_own.f, api_Envelope_21.f, if_pos h3, Option.bind_some, hw]
theorem copy_f (a b : Int) (l : List S33) (h : l.length < 1759218604441) : spileref42_Copy.f a b l = some (a, b, l) := by
  unfold spileref42_Copy.f
  simp only [Option.bind_some, List.length_nil, Nat.zero_add, List.nil_append, if_pos h]
theorem chk_zero {node next : Int} {l : List S33} (h : chk node next l = 0) : nodeB node = true ∧ 1 ≤ next ∧ next ≤ 1073741825 ∧ l.length ≤ 64 ∧ goC node next none l = 0 := by
  unfold chk at h
  by_cases h0 : nodeB node = true
  · rw [if_pos h0] at h
    by_cases h1 : next < 1
    · rw [if_pos h1] at h; cases h
    · rw [if_neg h1] at h
      by_cases h2 : next > 1073741825
      · rw [if_pos h2] at h; cases h
      · rw [if_neg h2] at h
        by_cases h3 : l.length > 64
        · rw [if_pos h3] at h; cases h
        · rw [if_neg h3] at h
          exact ⟨h0, by omega, by omega, by omega, h⟩
  · rw [if_neg h0] at h; cases h
theorem refnode_f (n : Int) : spileref40_Node.f n = some (nodeB n) := node_f n
theorem ref40_core (b : Bool) (a0 a1 a2 a3 a4 a5 a6 : Int) : spileref40_Check.j0 4 b a0 a1 a2 a3 a4 a5 a6 = document_Check.j0 3 b a0 a1 a2 a3 a4 a5 a6 := by
  cases b with
  | true => rfl
  | false =>
    simp only [document_Check.j0, document_Check.j1, spileref40_Check.j0, spileref40_Check.j1, spileref40_Check.j2, refnode_f, docnode_f, Option.bind_some, beq_self_eq_true, Bool.not_true, Bool.false_or, Bool.or_false, Bool.false_eq_true, if_false, decide_eq_true_eq]
    by_cases k1 : a1 = 1
    · simp only [if_pos k1]
      by_cases n0 : a2 = 0
      · have e : (a2 == 0) = true := by simp [n0]
        simp only [if_pos n0, e, Bool.not_true, Bool.false_eq_true, if_false, ite_self]
      · have e : (a2 == 0) = false := by simp [n0]
        simp only [if_neg n0, e, Bool.not_false, if_true, ite_self]
    · simp only [if_neg k1]
      by_cases k2 : a1 = 2
      · simp only [if_pos k2, ite_self]
        by_cases f0 : a4 = 0
        · have e : (a4 == 0) = true := by simp [f0]
          simp only [if_pos f0, e, Bool.not_true, Bool.false_or, beq_iff_eq]
          by_cases z : a6 = 0
          · have e6 : (a6 == 0) = true := by simp [z]
            simp [z]
          · have e6 : (a6 == 0) = false := by simp [z]
            simp only [e6, Bool.not_false, if_true, z, if_false, ite_self]
        · have e : (a4 == 0) = false := by simp [f0]
          simp only [if_neg f0, e, Bool.not_false, Bool.true_or, if_true, ite_self]
      · simp only [if_neg k2]
        by_cases k3 : a1 = 3
        · simp only [if_pos k3]
          by_cases n0 : a2 = 0 <;> by_cases f0 : a4 = 0 <;> by_cases t0 : a5 = 0 <;> simp [n0, f0, t0]
        · simp only [if_neg k3, if_true]
          by_cases n0 : a2 = 0 <;> by_cases f0 : a4 = 0 <;> by_cases t0 : a5 = 0 <;> by_cases z : a6 = 0 <;> simp [n0, f0, t0, z]
theorem ref40_ev (a0 a1 a2 a3 a4 a5 a6 : Int) : Ev (fun k => spileref40_Check.f k a0 a1 a2 a3 a4 a5 a6) (dchk a0 a1 a2 a3 a4 a5 a6) := by
  refine Ev.of_mono (k := 4) (fun k => spileref40_Check.mono _ _ _ _ _ _ _ _) ?_
  rw [← doc_some]
  unfold spileref40_Check.f document_Check.f
  simp only [ref40_core]
theorem form_ev (x : S33) : Ev (fun k => spileref41_Form.f k x.f0 x.f1 x.f2 x.f3.f0 x.f3.f1 x.f3.f2 x.f3.f3 x.f3.f4 x.f3.f5 x.f3.f6) (echk x) := by
  have j1 : ∀ (e : Int), e = 2 → Ev (fun k => spileref41_Form.j0 k true x.f0 x.f1 x.f2 x.f3.f0 x.f3.f1 x.f3.f2 x.f3.f3 x.f3.f4 x.f3.f5 x.f3.f6) e := by
    rintro _ rfl
    exact Ev.succ (g' := fun _ => some 2) (Ev.const _) (fun k => by rw [spileref41_Form.j0]; rfl)
  have hn : ∀ n : Int, nodeB n = true ↔ 1 ≤ n ∧ n ≤ 99 := fun n => decide_eq_true_iff
  unfold spileref41_Form.f
  simp only [refnode_f, Option.bind_some]
  by_cases h0 : nodeB x.f0 = true
  · have a0 := (hn _).1 h0
    simp only [if_pos h0]
    by_cases h1 : nodeB x.f1 = true
    · have a1 := (hn _).1 h1
      simp only [if_pos h1]
      have e0 : echk x = if x.f2 < 1 then 2 else if x.f2 > 1073741824 then 2 else if x.f0 = x.f1 then 10 else if dchk x.f3.f0 x.f3.f1 x.f3.f2 x.f3.f3 x.f3.f4 x.f3.f5 x.f3.f6 = 0 then 0 else 1 := by
        unfold echk
        rw [if_neg (by omega), if_neg (by omega), if_neg (by omega), if_neg (by omega)]
      rw [e0]
      by_cases h2 : x.f2 < 1
      · simp only [if_pos h2]
        exact j1 2 rfl
      · simp only [if_neg h2]
        by_cases h3 : x.f2 > 1073741824
        · simp only [if_pos h3, h3, decide_true]
          exact j1 2 rfl
        · simp only [if_neg h3, h3, decide_false]
          refine Ev.succ (g' := _) ?_ (fun k => by rw [spileref41_Form.j0, if_neg (by decide)])
          by_cases h4 : x.f0 = x.f1
          · simp only [if_pos h4]
            exact Ev.const _
          · simp only [if_neg h4]
            refine Ev.bind (ref40_ev _ _ _ _ _ _ _) ?_
            by_cases h5 : dchk x.f3.f0 x.f3.f1 x.f3.f2 x.f3.f3 x.f3.f4 x.f3.f5 x.f3.f6 = 0
            · simp only [if_pos h5]
              exact Ev.const _
            · simp only [if_neg h5]
              exact Ev.const _
    · simp only [if_neg h1]
      refine j1 _ ?_
      have : ¬ (1 ≤ x.f1 ∧ x.f1 ≤ 99) := fun h => h1 ((hn _).2 h)
      unfold echk
      rw [if_neg (by omega), if_neg (by omega)]
      by_cases h : x.f1 < 1
      · rw [if_pos h]
      · rw [if_neg h, if_pos (by omega)]
  · simp only [if_neg h0]
    refine j1 _ ?_
    have : ¬ (1 ≤ x.f0 ∧ x.f0 ≤ 99) := fun h => h0 ((hn _).2 h)
    unfold echk
    by_cases h : x.f0 < 1
    · rw [if_pos h]
    · rw [if_neg h, if_pos (by omega)]
theorem rcheck_l0 (l : List S33) (node next : Int) (hl : l.length ≤ 64) : ∀ (d i : Nat), i + d = l.length → Ev (fun k => spileref42_Check.l0 k (i : Int) node next l) (goC node next (prevAt l i) (l.drop i))
  | 0, i, h => by
    have hd : l.drop i = [] := List.drop_eq_nil_of_le (by omega)
    rw [hd]
    refine Ev.succ (g' := fun k => some 0) (Ev.const _) (fun k => ?_)
    rw [spileref42_Check.l0, if_neg (by omega)]
  | d + 1, i, h => by
    have hi : i < l.length := by omega
    have h1 : (i : Int) < (l.length : Int) := by omega
    have h0 : (0 : Int) ≤ (i : Int) := by omega
    have hx : rd_T33 l (i : Int) = l[i] := rd_get l i hi
    have ih := rcheck_l0 l node next hl d (i + 1) (by omega)
    rw [List.drop_eq_getElem_cons hi]
    have hw : wrap64 ((i : Int) + 1) = ((i + 1 : Nat) : Int) := by rw [wrap_in _ (by omega) (by omega)]; omega
    have hp : prevAt l (i + 1) = some (l[i]).f2 := by
      unfold prevAt
      rw [if_neg (by omega), show ((i + 1 : Nat) : Int) - 1 = (i : Int) by omega, hx]
    rw [hp] at ih
    refine Ev.succ (g' := _) ?_ (fun k => by rw [spileref42_Check.l0, if_pos h1, if_pos h0, hx])
    refine Ev.bind (form_ev l[i]) ?_
    unfold goC
    by_cases he : echk l[i] = 0
    · simp only [if_pos he]
      by_cases hf : (l[i]).f0 = node
      · simp only [if_pos hf]
        have j2 : ∀ b : Bool, Ev (fun k => spileref42_Check.j2 k (i : Int) b node next l) (if b = true then 5 else goC node next (some (l[i]).f2) (l.drop (i + 1))) := by
          intro b
          cases b with
          | true => exact Ev.succ (g' := fun _ => some 5) (Ev.const _) (fun k => by rw [spileref42_Check.j2]; rfl)
          | false => exact Ev.succ ih (fun k => by rw [spileref42_Check.j2, hw]; rfl)
        by_cases h2 : (i : Int) > 0
        · have hpv : prevAt l i = some (rd_T33 l ((i : Int) - 1)).f2 := by unfold prevAt; rw [if_neg (by omega)]
          have hw1 : wrap64 ((i : Int) - 1) = (i : Int) - 1 := wrap_in _ (by omega) (by omega)
          have h3 : (0 : Int) ≤ (i : Int) - 1 := by omega
          have h4 : (i : Int) - 1 < (l.length : Int) := by omega
          simp only [if_pos h2, hw1, if_pos h3, if_pos h4, hpv]
          by_cases h5 : (rd_T33 l ((i : Int) - 1)).f2 ≥ (l[i]).f2
          · simp only [if_pos h5]
            rw [if_pos (Or.inl ⟨_, rfl, h5⟩)]
            exact j2 true
          · simp only [if_neg h5]
            have := j2 (decide ((l[i]).f2 ≥ next))
            by_cases h6 : (l[i]).f2 ≥ next
            · rw [if_pos (Or.inr h6)]
              simpa [h6] using this
            · rw [if_neg (fun hc => hc.elim (fun ⟨p, hp, hq⟩ => h5 (by injection hp with hp; rw [hp]; exact hq)) h6)]
              simpa [h6] using this
        · have hpv : prevAt l i = none := by unfold prevAt; rw [if_pos (by omega)]
          simp only [if_neg h2, hpv]
          have := j2 (decide ((l[i]).f2 ≥ next))
          by_cases h6 : (l[i]).f2 ≥ next
          · rw [if_pos (Or.inr h6)]
            simpa [h6] using this
          · rw [if_neg (fun hc => hc.elim (fun ⟨p, hp, hq⟩ => by cases hp) h6)]
            simpa [h6] using this
      · simp only [if_neg hf]
        exact Ev.const _
    · simp only [if_neg he]
      exact Ev.const _
theorem rcheck_ev (node next : Int) (l : List S33) : Ev (fun k => spileref42_Check.f k node next l) (chk node next l) := by
  have j1 : Ev (fun k => spileref42_Check.j0 k true node next l) 2 := Ev.succ (g' := fun _ => some 2) (Ev.const _) (fun k => by rw [spileref42_Check.j0]; rfl)
  unfold chk
  simp only [spileref42_Check.f, refnode_f, Option.bind_some]
  by_cases hn : nodeB node = true
  · simp only [if_pos hn]
    by_cases h1 : next < 1
    · simp only [if_pos h1]; exact j1
    · simp only [if_neg h1]
      by_cases h2 : next > 1073741825
      · simp only [if_pos h2, h2, decide_true]; exact j1
      · simp only [if_neg h2, h2, decide_false]
        by_cases h3 : l.length > 64
        · rw [if_pos h3]
          exact Ev.succ (g' := fun _ => some 8) (Ev.const _) (fun k => by rw [spileref42_Check.j0, if_neg (by decide), if_pos (by omega)])
        · rw [if_neg h3]
          exact Ev.succ (rcheck_l0 l node next (by omega) l.length 0 (by omega)) (fun k => by rw [spileref42_Check.j0, if_neg (by decide), if_neg (by omega)]; rfl)
  · simp only [if_neg hn]; exact j1
end Go.Proofs.Ytfafeeobjlkjnaa.K
/- By hand: what Send of the reference tells; equal outboxes. -/
namespace Go.Proofs.Ytfafeeobjlkjnaa.K
open Go.RowKit Go.Proofs.YtfafeeobjlkjnaaW.PrintWords
set_option linter.unusedVariables false
set_option linter.unusedSimpArgs false

def sendS (node next dst : Int) (P : List S33) (m0 m1 m2 m3 m4 m5 m6 : Int) : Int × Int × List S33 × Int × Int × Int × Int × Int × Int × Int × Int × Int × Int × Int :=
  if chk node next P = 0 then (if nodeB dst = true then (if dst = node then (0, 0, [], 0, 0, 0, 0, 0, 0, 0, 0, 0, 0, 10) else (if dchk m0 m1 m2 m3 m4 m5 m6 = 0 then (if (P.length : Int) = 64 then (0, 0, [], 0, 0, 0, 0, 0, 0, 0, 0, 0, 0, 12) else (if next > 1073741824 then (0, 0, [], 0, 0, 0, 0, 0, 0, 0, 0, 0, 0, 15) else
    (node, next + 1, P ++ [⟨node, dst, next, ⟨m0, m1, m2, m3, m4, m5, m6⟩⟩], node, dst, next, m0, m1, m2, m3, m4, m5, m6, 0))) else (0, 0, [], 0, 0, 0, 0, 0, 0, 0, 0, 0, 0, 11))) else (0, 0, [], 0, 0, 0, 0, 0, 0, 0, 0, 0, 0, 2)) else (0, 0, [], 0, 0, 0, 0, 0, 0, 0, 0, 0, 0, 1)
theorem send_spec (node next dst : Int) (P : List S33) (m0 m1 m2 m3 m4 m5 m6 : Int) : Ev (fun k => sender_Send.f k node next P dst m0 m1 m2 m3 m4 m5 m6) (sendS node next dst P m0 m1 m2 m3 m4 m5 m6) := by
  have j : ∀ e : Int, e ≠ 0 → Ev (fun k => sender_Send.j0 k dst e node next P m0 m1 m2 m3 m4 m5 m6) (0, 0, ([] : List S33), 0, 0, 0, 0, 0, 0, 0, 0, 0, 0, e) := fun e he =>
    Ev.succ (g' := fun _ => some _) (Ev.const _) (fun k => by rw [sender_Send.j0, if_neg he])
  unfold sendS
  by_cases hc : chk node next P = 0
  · by_cases hto : nodeB dst = true
    · by_cases hne : dst = node
      · rw [if_pos hc, if_pos hto, if_pos hne]
        unfold sender_Send.f
        refine Ev.bind (check_ev _ _ _) ?_
        simp only [hc, if_true, node_f, Option.bind_some, hto, if_pos hne]
        exact j 10 (by decide)
      · by_cases hd : dchk m0 m1 m2 m3 m4 m5 m6 = 0
        · by_cases h1 : (P.length : Int) = 64
          · rw [if_pos hc, if_pos hto, if_neg hne, if_pos hd, if_pos h1]
            unfold sender_Send.f
            refine Ev.bind (check_ev _ _ _) ?_
            simp only [hc, if_true, node_f, Option.bind_some, hto, if_neg hne]
            refine Ev.bind (doc_ev _ _ _ _ _ _ _) ?_
            simp only [hd, if_true, if_pos h1]
            exact j 12 (by decide)
          · by_cases h2 : next > 1073741824
            · rw [if_pos hc, if_pos hto, if_neg hne, if_pos hd, if_neg h1, if_pos h2]
              unfold sender_Send.f
              refine Ev.bind (check_ev _ _ _) ?_
              simp only [hc, if_true, node_f, Option.bind_some, hto, if_neg hne]
              refine Ev.bind (doc_ev _ _ _ _ _ _ _) ?_
              simp only [hd, if_true, if_neg h1, if_pos h2]
              exact j 15 (by decide)
            · rw [if_pos hc, if_pos hto, if_neg hne, if_pos hd, if_neg h1, if_neg h2]
              obtain ⟨_, q1, q2, q3, _⟩ := chk_zero hc
              exact send_ok hc hto hne hd (by omega) q1 (by omega)
        · rw [if_pos hc, if_pos hto, if_neg hne, if_neg hd]
          unfold sender_Send.f
          refine Ev.bind (check_ev _ _ _) ?_
          simp only [hc, if_true, node_f, Option.bind_some, hto, if_neg hne]
          refine Ev.bind (doc_ev _ _ _ _ _ _ _) ?_
          simp only [if_neg hd]
          exact j 11 (by decide)
    · rw [if_pos hc, if_neg hto]
      unfold sender_Send.f
      refine Ev.bind (check_ev _ _ _) ?_
      simp only [hc, if_true, node_f, Option.bind_some, if_neg hto]
      exact j 2 (by decide)
  · rw [if_neg hc]
    unfold sender_Send.f
    refine Ev.bind (check_ev _ _ _) ?_
    simp only [if_neg hc]
    exact j 1 (by decide)
theorem rsend_spec (node next dst : Int) (P : List S33) (m0 m1 m2 m3 m4 m5 m6 : Int) : Ev (fun k => spileref42_Send.f k node next P dst m0 m1 m2 m3 m4 m5 m6) (sendS node next dst P m0 m1 m2 m3 m4 m5 m6) := by
  unfold spileref42_Send.f
  refine Ev.bind (rcheck_ev _ _ _) ?_
  unfold sendS
  by_cases hc : chk node next P = 0
  · simp only [if_pos hc, refnode_f, Option.bind_some]
    obtain ⟨_, q1, q2, q3, _⟩ := chk_zero hc
    by_cases hto : nodeB dst = true
    · simp only [if_pos hto]
      by_cases hne : dst = node
      · simp only [if_pos hne]; exact Ev.const _
      · simp only [if_neg hne]
        refine Ev.bind (ref40_ev _ _ _ _ _ _ _) ?_
        by_cases hd : dchk m0 m1 m2 m3 m4 m5 m6 = 0
        · simp only [if_pos hd]
          by_cases h1 : (P.length : Int) = 64
          · simp only [if_pos h1]; exact Ev.const _
          · simp only [if_neg h1]
            by_cases h2 : next > 1073741824
            · simp only [if_pos h2]; exact Ev.const _
            · have h3 : P.length < 1759218604441 := by omega
              have hw : wrap64 (next + 1) = next + 1 := wrap_in _ (by omega) (by omega)
              simp only [if_neg h2, copy_f _ _ _ h3, Option.bind_some, if_pos h3, hw]
              exact Ev.const _
        · simp only [if_neg hd]; exact Ev.const _
    · simp only [if_neg hto]; exact Ev.const _
  · simp only [if_neg hc]; exact Ev.const _
theorem rsame_l0 (l : List S33) (hl : l.length ≤ 1000000) : ∀ (d i : Nat), i + d = l.length → Ev (fun k => spileref41_Same.l0 k l l (i : Int)) true
  | 0, i, h => Ev.succ (g' := fun _ => some true) (Ev.const _) (fun k => by rw [spileref41_Same.l0, if_neg (by omega)])
  | d + 1, i, h => by
    have hi : (i : Int) < (l.length : Int) := by omega
    have h0 : (0 : Int) ≤ (i : Int) := by omega
    have hw : wrap64 ((i : Int) + 1) = ((i + 1 : Nat) : Int) := by rw [wrap_in _ (by omega) (by omega)]; omega
    have ih := rsame_l0 l hl d (i + 1) (by omega)
    refine Ev.succ ih (fun k => ?_)
    rw [spileref41_Same.l0, if_pos hi, if_pos h0, if_pos hi, hw]
    simp only [beq_self_eq_true, Bool.not_true, Bool.or_self, Bool.false_eq_true, if_false]
theorem rsame_ev (a b : Int) (l : List S33) (hl : l.length ≤ 1000000) : Ev (fun k => spileref42_Same.f k a b l a b l) true := by
  unfold spileref42_Same.f spileref41_Same.f
  simp only [if_true]
  exact Ev.bind (rsame_l0 l hl l.length 0 (by omega)) (Ev.const true)
theorem sendS_len (node next dst : Int) (P : List S33) (m0 m1 m2 m3 m4 m5 m6 : Int) (h : P.length ≤ 65) : (sendS node next dst P m0 m1 m2 m3 m4 m5 m6).2.2.1.length ≤ 1000000 := by
  unfold sendS
  repeat' split
  all_goals simp
  omega
end Go.Proofs.Ytfafeeobjlkjnaa.K
/- By hand: the plain law of SenderSends. -/
namespace Go.Proofs.Ytfafeeobjlkjnaa.K
open Go.RowKit Go.Proofs.YtfafeeobjlkjnaaW.PrintWords
set_option linter.unusedVariables false
set_option linter.unusedSimpArgs false

theorem sends_pure : SenderSendsPure := by
  intro x0 x1 x2 _ _ _
  refine Ev.one (g := fun k => spilelaw42_SenderSends.f k x0.f0 x0.f1 x0.f2 x1 x2.f0 x2.f1 x2.f2 x2.f3 x2.f4 x2.f5 x2.f6) ?_
  unfold spilelaw42_SenderSends.f
  refine Ev.bind awake_ev ?_
  simp only [if_true]
  have hfew : ∃ b, spileref42_Few.f x0.f0 x0.f1 x0.f2 = some b ∧ (b = true → x0.f2.length ≤ 65) := by
    unfold spileref42_Few.f
    by_cases h : (x0.f2.length : Int) ≤ 14
    · rw [if_pos h]
      exact ⟨true, rfl, fun _ => by omega⟩
    · rw [if_neg h]
      refine ⟨_, rfl, fun e => ?_⟩
      have : (x0.f2.length : Int) = 65 := by simpa using e
      omega
  obtain ⟨b, hb, hl⟩ := hfew
  simp only [hb, Option.bind_some]
  cases b with
  | false => exact Ev.const _
  | true =>
    have hlen := hl rfl
    simp only [if_true]
    have hnew : ∃ r : Int × Int × List S33 × Int, sender_New.f x1 = some r ∧ spileref42_New.f x1 = some r ∧ r.2.2.1.length ≤ 1000000 := by
      unfold sender_New.f spileref42_New.f
      simp only [node_f, refnode_f, Option.bind_some]
      by_cases h : nodeB x1 = true
      · simp only [if_pos h]; exact ⟨_, rfl, rfl, by simp⟩
      · simp only [if_neg h]; exact ⟨_, rfl, rfl, by simp⟩
    obtain ⟨r, h1, h2, hr⟩ := hnew
    have hcopy := copy_f x0.f0 x0.f1 x0.f2 (by omega)
    simp only [h1, h2, hcopy, Option.bind_some]
    refine Ev.bind (send_spec _ _ _ _ _ _ _ _ _ _ _) ?_
    refine Ev.bind (rsend_spec _ _ _ _ _ _ _ _ _ _ _) ?_
    refine Ev.bind (check_ev _ _ _) ?_
    refine Ev.bind (rcheck_ev _ _ _) ?_
    simp only [if_true]
    refine Ev.bind (rsame_ev _ _ _ hr) ?_
    simp only [if_true]
    refine Ev.bind (rsame_ev _ _ _ (sendS_len _ _ _ _ _ _ _ _ _ _ _ hlen)) ?_
    simp only [if_true, beq_self_eq_true, Bool.and_self]
    exact Ev.const _
end Go.Proofs.Ytfafeeobjlkjnaa.K
namespace Go.Proofs.Ytfafeeobjlkjnaa.Pure
theorem SenderSends : K.SenderSendsPure := K.sends_pure
end Go.Proofs.Ytfafeeobjlkjnaa.Pure
