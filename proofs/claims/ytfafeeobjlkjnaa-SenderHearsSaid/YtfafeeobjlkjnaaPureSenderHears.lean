import Derived.Test.YtfafeeobjlkjnaaPSend
import Derived.Test.YtfafeeobjlkjnaaK12
import Derived.Test.YtfafeeobjlkjnaaPHeard
import Derived.Test.YtfafeeobjlkjnaaK25
import Derived.Test.YtfafeeobjlkjnaaSaySenderHears
import Derived.Test.YtfafeeobjlkjnaaPAwake
/- By hand: the reference functions of the sender's chapter tell what the program's functions tell. -/
namespace Go.Proofs.Ytfafeeobjlkjnaa.K
open Go.RowKit Go.Proofs.YtfafeeobjlkjnaaW.PrintWords
set_option linter.unusedVariables false
set_option linter.unusedSimpArgs false

theorem refnode_f (n : Int) : spileref40_Node.f n = some (nodeB n) := node_f n
theorem ref40_core (b : Bool) (a0 a1 a2 a3 a4 a5 a6 : Int) : spileref40_Check.j0 4 b a0 a1 a2 a3 a4 a5 a6 = document_Check.j0 3 b a0 a1 a2 a3 a4 a5 a6 := by
  cases b with
  | true => rfl
  | false =>
    simp only [document_Check.j0, document_Check.j1, spileref40_Check.j0, spileref40_Check.j1, spileref40_Check.j2, refnode_f, docnode_f, Option.bind_some, beq_self_eq_true, Bool.not_true, Bool.false_or, Bool.or_false, Bool.false_eq_true, if_false, decide_eq_true_eq]
    by_cases k1 : a1 = 1
    · simp only [if_pos k1]
      by_cases n0 : a2 = 0
      · have e : (a2 == 0) = true := by simp [n0]
        simp only [if_pos n0, e, Bool.not_true, Bool.false_eq_true, if_false, ite_self]
      · have e : (a2 == 0) = false := by simp [n0]
        simp only [if_neg n0, e, Bool.not_false, if_true, ite_self]
    · simp only [if_neg k1]
      by_cases k2 : a1 = 2
      · simp only [if_pos k2, ite_self]
        by_cases f0 : a4 = 0
        · have e : (a4 == 0) = true := by simp [f0]
          simp only [if_pos f0, e, Bool.not_true, Bool.false_or, beq_iff_eq]
          by_cases z : a6 = 0
          · have e6 : (a6 == 0) = true := by simp [z]
            simp [z]
          · have e6 : (a6 == 0) = false := by simp [z]
            simp only [e6, Bool.not_false, if_true, z, if_false, ite_self]
        · have e : (a4 == 0) = false := by simp [f0]
          simp only [if_neg f0, e, Bool.not_false, Bool.true_or, if_true, ite_self]
      · simp only [if_neg k2]
        by_cases k3 : a1 = 3
        · simp only [if_pos k3]
          by_cases n0 : a2 = 0 <;> by_cases f0 : a4 = 0 <;> by_cases t0 : a5 = 0 <;> simp [n0, f0, t0]
        · simp only [if_neg k3, if_true]
          by_cases n0 : a2 = 0 <;> by_cases f0 : a4 = 0 <;> by_cases t0 : a5 = 0 <;> by_cases z : a6 = 0 <;> simp [n0, f0, t0, z]
theorem ref40_ev (a0 a1 a2 a3 a4 a5 a6 : Int) : Ev (fun k => spileref40_Check.f k a0 a1 a2 a3 a4 a5 a6) (dchk a0 a1 a2 a3 a4 a5 a6) := by
  refine Ev.of_mono (k := 4) (fun k => spileref40_Check.mono _ _ _ _ _ _ _ _) ?_
  rw [← doc_some]
  unfold spileref40_Check.f document_Check.f
  simp only [ref40_core]
theorem form_ev (x : S33) : Ev (fun k => spileref41_Form.f k x.f0 x.f1 x.f2 x.f3.f0 x.f3.f1 x.f3.f2 x.f3.f3 x.f3.f4 x.f3.f5 x.f3.f6) (echk x) := by
  have j1 : ∀ (e : Int), e = 2 → Ev (fun k => spileref41_Form.j0 k true x.f0 x.f1 x.f2 x.f3.f0 x.f3.f1 x.f3.f2 x.f3.f3 x.f3.f4 x.f3.f5 x.f3.f6) e := by
    rintro _ rfl
    exact Ev.succ (g' := fun _ => some 2) (Ev.const _) (fun k => by rw [spileref41_Form.j0]; rfl)
  have hn : ∀ n : Int, nodeB n = true ↔ 1 ≤ n ∧ n ≤ 99 := fun n => decide_eq_true_iff
  unfold spileref41_Form.f
  simp only [refnode_f, Option.bind_some]
  by_cases h0 : nodeB x.f0 = true
  · have a0 := (hn _).1 h0
    simp only [if_pos h0]
    by_cases h1 : nodeB x.f1 = true
    · have a1 := (hn _).1 h1
      simp only [if_pos h1]
      have e0 : echk x = if x.f2 < 1 then 2 else if x.f2 > 1073741824 then 2 else if x.f0 = x.f1 then 10 else if dchk x.f3.f0 x.f3.f1 x.f3.f2 x.f3.f3 x.f3.f4 x.f3.f5 x.f3.f6 = 0 then 0 else 1 := by
        unfold echk
        rw [if_neg (by omega), if_neg (by omega), if_neg (by omega), if_neg (by omega)]
      rw [e0]
      by_cases h2 : x.f2 < 1
      · simp only [if_pos h2]
        exact j1 2 rfl
      · simp only [if_neg h2]
        by_cases h3 : x.f2 > 1073741824
        · simp only [if_pos h3, h3, decide_true]
          exact j1 2 rfl
        · simp only [if_neg h3, h3, decide_false]
          refine Ev.succ (g' := _) ?_ (fun k => by rw [spileref41_Form.j0, if_neg (by decide)])
          by_cases h4 : x.f0 = x.f1
          · simp only [if_pos h4]
            exact Ev.const _
          · simp only [if_neg h4]
            refine Ev.bind (ref40_ev _ _ _ _ _ _ _) ?_
            by_cases h5 : dchk x.f3.f0 x.f3.f1 x.f3.f2 x.f3.f3 x.f3.f4 x.f3.f5 x.f3.f6 = 0
            · simp only [if_pos h5]
              exact Ev.const _
            · simp only [if_neg h5]
              exact Ev.const _
    · simp only [if_neg h1]
      refine j1 _ ?_
      have : ¬ (1 ≤ x.f1 ∧ x.f1 ≤ 99) := fun h => h1 ((hn _).2 h)
      unfold echk
      rw [if_neg (by omega), if_neg (by omega)]
      by_cases h : x.f1 < 1
      · rw [if_pos h]
      · rw [if_neg h, if_pos (by omega)]
  · simp only [if_neg h0]
    refine j1 _ ?_
    have : ¬ (1 ≤ x.f0 ∧ x.f0 ≤ 99) := fun h => h0 ((hn _).2 h)
    unfold echk
    by_cases h : x.f0 < 1
    · rw [if_pos h]
    · rw [if_neg h, if_pos (by omega)]
theorem rcheck_l0 (l : List S33) (node next : Int) (hl : l.length ≤ 64) : ∀ (d i : Nat), i + d = l.length → Ev (fun k => spileref42_Check.l0 k (i : Int) node next l) (goC node next (prevAt l i) (l.drop i))
  | 0, i, h => by
    have hd : l.drop i = [] := List.drop_eq_nil_of_le (by omega)
    rw [hd]
    refine Ev.succ (g' := fun k => some 0) (Ev.const _) (fun k => ?_)
    rw [spileref42_Check.l0, if_neg (by omega)]
  | d + 1, i, h => by
    have hi : i < l.length := by omega
    have h1 : (i : Int) < (l.length : Int) := by omega
    have h0 : (0 : Int) ≤ (i : Int) := by omega
    have hx : rd_T33 l (i : Int) = l[i] := rd_get l i hi
    have ih := rcheck_l0 l node next hl d (i + 1) (by omega)
    rw [List.drop_eq_getElem_cons hi]
    have hw : wrap64 ((i : Int) + 1) = ((i + 1 : Nat) : Int) := by rw [wrap_in _ (by omega) (by omega)]; omega
    have hp : prevAt l (i + 1) = some (l[i]).f2 := by
      unfold prevAt
      rw [if_neg (by omega), show ((i + 1 : Nat) : Int) - 1 = (i : Int) by omega, hx]
    rw [hp] at ih
    refine Ev.succ (g' := _) ?_ (fun k => by rw [spileref42_Check.l0, if_pos h1, if_pos h0, hx])
    refine Ev.bind (form_ev l[i]) ?_
    unfold goC
    by_cases he : echk l[i] = 0
    · simp only [if_pos he]
      by_cases hf : (l[i]).f0 = node
      · simp only [if_pos hf]
        have j2 : ∀ b : Bool, Ev (fun k => spileref42_Check.j2 k (i : Int) b node next l) (if b = true then 5 else goC node next (some (l[i]).f2) (l.drop (i + 1))) := by
          intro b
          cases b with
          | true => exact Ev.succ (g' := fun _ => some 5) (Ev.const _) (fun k => by rw [spileref42_Check.j2]; rfl)
          | false => exact Ev.succ ih (fun k => by rw [spileref42_Check.j2, hw]; rfl)
        by_cases h2 : (i : Int) > 0
        · have hpv : prevAt l i = some (rd_T33 l ((i : Int) - 1)).f2 := by unfold prevAt; rw [if_neg (by omega)]
          have hw1 : wrap64 ((i : Int) - 1) = (i : Int) - 1 := wrap_in _ (by omega) (by omega)
          have h3 : (0 : Int) ≤ (i : Int) - 1 := by omega
          have h4 : (i : Int) - 1 < (l.length : Int) := by omega
          simp only [if_pos h2, hw1, if_pos h3, if_pos h4, hpv]
          by_cases h5 : (rd_T33 l ((i : Int) - 1)).f2 ≥ (l[i]).f2
          · simp only [if_pos h5]
            rw [if_pos (Or.inl ⟨_, rfl, h5⟩)]
            exact j2 true
          · simp only [if_neg h5]
            have := j2 (decide ((l[i]).f2 ≥ next))
            by_cases h6 : (l[i]).f2 ≥ next
            · rw [if_pos (Or.inr h6)]
              simpa [h6] using this
            · rw [if_neg (fun hc => hc.elim (fun ⟨p, hp, hq⟩ => h5 (by injection hp with hp; rw [hp]; exact hq)) h6)]
              simpa [h6] using this
        · have hpv : prevAt l i = none := by unfold prevAt; rw [if_pos (by omega)]
          simp only [if_neg h2, hpv]
          have := j2 (decide ((l[i]).f2 ≥ next))
          by_cases h6 : (l[i]).f2 ≥ next
          · rw [if_pos (Or.inr h6)]
            simpa [h6] using this
          · rw [if_neg (fun hc => hc.elim (fun ⟨p, hp, hq⟩ => by cases hp) h6)]
            simpa [h6] using this
      · simp only [if_neg hf]
        exact Ev.const _
    · simp only [if_neg he]
      exact Ev.const _
theorem rcheck_ev (node next : Int) (l : List S33) : Ev (fun k => spileref42_Check.f k node next l) (chk node next l) := by
  have j1 : Ev (fun k => spileref42_Check.j0 k true node next l) 2 := Ev.succ (g' := fun _ => some 2) (Ev.const _) (fun k => by rw [spileref42_Check.j0]; rfl)
  unfold chk
  simp only [spileref42_Check.f, refnode_f, Option.bind_some]
  by_cases hn : nodeB node = true
  · simp only [if_pos hn]
    by_cases h1 : next < 1
    · simp only [if_pos h1]; exact j1
    · simp only [if_neg h1]
      by_cases h2 : next > 1073741825
      · simp only [if_pos h2, h2, decide_true]; exact j1
      · simp only [if_neg h2, h2, decide_false]
        by_cases h3 : l.length > 64
        · rw [if_pos h3]
          exact Ev.succ (g' := fun _ => some 8) (Ev.const _) (fun k => by rw [spileref42_Check.j0, if_neg (by decide), if_pos (by omega)])
        · rw [if_neg h3]
          exact Ev.succ (rcheck_l0 l node next (by omega) l.length 0 (by omega)) (fun k => by rw [spileref42_Check.j0, if_neg (by decide), if_neg (by omega)]; rfl)
  · simp only [if_neg hn]; exact j1
end Go.Proofs.Ytfafeeobjlkjnaa.K
/- By hand: what Heard, Again and Waits of the reference tell, and the program's own. -/
namespace Go.Proofs.Ytfafeeobjlkjnaa.K
open Go.RowKit Go.Proofs.YtfafeeobjlkjnaaW.PrintWords
set_option linter.unusedVariables false
set_option linter.unusedSimpArgs false

/-! ### equal lists -/
theorem rsame_l0 (l : List S33) (hl : l.length ≤ 1000000) : ∀ (d i : Nat), i + d = l.length → Ev (fun k => spileref41_Same.l0 k l l (i : Int)) true
  | 0, i, h => Ev.succ (g' := fun _ => some true) (Ev.const _) (fun k => by rw [spileref41_Same.l0, if_neg (by omega)])
  | d + 1, i, h => by
    have hi : (i : Int) < (l.length : Int) := by omega
    have h0 : (0 : Int) ≤ (i : Int) := by omega
    have hw : wrap64 ((i : Int) + 1) = ((i + 1 : Nat) : Int) := by rw [wrap_in _ (by omega) (by omega)]; omega
    have ih := rsame_l0 l hl d (i + 1) (by omega)
    refine Ev.succ ih (fun k => ?_)
    rw [spileref41_Same.l0, if_pos hi, if_pos h0, if_pos hi, hw]
    simp only [beq_self_eq_true, Bool.not_true, Bool.or_self, Bool.false_eq_true, if_false]
theorem rsame41_ev (l : List S33) (hl : l.length ≤ 1000000) : Ev (fun k => spileref41_Same.f k l l) true := by
  unfold spileref41_Same.f
  simp only [if_true]
  exact rsame_l0 l hl l.length 0 (by omega)
theorem rsame_ev (a b : Int) (l : List S33) (hl : l.length ≤ 1000000) : Ev (fun k => spileref42_Same.f k a b l a b l) true := by
  unfold spileref42_Same.f
  simp only [if_true]
  exact Ev.bind (rsame41_ev l hl) (Ev.const true)
theorem same33_l0 (l : List Int) (hl : l.length ≤ 1000000) : ∀ (d i : Nat), i + d = l.length → Ev (fun k => spileref33_Same.l0 k l l (i : Int)) true
  | 0, i, h => Ev.succ (g' := fun _ => some true) (Ev.const _) (fun k => by rw [spileref33_Same.l0, if_neg (by omega)])
  | d + 1, i, h => by
    have hi : (i : Int) < (l.length : Int) := by omega
    have h0 : (0 : Int) ≤ (i : Int) := by omega
    have hw : wrap64 ((i : Int) + 1) = ((i + 1 : Nat) : Int) := by rw [wrap_in _ (by omega) (by omega)]; omega
    have ih := same33_l0 l hl d (i + 1) (by omega)
    refine Ev.succ ih (fun k => ?_)
    rw [spileref33_Same.l0, if_pos hi, if_pos h0, if_pos hi, if_pos rfl, hw]
theorem same33_ev (l : List Int) (hl : l.length ≤ 1000000) : Ev (fun k => spileref33_Same.f k l l) true := by
  unfold spileref33_Same.f
  simp only [if_true]
  exact same33_l0 l hl l.length 0 (by omega)

/-! ### Heard -/
def heardS (node next fr n : Int) (P : List S33) : Int × Int × List S33 × Int :=
  if chk node next P = 0 then (if fr = node then (if n < 1 then (0, 0, [], 2) else if n ≥ next then (0, 0, [], 2) else (node, next, P.filter (fun x => !(x.f2 == n)), 0)) else (0, 0, [], 10)) else (0, 0, [], 1)
theorem heard_spec (node next fr n : Int) (P : List S33) : Ev (fun k => sender_Heard.f k node next P fr n) (heardS node next fr n P) := by
  unfold heardS
  by_cases hc : chk node next P = 0
  · rw [if_pos hc]
    by_cases hf : fr = node
    · rw [if_pos hf]
      by_cases h1 : n < 1
      · rw [if_pos h1]
        unfold sender_Heard.f
        refine Ev.bind (check_ev _ _ _) ?_
        simp only [hc, if_true, if_pos hf, if_pos h1]
        exact Ev.const _
      · rw [if_neg h1]
        by_cases h2 : n ≥ next
        · rw [if_pos h2]
          unfold sender_Heard.f
          refine Ev.bind (check_ev _ _ _) ?_
          simp only [hc, if_true, if_pos hf, if_neg h1, if_pos h2]
          exact Ev.const _
        · rw [if_neg h2]
          obtain ⟨_, _, _, hl, hg⟩ := chk_zero hc
          have ha := (goC_asc P none hg).1
          have h3 : P.length < 1759218604441 := by omega
          have hle := posOf_le n P
          unfold sender_Heard.f
          refine Ev.bind (check_ev _ _ _) ?_
          simp only [hc, if_true, if_pos hf, if_neg h1, if_neg h2, sender_own.f, api_Envelope_21.f, if_pos h3, Option.bind_some]
          refine Ev.bind (search_ev _ _ (posOf n P : Int) (by omega) (by omega) (fun i hi hj => ?_) (fun i hi hj => ?_)) ?_
          · obtain ⟨j, rfl⟩ := Int.eq_ofNat_of_zero_le hi
            have hj' : j < P.length := by omega
            have := posOf_lo n P j hj' (by omega)
            rw [rd_get _ _ hj', decide_eq_false_iff_not]
            omega
          · obtain ⟨j, rfl⟩ := Int.eq_ofNat_of_zero_le (show 0 ≤ i by omega)
            have hj' : j < P.length := by omega
            have := posOf_hi n P ha j hj' (by omega)
            rw [rd_get _ _ hj', decide_eq_true_eq]
            omega
          · rw [posOf_filter n P ha]
            by_cases h4 : posOf n P < P.length
            · have h5 : (posOf n P : Int) < (P.length : Int) := by omega
              have h6 : (0 : Int) ≤ (posOf n P : Int) := by omega
              rw [dif_pos h4]
              simp only [if_pos h5, if_pos h6, rd_get _ _ h4, Int.toNat_natCast]
              by_cases h7 : (P[posOf n P]).f2 = n
              · simp only [if_pos h7]; exact Ev.const _
              · simp only [if_neg h7]; exact Ev.const _
            · have h5 : ¬ (posOf n P : Int) < (P.length : Int) := by omega
              rw [dif_neg h4]
              simp only [if_neg h5]
              exact Ev.const _
    · rw [if_neg hf]
      unfold sender_Heard.f
      refine Ev.bind (check_ev _ _ _) ?_
      simp only [hc, if_true, if_neg hf]
      exact Ev.const _
  · rw [if_neg hc]
    unfold sender_Heard.f
    refine Ev.bind (check_ev _ _ _) ?_
    simp only [if_neg hc]
    exact Ev.const _
theorem s33_eta (x : S33) : (⟨x.f0, x.f1, x.f2, ⟨x.f3.f0, x.f3.f1, x.f3.f2, x.f3.f3, x.f3.f4, x.f3.f5, x.f3.f6⟩⟩ : S33) = x := rfl
theorem rheard_l0 (a b : Int) (P : List S33) (fr n : Int) (hl : P.length ≤ 64) : ∀ (d i : Nat) (acc : List S33), i + d = P.length → acc.length ≤ i → Ev (fun k => spileref42_Heard.l0 k (i : Int) a b P fr n a b acc) (a, b, acc ++ (P.drop i).filter (fun x => !(x.f2 == n)), 0)
  | 0, i, acc, h, ha => by
    rw [List.drop_eq_nil_of_le (by omega)]
    simp only [List.filter_nil, List.append_nil]
    exact Ev.succ (g' := fun _ => some _) (Ev.const _) (fun k => by rw [spileref42_Heard.l0, if_neg (by omega)])
  | d + 1, i, acc, h, ha => by
    have hi : i < P.length := by omega
    have h1 : (i : Int) < (P.length : Int) := by omega
    have h0 : (0 : Int) ≤ (i : Int) := by omega
    have hw : wrap64 ((i : Int) + 1) = ((i + 1 : Nat) : Int) := by rw [wrap_in _ (by omega) (by omega)]; omega
    have hx : rd_T33 P (i : Int) = P[i] := rd_get P i hi
    rw [List.drop_eq_getElem_cons hi]
    by_cases he : (P[i]).f2 = n
    · rw [List.filter_cons_of_neg (by simp [he])]
      exact Ev.succ (rheard_l0 a b P fr n hl d (i + 1) acc (by omega) (by omega)) (fun k => by rw [spileref42_Heard.l0, if_pos h1, if_pos h0, hx, if_pos he, hw])
    · rw [List.filter_cons_of_pos (by simp [he])]
      have ih := rheard_l0 a b P fr n hl d (i + 1) (acc ++ [P[i]]) (by omega) (by simp; omega)
      rw [List.append_assoc, List.singleton_append] at ih
      have ha' : acc.length < 1759218604441 := by omega
      exact Ev.succ ih (fun k => by rw [spileref42_Heard.l0, if_pos h1, if_pos h0, hx, if_neg he, if_pos ha', hw])
theorem rheard_spec (node next fr n : Int) (P : List S33) : Ev (fun k => spileref42_Heard.f k node next P fr n) (heardS node next fr n P) := by
  have j1 : Ev (fun k => spileref42_Heard.j0 k true node next P fr n) (0, 0, ([] : List S33), 2) := Ev.succ (g' := fun _ => some _) (Ev.const _) (fun k => by rw [spileref42_Heard.j0]; rfl)
  unfold spileref42_Heard.f heardS
  refine Ev.bind (rcheck_ev _ _ _) ?_
  by_cases hc : chk node next P = 0
  · simp only [if_pos hc]
    obtain ⟨_, _, _, hl, hg⟩ := chk_zero hc
    by_cases hf : fr = node
    · simp only [if_pos hf]
      by_cases h1 : n < 1
      · simp only [if_pos h1]; exact j1
      · simp only [if_neg h1]
        by_cases h2 : n ≥ next
        · simp only [if_pos h2, h2, decide_true]; exact j1
        · simp only [if_neg h2, h2, decide_false]
          have ih := rheard_l0 node next P fr n hl P.length 0 [] (by omega) (by simp)
          exact Ev.succ ih (fun k => by rw [spileref42_Heard.j0, if_neg (by decide)]; rfl)
    · simp only [if_neg hf]; exact Ev.const _
  · simp only [if_neg hc]; exact Ev.const _

/-! ### Again -/
def againS (node next n : Int) (P : List S33) : List S33 × Int :=
  if chk node next P = 0 then (if nodeB n = true then (P.filter (fun x => !(x.f1 != n)), 0) else ([], 2)) else ([], 1)
theorem again_spec (node next n : Int) (P : List S33) : Ev (fun k => sender_Again.f k node next P n) (againS node next n P) := by
  unfold sender_Again.f againS
  refine Ev.bind (check_ev _ _ _) ?_
  by_cases hc : chk node next P = 0
  · obtain ⟨_, _, _, hl, _⟩ := chk_zero hc
    simp only [if_pos hc, node_f, Option.bind_some]
    by_cases hn : nodeB n = true
    · have h3 : P.length < 1759218604441 := by omega
      simp only [if_pos hn, api_Envelope_21.f, if_pos h3, Option.bind_some]
      exact Ev.const _
    · simp only [if_neg hn]; exact Ev.const _
  · simp only [if_neg hc]; exact Ev.const _
theorem ragain_l0 (a b : Int) (P : List S33) (n : Int) (hl : P.length ≤ 64) : ∀ (d i : Nat) (acc : List S33), i + d = P.length → acc.length ≤ i → Ev (fun k => spileref42_Again.l0 k n acc (i : Int) a b P) (acc ++ (P.drop i).filter (fun x => !(x.f1 != n)), 0)
  | 0, i, acc, h, ha => by
    rw [List.drop_eq_nil_of_le (by omega)]
    simp only [List.filter_nil, List.append_nil]
    exact Ev.succ (g' := fun _ => some _) (Ev.const _) (fun k => by rw [spileref42_Again.l0, if_neg (by omega)])
  | d + 1, i, acc, h, ha => by
    have hi : i < P.length := by omega
    have h1 : (i : Int) < (P.length : Int) := by omega
    have h0 : (0 : Int) ≤ (i : Int) := by omega
    have hw : wrap64 ((i : Int) + 1) = ((i + 1 : Nat) : Int) := by rw [wrap_in _ (by omega) (by omega)]; omega
    have hx : rd_T33 P (i : Int) = P[i] := rd_get P i hi
    rw [List.drop_eq_getElem_cons hi]
    by_cases he : (P[i]).f1 = n
    · rw [List.filter_cons_of_pos (by simp [he])]
      have ih := ragain_l0 a b P n hl d (i + 1) (acc ++ [P[i]]) (by omega) (by simp; omega)
      rw [List.append_assoc, List.singleton_append] at ih
      have ha' : acc.length < 1759218604441 := by omega
      exact Ev.succ ih (fun k => by rw [spileref42_Again.l0, if_pos h1, if_pos h0, hx, if_pos he, if_pos ha', hw])
    · rw [List.filter_cons_of_neg (by simp [he])]
      exact Ev.succ (ragain_l0 a b P n hl d (i + 1) acc (by omega) (by omega)) (fun k => by rw [spileref42_Again.l0, if_pos h1, if_pos h0, hx, if_neg he, hw])
theorem ragain_spec (node next n : Int) (P : List S33) : Ev (fun k => spileref42_Again.f k node next P n) (againS node next n P) := by
  unfold spileref42_Again.f againS
  refine Ev.bind (rcheck_ev _ _ _) ?_
  by_cases hc : chk node next P = 0
  · obtain ⟨_, _, _, hl, _⟩ := chk_zero hc
    simp only [if_pos hc, refnode_f, Option.bind_some]
    by_cases hn : nodeB n = true
    · simp only [if_pos hn]
      exact ragain_l0 node next P n hl P.length 0 [] (by omega) (by simp)
    · simp only [if_neg hn]; exact Ev.const _
  · simp only [if_neg hc]; exact Ev.const _

/-! ### Waits -/
def waitsS (node next : Int) (P : List S33) : List Int × Int := if chk node next P = 0 then (waitsL P, 0) else ([], 1)
theorem waits_spec (node next : Int) (P : List S33) : Ev (fun k => sender_Waits.f k node next P) (waitsS node next P) := by
  unfold sender_Waits.f waitsS
  refine Ev.bind (check_ev _ _ _) ?_
  by_cases hc : chk node next P = 0
  · simp only [if_pos hc]; exact Ev.const _
  · simp only [if_neg hc]; exact Ev.const _
theorem rwaits_l0 (a b : Int) (P : List S33) (hc : chk a b P = 0) : ∀ (d : Nat) (i : Int) (acc : List Int), i + d = 100 → 1 ≤ i → (acc.length : Int) < i → acc.Pairwise (· < ·) → (∀ x, x ∈ acc ↔ (x ∈ P.map (·.f1) ∧ x < i)) →
    ∃ r : List Int, r.Pairwise (· < ·) ∧ (∀ x, x ∈ r ↔ x ∈ P.map (·.f1)) ∧ Ev (fun k => spileref42_Waits.l0 k acc i a b P) (r, 0)
  | 0, i, acc, h, h1, hl, ha, hm => by
    refine ⟨acc, ha, fun x => ?_, Ev.succ (g' := fun _ => some _) (Ev.const _) (fun k => by rw [spileref42_Waits.l0, if_neg (by omega)])⟩
    rw [hm x]
    refine ⟨fun hx => hx.1, fun hx => ⟨hx, ?_⟩⟩
    obtain ⟨y, hy, rfl⟩ := List.mem_map.1 hx
    obtain ⟨_, _, _, _, hg⟩ := chk_zero hc
    have := goC_to P none hg y hy
    omega
  | d + 1, i, acc, h, h1, hl, ha, hm => by
    have hi : i ≤ 99 := by omega
    have hw : wrap64 (i + 1) = i + 1 := wrap_in _ (by omega) (by omega)
    have hag := ragain_spec a b i P
    have hn : nodeB i = true := decide_eq_true ⟨h1, hi⟩
    unfold againS at hag
    rw [if_pos hc, if_pos hn] at hag
    by_cases hp : ((P.filter (fun x => !(x.f1 != i))).length : Int) > 0
    · have hmem : i ∈ P.map (·.f1) := by
        have hp' : 0 < (P.filter (fun x => !(x.f1 != i))).length := by omega
        obtain ⟨y, hy⟩ := List.exists_mem_of_length_pos hp'
        rw [List.mem_filter] at hy
        refine List.mem_map.2 ⟨y, hy.1, ?_⟩
        simpa using hy.2
      obtain ⟨r, hr1, hr2, hr3⟩ := rwaits_l0 a b P hc d (i + 1) (acc ++ [i]) (by omega) (by omega) (by simp; omega) (by
        rw [List.pairwise_append]
        refine ⟨ha, by simp, fun x hx y hy => ?_⟩
        have := ((hm x).1 hx).2
        simp at hy
        omega) (fun x => by
        rw [List.mem_append, hm x, List.mem_singleton]
        constructor
        · rintro (⟨h1, h2⟩ | rfl)
          · exact ⟨h1, by omega⟩
          · exact ⟨hmem, by omega⟩
        · rintro ⟨h1, h2⟩
          by_cases e : x = i
          · exact .inr e
          · exact .inl ⟨h1, by omega⟩)
      refine ⟨r, hr1, hr2, Ev.succ (g' := _) ?_ (fun k => by rw [spileref42_Waits.l0, if_pos hi])⟩
      refine Ev.bind hag ?_
      have hal : acc.length < 17592186044416 := by omega
      simp only [if_pos hp, if_pos hal, hw]
      exact hr3
    · have hmem : i ∉ P.map (·.f1) := by
        intro hx
        obtain ⟨y, hy, e⟩ := List.mem_map.1 hx
        have : y ∈ P.filter (fun x => !(x.f1 != i)) := List.mem_filter.2 ⟨hy, by simp [e]⟩
        have := List.length_pos_of_mem this
        omega
      obtain ⟨r, hr1, hr2, hr3⟩ := rwaits_l0 a b P hc d (i + 1) acc (by omega) (by omega) (by omega) ha (fun x => by
        rw [hm x]
        constructor
        · rintro ⟨h1, h2⟩
          exact ⟨h1, by omega⟩
        · rintro ⟨h1, h2⟩
          refine ⟨h1, ?_⟩
          have : x ≠ i := fun e => hmem (e ▸ h1)
          omega)
      refine ⟨r, hr1, hr2, Ev.succ (g' := _) ?_ (fun k => by rw [spileref42_Waits.l0, if_pos hi])⟩
      refine Ev.bind hag ?_
      simp only [if_neg hp, hw]
      exact hr3
theorem rwaits_spec (node next : Int) (P : List S33) : Ev (fun k => spileref42_Waits.f k node next P) (waitsS node next P) := by
  unfold spileref42_Waits.f waitsS
  refine Ev.bind (rcheck_ev _ _ _) ?_
  by_cases hc : chk node next P = 0
  · simp only [if_pos hc]
    obtain ⟨r, hr1, hr2, hr3⟩ := rwaits_l0 node next P hc 99 1 [] (by omega) (by omega) (by simp) (by simp) (fun x => by
      simp only [List.not_mem_nil, false_iff]
      rintro ⟨hx, h1⟩
      obtain ⟨y, hy, rfl⟩ := List.mem_map.1 hx
      obtain ⟨_, _, _, _, hg⟩ := chk_zero hc
      have := goC_to P none hg y hy
      omega)
    have e : r = waitsL P := asc_ext _ _ hr1 (asc_waitsL P) (fun x => by rw [hr2 x, mem_waitsL])
    rw [← e]
    exact hr3
  · simp only [if_neg hc]; exact Ev.const _
theorem waitsL_len : ∀ P : List S33, (waitsL P).length ≤ P.length
  | [] => by simp [waitsL]
  | x :: l => by
    have h : ∀ (y : Int) (ks : List Int), (insU y ks).length ≤ ks.length + 1 := by
      intro y ks
      induction ks with
      | nil => simp [insU]
      | cons z ks ih =>
        unfold insU
        split
        · simp
        · split
          · simp
          · simp; omega
    have h1 := h x.f1 (waitsL l)
    have h2 := waitsL_len l
    show (insU x.f1 (waitsL l)).length ≤ (x :: l).length
    simp
    omega
end Go.Proofs.Ytfafeeobjlkjnaa.K
/- By hand: the plain law of SenderHears. -/
namespace Go.Proofs.Ytfafeeobjlkjnaa.K
open Go.RowKit Go.Proofs.YtfafeeobjlkjnaaW.PrintWords
set_option linter.unusedVariables false
set_option linter.unusedSimpArgs false

theorem hears_pure : SenderHearsPure := by
  intro x0 x1 x2 _ _ _
  refine Ev.one (g := fun k => spilelaw42_SenderHears.f k x0.f0 x0.f1 x0.f2 x1.f0 x1.f1 x2) ?_
  unfold spilelaw42_SenderHears.f
  refine Ev.bind awake_ev ?_
  simp only [if_true]
  have hfew : ∃ b, spileref42_Few.f x0.f0 x0.f1 x0.f2 = some b ∧ (b = true → x0.f2.length ≤ 65) := by
    unfold spileref42_Few.f
    by_cases h : (x0.f2.length : Int) ≤ 14
    · rw [if_pos h]
      exact ⟨true, rfl, fun _ => by omega⟩
    · rw [if_neg h]
      refine ⟨_, rfl, fun e => ?_⟩
      have : (x0.f2.length : Int) = 65 := by simpa using e
      omega
  obtain ⟨b, hb, hl⟩ := hfew
  simp only [hb, Option.bind_some]
  cases b with
  | false => exact Ev.const _
  | true =>
    have hlen := hl rfl
    have hcopy := copy_f x0.f0 x0.f1 x0.f2 (by omega)
    simp only [if_true, hcopy, Option.bind_some]
    refine Ev.bind (heard_spec _ _ _ _ _) ?_
    refine Ev.bind (rheard_spec _ _ _ _ _) ?_
    refine Ev.bind (again_spec _ _ _ _) ?_
    refine Ev.bind (ragain_spec _ _ _ _) ?_
    refine Ev.bind (waits_spec _ _ _) ?_
    refine Ev.bind (rwaits_spec _ _ _) ?_
    have q1 : (heardS x0.f0 x0.f1 x1.f0 x1.f1 x0.f2).2.2.1.length ≤ 1000000 := by
      unfold heardS
      have := List.length_filter_le (fun x => !(x.f2 == x1.f1)) x0.f2
      repeat' split
      all_goals simp only [List.length_nil]
      all_goals omega
    have q2 : (againS x0.f0 x0.f1 x2 x0.f2).1.length ≤ 1000000 := by
      unfold againS
      have := List.length_filter_le (fun x => !(x.f1 != x2)) x0.f2
      repeat' split
      all_goals simp only [List.length_nil]
      all_goals omega
    have q3 : (waitsS x0.f0 x0.f1 x0.f2).1.length ≤ 1000000 := by
      unfold waitsS
      have := waitsL_len x0.f2
      split
      all_goals simp only [List.length_nil]
      all_goals omega
    refine Ev.bind (rsame_ev _ _ _ q1) ?_
    simp only [if_true]
    refine Ev.bind (rsame41_ev _ q2) ?_
    simp only [if_true]
    refine Ev.bind (same33_ev _ q3) ?_
    simp only [if_true, beq_self_eq_true]
    exact Ev.const _
end Go.Proofs.Ytfafeeobjlkjnaa.K
namespace Go.Proofs.Ytfafeeobjlkjnaa.Pure
theorem SenderHears : K.SenderHearsPure := K.hears_pure
end Go.Proofs.Ytfafeeobjlkjnaa.Pure
