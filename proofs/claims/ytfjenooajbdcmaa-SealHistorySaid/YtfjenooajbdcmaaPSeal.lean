/- By hand: the reference's functions of seals in plain words, and that they agree with how the seals stand behind events. -/
import Derived.Test.YtfjenooajbdcmaaPEv
import Derived.Test.YtfjenooajbdcmaaK12
import Derived.Test.YtfjenooajbdcmaaK12
import Derived.Test.YtfjenooajbdcmaaK14
import Derived.Test.YtfjenooajbdcmaaK14
import Derived.Test.YtfjenooajbdcmaaK14
import Derived.Test.YtfjenooajbdcmaaK14
namespace Go.Proofs.Ytfjenooajbdcmaa.K
open Go Go.RowKit Go.Proofs.YtfjenooajbdcmaaW.PrintWords Go.Proofs.Ytfjenooajbdcmaa.GM
set_option linter.unusedVariables false
theorem Ev.ite {α : Type} {c : Prop} [Decidable c] {g g' : Nat → Option α} {r : α} (h1 : c → Ev g r) (h2 : ¬ c → Ev g' r) : Ev (fun k => if c then g k else g' k) r := by
  by_cases hc : c
  · exact (h1 hc).congr (fun k => if_pos hc)
  · exact (h2 hc).congr (fun k => if_neg hc)
theorem Ev.shift {α : Type} {g : Nat → Option α} {r : α} (h : Ev (fun k => g (k + 1)) r) : Ev g r := Ev.succ h (fun _ => rfl)
theorem drop_at {l suf : List S34} {x : S34} {i : Nat} (h : l.drop i = x :: suf) : i < l.length ∧ rd_T34 l (i : Int) = x ∧ l.drop (i + 1) = suf ∧ l.take (i + 1) = l.take i ++ [x] := by
  have hi : i < l.length := by
    apply Nat.lt_of_not_le
    intro hle
    rw [List.drop_eq_nil_of_le hle] at h
    cases h
  rw [List.drop_eq_getElem_cons hi] at h
  injection h with h1 h2
  refine ⟨hi, by rw [rd34_get l i hi, h1], h2, ?_⟩
  rw [← List.take_append_getElem hi, h1]
theorem drop_end {l : List S34} {i : Nat} (h : l.drop i = []) : l.length ≤ i := by
  simpa using h
theorem wrap_up {i : Nat} (h : i ≤ 1000) : wrap64 ((i : Int) + 1) = ((i + 1 : Nat) : Int) := by unfold wrap64; omega
/-! ### scanning for one seal -/
def scnS (z : Int) (a : Bool × Int × Bool) (x : S34) : Bool × Int × Bool :=
  if x.f2 = z then (if x.f3 = 1 then (true, x.f1, a.2.2) else (a.1, a.2.1, a.2.2 || (decide (x.f3 = 3) || decide (x.f3 = 4)))) else a
def scn (z : Int) (l : List S34) : Bool × Int × Bool := l.foldl (scnS z) (false, 0, false)
def flt (a : Bool × Int × Bool) (e : S34) : Int :=
  if e.f3 = 1 then (if a.1 = true then 6 else 0) else if a.1 = false then 7 else if a.2.1 ≠ e.f1 then 10 else if a.2.2 = true then 11 else 0
def lastD (pre : List S34) : Option Int := (pre.getLast?).map (·.f0)
def faultR (pre : List S34) (e : S34) : Int := if badP e = true then 2 else if ((lastD pre).any fun d => decide (e.f0 < d)) = true then 5 else flt (scn e.f2 pre) e
theorem fault_l0 (l : List S34) (hl : l.length ≤ 200) (e : S34) : ∀ (suf : List S34) (i : Nat) (a : Bool × Int × Bool), l.drop i = suf → Ev (fun k => spileref39_fault.l0 k l a.1 a.2.1 a.2.2 (i : Int) e.f0 e.f1 e.f2 e.f3) (flt (suf.foldl (scnS e.f2) a) e)
  | [], i, a, h => by
    have := drop_end h
    refine Ev.succ (Ev.const _) (fun k => ?_)
    rw [spileref39_fault.l0, if_neg (by omega)]
    obtain ⟨a1, a2, a3⟩ := a
    unfold flt
    simp only [List.foldl_nil]
    by_cases c : e.f3 = 1
    · rw [if_pos c, if_pos c]
      cases a1 <;> rfl
    · rw [if_neg c, if_neg c]
      cases a1
      · rfl
      · simp only [if_true]
        by_cases c2 : a2 = e.f1
        · cases a3 <;> simp [c2]
        · simp [c2]
  | x :: suf, i, a, h => by
    obtain ⟨hi, hx, hd, _⟩ := drop_at h
    have ih := fault_l0 l hl e suf (i + 1) (scnS e.f2 a x) hd
    refine Ev.succ ih (fun k => ?_)
    rw [spileref39_fault.l0, if_pos (by omega), if_pos (by omega), hx, wrap_up (by omega)]
    obtain ⟨a1, a2, a3⟩ := a
    unfold scnS
    by_cases c : x.f2 = e.f2
    · rw [if_pos c, if_pos c]
      by_cases c1 : x.f3 = 1
      · rw [if_pos c1, if_pos c1]
        cases a3 <;> simp [c1]
      · rw [if_neg c1, if_neg c1]
        cases a3
        · by_cases c3 : x.f3 = 3
          · simp [c3]
          · simp only [if_neg c3]
            by_cases c4 : x.f3 = 4
            · simp [c4]
            · simp [c3, c4, beq_eq_false_iff_ne.mpr c4]
        · simp
    · rw [if_neg c, if_neg c]
theorem day_f (d : Int) : spileref39_day.f d = some (decide (0 ≤ d) && decide (d ≤ 100000)) := by
  unfold spileref39_day.f
  by_cases c : d ≥ 0
  · rw [if_pos c]; simp [c]
  · rw [if_neg c]; simp; omega
theorem id_f (d : Int) : spileref39_id.f d = some (decide (1 ≤ d) && decide (d ≤ 1073741824)) := by
  unfold spileref39_id.f
  by_cases c : d ≥ 1
  · rw [if_pos c]; simp [c]
  · rw [if_neg c]; simp; omega
theorem lastD_eq {l : List S34} (h : 0 < l.length) : lastD l = some (rd_T34 l ((l.length : Int) - 1)).f0 := by
  have h1 : ((l.length : Int) - 1) = ((l.length - 1 : Nat) : Int) := by omega
  rw [h1, rd34_get l _ (by omega)]
  unfold lastD
  rw [List.getLast?_eq_getElem?, List.getElem?_eq_getElem (by omega)]
  rfl
theorem bad_iff (e : S34) : badP e = true ↔ ¬ (0 ≤ e.f0 ∧ e.f0 ≤ 100000 ∧ 1 ≤ e.f1 ∧ e.f1 ≤ 1073741824 ∧ 1 ≤ e.f2 ∧ e.f2 ≤ 1073741824 ∧ 1 ≤ e.f3 ∧ e.f3 ≤ 4) := by
  unfold badP
  simp only [Bool.or_eq_true, decide_eq_true_eq]
  omega
theorem fault_j1 (l : List S34) (hl : l.length ≤ 200) (e : S34) (b : Bool) : Ev (fun k => spileref39_fault.j1 k l b e.f0 e.f1 e.f2 e.f3) (if b = true then 5 else flt (scn e.f2 l) e) := by
  cases b with
  | true => exact Ev.succ (Ev.const _) (fun k => by rw [spileref39_fault.j1, if_pos rfl]; rfl)
  | false => exact Ev.succ (fault_l0 l hl e l 0 (false, 0, false) rfl) (fun k => by rw [spileref39_fault.j1, if_neg (by decide)]; rfl)
theorem fault_j0 (l : List S34) (hl : l.length ≤ 200) (e : S34) (b : Bool) : Ev (fun k => spileref39_fault.j0 k l b e.f0 e.f1 e.f2 e.f3) (if b = true then 2 else if ((lastD l).any fun d => decide (e.f0 < d)) = true then 5 else flt (scn e.f2 l) e) := by
  cases b with
  | true => exact Ev.succ (Ev.const _) (fun k => by rw [spileref39_fault.j0, if_pos rfl]; rfl)
  | false =>
    by_cases h0 : 0 < l.length
    · have hw : wrap64 ((l.length : Int) - 1) = (l.length : Int) - 1 := by unfold wrap64; omega
      have h1 := fault_j1 l hl e (decide (e.f0 < (rd_T34 l ((l.length : Int) - 1)).f0))
      rw [lastD_eq h0]
      exact Ev.succ h1 (fun k => by rw [spileref39_fault.j0, if_neg (by decide), if_pos (by omega), hw, if_pos (by omega), if_pos (by omega)])
    · have hn : l = [] := List.eq_nil_of_length_eq_zero (by omega)
      subst hn
      exact Ev.succ (fault_j1 [] hl e false) (fun k => by rw [spileref39_fault.j0, if_neg (by decide), if_neg (by simp)])
theorem fault_ev (l : List S34) (hl : l.length ≤ 200) (e : S34) : Ev (fun k => spileref39_fault.f k l e.f0 e.f1 e.f2 e.f3) (faultR l e) := by
  have hj : Ev (fun k => spileref39_fault.j0 k l (badP e) e.f0 e.f1 e.f2 e.f3) (faultR l e) := fault_j0 l hl e (badP e)
  refine hj.congr (fun k => ?_)
  unfold spileref39_fault.f
  rw [day_f, id_f, id_f]
  simp only [Option.bind_some]
  by_cases c0 : (decide (0 ≤ e.f0) && decide (e.f0 ≤ 100000)) = true
  · rw [if_pos c0]
    by_cases c1 : (decide (1 ≤ e.f1) && decide (e.f1 ≤ 1073741824)) = true
    · rw [if_pos c1]
      by_cases c2 : (decide (1 ≤ e.f2) && decide (e.f2 ≤ 1073741824)) = true
      · rw [if_pos c2]
        simp only [Bool.and_eq_true, decide_eq_true_eq] at c0 c1 c2
        by_cases c3 : e.f3 < 1
        · rw [if_pos c3, (bad_iff e).2 (by omega)]
        · rw [if_neg c3]
          by_cases c4 : e.f3 > 4
          · rw [decide_eq_true c4, (bad_iff e).2 (by omega)]
          · have hb : badP e = false := by
              cases hb : badP e with
              | false => rfl
              | true => exact absurd ((bad_iff e).1 hb) (by omega)
            rw [decide_eq_false c4, hb]
      · rw [if_neg c2, (bad_iff e).2]
        simp only [Bool.and_eq_true, decide_eq_true_eq] at c2
        omega
    · rw [if_neg c1, (bad_iff e).2]
      simp only [Bool.and_eq_true, decide_eq_true_eq] at c1
      omega
  · rw [if_neg c0, (bad_iff e).2]
    simp only [Bool.and_eq_true, decide_eq_true_eq] at c0
    omega
def chk (l : List S34) : Nat → List S34 → Int × Int
  | _, [] => (-1, 0)
  | i, x :: suf => if faultR (l.take i) x = 0 then chk l (i + 1) suf else ((i : Int), faultR (l.take i) x)
theorem check_l0 (l : List S34) (hl : l.length ≤ 200) : ∀ (suf : List S34) (i : Nat), l.drop i = suf → Ev (fun k => spileref39_Check.l0 k l (i : Int)) (chk l i suf)
  | [], i, h => by
    have := drop_end h
    exact Ev.succ (Ev.const _) (fun k => by rw [spileref39_Check.l0, if_neg (by omega)]; rfl)
  | x :: suf, i, h => by
    obtain ⟨hi, hx, hd, _⟩ := drop_at h
    have ih := check_l0 l hl suf (i + 1) hd
    have hf := fault_ev (l.take i) (by simp; omega) x
    unfold chk
    by_cases c : faultR (l.take i) x = 0
    · rw [if_pos c]
      refine Ev.shift ?_
      simp only [spileref39_Check.l0, if_pos (show (i : Int) < (l.length : Int) by omega), if_pos (show (0 : Int) ≤ (i : Int) by omega), if_pos (show (i : Int) ≤ (l.length : Int) by omega), hx, Int.toNat_natCast]
      refine Ev.bind hf ?_
      simp only [if_pos c, wrap_up (show i ≤ 1000 by omega)]
      exact ih
    · rw [if_neg c]
      refine Ev.shift ?_
      simp only [spileref39_Check.l0, if_pos (show (i : Int) < (l.length : Int) by omega), if_pos (show (0 : Int) ≤ (i : Int) by omega), if_pos (show (i : Int) ≤ (l.length : Int) by omega), hx, Int.toNat_natCast]
      refine Ev.bind hf ?_
      simp only [if_neg c]
      exact Ev.const _
end Go.Proofs.Ytfjenooajbdcmaa.K
namespace Go.Proofs.Ytfjenooajbdcmaa.K
open Go Go.RowKit Go.Proofs.YtfjenooajbdcmaaW.PrintWords Go.Proofs.Ytfjenooajbdcmaa.GM
set_option linter.unusedVariables false
/-! ### whether a seal is intact at a place behind a day, by scanning -/
def hasS (place z day : Int) (is : Bool) (x : S34) : Bool :=
  if x.f0 > day ∨ x.f2 ≠ z ∨ x.f1 ≠ place then is else if x.f3 = 3 ∨ x.f3 = 4 then false else if x.f3 = 1 then true else is
def hasL (l : List S34) (place z day : Int) : Bool := l.foldl (hasS place z day) false
/-- What the events l tell of the seals, and that this is how they stand. -/
structure Inv (M : Int → Option St) (l : List S34) : Prop where
  scn : ∀ z, scn z l = match M z with | none => (false, 0, false) | some s => (true, s.pl, decide (s.tt ≠ 100002))
  has : ∀ place z day, day ≤ 100001 → hasL l place z day = match M z with | none => false | some s => decide (s.pl = place) && (decide (s.fr ≤ day) && decide (s.tt > day))
  nodup : ((l.filter fun x => decide (x.f3 = 1)).map (·.f2)).Nodup
  app : ∀ z, (M z).isSome = true ↔ z ∈ (l.filter fun x => decide (x.f3 = 1)).map (·.f2)
theorem Inv.nil : Inv (fun _ => none) [] := ⟨fun z => rfl, fun _ _ _ _ => rfl, List.nodup_nil, fun z => by simp⟩
theorem faultR_eq {M : Int → Option St} {l : List S34} (h : Inv M l) (x : S34) : faultR l x = faultP M (lastD l) x := by
  unfold faultR faultP
  by_cases hb : badP x = true
  · rw [if_pos hb, if_pos hb]
  · rw [if_neg hb, if_neg hb]
    by_cases hd : ((lastD l).any fun d => decide (x.f0 < d)) = true
    · rw [if_pos hd, if_pos hd]
    · rw [if_neg hd, if_neg hd, h.scn]
      unfold flt
      cases hM : M x.f2 with
      | none => simp
      | some s => simp
theorem Inv.step {M : Int → Option St} {l : List S34} (h : Inv M l) {x : S34} (hf : faultP M (lastD l) x = 0) : Inv (stepP M x) (l ++ [x]) := by
  unfold faultP at hf
  by_cases hb : badP x = true
  · rw [if_pos hb] at hf; cases hf
  · rw [if_neg hb] at hf
    rw [bad_iff] at hb
    have hb : 0 ≤ x.f0 ∧ x.f0 ≤ 100000 ∧ 1 ≤ x.f1 ∧ x.f1 ≤ 1073741824 ∧ 1 ≤ x.f2 ∧ x.f2 ≤ 1073741824 ∧ 1 ≤ x.f3 ∧ x.f3 ≤ 4 := Decidable.not_not.1 hb
    by_cases hd : ((lastD l).any fun d => decide (x.f0 < d)) = true
    · rw [if_pos hd] at hf; cases hf
    · rw [if_neg hd] at hf
      clear hd
      by_cases h1 : x.f3 = 1
      · rw [if_pos h1] at hf
        have hN : M x.f2 = none := by
          cases hM : M x.f2 with
          | none => rfl
          | some s => rw [hM] at hf; cases hf
        have hst : newSt ((M x.f2).getD ⟨0, 0, 0⟩) x = ⟨x.f1, x.f0, 100002⟩ := by unfold newSt; rw [if_pos h1]
        have hfil : (l ++ [x]).filter (fun x => decide (x.f3 = 1)) = l.filter (fun x => decide (x.f3 = 1)) ++ [x] := by
          rw [List.filter_append]
          simp [h1]
        refine ⟨fun z => ?_, fun place z day hday => ?_, ?_, fun z => ?_⟩
        · unfold K.scn
          rw [List.foldl_append]
          have e := h.scn z
          unfold K.scn at e
          rw [e]
          unfold stepP mput
          by_cases c : z = x.f2
          · subst c
            rw [if_pos rfl, hst, hN]
            simp [scnS, h1]
          · rw [if_neg c]
            have c' : ¬ x.f2 = z := fun e => c e.symm
            simp [scnS, c']
        · unfold hasL
          rw [List.foldl_append]
          have e := h.has place z day hday
          unfold hasL at e
          rw [e]
          unfold stepP mput
          by_cases c : z = x.f2
          · subst c
            rw [if_pos rfl, hst, hN]
            simp only [List.foldl_cons, List.foldl_nil, hasS]
            by_cases c2 : x.f0 > day
            · simp [c2]; omega
            · by_cases c3 : x.f1 = place
              · subst c3
                simp [c2, h1]; omega
              · simp [c3]
          · rw [if_neg c]
            have c' : ¬ x.f2 = z := fun e => c e.symm
            simp [hasS, c']
        · rw [hfil, List.map_append, List.nodup_append]
          refine ⟨h.nodup, by simp, ?_⟩
          intro a ha b hb' e
          simp at hb'
          subst hb'
          subst e
          have := (h.app x.f2).2 ha
          rw [hN] at this
          cases this
        · rw [hfil, List.map_append, List.mem_append]
          unfold stepP mput
          by_cases c : z = x.f2
          · subst c
            simp
          · rw [if_neg c, h.app z]
            simp [c]
      · rw [if_neg h1] at hf
        obtain ⟨s, hs⟩ : ∃ s, M x.f2 = some s := by
          cases hM : M x.f2 with
          | none => rw [hM] at hf; simp at hf
          | some s => exact ⟨s, rfl⟩
        rw [hs] at hf
        simp only [Option.isSome_some, Option.getD_some] at hf
        rw [if_neg (by decide)] at hf
        have hp : s.pl = x.f1 := by
          apply Decidable.byContradiction
          intro hp
          rw [if_pos hp] at hf
          cases hf
        rw [if_neg (by simp [hp])] at hf
        have ht : s.tt = 100002 := by
          apply Decidable.byContradiction
          intro hp
          rw [if_pos hp] at hf
          cases hf
        have hfil : (l ++ [x]).filter (fun x => decide (x.f3 = 1)) = l.filter (fun x => decide (x.f3 = 1)) := by
          rw [List.filter_append]
          simp [h1]
        have hst : newSt ((M x.f2).getD ⟨0, 0, 0⟩) x = if x.f3 = 3 ∨ x.f3 = 4 then ⟨s.pl, s.fr, x.f0⟩ else s := by unfold newSt; rw [if_neg h1, hs]; rfl
        refine ⟨fun z => ?_, fun place z day hday => ?_, ?_, fun z => ?_⟩
        · unfold K.scn
          rw [List.foldl_append]
          have e := h.scn z
          unfold K.scn at e
          rw [e]
          unfold stepP mput
          by_cases c : z = x.f2
          · subst c
            rw [if_pos rfl, hst, hs]
            by_cases c3 : x.f3 = 3 ∨ x.f3 = 4
            · rw [if_pos c3]
              have : (decide (x.f3 = 3) || decide (x.f3 = 4)) = true := by simpa using c3
              have h2 : x.f0 ≠ 100002 := by omega
              simp [scnS, h1, this, h2]
            · rw [if_neg c3]
              have : (decide (x.f3 = 3) || decide (x.f3 = 4)) = false := by
                rw [Bool.or_eq_false_iff, decide_eq_false_iff_not, decide_eq_false_iff_not]
                exact ⟨fun e => c3 (.inl e), fun e => c3 (.inr e)⟩
              simp [scnS, h1, this, ht]
          · rw [if_neg c]
            have c' : ¬ x.f2 = z := fun e => c e.symm
            simp [scnS, c']
        · unfold hasL
          rw [List.foldl_append]
          have e := h.has place z day hday
          unfold hasL at e
          rw [e]
          unfold stepP mput
          by_cases c : z = x.f2
          · subst c
            rw [if_pos rfl, hst, hs]
            simp only [List.foldl_cons, List.foldl_nil, hasS]
            by_cases c4 : x.f1 = place
            · by_cases c3 : x.f3 = 3 ∨ x.f3 = 4
              · by_cases c2 : x.f0 > day
                · simp [c2, c3, hp, c4, ht]; omega
                · simp [c2, c3, hp, c4]
              · by_cases c2 : x.f0 > day
                · simp [c2, c3, hp, c4]
                · simp [c2, c3, hp, c4, h1]
            · have : s.pl ≠ place := by rw [hp]; exact c4
              by_cases c3 : x.f3 = 3 ∨ x.f3 = 4
              · simp [c4, c3, this]
              · simp [c4, c3]
          · rw [if_neg c]
            have c' : ¬ x.f2 = z := fun e => c e.symm
            simp [hasS, c']
        · rw [hfil]
          exact h.nodup
        · rw [hfil]
          unfold stepP mput
          by_cases c : z = x.f2
          · subst c
            rw [if_pos rfl, ← h.app x.f2, hs]
            simp
          · rw [if_neg c]
            exact h.app z
theorem lastD_snoc (l : List S34) (x : S34) : lastD (l ++ [x]) = some x.f0 := by
  unfold lastD
  simp
theorem chk_folgo (l : List S34) : ∀ (suf : List S34) (i : Nat) (M : Int → Option St), l.drop i = suf → Inv M (l.take i) →
    chk l i suf = ((folgo M (lastD (l.take i)) i suf).2.1, (folgo M (lastD (l.take i)) i suf).2.2) ∧ ((folgo M (lastD (l.take i)) i suf).2.2 = 0 → Inv (folgo M (lastD (l.take i)) i suf).1 l)
  | [], i, M, h, hI => by
    have hle := drop_end h
    rw [List.take_of_length_le hle] at hI
    exact ⟨rfl, fun _ => hI⟩
  | x :: suf, i, M, h, hI => by
    obtain ⟨hi, hx, hd, ht⟩ := drop_at h
    unfold chk folgo
    rw [faultR_eq hI x]
    by_cases c : faultP M (lastD (l.take i)) x = 0
    · rw [if_pos c, if_pos c]
      have hI2 := hI.step c
      rw [← ht] at hI2
      have ih := chk_folgo l suf (i + 1) (stepP M x) hd hI2
      rw [ht, lastD_snoc] at ih
      exact ih
    · rw [if_neg c, if_neg c]
      exact ⟨rfl, fun h => absurd h c⟩
theorem fol_inv {l : List S34} (h : (fol l).2.2 = 0) : Inv (fol l).1 l := by
  have hl := (fol_ok h).2
  unfold fol at h ⊢
  rw [if_neg (by omega)] at h ⊢
  exact (chk_folgo l l 0 (fun _ => none) rfl (by simpa using Inv.nil)).2 h
theorem check_ev (l : List S34) (hl : l.length ≤ 200) : Ev (fun k => spileref39_Check.f k l) ((fol l).2.1, (fol l).2.2) := by
  unfold spileref39_Check.f fol
  by_cases c : (l.length : Int) > 128
  · simp only [if_pos c]
    rw [if_pos (by omega)]
    exact Ev.const _
  · simp only [if_neg c]
    rw [if_neg (by omega)]
    have h := (chk_folgo l l 0 (fun _ => none) rfl (by simpa using Inv.nil)).1
    simp only [List.take_zero] at h
    have e : (folgo (fun _ => none) (lastD []) 0 l) = folgo (fun _ => none) none 0 l := rfl
    rw [e] at h
    rw [← h]
    exact check_l0 l hl l 0 rfl
theorem right_ev (l : List S34) (hl : l.length ≤ 200) : Ev (fun k => spileref39_right.f k l) ((fol l).2.2 == 0) := by
  unfold spileref39_right.f
  exact Ev.bind (check_ev l hl) (Ev.const _)
end Go.Proofs.Ytfjenooajbdcmaa.K
namespace Go.Proofs.Ytfjenooajbdcmaa.K
open Go Go.RowKit Go.Proofs.YtfjenooajbdcmaaW.PrintWords Go.Proofs.Ytfjenooajbdcmaa.GM
set_option linter.unusedVariables false
set_option linter.unusedSimpArgs false
/-! ### has -/
theorem has_l0 (l : List S34) (hl : l.length ≤ 200) (place z day : Int) : ∀ (suf : List S34) (i : Nat) (b : Bool), l.drop i = suf → Ev (fun k => spileref39_has.l0 k l place z day b (i : Int)) (suf.foldl (hasS place z day) b)
  | [], i, b, h => by
    have := drop_end h
    exact Ev.succ (Ev.const _) (fun k => by rw [spileref39_has.l0, if_neg (by omega)]; rfl)
  | x :: suf, i, b, h => by
    obtain ⟨hi, hx, hd, _⟩ := drop_at h
    have ih := fun b => has_l0 l hl place z day suf (i + 1) b hd
    have p1 : (0 : Int) ≤ (i : Int) := by omega
    have p2 : (i : Int) < (l.length : Int) := by omega
    have hw := wrap_up (show i ≤ 1000 by omega)
    have j2 : ∀ b, Ev (fun k => spileref39_has.j2 k l place z day b (i : Int)) (suf.foldl (hasS place z day) (if x.f3 = 3 ∨ x.f3 = 4 then false else b)) := by
      intro b
      refine Ev.succ (ih _) (fun k => ?_)
      rw [spileref39_has.j2, if_pos p1, if_pos p2, hx, hw]
      by_cases c3 : x.f3 = 3
      · rw [if_pos c3, if_pos (.inl c3)]
      · rw [if_neg c3]
        by_cases c4 : x.f3 = 4
        · rw [if_pos c4, if_pos (.inr c4)]
        · rw [if_neg c4, if_neg (by omega)]
    have j1f : Ev (fun k => spileref39_has.j1 k l place z day b (i : Int) false) (suf.foldl (hasS place z day) (if x.f3 = 3 ∨ x.f3 = 4 then false else if x.f3 = 1 then true else b)) := by
      by_cases c1 : x.f3 = 1
      · rw [if_pos c1]
        exact Ev.succ (j2 true) (fun k => by rw [spileref39_has.j1, if_neg (by decide), if_pos p1, if_pos p2, hx, if_pos c1])
      · rw [if_neg c1]
        exact Ev.succ (j2 b) (fun k => by rw [spileref39_has.j1, if_neg (by decide), if_pos p1, if_pos p2, hx, if_neg c1])
    have j1t : Ev (fun k => spileref39_has.j1 k l place z day b (i : Int) true) (suf.foldl (hasS place z day) b) :=
      Ev.succ (ih b) (fun k => by rw [spileref39_has.j1, if_pos rfl, hw])
    rw [List.foldl_cons]
    unfold hasS
    by_cases c0 : x.f0 > day
    · rw [if_pos (.inl c0)]
      exact Ev.succ j1t (fun k => by rw [spileref39_has.l0, if_pos p2, if_pos p1, hx, if_pos c0])
    · by_cases c2 : x.f2 = z
      · by_cases c1 : x.f1 = place
        · rw [if_neg (by simp [c0, c2, c1])]
          refine Ev.succ j1f (fun k => ?_)
          rw [spileref39_has.l0, if_pos p2, if_pos p1, hx, if_neg c0, if_pos c2, c1]
          simp
        · rw [if_pos (.inr (.inr c1))]
          refine Ev.succ j1t (fun k => ?_)
          rw [spileref39_has.l0, if_pos p2, if_pos p1, hx, if_neg c0, if_pos c2, bne_iff_ne.2 c1]
      · rw [if_pos (.inr (.inl c2))]
        refine Ev.succ j1t (fun k => ?_)
        rw [spileref39_has.l0, if_pos p2, if_pos p1, hx, if_neg c0, if_neg c2]
theorem has_ev (l : List S34) (hl : l.length ≤ 200) (place z day : Int) : Ev (fun k => spileref39_has.f k l place z day) (hasL l place z day) := has_l0 l hl place z day l 0 false rfl
/-! ### intact -/
/-- v, moved down behind the last one (of ra backwards) that is not greater. -/
def bub : List Int → Int → List Int → List Int
  | [], v, b => v :: b
  | u :: ra, v, b => if u > v then bub ra v (u :: b) else (u :: ra).reverse ++ v :: b
theorem bub_perm : ∀ (ra : List Int) (v : Int) (b : List Int), (bub ra v b).Perm (ra.reverse ++ v :: b)
  | [], v, b => .refl _
  | u :: ra, v, b => by
    unfold bub
    split
    · refine (bub_perm ra v (u :: b)).trans ?_
      rw [List.reverse_cons, List.append_assoc]
      exact (List.Perm.swap u v b).append_left ra.reverse |> fun h => by simpa using h
    · exact .refl _
theorem bub_len (ra : List Int) (v : Int) (b : List Int) : (bub ra v b).length = ra.length + 1 + b.length := by
  rw [(bub_perm ra v b).length_eq]
  simp
  omega
theorem bub_sorted : ∀ (ra : List Int) (v : Int) (b : List Int), (ra.reverse ++ b).Pairwise (· ≤ ·) → (∀ y ∈ b, v ≤ y) → (bub ra v b).Pairwise (· ≤ ·)
  | [], v, b, h, hv => List.pairwise_cons.2 ⟨hv, by simpa using h⟩
  | u :: ra, v, b, h, hv => by
    unfold bub
    split
    · rename_i hu
      refine bub_sorted ra v (u :: b) (by simpa using h) ?_
      intro y hy
      rcases List.mem_cons.1 hy with rfl | hy
      · omega
      · exact hv y hy
    · rename_i hu
      obtain ⟨h1, h2, h3⟩ := List.pairwise_append.1 h
      refine List.pairwise_append.2 ⟨h1, List.pairwise_cons.2 ⟨hv, h2⟩, ?_⟩
      intro a ha c hc
      rcases List.mem_cons.1 hc with rfl | hc
      · rw [List.reverse_cons] at ha h1
        obtain ⟨_, _, h4⟩ := List.pairwise_append.1 h1
        rcases List.mem_append.1 ha with ha | ha
        · have := h4 a ha u (by simp)
          omega
        · simp at ha
          omega
      · exact h3 a ha c hc
theorem bub_at (ra : List Int) (u v : Int) (b : List Int) : rd ((u :: ra).reverse ++ v :: b) (ra.length : Int) = u ∧ rd ((u :: ra).reverse ++ v :: b) ((ra.length + 1 : Nat) : Int) = v ∧ (((u :: ra).reverse ++ v :: b).set ra.length v).set (ra.length + 1) u = ra.reverse ++ v :: u :: b := by
  unfold rd
  simp only [List.reverse_cons, List.append_assoc, List.singleton_append, Int.toNat_natCast]
  refine ⟨?_, ?_, ?_⟩
  · simp [List.getElem?_append_right]
  · simp [List.getElem?_append_right]
  · rw [List.set_append_right _ _ (by simp), List.set_append_right _ _ (by simp)]
    simp
def intS (l : List S34) (place day : Int) (out : List Int) (x : S34) : List Int := if x.f3 = 1 ∧ hasL l place x.f2 day = true then bub out.reverse x.f2 [] else out
theorem intact_l1 (l : List S34) (hl : l.length ≤ 200) (place day : Int) (i : Nat) (hi : i ≤ 1000) (R : List Int → List Int) (n : Nat) (hn : n ≤ 202)
    (ih : ∀ out : List Int, out.length = n → Ev (fun k => spileref39_intact.l0 k l place day out ((i + 1 : Nat) : Int)) (R out)) :
    ∀ (ra : List Int) (v : Int) (b : List Int), ra.length + 1 + b.length = n → Ev (fun k => spileref39_intact.l1 k l place day (ra.reverse ++ v :: b) (i : Int) (ra.length : Int)) (R (bub ra v b))
  | [], v, b, h => by
    refine Ev.succ (ih (v :: b) (by simp at h ⊢; omega)) (fun k => ?_)
    rw [spileref39_intact.l1, if_neg (by simp), wrap_up hi]
    rfl
  | u :: ra, v, b, h => by
    have hlen : (((u :: ra).reverse ++ v :: b).length : Int) = (ra.length + 2 + b.length : Nat) := by simp; omega
    have hw : wrap64 (((u :: ra).length : Int) - 1) = (ra.length : Int) := by
      simp at h ⊢
      unfold wrap64
      omega
    obtain ⟨e1, e2, e3⟩ := bub_at ra u v b
    have hc : ((u :: ra).length : Int) = ((ra.length + 1 : Nat) : Int) := by simp
    have q1 : ((u :: ra).length : Int) > 0 := by rw [hc]; omega
    have q2 : (0 : Int) ≤ (ra.length : Int) := by omega
    have q3 : (ra.length : Int) < (((u :: ra).reverse ++ v :: b).length : Int) := by rw [hlen]; omega
    have q4 : (0 : Int) ≤ ((u :: ra).length : Int) := by rw [hc]; omega
    have q5 : ((u :: ra).length : Int) < (((u :: ra).reverse ++ v :: b).length : Int) := by rw [hlen, hc]; omega
    unfold bub
    by_cases c : u > v
    · rw [if_pos c]
      refine Ev.succ (intact_l1 l hl place day i hi R n hn ih ra v (u :: b) (by simp at h ⊢; omega)) (fun k => ?_)
      rw [spileref39_intact.l1, if_pos q1, hw, if_pos q2, if_pos q3, if_pos q4, if_pos q5, hc, e1, e2, if_pos c, Int.toNat_natCast, Int.toNat_natCast, e3]
    · rw [if_neg c]
      refine Ev.succ (ih ((u :: ra).reverse ++ v :: b) (by simp at h ⊢; omega)) (fun k => ?_)
      rw [spileref39_intact.l1, if_pos q1, hw, if_pos q2, if_pos q3, if_pos q4, if_pos q5, hc, e1, e2, if_neg c, wrap_up hi]
theorem intact_l0 (l : List S34) (hl : l.length ≤ 200) (place day : Int) : ∀ (suf : List S34) (i : Nat) (out : List Int), l.drop i = suf → out.length ≤ 201 → out.length + suf.length ≤ 201 → Ev (fun k => spileref39_intact.l0 k l place day out (i : Int)) (suf.foldl (intS l place day) out)
  | [], i, out, h, _, _ => by
    have := drop_end h
    exact Ev.succ (Ev.const _) (fun k => by rw [spileref39_intact.l0, if_neg (by omega)]; rfl)
  | x :: suf, i, out, h, ho, hos => by
    obtain ⟨hi, hx, hd, _⟩ := drop_at h
    have p1 : (0 : Int) ≤ (i : Int) := by omega
    have p2 : (i : Int) < (l.length : Int) := by omega
    have hi2 : i ≤ 1000 := by omega
    have hw := wrap_up hi2
    simp only [List.length_cons] at hos
    have j1t : Ev (fun k => spileref39_intact.j1 k l place day out (i : Int) true) (suf.foldl (intS l place day) out) :=
      Ev.succ (intact_l0 l hl place day suf (i + 1) out hd (by omega) (by omega)) (fun k => by rw [spileref39_intact.j1, if_pos rfl, hw])
    have p3 : out.length < 17592186044416 := by omega
    have j1f : Ev (fun k => spileref39_intact.j1 k l place day out (i : Int) false) (suf.foldl (intS l place day) (bub out.reverse x.f2 [])) := by
      have hl1 : Ev (fun k => spileref39_intact.l1 k l place day (out ++ [x.f2]) (i : Int) (out.length : Int)) (suf.foldl (intS l place day) (bub out.reverse x.f2 [])) := by
        have g : ∀ o : List Int, o.length = out.length + 1 → Ev (fun k => spileref39_intact.l0 k l place day o ((i + 1 : Nat) : Int)) (suf.foldl (intS l place day) o) :=
          fun o hol => intact_l0 l hl place day suf (i + 1) o hd (by omega) (by omega)
        have h1 := intact_l1 l hl place day i hi2 (fun o => suf.foldl (intS l place day) o) (out.length + 1) (by omega) g out.reverse x.f2 [] (by simp)
        simp only [List.reverse_reverse, List.length_reverse] at h1
        exact h1
      exact Ev.succ hl1 (fun k => by rw [spileref39_intact.j1, if_neg (by decide), if_pos p1, if_pos p2, if_pos p3, hx])
    rw [List.foldl_cons]
    unfold intS
    by_cases c1 : x.f3 = 1
    · refine Ev.shift ?_
      simp only [spileref39_intact.l0, if_pos p2, if_pos p1, hx, if_pos c1]
      refine Ev.bind (has_ev l hl place x.f2 day) ?_
      cases hh : hasL l place x.f2 day with
      | true =>
        rw [if_pos ⟨c1, rfl⟩]
        exact j1f
      | false =>
        rw [if_neg (by simp)]
        exact j1t
    · rw [if_neg (by simp [c1])]
      exact Ev.succ j1t (fun k => by rw [spileref39_intact.l0, if_pos p2, if_pos p1, hx, if_neg c1])
theorem intact_ev (l : List S34) (hl : l.length ≤ 200) (place day : Int) : Ev (fun k => spileref39_intact.f k l place day) (l.foldl (intS l place day) []) := intact_l0 l hl place day l 0 [] rfl (by simp) (by simp; omega)
theorem intF_perm (l : List S34) (place day : Int) : ∀ (suf : List S34) (out : List Int), (suf.foldl (intS l place day) out).Perm (out ++ ((suf.filter fun x => decide (x.f3 = 1)).map (·.f2)).filter fun z => hasL l place z day)
  | [], out => by simp
  | x :: suf, out => by
    rw [List.foldl_cons]
    refine (intF_perm l place day suf _).trans ?_
    unfold intS
    by_cases c1 : x.f3 = 1
    · by_cases c2 : hasL l place x.f2 day = true
      · rw [if_pos ⟨c1, c2⟩]
        simp only [List.filter_cons, c1, decide_true, if_true, List.map_cons, c2]
        have h := (bub_perm out.reverse x.f2 []).append_right (((suf.filter fun x => decide (x.f3 = 1)).map (·.f2)).filter fun z => hasL l place z day)
        simpa using h
      · rw [if_neg (by simp [c2])]
        simp [List.filter_cons, c1, c2]
    · rw [if_neg (by simp [c1])]
      simp [List.filter_cons, c1]
theorem intF_sorted (l : List S34) (place day : Int) : ∀ (suf : List S34) (out : List Int), out.Pairwise (· ≤ ·) → (suf.foldl (intS l place day) out).Pairwise (· ≤ ·)
  | [], out, h => h
  | x :: suf, out, h => by
    rw [List.foldl_cons]
    refine intF_sorted l place day suf _ ?_
    unfold intS
    split
    · exact bub_sorted out.reverse x.f2 [] (by simpa using h) (by simp)
    · exact h
theorem strict_of : ∀ {a : List Int}, a.Pairwise (· ≤ ·) → a.Nodup → a.Pairwise (· < ·)
  | [], _, _ => List.Pairwise.nil
  | x :: a, h, hn => by
    obtain ⟨h1, h2⟩ := List.pairwise_cons.1 h
    obtain ⟨n1, n2⟩ := List.nodup_cons.1 hn
    refine List.pairwise_cons.2 ⟨fun y hy => ?_, strict_of h2 n2⟩
    have := h1 y hy
    have : x ≠ y := fun e => n1 (e ▸ hy)
    omega
theorem hasL_eq {l : List S34} (h : (fol l).2.2 = 0) (place z : Int) {day : Int} (hd : day ≤ 100001) : hasL l place z day = (intactM l place day z).isSome := by
  rw [(fol_inv h).has place z day hd]
  unfold intactM ownP
  cases (fol l).1 z with
  | none => rfl
  | some s =>
    simp only [Option.filter_some]
    by_cases c : s.pl = place
    · by_cases c2 : s.fr ≤ day
      · by_cases c3 : s.tt > day
        · have : ¬ s.fr > day := by omega
          have : ¬ s.tt ≤ day := by omega
          simp [*]
        · have : s.tt ≤ day := by omega
          simp [*]
      · have : s.fr > day := by omega
        simp [*]
    · simp [c]
theorem intact_eq {l : List S34} (h : (fol l).2.2 = 0) (place : Int) {day : Int} (hd : day ≤ 100001) : l.foldl (intS l place day) [] = intactL l place day := by
  have hI := fol_inv h
  have hp := intF_perm l place day l []
  rw [List.nil_append] at hp
  refine asc_ext _ _ (strict_of (intF_sorted l place day l [] List.Pairwise.nil) (hp.nodup_iff.2 (hI.nodup.filter _))) (asc_intactL l place day) (fun z => ?_)
  rw [hp.mem_iff, mem_intactL, List.mem_filter, ← hasL_eq h place z hd]
  refine ⟨fun h => h.2, fun h2 => ⟨(hI.app z).1 ?_, h2⟩⟩
  rw [hI.has place z day hd] at h2
  cases hM : (fol l).1 z with
  | none => rw [hM] at h2; cases h2
  | some s => rfl
end Go.Proofs.Ytfjenooajbdcmaa.K
namespace Go.Proofs.Ytfjenooajbdcmaa.K
open Go Go.RowKit Go.Proofs.YtfjenooajbdcmaaW.PrintWords Go.Proofs.Ytfjenooajbdcmaa.GM
set_option linter.unusedVariables false
set_option linter.unusedSimpArgs false
theorem drop_atI {l suf : List Int} {x : Int} {i : Nat} (h : l.drop i = x :: suf) : i < l.length ∧ rd l (i : Int) = x ∧ l.drop (i + 1) = suf := by
  have hi : i < l.length := by
    apply Nat.lt_of_not_le
    intro hle
    rw [List.drop_eq_nil_of_le hle] at h
    cases h
  rw [List.drop_eq_getElem_cons hi] at h
  injection h with h1 h2
  refine ⟨hi, ?_, h2⟩
  unfold rd
  simp [List.getD_eq_getElem?_getD, hi, h1]
theorem intact_ref {l : List S34} (h : (fol l).2.2 = 0) (place : Int) {day : Int} (hd : day ≤ 100001) : Ev (fun k => spileref39_intact.f k l place day) (intactL l place day) := by
  rw [← intact_eq h place hd]
  exact intact_ev l (by have := (fol_ok h).2; omega) place day
theorem Intact_ref (l : List S34) (hl : l.length ≤ 200) (place day : Int) : Ev (fun k => spileref39_Intact.f k l place day) (if askE l place [day] = 0 then (intactL l place day, 0) else ([], askE l place [day])) := by
  unfold spileref39_Intact.f
  refine Ev.bind (right_ev l hl) ?_
  simp only [id_f, day_f, Option.bind_some]
  by_cases c0 : (fol l).2.2 = 0
  · simp only [if_pos (show ((fol l).2.2 == 0) = true by rw [c0]; rfl)]
    have e : askE l place [day] = if (decide (place < 1) || (decide (place > 1073741824) || [day].any badD)) = true then 2 else 0 := by unfold askE; rw [if_neg (by simp [c0])]
    by_cases c1 : (decide (1 ≤ place) && decide (place ≤ 1073741824)) = true
    · by_cases c2 : (decide (0 ≤ day) && decide (day ≤ 100000)) = true
      · simp only [if_pos c1, if_pos c2]
        simp only [Bool.and_eq_true, decide_eq_true_eq] at c1 c2
        rw [show askE l place [day] = 0 by rw [e, if_neg (by simp [badD]; omega)], if_pos rfl]
        exact Ev.bind (intact_ref c0 place (by omega)) (Ev.const _)
      · simp only [if_pos c1, if_neg c2]
        simp only [Bool.and_eq_true, decide_eq_true_eq] at c1 c2
        rw [show askE l place [day] = 2 by rw [e, if_pos (by simp [badD]; omega)], if_neg (by decide)]
        exact Ev.const _
    · simp only [if_neg c1]
      simp only [Bool.and_eq_true, decide_eq_true_eq] at c1
      rw [show askE l place [day] = 2 by rw [e, if_pos (by simp; omega)], if_neg (by decide)]
      exact Ev.const _
  · simp only [if_neg (show ¬ ((fol l).2.2 == 0) = true by simp [c0])]
    have e : askE l place [day] = 1 := by unfold askE; rw [if_pos c0]
    rw [e, if_neg (by decide)]
    exact Ev.const _
/-- The first error of a question about a place and two days. -/
def startE (l : List S34) (place fr tt : Int) : Int := if askE l place [fr, tt] = 0 then (if fr > tt then 5 else 0) else askE l place [fr, tt]
theorem start_j0 (fr tt : Int) (b : Bool) : Ev (fun k => spileref39_start.j0 k fr tt b) (if b = true then 2 else if fr > tt then 5 else 0) := by
  cases b with
  | true => exact Ev.succ (Ev.const _) (fun k => by rw [spileref39_start.j0, if_pos rfl]; rfl)
  | false =>
    refine Ev.succ (Ev.const _) (fun k => ?_)
    rw [spileref39_start.j0]
    by_cases c : fr > tt <;> simp [c]
theorem start_ref (l : List S34) (hl : l.length ≤ 200) (place fr tt : Int) : Ev (fun k => spileref39_start.f k l place fr tt) (startE l place fr tt) := by
  unfold spileref39_start.f startE
  refine Ev.bind (right_ev l hl) ?_
  simp only [id_f, day_f, Option.bind_some]
  by_cases c0 : (fol l).2.2 = 0
  · simp only [if_pos (show ((fol l).2.2 == 0) = true by rw [c0]; rfl)]
    have e : askE l place [fr, tt] = if (decide (place < 1) || (decide (place > 1073741824) || [fr, tt].any badD)) = true then 2 else 0 := by unfold askE; rw [if_neg (by simp [c0])]
    by_cases c1 : (decide (1 ≤ place) && decide (place ≤ 1073741824)) = true
    · by_cases c2 : (decide (0 ≤ fr) && decide (fr ≤ 100000)) = true
      · simp only [if_pos c1, if_pos c2]
        have hj := start_j0 fr tt (!(decide (0 ≤ tt) && decide (tt ≤ 100000)))
        by_cases c3 : (decide (0 ≤ tt) && decide (tt ≤ 100000)) = true
        · rw [c3] at hj
          simp only [Bool.and_eq_true, decide_eq_true_eq] at c1 c2 c3
          rw [show askE l place [fr, tt] = 0 by rw [e, if_neg (by simp [badD]; omega)], if_pos rfl]
          simpa [c3] using hj
        · have c3' : (decide (0 ≤ tt) && decide (tt ≤ 100000)) = false := by simpa using c3
          rw [c3'] at hj
          simp only [Bool.and_eq_true, decide_eq_true_eq] at c1 c2 c3
          rw [show askE l place [fr, tt] = 2 by rw [e, if_pos (by simp [badD]; omega)], if_neg (by decide)]
          simp only [c3']
          exact hj
      · simp only [if_pos c1, if_neg c2]
        simp only [Bool.and_eq_true, decide_eq_true_eq] at c1 c2
        rw [show askE l place [fr, tt] = 2 by rw [e, if_pos (by simp [badD]; omega)], if_neg (by decide)]
        exact start_j0 fr tt true
    · simp only [if_neg c1]
      simp only [Bool.and_eq_true, decide_eq_true_eq] at c1
      rw [show askE l place [fr, tt] = 2 by rw [e, if_pos (by simp; omega)], if_neg (by decide)]
      exact start_j0 fr tt true
  · simp only [if_neg (show ¬ ((fol l).2.2 == 0) = true by simp [c0])]
    have e : askE l place [fr, tt] = 1 := by unfold askE; rw [if_pos c0]
    rw [e, if_neg (by decide)]
    exact Ev.const _
/-! ### Unbroken -/
def allD (p : Int → Bool) : Int → Nat → Bool
  | _, 0 => true
  | d, n + 1 => p d && allD p (d + 1) n
theorem allD_iff (p : Int → Bool) : ∀ (n : Nat) (d : Int), allD p d n = true ↔ ∀ x, d ≤ x → x < d + n → p x = true
  | 0, d => ⟨fun _ x h1 h2 => by omega, fun _ => rfl⟩
  | n + 1, d => by
    unfold allD
    rw [Bool.and_eq_true, allD_iff p n (d + 1)]
    constructor
    · rintro ⟨h1, h2⟩ x h3 h4
      by_cases e : x = d
      · rw [e]; exact h1
      · exact h2 x (by omega) (by omega)
    · intro h
      exact ⟨h d (by omega) (by omega), fun x h1 h2 => h x (by omega) (by omega)⟩
theorem unb_l1 (l : List S34) (hl : l.length ≤ 200) (place fr tt : Int) (L : List Int) (j : Nat) (hj : j < L.length) (hjl : j ≤ 1000) (z : Int) (hz : rd L (j : Int) = z) (htt : tt ≤ 100000) (R : Bool × Int)
    (ih : Ev (fun k => spileref39_Unbroken.l0 k l place fr tt L ((j + 1 : Nat) : Int)) R) : ∀ (n : Nat) (d : Int) (b : Bool), 0 ≤ d → d + n = tt + 1 →
    Ev (fun k => spileref39_Unbroken.l1 k l place fr tt L (j : Int) b d) (if (b && allD (hasL l place z) d n) = true then (true, 0) else R)
  | 0, d, b, h0, h => by
    have hd : ¬ d ≤ tt := by omega
    cases b with
    | true => exact Ev.succ (Ev.const _) (fun k => by rw [spileref39_Unbroken.l1, if_neg hd, if_pos rfl]; rfl)
    | false => exact Ev.succ ih (fun k => by rw [spileref39_Unbroken.l1, if_neg hd, if_neg (by decide), wrap_up hjl])
  | n + 1, d, b, h0, h => by
    have hd : d ≤ tt := by omega
    have hw : wrap64 (d + 1) = d + 1 := by unfold wrap64; omega
    have ih2 := fun b => unb_l1 l hl place fr tt L j hj hjl z hz htt R ih n (d + 1) b (by omega) (by omega)
    cases b with
    | true =>
      refine Ev.shift ?_
      simp only [spileref39_Unbroken.l1, if_pos hd, if_true, if_pos (show (0 : Int) ≤ (j : Int) by omega), if_pos (show (j : Int) < (L.length : Int) by omega), hz, hw]
      refine Ev.bind (has_ev l hl place z d) ?_
      exact ih2 _
    | false =>
      refine Ev.succ (ih2 false) (fun k => ?_)
      rw [spileref39_Unbroken.l1, if_pos hd, if_neg (by decide), hw]
theorem unb_l0 (l : List S34) (hl : l.length ≤ 200) (place fr tt : Int) (L : List Int) (hL : L.length ≤ 1000) (h0 : 0 ≤ fr) (hft : fr ≤ tt) (htt : tt ≤ 100000) : ∀ (suf : List Int) (j : Nat), L.drop j = suf →
    Ev (fun k => spileref39_Unbroken.l0 k l place fr tt L (j : Int)) (suf.any fun z => allD (hasL l place z) fr (tt + 1 - fr).toNat, 0)
  | [], j, h => by
    have : L.length ≤ j := by simpa using h
    exact Ev.succ (Ev.const _) (fun k => by rw [spileref39_Unbroken.l0, if_neg (by omega)]; rfl)
  | z :: suf, j, h => by
    obtain ⟨hj, hz, hd⟩ := drop_atI h
    have ih := unb_l0 l hl place fr tt L hL h0 hft htt suf (j + 1) hd
    have h1 := unb_l1 l hl place fr tt L j hj (by omega) z hz htt _ ih (tt + 1 - fr).toNat fr true h0 (by omega)
    have e : (((z :: suf).any fun z => allD (hasL l place z) fr (tt + 1 - fr).toNat), (0 : Int)) = if (true && allD (hasL l place z) fr (tt + 1 - fr).toNat) = true then (true, 0) else (suf.any fun z => allD (hasL l place z) fr (tt + 1 - fr).toNat, 0) := by
      rw [List.any_cons, Bool.true_and]
      cases allD (hasL l place z) fr (tt + 1 - fr).toNat <;> rfl
    rw [e]
    exact Ev.succ h1 (fun k => by rw [spileref39_Unbroken.l0, if_pos (by omega)])
theorem has_own {l : List S34} (h : (fol l).2.2 = 0) (place z : Int) {day : Int} (hd : day ≤ 100001) : hasL l place z day = true ↔ ∃ s, ownP l place z = some s ∧ s.fr ≤ day ∧ day < s.tt := by
  rw [hasL_eq h place z hd]
  unfold intactM
  cases ownP l place z with
  | none => simp
  | some s =>
    simp only [Option.filter_some]
    constructor
    · intro h
      split at h
      · rename_i hc
        simp at hc
        exact ⟨s, rfl, by omega, by omega⟩
      · cases h
    · rintro ⟨t, ht, h1, h2⟩
      injection ht with ht
      subst ht
      rw [if_pos (by simp; omega)]
      rfl
theorem unb_any {l : List S34} (h : (fol l).2.2 = 0) (place : Int) {fr tt : Int} (h0 : 0 ≤ fr) (hft : fr ≤ tt) (htt : tt ≤ 100000) : ((intactL l place fr).any fun z => allD (hasL l place z) fr (tt + 1 - fr).toNat) = ubM l place fr tt := by
  cases hc : ubM l place fr tt with
  | true =>
    obtain ⟨z, hz, hs⟩ := List.any_eq_true.1 hc
    obtain ⟨s, hs, hu⟩ : ∃ s, ownP l place z = some s ∧ ubS fr tt s = true := by
      cases ho : ownP l place z with
      | none => rw [ho] at hs; cases hs
      | some s => rw [ho] at hs; exact ⟨s, rfl, hs⟩
    simp [ubS] at hu
    refine List.any_eq_true.2 ⟨z, ?_, (allD_iff _ _ _).2 fun x h1 h2 => (has_own h place z (by omega)).2 ⟨s, hs, by omega, by omega⟩⟩
    rw [mem_intactL, ← hasL_eq h place z (by omega)]
    exact (has_own h place z (by omega)).2 ⟨s, hs, by omega, by omega⟩
  | false =>
    refine List.any_eq_false.2 fun z hz ha => ?_
    have ha' := (allD_iff _ _ _).1 ha
    obtain ⟨s, hs, h1, h2⟩ := (has_own h place z (by omega)).1 (ha' fr (by omega) (by omega))
    obtain ⟨t, ht, h3, h4⟩ := (has_own h place z (by omega)).1 (ha' tt (by omega) (by omega))
    rw [hs] at ht
    injection ht with ht
    subst ht
    have := ubM_true (fr := fr) (tt := tt) hs (by simp [ubS]; omega)
    rw [hc] at this
    cases this
theorem start_ok {l : List S34} {place fr tt : Int} (h : startE l place fr tt = 0) : askE l place [fr, tt] = 0 ∧ fr ≤ tt ∧ (fol l).2.2 = 0 ∧ 0 ≤ fr ∧ tt ≤ 100000 := by
  unfold startE at h
  by_cases ha : askE l place [fr, tt] = 0
  · rw [if_pos ha] at h
    have hd := ask_days ha
    by_cases c : fr > tt
    · rw [if_pos c] at h; cases h
    · refine ⟨ha, by omega, ?_, by omega, by omega⟩
      unfold askE at ha
      apply Decidable.byContradiction
      intro hn
      rw [if_pos hn] at ha
      cases ha
  · rw [if_neg ha] at h
    exact absurd h ha
theorem intactL_len (l : List S34) (place day : Int) (hl : l.length ≤ 200) : (intactL l place day).length ≤ 200 := by
  have h1 : (intactL l place day).length ≤ (sids l).length := List.length_filter_le _ _
  have h2 : ∀ l : List S34, (sids l).length ≤ l.length := by
    intro l
    induction l with
    | nil => simp [sids]
    | cons x l ih =>
      have : ∀ (x : Int) (l : List Int), (insU x l).length ≤ l.length + 1 := by
        intro x l
        induction l with
        | nil => simp [insU]
        | cons y l ih =>
          unfold insU
          split
          · simp
          · split
            · simp
            · simp; omega
      have h3 := this x.f2 (sids l)
      show (insU x.f2 (sids l)).length ≤ l.length + 1
      omega
  have := h2 l
  omega
theorem Unb_ref (l : List S34) (hl : l.length ≤ 200) (place fr tt : Int) : Ev (fun k => spileref39_Unbroken.f k l place fr tt) (if askE l place [fr, tt] = 0 then (if fr > tt then (false, 5) else (ubM l place fr tt, 0)) else (false, askE l place [fr, tt])) := by
  unfold spileref39_Unbroken.f
  refine Ev.bind (start_ref l hl place fr tt) ?_
  by_cases hs : startE l place fr tt = 0
  · obtain ⟨ha, hft, hf, h0, htt⟩ := start_ok hs
    simp only [if_pos hs]
    rw [if_pos ha, if_neg (by omega), ← unb_any hf place h0 hft htt]
    exact Ev.bind (intact_ref hf place (by omega)) (unb_l0 l hl place fr tt _ (by have := intactL_len l place fr hl; omega) h0 hft htt _ 0 rfl)
  · simp only [if_neg hs]
    unfold startE at hs ⊢
    by_cases ha : askE l place [fr, tt] = 0
    · rw [if_pos ha] at hs ⊢
      by_cases c : fr > tt
      · rw [if_pos c, if_pos ha, if_pos c]
        exact Ev.const _
      · rw [if_neg c] at hs
        exact absurd rfl hs
    · rw [if_neg ha, if_neg ha]
      exact Ev.const _
/-! ### Open -/
theorem open_day {l : List S34} (h : (fol l).2.2 = 0) (place : Int) {d : Int} (hd : d ≤ 100001) : ((intactL l place d).length : Int) = 0 ↔ ¬ ubM l place d d = true := by
  constructor
  · intro h1 h2
    obtain ⟨z, hz, hs⟩ := List.any_eq_true.1 h2
    obtain ⟨s, hs, hu⟩ : ∃ s, ownP l place z = some s ∧ ubS d d s = true := by
      cases ho : ownP l place z with
      | none => rw [ho] at hs; cases hs
      | some s => rw [ho] at hs; exact ⟨s, rfl, hs⟩
    simp [ubS] at hu
    have : z ∈ intactL l place d := by
      rw [mem_intactL, ← hasL_eq h place z hd]
      exact (has_own h place z hd).2 ⟨s, hs, by omega, by omega⟩
    have hn : intactL l place d = [] := List.eq_nil_of_length_eq_zero (by omega)
    rw [hn] at this
    cases this
  · intro h2
    cases hi : intactL l place d with
    | nil => rfl
    | cons z zs =>
      exfalso
      have : z ∈ intactL l place d := by rw [hi]; simp
      rw [mem_intactL, ← hasL_eq h place z hd] at this
      obtain ⟨s, hs, h3, h4⟩ := (has_own h place z hd).1 this
      exact h2 (ubM_true hs (by simp [ubS]; omega))
theorem open_l0 (l : List S34) (h : (fol l).2.2 = 0) (place tt : Int) (htt : tt ≤ 100000) : ∀ (m : Nat) (n d : Int), 0 ≤ d → d + m = tt + 1 → 0 ≤ n → n ≤ d →
    Ev (fun k => spileref39_Open.l0 k l place tt n d) (n + opn (fun d => ubM l place d d) d m, 0)
  | 0, n, d, h0, hd, _, _ => by
    refine Ev.succ (Ev.const _) (fun k => ?_)
    rw [spileref39_Open.l0, if_neg (by omega)]
    simp [opn]
  | m + 1, n, d, h0, hd, hn, hnd => by
    have hw : wrap64 (d + 1) = d + 1 := by unfold wrap64; omega
    have hw2 : wrap64 (n + 1) = n + 1 := by unfold wrap64; omega
    have hdt : d ≤ tt := by omega
    refine Ev.shift ?_
    simp only [spileref39_Open.l0, if_pos hdt, hw, hw2]
    refine Ev.bind (intact_ref h place (by omega)) ?_
    unfold opn
    by_cases c : ubM l place d d = true
    · simp only [if_neg (fun e => (open_day h place (show d ≤ 100001 by omega)).1 e c), if_pos c, Int.zero_add]
      exact open_l0 l h place tt htt m n (d + 1) (by omega) (by omega) hn (by omega)
    · simp only [if_pos ((open_day h place (show d ≤ 100001 by omega)).2 c), if_neg c]
      rw [← Int.add_assoc]
      exact open_l0 l h place tt htt m (n + 1) (d + 1) (by omega) (by omega) (by omega) (by omega)
theorem Open_ref (l : List S34) (hl : l.length ≤ 200) (place fr tt : Int) : Ev (fun k => spileref39_Open.f k l place fr tt) (if askE l place [fr, tt] = 0 then (if fr > tt then (0, 5) else (opn (fun d => ubM l place d d) fr (tt + 1 - fr).toNat, 0)) else (0, askE l place [fr, tt])) := by
  unfold spileref39_Open.f
  refine Ev.bind (start_ref l hl place fr tt) ?_
  by_cases hs : startE l place fr tt = 0
  · obtain ⟨ha, hft, hf, h0, htt⟩ := start_ok hs
    simp only [if_pos hs]
    rw [if_pos ha, if_neg (by omega)]
    have := open_l0 l hf place tt htt (tt + 1 - fr).toNat 0 fr h0 (by omega) (by omega) h0
    rw [Int.zero_add] at this
    exact this
  · simp only [if_neg hs]
    unfold startE at hs ⊢
    by_cases ha : askE l place [fr, tt] = 0
    · rw [if_pos ha] at hs ⊢
      by_cases c : fr > tt
      · rw [if_pos c, if_pos ha, if_pos c]
        exact Ev.const _
      · rw [if_neg c] at hs
        exact absurd rfl hs
    · rw [if_neg ha, if_neg ha]
      exact Ev.const _
theorem same33_l0 (a : List Int) (ha : a.length ≤ 1000) : ∀ (suf : List Int) (i : Nat), a.drop i = suf → Ev (fun k => spileref33_Same.l0 k a a (i : Int)) true
  | [], i, h => by
    have : a.length ≤ i := by simpa using h
    exact Ev.succ (Ev.const _) (fun k => by rw [spileref33_Same.l0, if_neg (by omega)])
  | x :: suf, i, h => by
    obtain ⟨hi, hx, hd⟩ := drop_atI h
    exact Ev.succ (same33_l0 a ha suf (i + 1) hd) (fun k => by rw [spileref33_Same.l0, if_pos (by omega), if_pos (by omega), if_pos (by omega), if_pos rfl, wrap_up (by omega)])
theorem same33 (a : List Int) (ha : a.length ≤ 1000) : Ev (fun k => spileref33_Same.f k a a) true := by
  unfold spileref33_Same.f
  simp only [if_true]
  exact same33_l0 a ha a 0 rfl
end Go.Proofs.Ytfjenooajbdcmaa.K
