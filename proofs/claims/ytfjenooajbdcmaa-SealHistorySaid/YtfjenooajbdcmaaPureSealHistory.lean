/- By hand: the plain law of SealHistory. -/
import Derived.Test.YtfjenooajbdcmaaSaySealHistory
import Derived.Test.YtfjenooajbdcmaaPAwake
import Derived.Test.YtfjenooajbdcmaaPSeal
namespace Go.Proofs.Ytfjenooajbdcmaa.K
open Go Go.RowKit Go.Proofs.YtfjenooajbdcmaaW.PrintWords Go.Proofs.Ytfjenooajbdcmaa.GM
set_option linter.unusedVariables false
set_option linter.unusedSimpArgs false
theorem ok_all {l : List S34} (h : ok22 l) : l.all wf34 = true := List.all_eq_true.2 fun x hx => (h.2 x hx).2.2.1
def onlyM (M : Int → Option St) (n : Int) : Int → Option St := fun y => if y = n then M n else none
/-- What the events H of the seal n are, behind events that leave M; p is the day of the last of all. -/
structure HInv (n : Int) (M : Int → Option St) (p : Option Int) (H : List S34) : Prop where
  fo : ∀ i, folgo (fun _ => none) none i H = (onlyM M n, -1, 0)
  day : ∀ d, lastD H = some d → ∃ d', p = some d' ∧ d ≤ d'
  no : M n = none → H = []
  yes : ∀ s, M n = some s → 0 < H.length ∧ ∀ i (h : i < H.length), H[i].f2 = n ∧ H[i].f1 = s.pl ∧ (H[i].f3 = 1 ↔ i = 0) ∧ (i + 1 < H.length → H[i].f3 ≤ 2) ∧ (s.tt = 100002 → H[i].f3 ≤ 2)
theorem HInv.nil (n : Int) : HInv n (fun _ => none) none [] :=
  ⟨fun i => by
    show ((fun _ => none : Int → Option St), (-1 : Int), (0 : Int)) = _
    congr 1
    funext y
    unfold onlyM
    split <;> rfl, fun d h => (by cases h), fun _ => rfl, fun s h => by cases h⟩
theorem folgo_snoc (x : S34) : ∀ (H : List S34) (M : Int → Option St) (p : Option Int) (i : Nat) (M' : Int → Option St), folgo M p i H = (M', -1, 0) → faultP M' ((lastD H).or p) x = 0 → folgo M p i (H ++ [x]) = (stepP M' x, -1, 0)
  | [], M, p, i, M', h, hf => by
    have e : M = M' := congrArg Prod.fst h
    subst e
    have hf' : faultP M p x = 0 := hf
    rw [List.nil_append, folgo, if_pos hf']
    rfl
  | y :: H, M, p, i, M', h, hf => by
    rw [folgo] at h
    rw [List.cons_append, folgo]
    by_cases c : faultP M p y = 0
    · rw [if_pos c] at h ⊢
      refine folgo_snoc x H _ _ _ M' h ?_
      have e : (lastD (y :: H)).or p = (lastD H).or (some y.f0) := by
        unfold lastD
        cases H with
        | nil => rfl
        | cons z H =>
          rw [List.getLast?_cons_cons]
          rw [List.getLast?_eq_some_getLast (List.cons_ne_nil z H)]
          rfl
      rw [← e]
      exact hf
    · rw [if_neg c] at h
      exact absurd (congrArg (fun t => t.2.2) h) c
theorem HInv.step {n : Int} {M : Int → Option St} {p : Option Int} {H : List S34} (hI : HInv n M p H) {x : S34} (hf : faultP M p x = 0) : HInv n (stepP M x) (some x.f0) (H ++ histL [x] n) := by
  have hday : ∀ d, p = some d → d ≤ x.f0 := by
    intro d hd
    apply Decidable.byContradiction
    intro hn
    unfold faultP at hf
    by_cases hb : badP x = true
    · rw [if_pos hb] at hf; cases hf
    · rw [if_neg hb, hd, if_pos (by simp; omega)] at hf
      cases hf
  by_cases c : x.f2 = n
  · have e : histL [x] n = [x] := by
      unfold histL
      simp [List.filter_cons, c]
    rw [e]
    have hO : onlyM M n x.f2 = M x.f2 := by unfold onlyM; rw [if_pos c, c]
    have hf2 : faultP (onlyM M n) (lastD H) x = 0 := by
      unfold faultP at hf ⊢
      rw [hO]
      by_cases hb : badP x = true
      · rw [if_pos hb] at hf; cases hf
      · rw [if_neg hb] at hf ⊢
        have hd : ¬ ((lastD H).any fun d => decide (x.f0 < d)) = true := by
          cases hl : lastD H with
          | none => simp
          | some d =>
            obtain ⟨d', h1, h2⟩ := hI.day d hl
            have := hday d' h1
            simp
            omega
        rw [if_neg hd]
        by_cases hp : (p.any fun d => decide (x.f0 < d)) = true
        · rw [if_pos hp] at hf; cases hf
        · rw [if_neg hp] at hf
          exact hf
    have hS : stepP (onlyM M n) x = onlyM (stepP M x) n := by
      funext y
      unfold stepP onlyM mput
      by_cases ey : y = n
      · rw [ey, c]
        simp
      · simp only [c, if_neg ey]
    refine ⟨fun i => ?_, fun d hd => ?_, fun hN => ?_, fun s hs => ?_⟩
    · rw [folgo_snoc x H _ _ i _ (hI.fo i) (by simpa using hf2), hS]
    · rw [lastD_snoc] at hd
      injection hd with hd
      exact ⟨x.f0, rfl, by omega⟩
    · unfold stepP mput at hN
      rw [if_pos c.symm] at hN
      cases hN
    · have hs' : newSt ((M x.f2).getD ⟨0, 0, 0⟩) x = s := by
        unfold stepP mput at hs
        rw [if_pos c.symm] at hs
        injection hs
      unfold faultP at hf
      by_cases hb : badP x = true
      · rw [if_pos hb] at hf; cases hf
      · rw [if_neg hb] at hf
        rw [bad_iff] at hb
        have hb : 0 ≤ x.f0 ∧ x.f0 ≤ 100000 ∧ 1 ≤ x.f1 ∧ x.f1 ≤ 1073741824 ∧ 1 ≤ x.f2 ∧ x.f2 ≤ 1073741824 ∧ 1 ≤ x.f3 ∧ x.f3 ≤ 4 := Decidable.not_not.1 hb
        by_cases hd : (p.any fun d => decide (x.f0 < d)) = true
        · rw [if_pos hd] at hf; cases hf
        · rw [if_neg hd] at hf
          clear hd
          by_cases h1 : x.f3 = 1
          · rw [if_pos h1] at hf
            have hN : M x.f2 = none := by
              cases hM : M x.f2 with
              | none => rfl
              | some s => rw [hM] at hf; cases hf
            have hH : H = [] := hI.no (by rw [← c]; exact hN)
            subst hH
            have : s = ⟨x.f1, x.f0, 100002⟩ := by rw [← hs']; unfold newSt; rw [if_pos h1]
            subst this
            refine ⟨by simp, fun i hi => ?_⟩
            have hi0 : i = 0 := by simp at hi; omega
            subst hi0
            simp [c, h1]
          · rw [if_neg h1] at hf
            obtain ⟨t, ht⟩ : ∃ s, M x.f2 = some s := by
              cases hM : M x.f2 with
              | none => rw [hM] at hf; simp at hf
              | some s => exact ⟨s, rfl⟩
            rw [ht] at hf
            simp only [Option.isSome_some, Option.getD_some] at hf
            rw [if_neg (by decide)] at hf
            have hp : t.pl = x.f1 := by
              apply Decidable.byContradiction
              intro hp
              rw [if_pos hp] at hf
              cases hf
            rw [if_neg (by simp [hp])] at hf
            have htt : t.tt = 100002 := by
              apply Decidable.byContradiction
              intro hp
              rw [if_pos hp] at hf
              cases hf
            obtain ⟨g1, g2⟩ := hI.yes t (by rw [← c]; exact ht)
            have e2 : s = if x.f3 = 3 ∨ x.f3 = 4 then ⟨t.pl, t.fr, x.f0⟩ else t := by rw [← hs', ht]; unfold newSt; rw [if_neg h1]; rfl
            have epl : s.pl = t.pl := by rw [e2]; split <;> rfl
            refine ⟨by simp, fun i hi => ?_⟩
            by_cases hil : i < H.length
            · obtain ⟨k1, k2, k3, k4, k5⟩ := g2 i hil
              rw [List.getElem_append_left hil, epl]
              exact ⟨k1, k2, k3, fun _ => k5 htt, fun _ => k5 htt⟩
            · have hie : i = H.length := by simp at hi; omega
              subst hie
              rw [List.getElem_append_right (Nat.le_refl _)]
              simp only [Nat.sub_self, List.getElem_cons_zero]
              refine ⟨c, by rw [epl, hp], ⟨fun h => absurd h h1, fun h => by omega⟩, fun h => by simp at h, fun h => ?_⟩
              rw [e2] at h
              by_cases c3 : x.f3 = 3 ∨ x.f3 = 4
              · rw [if_pos c3] at h
                have : x.f0 = 100002 := h
                omega
              · omega
  · have e : histL [x] n = [] := by
      unfold histL
      simp [List.filter_cons, c]
    rw [e, List.append_nil]
    have hM : stepP M x n = M n := by
      unfold stepP mput
      rw [if_neg (fun h => c h.symm)]
    refine ⟨fun i => ?_, fun d hd => ?_, fun hN => hI.no (by rw [← hM]; exact hN), fun s hs => hI.yes s (by rw [← hM]; exact hs)⟩
    · rw [hI.fo i]
      congr 1
      unfold onlyM
      rw [hM]
    · obtain ⟨d', h1, h2⟩ := hI.day d hd
      have := hday d' h1
      exact ⟨x.f0, rfl, by omega⟩
theorem HInv.run (n : Int) : ∀ (suf : List S34) (M : Int → Option St) (p : Option Int) (i : Nat) (H : List S34), HInv n M p H → (folgo M p i suf).2.2 = 0 → ∃ p', HInv n (folgo M p i suf).1 p' (H ++ histL suf n)
  | [], M, p, i, H, hI, _ => ⟨p, by simpa [histL, folgo] using hI⟩
  | x :: suf, M, p, i, H, hI, h => by
    rw [folgo] at h ⊢
    by_cases c : faultP M p x = 0
    · rw [if_pos c] at h ⊢
      obtain ⟨p', h'⟩ := HInv.run n suf _ _ _ _ (hI.step c) h
      refine ⟨p', ?_⟩
      have e : H ++ histL [x] n ++ histL suf n = H ++ histL (x :: suf) n := by
        unfold histL
        rw [List.append_assoc, ← List.filter_append]
        rfl
      rw [← e]
      exact h'
    · rw [if_neg c] at h
      exact absurd h c
theorem hist_loop (n : Int) (H : List S34) (hw : H.all wf34 = true) (h0 : 0 < H.length) (hH : H.length ≤ 128) (hf : (fol H).2.2 = 0)
    (hP : ∀ i (h : i < H.length), H[i].f2 = n ∧ H[i].f1 = H[0].f1 ∧ (H[i].f3 = 1 ↔ i = 0) ∧ (i + 1 < H.length → H[i].f3 ≤ 2)) :
    ∀ (d i : Nat), i + d = H.length → Ev (fun k => spilelaw39_SealHistory.l0 k n H H (H.length : Int) (i : Int)) true
  | 0, i, h => by
    refine Ev.succ (Ev.const true) (fun k => ?_)
    rw [spilelaw39_SealHistory.l0, if_neg (by omega), chk_f hw]
    simp only [Option.bind_some]
    rw [if_pos (by omega), hf]
    rfl
  | d + 1, i, h => by
    have hi : i < H.length := by omega
    obtain ⟨k1, k2, k3, k4⟩ := hP i hi
    have hx : rd_T34 H (i : Int) = H[i] := rd34_get H i hi
    have hx0 : rd_T34 H 0 = H[0] := rd34_get H 0 h0
    have p1 : (0 : Int) ≤ (i : Int) := by omega
    have p2 : (i : Int) < (H.length : Int) := by omega
    have p3 : (0 : Int) < (H.length : Int) := by omega
    have hb : ¬ ((H[i].f3 == 1) != ((i : Int) == 0)) = true := by
      by_cases e : i = 0
      · subst e
        simp [k3.2 rfl]
      · have h1 : ¬ H[i].f3 = 1 := fun h => e (k3.1 h)
        have h2 : ¬ (i : Int) = 0 := by omega
        rw [beq_eq_false_iff_ne.mpr h1, beq_eq_false_iff_ne.mpr h2]
        decide
    have hw2 : wrap64 ((H.length : Int) - 1) = (H.length : Int) - 1 := by unfold wrap64; omega
    have ih := hist_loop n H hw h0 hH hf hP d (i + 1) (by omega)
    have hj : Ev (fun k => spilelaw39_SealHistory.j1 k n H H (H.length : Int) (i : Int) false) true :=
      Ev.succ ih (fun k => by rw [spilelaw39_SealHistory.j1, if_neg (by decide), wrap_up (by omega)])
    refine Ev.succ hj (fun k => ?_)
    rw [spilelaw39_SealHistory.l0, if_pos p2, if_pos p1, if_pos p2, hx, if_pos k1, if_pos p3, hx0, if_pos k2, if_neg hb, hw2]
    by_cases c : (i : Int) < (H.length : Int) - 1
    · rw [if_pos c, decide_eq_false (by have := k4 (by omega); omega)]
    · rw [if_neg c]
theorem hist_pure : SealHistoryPure := by
  intro l n hl hn
  refine Ev.one (g := fun k => spilelaw39_SealHistory.f k l n) ?_
  unfold spilelaw39_SealHistory.f
  refine Ev.bind awake_ev ?_
  simp only [if_true]
  have hw := ok_all hl
  by_cases c : (l.length : Int) > 20
  · simp only [if_pos c]
    exact Ev.const _
  · simp only [if_neg c, clone_f (show l.length ≤ 129 by omega), Option.bind_some]
    by_cases hf : (fol l).2.2 = 0
    · have hg : folgo (fun _ => none) none 0 l = fol l := by unfold fol; rw [if_neg (by omega)]
      obtain ⟨p, hI⟩ := HInv.run n l (fun _ => none) none 0 [] (HInv.nil n) (by rw [hg]; exact hf)
      rw [hg, List.nil_append] at hI
      by_cases hz : (histL l n).length = 0
      · have e : seal_History.f l n = some ([], 7) := by
          unfold seal_History.f
          rw [if_pos hw, if_neg (by simp [hf]), if_pos hz]
        simp only [e, Option.bind_some]
        exact Ev.const _
      · have e : seal_History.f l n = some (histL l n, 0) := by
          unfold seal_History.f
          rw [if_pos hw, if_neg (by simp [hf]), if_neg hz]
        simp only [e, Option.bind_some, if_true]
        have hlen : (histL l n).length ≤ l.length := List.length_filter_le _ _
        obtain ⟨s, hs⟩ : ∃ s, (fol l).1 n = some s := by
          cases hM : (fol l).1 n with
          | none =>
            rw [hI.no hM] at hz
            exact absurd rfl hz
          | some s => exact ⟨s, rfl⟩
        obtain ⟨g1, g2⟩ := hI.yes s hs
        refine hist_loop n (histL l n) ?_ g1 (by omega) ?_ (fun i h => ?_) (histL l n).length 0 (by omega)
        · refine List.all_eq_true.2 fun x hx => all_wf hw x (List.mem_filter.1 hx).1
        · unfold fol
          rw [if_neg (by omega), hI.fo 0]
        · obtain ⟨k1, k2, k3, k4, k5⟩ := g2 i h
          obtain ⟨_, m2, _⟩ := g2 0 g1
          exact ⟨k1, by rw [k2, m2], k3, k4⟩
    · have e : seal_History.f l n = some ([], 1) := by
        unfold seal_History.f
        rw [if_pos hw, if_pos hf]
      simp only [e, Option.bind_some]
      exact Ev.const _
end Go.Proofs.Ytfjenooajbdcmaa.K
namespace Go.Proofs.Ytfjenooajbdcmaa.Pure
theorem SealHistory : K.SealHistoryPure := K.hist_pure
end Go.Proofs.Ytfjenooajbdcmaa.Pure
