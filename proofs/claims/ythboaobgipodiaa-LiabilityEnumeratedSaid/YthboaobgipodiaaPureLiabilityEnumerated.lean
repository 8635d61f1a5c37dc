/- By hand: the plain law of LiabilityEnumerated: the greatest of what all outcomes on all days cause is the greatest liability. -/
import Derived.Test.YthboaobgipodiaaSayLiabilityEnumerated
import Derived.Test.YthboaobgipodiaaPSum
import Derived.Test.YthboaobgipodiaaPAwake
namespace Go.Proofs.Ythboaobgipodiaa.K
open Go.RowKit Go.Proofs.YthboaobgipodiaaW.PrintWords
set_option linter.unusedVariables false
set_option linter.unusedSimpArgs false

theorem few46_f (a : Int) (l : List S60) : spileref46_Few.f a l = some (decide (l.length ≤ 20) || decide (l.length = 65)) := by
  unfold spileref46_Few.f
  exact few1 l.length 20 20 rfl 65
/-- What an outcome that fits causes; nothing, if it does not fit. -/
def mval (a : Int) (l : List S60) (x : S35) (day d : Int) (o : S51) : Int := if fitsP x ⟨x.f0, o.f1, o.f2, d⟩ day = true then causesP a l x ⟨x.f0, o.f1, o.f2, d⟩ else 0
def mst (a : Int) (l : List S60) (x : S35) (day d : Int) (M : Int) (o : S51) : Int := mx M (mval a l x day d o)
theorem mx_le {a b c : Int} (h1 : a ≤ c) (h2 : b ≤ c) : mx a b ≤ c := by
  unfold mx
  split <;> omega
theorem le_mx (a b : Int) : a ≤ mx a b ∧ b ≤ mx a b := by
  unfold mx
  split <;> omega
theorem enum_l1 (a : Int) (l : List S60) (x : S35) (day d : Int) (g : List Int) (ha : asksP a l [x] day = 0) (hl : l.length ≤ 1000) (Y : List S51) (hY : Y.length ≤ 1000)
    (hP : ∀ o ∈ Y, fitsP x ⟨x.f0, o.f1, o.f2, d⟩ day = true ∨ (o.f1 = 2 ∧ x.f4 ≤ 1)) (r : Bool) : ∀ (n i : Nat) (M : Int), i + n = Y.length →
    Ev (fun k => spilelaw51_LiabilityEnumerated.l0 k day g ((Y.drop i).foldl (mst a l x day d) M) (wrap64 (d + 1)) a l x.f0 x.f1 x.f2 x.f3 x.f4) r →
    Ev (fun k => spilelaw51_LiabilityEnumerated.l1 k day g M d Y (Y.length : Int) (i : Int) a l x.f0 x.f1 x.f2 x.f3 x.f4) r
  | 0, i, M, hn, hr => by
    rw [List.drop_eq_nil_of_le (by omega)] at hr
    exact Ev.succ hr (fun k => by rw [spilelaw51_LiabilityEnumerated.l1, if_neg (by omega)]; rfl)
  | n + 1, i, M, hn, hr => by
    have hi : i < Y.length := by omega
    have h1 : (i : Int) < (Y.length : Int) := by omega
    have h0 : (0 : Int) ≤ (i : Int) := by omega
    rw [List.drop_eq_getElem_cons hi, List.foldl_cons] at hr
    have ih := enum_l1 a l x day d g ha hl Y hY hP r n (i + 1) (mst a l x day d M Y[i]) (by omega) hr
    have e : ∀ k, spilelaw51_LiabilityEnumerated.l1 (k + 1) day g M d Y (Y.length : Int) (i : Int) a l x.f0 x.f1 x.f2 x.f3 x.f4 =
        (liability_Causes.f k a l x.f0 x.f1 x.f2 x.f3 x.f4 x.f0 Y[i].f1 Y[i].f2 d day).bind fun t => if t.2 = 0 then spilelaw51_LiabilityEnumerated.j4 k day g M d t.1 Y (Y.length : Int) (i : Int) false a l x.f0 x.f1 x.f2 x.f3 x.f4 else (if Y[i].f1 = 2 then spilelaw51_LiabilityEnumerated.j4 k day g M d t.1 Y (Y.length : Int) (i : Int) (decide (x.f4 > 1)) a l x.f0 x.f1 x.f2 x.f3 x.f4 else none) := by
      intro k
      rw [spilelaw51_LiabilityEnumerated.l1, if_pos h1, if_pos h0, if_pos h1, ct_f a l hl, Option.bind_some, rd51_get Y i hi]
    refine Ev.succ (Ev.bind (C_ev a l x ⟨x.f0, Y[i].f1, Y[i].f2, d⟩ day) ?_) e
    have hm := hP Y[i] (List.getElem_mem hi)
    unfold CP
    rw [if_pos ha]
    unfold mst mval at ih
    by_cases hf : fitsP x ⟨x.f0, Y[i].f1, Y[i].f2, d⟩ day = true
    · rw [if_pos hf] at ih
      rw [if_pos hf]
      simp only [if_true]
      exact Ev.succ ih (fun k => by rw [spilelaw51_LiabilityEnumerated.j4, if_neg (by decide), w1 hi hY])
    · obtain ⟨h2, h3⟩ := hm.resolve_left hf
      have hd : decide (x.f4 > 1) = false := decide_eq_false (by omega)
      rw [if_neg hf] at ih
      rw [if_neg hf]
      simp only [if_neg (show ¬ ((10 : Int) = 0) by decide), if_pos h2, hd]
      exact Ev.succ ih (fun k => by rw [spilelaw51_LiabilityEnumerated.j4, if_neg (by decide), w1 hi hY])
def four (m : Int) : List S51 := [⟨0, 1, 0, 0⟩, ⟨0, 2, 1, 0⟩, ⟨0, 2, m - 1, 0⟩, ⟨0, 3, m, 0⟩]
theorem four_fits {x : S35} {day : Int} (hx : xok x = true) {d : Int} (h1 : x.f3 ≤ d) (h2 : d ≤ day) (o : S51) (ho : o ∈ four x.f4) : fitsP x ⟨x.f0, o.f1, o.f2, d⟩ day = true ∨ (o.f1 = 2 ∧ x.f4 ≤ 1) := by
  have hw : wB d x.f3 day = true := wB_iff.2 ⟨h1, h2⟩
  obtain ⟨_, _, _, _, x4⟩ := xok_iff.1 hx
  unfold fitsP
  by_cases c : x.f4 ≤ 1
  · simp only [four, List.mem_cons, List.not_mem_nil, or_false] at ho
    rcases ho with rfl | rfl | rfl | rfl
    · exact .inl (by simp [hw])
    · exact .inr ⟨rfl, c⟩
    · exact .inr ⟨rfl, c⟩
    · exact .inl (by simp [hw])
  · simp only [four, List.mem_cons, List.not_mem_nil, or_false] at ho
    refine .inl ?_
    rcases ho with rfl | rfl | rfl | rfl
    · simp [hw]
    · simp only [hw]
      simp
      omega
    · simp only [hw]
      simp
      omega
    · simp [hw]
section
variable {a : Int} {l : List S60} {x : S35} {day : Int} (ht : (tchk a l).2 = 0) (hd : 0 ≤ day ∧ day ≤ 100000) (hx : xok x = true)
include ht hd hx
theorem mval_in (d : Int) (o : S51) : 0 ≤ mval a l x day d o ∧ mval a l x day d o ≤ gP a l day x := by
  unfold mval
  by_cases hf : fitsP x ⟨x.f0, o.f1, o.f2, d⟩ day = true
  · rw [if_pos hf]
    exact causes_le ht hd hx hf
  · rw [if_neg hf]
    have := gP_in ht hd hx
    omega
theorem mst_in (d : Int) : ∀ (Y : List S51) (M : Int), 0 ≤ M → M ≤ gP a l day x → M ≤ Y.foldl (mst a l x day d) M ∧ Y.foldl (mst a l x day d) M ≤ gP a l day x ∧ ∀ o ∈ Y, mval a l x day d o ≤ Y.foldl (mst a l x day d) M
  | [], M, h0, h1 => ⟨Int.le_refl _, h1, fun o ho => by simp at ho⟩
  | o :: Y, M, h0, h1 => by
    have hm := mval_in ht hd hx d o
    have hl := le_mx M (mval a l x day d o)
    obtain ⟨a1, a2, a3⟩ := mst_in d Y (mx M (mval a l x day d o)) (by omega) (mx_le h1 hm.2)
    rw [List.foldl_cons]
    refine ⟨?_, a2, fun p hp => ?_⟩
    · exact Int.le_trans hl.1 a1
    · rcases List.mem_cons.1 hp with rfl | hp
      · exact Int.le_trans hl.2 a1
      · exact a3 p hp
theorem enum_l0 (ha : asksP a l [x] day = 0) (hl : l.length ≤ 1000) : ∀ (n : Nat) (d M : Int), d + n = day + 1 → x.f3 ≤ d → 0 ≤ M → M ≤ gP a l day x → (wday a l x day < d → M = gP a l day x) →
    Ev (fun k => spilelaw51_LiabilityEnumerated.l0 k day [gP a l day x] M d a l x.f0 x.f1 x.f2 x.f3 x.f4) true
  | 0, d, M, hn, h1, h2, h3, h4 => by
    refine Ev.succ (Ev.const _) (fun k => ?_)
    rw [spilelaw51_LiabilityEnumerated.l0, if_neg (by omega), if_pos (by simp)]
    have hg : M = gP a l day x := by
      by_cases c : day < x.f3
      · have : gP a l day x = 0 := by unfold gP; rw [if_pos c]
        omega
      · have := wday_in a l x day (by omega)
        exact h4 (by omega)
    rw [hg]
    simp [Go.Proofs.YthboaobgipodiaaW.PrintWords.rd]
  | n + 1, d, M, hn, h1, h2, h3, h4 => by
    obtain ⟨_, _, _, x3, x4⟩ := xok_iff.1 hx
    have hw : wrap64 (d + 1) = d + 1 := wrap_at _ (by omega) (by omega)
    have hw4 : wrap64 (x.f4 - 1) = x.f4 - 1 := wrap_big _ (by omega) (by omega)
    obtain ⟨a1, a2, a3⟩ := mst_in ht hd hx d (four x.f4) M h2 h3
    have ih := enum_l0 ha hl n (d + 1) ((four x.f4).foldl (mst a l x day d) M) (by omega) (by omega) (by omega) a2 (fun h => by
      by_cases c : wday a l x day < d
      · have := h4 c
        omega
      · have he : d = wday a l x day := by omega
        have hm := a3 ⟨0, 3, x.f4, 0⟩ (by simp [four])
        have hv : mval a l x day d ⟨0, 3, x.f4, 0⟩ = gP a l day x := by
          unfold mval
          rw [he]
          show (if fitsP x (worstP a l x day) day = true then causesP a l x (worstP a l x day) else 0) = _
          rw [if_pos (worst_fits a l x day (by omega)), g_worst (by omega)]
        omega)
    rw [← hw] at ih
    refine Ev.succ (enum_l1 a l x day d [gP a l day x] ha hl (four x.f4) (by simp [four]) (fun o ho => four_fits hx h1 (by omega) o ho) true 4 0 M (by simp [four]) ih) (fun k => ?_)
    rw [spilelaw51_LiabilityEnumerated.l0, if_pos (by omega), hw4]
    rfl
end
theorem enum_pure : LiabilityEnumeratedPure := by
  intro x0 x1 x2 _ _ _
  refine Ev.one (g := fun k => spilelaw51_LiabilityEnumerated.f k x0.f0 x0.f1 x1.f0 x1.f1 x1.f2 x1.f3 x1.f4 x2) ?_
  unfold spilelaw51_LiabilityEnumerated.f
  refine Ev.bind awake_ev ?_
  simp only [if_true, few46_f, Option.bind_some]
  cases hf : (decide (x0.f1.length ≤ 20) || decide (x0.f1.length = 65)) with
  | false => exact Ev.succ (Ev.bind awake_ev (Ev.const _)) (fun k => by rw [spilelaw51_LiabilityEnumerated.j0, if_pos (by rfl)])
  | true =>
    have hl : x0.f1.length ≤ 1000 := by
      simp only [Bool.or_eq_true, decide_eq_true_eq] at hf
      omega
    generalize hday : wrap64 (x1.f3 + (Int.tmod (wrap64 (x2)) 60)) = day
    have e : ∀ k, spilelaw51_LiabilityEnumerated.j0 (k + 1) x2 (!true) x0.f0 x0.f1 x1.f0 x1.f1 x1.f2 x1.f3 x1.f4 = (liability_Greatest.f k x0.f0 x0.f1 [x1] day).bind fun bt731 => (if bt731.2.2 = 0 then (spilelaw51_LiabilityEnumerated.j1 k day bt731.1 ((bt731.1.length : Int) != 1) x0.f0 x0.f1 x1.f0 x1.f1 x1.f2 x1.f3 x1.f4) else (spilelaw51_LiabilityEnumerated.j1 k day bt731.1 true x0.f0 x0.f1 x1.f0 x1.f1 x1.f2 x1.f3 x1.f4)) := by
      intro k
      rw [spilelaw51_LiabilityEnumerated.j0, if_neg (by decide), hday, ct_f x0.f0 x0.f1 hl, Option.bind_some]
    refine Ev.succ (Ev.bind (G_ev _ _ _ _) ?_) e
    by_cases ha : asksP x0.f0 x0.f1 [x1] day = 0
    · obtain ⟨t1, t2, t3⟩ := asks_zero ha
      have hx := (lchk_to t2).2 x1 (by simp)
      have hg : GP x0.f0 x0.f1 [x1] day = ([gP x0.f0 x0.f1 day x1], gsum x0.f0 x0.f1 day 0 [x1], 0) := by unfold GP; rw [if_pos ha]; rfl
      rw [hg]
      simp only [if_true]
      have hgi := gP_in t1 t3 hx
      by_cases c : day < x1.f3
      · refine Ev.succ (Ev.succ (Ev.const true) (fun k => ?_)) (fun k => by rw [spilelaw51_LiabilityEnumerated.j1, if_neg (by simp)])
        rw [spilelaw51_LiabilityEnumerated.l0, if_neg (by omega), if_pos (by simp)]
        have : gP x0.f0 x0.f1 day x1 = 0 := by unfold gP; rw [if_pos c]
        rw [this]
        rfl
      · refine Ev.succ (enum_l0 t1 t3 hx ha hl (day + 1 - x1.f3).toNat x1.f3 0 (by omega) (Int.le_refl _) (Int.le_refl _) hgi.1 (fun h => ?_)) (fun k => by rw [spilelaw51_LiabilityEnumerated.j1, if_neg (by simp)])
        have := wday_in x0.f0 x0.f1 x1 day (by omega)
        omega
    · have hg : GP x0.f0 x0.f1 [x1] day = ([], 0, asksP x0.f0 x0.f1 [x1] day) := by unfold GP; rw [if_neg ha]
      rw [hg]
      simp only [if_neg ha]
      exact Ev.succ (Ev.const _) (fun k => by rw [spilelaw51_LiabilityEnumerated.j1, if_pos rfl]; rfl)
end Go.Proofs.Ythboaobgipodiaa.K
namespace Go.Proofs.Ythboaobgipodiaa.Pure
theorem LiabilityEnumerated : K.LiabilityEnumeratedPure := K.enum_pure
end Go.Proofs.Ythboaobgipodiaa.Pure
