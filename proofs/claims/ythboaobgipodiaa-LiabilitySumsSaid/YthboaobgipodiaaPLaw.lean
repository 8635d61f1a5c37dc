/- By hand: what the functions of tariff and liability compute, in plain words, wherever enough rounds are given. -/
import Derived.Test.YthboaobgipodiaaPCheck
import Derived.Test.YthboaobgipodiaaGBonds
import Derived.Test.YthboaobgipodiaaK16
import Derived.Test.YthboaobgipodiaaK15
import Derived.Test.YthboaobgipodiaaK18
namespace Go.Proofs.Ythboaobgipodiaa.K
open Go.RowKit Go.Proofs.YthboaobgipodiaaW.PrintWords
set_option linter.unusedVariables false
set_option linter.unusedSimpArgs false

theorem rd51_get (xs : List S51) (i : Nat) (h : i < xs.length) : rd_T51 xs (i : Int) = xs[i] := by
  unfold rd_T51
  simp [List.getD_eq_getElem?_getD, h]
theorem w1 {i n : Nat} (hi : i < n) (hn : n ≤ 1000) : wrap64 ((i : Int) + 1) = ((i + 1 : Nat) : Int) := by rw [wrap_at _ (by omega) (by omega)]; omega
theorem tgo_len {a : Int} {l : List S60} (h : (tchk a l).2 = 0) : l.length ≤ 64 := by
  unfold tchk at h
  cases hw : wB a 1 4 with
  | false => rw [hw] at h; simp at h
  | true =>
    rw [hw, if_pos rfl] at h
    by_cases h1 : l.length > 64
    · rw [if_pos h1] at h
      cases h
    · omega

/-! ### rates -/
def fstep (cls day : Int) (s : S60 × Bool) (r : S60) : S60 × Bool := if r.f0 = cls ∧ r.f1 ≤ day then (r, true) else s
def frc (cls day : Int) (l : List S60) : S60 × Bool := l.foldl (fstep cls day) (z60, false)
theorem frcl_ev (cls day : Int) (L : List S60) (hL : L.length ≤ 64) : ∀ (d i : Nat) (s : S60 × Bool), i + d = L.length →
    Ev (fun k => tariff_force.l0 k cls day s.2 L (L.length : Int) (i : Int) s.1.f0 s.1.f1 s.1.f2) (((L.drop i).foldl (fstep cls day) s).1.f0, ((L.drop i).foldl (fstep cls day) s).1.f1, ((L.drop i).foldl (fstep cls day) s).1.f2, ((L.drop i).foldl (fstep cls day) s).2)
  | 0, i, s, h => by
    rw [List.drop_eq_nil_of_le (by omega)]
    exact Ev.succ (Ev.const _) (fun k => by rw [tariff_force.l0, if_neg (by omega)]; rfl)
  | d + 1, i, s, h => by
    have hi : i < L.length := by omega
    have h1 : (i : Int) < (L.length : Int) := by omega
    have h0 : (0 : Int) ≤ (i : Int) := by omega
    have ih := frcl_ev cls day L hL d (i + 1) (fstep cls day s L[i]) (by omega)
    rw [List.drop_eq_getElem_cons hi, List.foldl_cons]
    refine Ev.succ ih (fun k => ?_)
    rw [tariff_force.l0, if_pos h1, if_pos h0, if_pos h1, rd60_get L i hi, w1 hi (by omega)]
    unfold fstep
    by_cases c1 : L[i].f0 = cls
    · by_cases c2 : L[i].f1 ≤ day
      · rw [if_pos c1, if_pos c2, if_pos ⟨c1, c2⟩]
      · rw [if_pos c1, if_neg c2, if_neg (fun h => c2 h.2)]
    · rw [if_neg c1, if_neg (fun h => c1 h.1)]
theorem frc_ev (a : Int) (cls day : Int) (l : List S60) (hl : l.length ≤ 64) : Ev (fun k => tariff_force.f k a l cls day) ((frc cls day l).1.f0, (frc cls day l).1.f1, (frc cls day l).1.f2, (frc cls day l).2) :=
  frcl_ev cls day l hl l.length 0 (z60, false) (by omega)

def spanP (a : Int) (l : List S60) (cls fr tt : Int) : Int := if (tchk a l).2 = 0 then (if (wB cls 1 9 && (wB fr 0 100000 && wB tt fr 100000)) = true then 0 else 2) else 1
theorem right_ev (a : Int) (l : List S60) : Ev (fun k => tariff_right.f k a l) ((tchk a l).2 == 0) := by
  unfold tariff_right.f
  exact Ev.bind (tchk_ev a l) (Ev.const _)
theorem span_ev (a : Int) (l : List S60) (cls fr tt : Int) : Ev (fun k => tariff_span.f k a l cls fr tt) (spanP a l cls fr tt) := by
  unfold tariff_span.f spanP
  refine Ev.bind (right_ev a l) ?_
  have j0 : ∀ b : Bool, Ev (fun k => tariff_span.j0 k b) (if b = true then 2 else 0) := fun b => Ev.succ (Ev.const _) (fun k => by rw [tariff_span.j0]; cases b <;> rfl)
  by_cases h : (tchk a l).2 = 0
  · simp only [h, beq_self_eq_true, if_true, twithin_f, Option.bind_some]
    cases wB cls 1 9
    · simpa using j0 true
    · cases wB fr 0 100000
      · simpa using j0 true
      · cases wB tt fr 100000
        · simpa using j0 true
        · simpa using j0 false
  · have h2 : ((tchk a l).2 == 0) = false := beq_eq_false_iff_ne.mpr h
    simp only [h, h2, if_false]
    exact Ev.const _
def gstep (cls fr tt : Int) (s : S60 × Bool) (r : S60) : S60 × Bool := if r.f0 = cls ∧ (fr ≤ r.f1 ∧ r.f1 ≤ tt) ∧ (s.2 = false ∨ r.f2 > s.1.f2) then (r, true) else s
def grt (cls fr tt : Int) (l : List S60) : S60 × Bool := l.foldl (gstep cls fr tt) (frc cls fr l)
def gres (s : S60 × Bool) : Int × Int × Int × Int := if s.2 = true then (s.1.f0, s.1.f1, s.1.f2, 0) else (0, 0, 0, 7)
theorem grtl_ev (cls fr tt : Int) (L : List S60) (hL : L.length ≤ 64) : ∀ (d i : Nat) (s : S60 × Bool), i + d = L.length →
    Ev (fun k => tariff_Greatest.l0 k cls fr tt s.2 L (L.length : Int) (i : Int) s.1.f0 s.1.f1 s.1.f2) (gres ((L.drop i).foldl (gstep cls fr tt) s))
  | 0, i, s, h => by
    rw [List.drop_eq_nil_of_le (by omega)]
    refine Ev.succ (Ev.const _) (fun k => ?_)
    rw [tariff_Greatest.l0, if_neg (by omega)]
    unfold gres
    rw [List.foldl_nil]
    split <;> rfl
  | d + 1, i, s, h => by
    have hi : i < L.length := by omega
    have h1 : (i : Int) < (L.length : Int) := by omega
    have h0 : (0 : Int) ≤ (i : Int) := by omega
    have ih := grtl_ev cls fr tt L hL d (i + 1) (gstep cls fr tt s L[i]) (by omega)
    rw [List.drop_eq_getElem_cons hi, List.foldl_cons]
    have e : ∀ k, tariff_Greatest.l0 (k + 1) cls fr tt s.2 L (L.length : Int) (i : Int) s.1.f0 s.1.f1 s.1.f2 = tariff_Greatest.j1 k cls fr tt s.2 L (L.length : Int) (i : Int) (decide (L[i].f0 = cls) && (wB L[i].f1 fr tt && (!s.2 || decide (L[i].f2 > s.1.f2)))) s.1.f0 s.1.f1 s.1.f2 L[i].f0 L[i].f1 L[i].f2 := by
      intro k
      rw [tariff_Greatest.l0, if_pos h1, if_pos h0, if_pos h1, rd60_get L i hi]
      simp only [twithin_f, Option.bind_some]
      by_cases c1 : L[i].f0 = cls
      · rw [if_pos c1]
        cases wB L[i].f1 fr tt <;> cases s.2 <;> simp [c1]
      · rw [if_neg c1]
        simp [c1]
    refine Ev.succ (Ev.succ ih (fun k => ?_)) e
    rw [tariff_Greatest.j1, w1 hi (by omega)]
    unfold gstep
    by_cases c : L[i].f0 = cls ∧ (fr ≤ L[i].f1 ∧ L[i].f1 ≤ tt) ∧ (s.2 = false ∨ L[i].f2 > s.1.f2)
    · have c' : (decide (L[i].f0 = cls) && (wB L[i].f1 fr tt && (!s.2 || decide (L[i].f2 > s.1.f2)))) = true := by
        simp only [Bool.and_eq_true, decide_eq_true_eq, wB_iff, Bool.or_eq_true, Bool.not_eq_true']
        exact c
      rw [if_pos c, if_pos c']
    · have c' : ¬ (decide (L[i].f0 = cls) && (wB L[i].f1 fr tt && (!s.2 || decide (L[i].f2 > s.1.f2)))) = true := by
        simp only [Bool.and_eq_true, decide_eq_true_eq, wB_iff, Bool.or_eq_true, Bool.not_eq_true']
        exact c
      rw [if_neg c, if_neg c']
def grtP (a : Int) (l : List S60) (cls fr tt : Int) : Int × Int × Int × Int := if spanP a l cls fr tt = 0 then gres (grt cls fr tt l) else (0, 0, 0, spanP a l cls fr tt)
theorem span_zero {a : Int} {l : List S60} {cls fr tt : Int} (h : spanP a l cls fr tt = 0) : (tchk a l).2 = 0 ∧ (1 ≤ cls ∧ cls ≤ 9) ∧ (0 ≤ fr ∧ fr ≤ 100000) ∧ fr ≤ tt ∧ tt ≤ 100000 := by
  unfold spanP at h
  by_cases h1 : (tchk a l).2 = 0
  · rw [if_pos h1] at h
    by_cases h2 : (wB cls 1 9 && (wB fr 0 100000 && wB tt fr 100000)) = true
    · simp only [Bool.and_eq_true, wB_iff] at h2
      exact ⟨h1, h2.1, h2.2.1, h2.2.2⟩
    · rw [if_neg h2] at h
      cases h
  · rw [if_neg h1] at h
    cases h
theorem grt_ev (a : Int) (l : List S60) (cls fr tt : Int) : Ev (fun k => tariff_Greatest.f k a l cls fr tt) (grtP a l cls fr tt) := by
  unfold tariff_Greatest.f grtP
  refine Ev.bind (span_ev a l cls fr tt) ?_
  by_cases h : spanP a l cls fr tt = 0
  · have hl := tgo_len (span_zero h).1
    simp only [if_pos h]
    exact Ev.bind (frc_ev a cls fr l hl) (grtl_ev cls fr tt l hl l.length 0 (frc cls fr l) (by omega))
  · simp only [if_neg h]
    exact Ev.const _

/-! ### worst, duty, causes, greatest -/
def wday (a : Int) (l : List S60) (x : S35) (day : Int) : Int := if (grtP a l x.f2 x.f3 day).2.2.2 = 0 then mx (grtP a l x.f2 x.f3 day).2.1 x.f3 else x.f3
def worstP (a : Int) (l : List S60) (x : S35) (day : Int) : S51 := ⟨x.f0, 3, x.f4, wday a l x day⟩
theorem worst_ev (a : Int) (l : List S60) (x : S35) (day : Int) : Ev (fun k => liability_worst.f k a l x.f0 x.f1 x.f2 x.f3 x.f4 day) (x.f0, 3, x.f4, wday a l x day) := by
  unfold liability_worst.f wday
  refine Ev.bind (grt_ev a l x.f2 x.f3 day) ?_
  by_cases h : (grtP a l x.f2 x.f3 day).2.2.2 = 0
  · simp only [if_pos h]
    exact Ev.const _
  · simp only [if_neg h]
    exact Ev.const _
def atP (a : Int) (l : List S60) (cls day : Int) : Int × Int × Int × Int :=
  if (tchk a l).2 = 0 then (if (wB cls 1 9 && wB day 0 100000) = true then gres (frc cls day l) else (0, 0, 0, 2)) else (0, 0, 0, 1)
theorem at_ev (a : Int) (l : List S60) (cls day : Int) : Ev (fun k => tariff_At.f k a l cls day) (atP a l cls day) := by
  unfold tariff_At.f atP
  refine Ev.bind (right_ev a l) ?_
  by_cases h : (tchk a l).2 = 0
  · have hl := tgo_len h
    simp only [h, beq_self_eq_true, if_true, twithin_f, Option.bind_some]
    cases wB cls 1 9
    · exact Ev.const _
    · cases wB day 0 100000
      · exact Ev.const _
      · simp only [if_true, Bool.and_self]
        refine Ev.bind (frc_ev a cls day l hl) ?_
        unfold gres
        cases (frc cls day l).2
        · exact Ev.const _
        · exact Ev.const _
  · have h2 : ((tchk a l).2 == 0) = false := beq_eq_false_iff_ne.mpr h
    simp only [h, h2, if_false]
    exact Ev.const _
def upB (n rule : Int) : Bool :=
  if rule = 2 then decide ((Int.tmod n 10000000) > 0) else if rule = 3 then decide ((IntKind.u64.wrap (2 * (Int.tmod n 10000000))) ≥ 10000000) else
  if rule = 4 then (if (IntKind.u64.wrap (2 * (Int.tmod n 10000000))) > 10000000 then true else if (IntKind.u64.wrap (2 * (Int.tmod n 10000000))) = 10000000 then ((Int.tmod (IntKind.u64.wrap (Int.tdiv n 10000000)) 2) == 1) else false) else false
def rndP (n rule : Int) : Int := if upB n rule = true then wrap64 (IntKind.u64.wrap (IntKind.u64.wrap (Int.tdiv n 10000000) + 1)) else wrap64 (IntKind.u64.wrap (Int.tdiv n 10000000))
theorem rnd_ev (n rule : Int) : Ev (fun k => tariff_rounded.f k n rule) (rndP n rule) := by
  have j0 : ∀ (q : Int) (b : Bool), Ev (fun k => tariff_rounded.j0 k q b) (if b = true then wrap64 (IntKind.u64.wrap (q + 1)) else wrap64 q) := fun q b => Ev.succ (Ev.const _) (fun k => by rw [tariff_rounded.j0]; cases b <;> rfl)
  unfold tariff_rounded.f rndP upB
  by_cases h2 : rule = 2
  · simp only [if_pos h2]
    exact (j0 _ _).congr fun k => rfl
  · simp only [if_neg h2]
    by_cases h3 : rule = 3
    · simp only [if_pos h3]
      exact (j0 _ _).congr fun k => rfl
    · simp only [if_neg h3]
      by_cases h4 : rule = 4
      · simp only [if_pos h4]
        by_cases h5 : (IntKind.u64.wrap (2 * (Int.tmod n 10000000))) > 10000000
        · simp only [if_pos h5]
          exact (j0 _ true).congr fun k => rfl
        · simp only [if_neg h5]
          by_cases h6 : (IntKind.u64.wrap (2 * (Int.tmod n 10000000))) = 10000000
          · simp only [if_pos h6]
            exact (j0 _ _).congr fun k => rfl
          · simp only [if_neg h6]
            exact (j0 _ false).congr fun k => rfl
      · simp only [if_neg h4]
        exact (j0 _ false).congr fun k => rfl
def prodP (c alc : Int) : Int := IntKind.u64.wrap ((IntKind.u64.wrap c) * (IntKind.u64.wrap alc))
def dutyP (a : Int) (l : List S60) (cls day alc : Int) : Int × Int :=
  if (tchk a l).2 = 0 ∧ wB alc 0 10737418240000 = false then (0, 2) else if (atP a l cls day).2.2.2 = 0 then (rndP (prodP (atP a l cls day).2.2.1 alc) a, 0) else (0, (atP a l cls day).2.2.2)
theorem duty_ev (a : Int) (l : List S60) (cls day alc : Int) : Ev (fun k => tariff_Duty.f k a l cls day alc) (dutyP a l cls day alc) := by
  have j0 : ∀ b : Bool, Ev (fun k => tariff_Duty.j0 k cls day alc b a l) (if b = true then (0, 2) else if (atP a l cls day).2.2.2 = 0 then (rndP (prodP (atP a l cls day).2.2.1 alc) a, 0) else (0, (atP a l cls day).2.2.2)) := by
    intro b
    cases b with
    | true => exact Ev.succ (Ev.const _) (fun k => by rw [tariff_Duty.j0]; rfl)
    | false =>
      refine Ev.succ (Ev.bind (at_ev a l cls day) ?_) (fun k => by rw [tariff_Duty.j0, if_neg (by decide)])
      by_cases h : (atP a l cls day).2.2.2 = 0
      · simp only [if_pos h]
        exact Ev.bind (rnd_ev _ _) (Ev.const _)
      · simp only [if_neg h]
        exact Ev.const _
  unfold tariff_Duty.f dutyP
  refine Ev.bind (right_ev a l) ?_
  by_cases h : (tchk a l).2 = 0
  · simp only [h, beq_self_eq_true, if_true, twithin_f, Option.bind_some, true_and]
    cases wB alc 0 10737418240000
    · exact j0 true
    · exact j0 false
  · have h2 : ((tchk a l).2 == 0) = false := beq_eq_false_iff_ne.mpr h
    simp only [h, h2, if_false, false_and]
    exact j0 false
def causesP (a : Int) (l : List S60) (x : S35) (o : S51) : Int := if o.f2 = 0 then 0 else (dutyP a l x.f2 o.f3 o.f2).1
theorem causes_ev (a : Int) (l : List S60) (x : S35) (o : S51) : Ev (fun k => liability_causes.f k a l x.f0 x.f1 x.f2 x.f3 x.f4 o.f0 o.f1 o.f2 o.f3) (causesP a l x o) := by
  unfold liability_causes.f causesP
  by_cases h : o.f2 = 0
  · simp only [if_pos h]
    exact Ev.const _
  · simp only [if_neg h]
    exact Ev.bind (duty_ev _ _ _ _ _) (Ev.const _)
def gP (a : Int) (l : List S60) (day : Int) (x : S35) : Int := if day < x.f3 then 0 else causesP a l x (worstP a l x day)
theorem g_ev (a : Int) (l : List S60) (x : S35) (day : Int) : Ev (fun k => liability_greatest.f k a l x.f0 x.f1 x.f2 x.f3 x.f4 day) (gP a l day x) := by
  unfold liability_greatest.f gP
  by_cases h : day < x.f3
  · simp only [if_pos h]
    exact Ev.const _
  · simp only [if_neg h]
    exact Ev.bind (worst_ev a l x day) (Ev.bind (causes_ev a l x (worstP a l x day)) (Ev.const _))

/-! ### Greatest, Bonds, Witness, Sum, Causes -/
def gsum (a : Int) (l : List S60) (day : Int) (s : Int) (x : List S35) : Int := x.foldl (fun s x => wrap64 (s + gP a l day x)) s
theorem Gl_ev (a : Int) (l : List S60) (day : Int) (L : List S35) (hL : L.length ≤ 16) : ∀ (d i : Nat) (out : List Int) (s : Int), i + d = L.length → out.length = i →
    Ev (fun k => liability_Greatest.l0 k day out s L (L.length : Int) (i : Int) a l) (out ++ (L.drop i).map (gP a l day), gsum a l day s (L.drop i), 0)
  | 0, i, out, s, h, ho => by
    rw [List.drop_eq_nil_of_le (by omega)]
    refine Ev.succ (Ev.const _) (fun k => ?_)
    rw [liability_Greatest.l0, if_neg (by omega)]
    simp [gsum]
  | d + 1, i, out, s, h, ho => by
    have hi : i < L.length := by omega
    have h1 : (i : Int) < (L.length : Int) := by omega
    have h0 : (0 : Int) ≤ (i : Int) := by omega
    have ih := Gl_ev a l day L hL d (i + 1) (out ++ [gP a l day L[i]]) (wrap64 (s + gP a l day L[i])) (by omega) (by simp [ho])
    have e : ∀ k, liability_Greatest.l0 (k + 1) day out s L (L.length : Int) (i : Int) a l = (liability_greatest.f k a l L[i].f0 L[i].f1 L[i].f2 L[i].f3 L[i].f4 day).bind fun t => liability_Greatest.l0 k day (out ++ [t]) (wrap64 (s + t)) L (L.length : Int) ((i + 1 : Nat) : Int) a l := by
      intro k
      rw [liability_Greatest.l0, if_pos h1, if_pos h0, if_pos h1, rd_get L i hi, w1 hi (by omega)]
      simp only [if_pos (show out.length < 17592186044416 by omega)]
    have er : (out ++ (L.drop i).map (gP a l day), gsum a l day s (L.drop i), (0 : Int)) = ((out ++ [gP a l day L[i]]) ++ (L.drop (i + 1)).map (gP a l day), gsum a l day (wrap64 (s + gP a l day L[i])) (L.drop (i + 1)), 0) := by
      rw [List.drop_eq_getElem_cons hi, List.map_cons, List.append_assoc]
      rfl
    rw [er]
    exact Ev.succ (Ev.bind (g_ev a l L[i] day) ih) e
def GP (a : Int) (l : List S60) (x : List S35) (day : Int) : List Int × Int × Int := if asksP a l x day = 0 then (x.map (gP a l day), gsum a l day 0 x, 0) else ([], 0, asksP a l x day)
theorem G_ev (a : Int) (l : List S60) (x : List S35) (day : Int) : Ev (fun k => liability_Greatest.f k a l x day) (GP a l x day) := by
  unfold liability_Greatest.f GP
  refine Ev.bind (asks_ev a l x day) ?_
  by_cases h : asksP a l x day = 0
  · have hl := (lchk_to (asks_zero h).2.1).1
    simp only [if_pos h]
    exact Gl_ev a l day x hl x.length 0 [] 0 (by omega) rfl
  · simp only [if_neg h]
    exact Ev.const _
theorem bamts_ev (a : Int) (l : List S60) (day : Int) : ∀ x : List S35, Ev (fun k => bamts k a l day x) (x.map fun y => (y.f1, gP a l day y))
  | [] => Ev.const _
  | y :: x => Ev.bind (g_ev a l y day) (Ev.bind (bamts_ev a l day x) (Ev.const _))
def BP (a : Int) (l : List S60) (x : List S35) (day : Int) : List S42 × Int := if asksP a l x day = 0 then (bonds (x.map fun y => (y.f1, gP a l day y)), 0) else ([], asksP a l x day)
theorem B_ev (a : Int) (l : List S60) (x : List S35) (day : Int) : Ev (fun k => liability_Bonds.f k a l x day) (BP a l x day) := by
  unfold liability_Bonds.f BP
  refine Ev.bind (asks_ev a l x day) ?_
  by_cases h : asksP a l x day = 0
  · simp only [if_pos h]
    exact Ev.bind (bamts_ev a l day x) (Ev.const _)
  · simp only [if_neg h]
    exact Ev.const _
def sentP (a : Int) (l : List S60) (x : List S35) (day : Int) : Int := if asksP a l x day = 0 then (if (x.any fun y => decide (y.f3 > day)) = true then 11 else 0) else asksP a l x day
theorem sent_ev (a : Int) (l : List S60) (x : List S35) (day : Int) : Ev (fun k => liability_sent.f k a l x day) (sentP a l x day) := by
  unfold liability_sent.f sentP
  refine Ev.bind (asks_ev a l x day) ?_
  by_cases h : asksP a l x day = 0
  · simp only [if_pos h, cont53.f, Option.bind_some]
    cases x.any fun y => decide (y.f3 > day)
    · exact Ev.const _
    · exact Ev.const _
  · simp only [if_neg h]
    exact Ev.const _
theorem sent_zero {a : Int} {l : List S60} {x : List S35} {day : Int} (h : sentP a l x day = 0) : asksP a l x day = 0 ∧ ∀ y ∈ x, y.f3 ≤ day := by
  unfold sentP at h
  by_cases h1 : asksP a l x day = 0
  · rw [if_pos h1] at h
    refine ⟨h1, fun y hy => ?_⟩
    by_cases h2 : (x.any fun y => decide (y.f3 > day)) = true
    · rw [if_pos h2] at h
      cases h
    · have := List.any_eq_false.1 (Bool.eq_false_iff.2 h2) y hy
      simpa using this
  · rw [if_neg h1] at h
    exact absurd h h1
theorem Wl_ev (a : Int) (l : List S60) (day : Int) (L : List S35) (hL : L.length ≤ 16) : ∀ (d i : Nat) (out : List S51), i + d = L.length → out.length = i →
    Ev (fun k => liability_Witness.l0 k day out L (L.length : Int) (i : Int) a l) (out ++ (L.drop i).map (fun x => worstP a l x day), 0)
  | 0, i, out, h, ho => by
    rw [List.drop_eq_nil_of_le (by omega)]
    refine Ev.succ (Ev.const _) (fun k => ?_)
    rw [liability_Witness.l0, if_neg (by omega)]
    simp
  | d + 1, i, out, h, ho => by
    have hi : i < L.length := by omega
    have h1 : (i : Int) < (L.length : Int) := by omega
    have h0 : (0 : Int) ≤ (i : Int) := by omega
    have ih := Wl_ev a l day L hL d (i + 1) (out ++ [worstP a l L[i] day]) (by omega) (by simp [ho])
    have e : ∀ k, liability_Witness.l0 (k + 1) day out L (L.length : Int) (i : Int) a l = (liability_worst.f k a l L[i].f0 L[i].f1 L[i].f2 L[i].f3 L[i].f4 day).bind fun t => liability_Witness.l0 k day (out ++ [(⟨t.1, t.2.1, t.2.2.1, t.2.2.2⟩ : S51)]) L (L.length : Int) ((i + 1 : Nat) : Int) a l := by
      intro k
      rw [liability_Witness.l0, if_pos h1, if_pos h0, if_pos h1, rd_get L i hi, w1 hi (by omega)]
      simp only [if_pos (show out.length < 4398046511104 by omega)]
    have er : (out ++ (L.drop i).map (fun x => worstP a l x day), (0 : Int)) = ((out ++ [worstP a l L[i] day]) ++ (L.drop (i + 1)).map (fun x => worstP a l x day), 0) := by
      rw [List.drop_eq_getElem_cons hi, List.map_cons, List.append_assoc]
      rfl
    rw [er]
    exact Ev.succ (Ev.bind (worst_ev a l L[i] day) ih) e
def WP (a : Int) (l : List S60) (x : List S35) (day : Int) : List S51 × Int := if sentP a l x day = 0 then (x.map (fun x => worstP a l x day), 0) else ([], sentP a l x day)
theorem W_ev (a : Int) (l : List S60) (x : List S35) (day : Int) : Ev (fun k => liability_Witness.f k a l x day) (WP a l x day) := by
  unfold liability_Witness.f WP
  refine Ev.bind (sent_ev a l x day) ?_
  by_cases h : sentP a l x day = 0
  · have hl := (lchk_to (asks_zero (sent_zero h).1).2.1).1
    simp only [if_pos h]
    exact Wl_ev a l day x hl x.length 0 [] (by omega) rfl
  · simp only [if_neg h]
    exact Ev.const _
def fitsP (x : S35) (o : S51) (day : Int) : Bool :=
  (decide (o.f0 = x.f0) && wB o.f3 x.f3 day) && (if o.f1 = 1 then decide (o.f2 = 0) else if o.f1 = 2 then decide (1 ≤ o.f2 ∧ o.f2 < x.f4) else if o.f1 = 3 then decide (o.f2 = x.f4) else false)
theorem fits_ev (x : S35) (o : S51) (day : Int) : Ev (fun k => liability_Fits.f k x.f0 x.f1 x.f2 x.f3 x.f4 o.f0 o.f1 o.f2 o.f3 day) (fitsP x o day) := by
  have j0 : ∀ b : Bool, Ev (fun k => liability_Fits.j0 k b x.f0 x.f1 x.f2 x.f3 x.f4 o.f0 o.f1 o.f2 o.f3) (!b && (if o.f1 = 1 then decide (o.f2 = 0) else if o.f1 = 2 then decide (1 ≤ o.f2 ∧ o.f2 < x.f4) else if o.f1 = 3 then decide (o.f2 = x.f4) else false)) := by
    intro b
    refine Ev.succ (Ev.const _) (fun k => ?_)
    rw [liability_Fits.j0]
    cases b
    · rw [if_neg (by decide)]
      by_cases h1 : o.f1 = 1
      · rw [if_pos h1, if_pos h1]
        by_cases h : o.f2 = 0 <;> simp [h]
      · rw [if_neg h1, if_neg h1]
        by_cases h2 : o.f1 = 2
        · rw [if_pos h2, if_pos h2]
          by_cases h : o.f2 ≥ 1
          · have h' : (1 : Int) ≤ o.f2 := h
            rw [if_pos h]
            simp [h']
          · have h' : ¬ (1 : Int) ≤ o.f2 := h
            rw [if_neg h]
            simp [h']
        · rw [if_neg h2, if_neg h2]
          by_cases h3 : o.f1 = 3
          · rw [if_pos h3, if_pos h3]
            by_cases h : o.f2 = x.f4 <;> simp [h]
          · rw [if_neg h3, if_neg h3]
            rfl
    · rfl
  unfold liability_Fits.f fitsP
  by_cases h : o.f0 = x.f0
  · simp only [if_pos h, lwithin_f, Option.bind_some]
    have := j0 (!wB o.f3 x.f3 day)
    simpa [h] using this
  · simp only [if_neg h]
    have := j0 true
    simpa [h] using this
/-- What Sum tells of the exposures and outcomes from i on. -/
def sumP (a : Int) (l : List S60) (day : Int) : Int → List S35 → List S51 → Int × Int
  | s, x :: xs, o :: os => if fitsP x o day = true then sumP a l day (wrap64 (s + causesP a l x o)) xs os else (0, 10)
  | s, [], _ => (s, 0)
  | s, _ :: _, [] => (0, 10)
theorem Sl_ev (a : Int) (l : List S60) (day : Int) (L : List S35) (O : List S51) (hL : L.length ≤ 16) (hO : O.length = L.length) : ∀ (d i : Nat) (s : Int), i + d = L.length →
    Ev (fun k => liability_Sum.l0 k O day s L (L.length : Int) (i : Int) a l) (sumP a l day s (L.drop i) (O.drop i))
  | 0, i, s, h => by
    rw [List.drop_eq_nil_of_le (by omega)]
    refine Ev.succ (Ev.const _) (fun k => ?_)
    rw [liability_Sum.l0, if_neg (by omega), sumP]
  | d + 1, i, s, h => by
    have hi : i < L.length := by omega
    have hi' : i < O.length := by omega
    have h1 : (i : Int) < (L.length : Int) := by omega
    have h2 : (i : Int) < (O.length : Int) := by omega
    have h0 : (0 : Int) ≤ (i : Int) := by omega
    have ih := Sl_ev a l day L O hL hO d (i + 1) (wrap64 (s + causesP a l L[i] O[i])) (by omega)
    have e : ∀ k, liability_Sum.l0 (k + 1) O day s L (L.length : Int) (i : Int) a l = (liability_Fits.f k L[i].f0 L[i].f1 L[i].f2 L[i].f3 L[i].f4 O[i].f0 O[i].f1 O[i].f2 O[i].f3 day).bind fun t => if t = true then (liability_causes.f k a l L[i].f0 L[i].f1 L[i].f2 L[i].f3 L[i].f4 O[i].f0 O[i].f1 O[i].f2 O[i].f3).bind fun t => liability_Sum.l0 k O day (wrap64 (s + t)) L (L.length : Int) ((i + 1 : Nat) : Int) a l else some (0, 10) := by
      intro k
      rw [liability_Sum.l0, if_pos h1, if_pos h0, if_pos h1, if_pos h2, rd_get L i hi, rd51_get O i hi', w1 hi (by omega)]
    rw [List.drop_eq_getElem_cons hi, List.drop_eq_getElem_cons hi', sumP]
    refine Ev.succ (Ev.bind (fits_ev L[i] O[i] day) ?_) e
    cases fitsP L[i] O[i] day
    · exact Ev.const _
    · exact Ev.bind (causes_ev a l L[i] O[i]) ih
def SP (a : Int) (l : List S60) (x : List S35) (o : List S51) (day : Int) : Int × Int := if sentP a l x day = 0 then (if o.length = x.length then sumP a l day 0 x o else (0, 10)) else (0, sentP a l x day)
theorem S_ev (a : Int) (l : List S60) (x : List S35) (o : List S51) (day : Int) : Ev (fun k => liability_Sum.f k a l x o day) (SP a l x o day) := by
  unfold liability_Sum.f SP
  refine Ev.bind (sent_ev a l x day) ?_
  by_cases h : sentP a l x day = 0
  · have hl := (lchk_to (asks_zero (sent_zero h).1).2.1).1
    simp only [if_pos h]
    by_cases ho : o.length = x.length
    · have ho' : (o.length : Int) = (x.length : Int) := by omega
      simp only [if_pos ho, if_pos ho']
      exact Sl_ev a l day x o hl ho x.length 0 0 (by omega)
    · have ho' : ¬ (o.length : Int) = (x.length : Int) := by omega
      simp only [if_neg ho, if_neg ho']
      exact Ev.const _
  · simp only [if_neg h]
    exact Ev.const _
def CP (a : Int) (l : List S60) (x : S35) (o : S51) (day : Int) : Int × Int := if asksP a l [x] day = 0 then (if fitsP x o day = true then (causesP a l x o, 0) else (0, 10)) else (0, asksP a l [x] day)
theorem C_ev (a : Int) (l : List S60) (x : S35) (o : S51) (day : Int) : Ev (fun k => liability_Causes.f k a l x.f0 x.f1 x.f2 x.f3 x.f4 o.f0 o.f1 o.f2 o.f3 day) (CP a l x o day) := by
  unfold liability_Causes.f CP
  refine Ev.bind (asks_ev a l [x] day) ?_
  by_cases h : asksP a l [x] day = 0
  · simp only [if_pos h]
    refine Ev.bind (fits_ev x o day) ?_
    cases fitsP x o day
    · exact Ev.const _
    · exact Ev.bind (causes_ev a l x o) (Ev.const _)
  · simp only [if_neg h]
    exact Ev.const _
def fewB (l : List S60) (x : List S35) : Bool := (decide (l.length ≤ 20) || decide (l.length = 65)) && (decide (x.length ≤ 8) || decide (x.length = 17))
theorem few1 (n m : Nat) (b : Int) (hm : (b : Int) = m + 0) (c : Nat) : (if (n : Int) ≤ b then some true else some ((n : Int) == (c : Int))) = some (decide (n ≤ m) || decide (n = c)) := by
  by_cases h : n ≤ m
  · rw [if_pos (by omega)]
    simp [h]
  · rw [if_neg (by omega)]
    by_cases h3 : n = c
    · subst h3
      simp
    · have : ((n : Int) == (c : Int)) = false := beq_eq_false_iff_ne.mpr (by omega)
      rw [this]
      simp [h, h3]
theorem few_f (a : Int) (l : List S60) (x : List S35) : spilelaw51_few.f a l x = some (fewB l x) := by
  unfold spilelaw51_few.f spileref46_Few.f spileref51_Few.f fewB
  have h1 := few1 l.length 20 20 rfl 65
  have h2 := few1 x.length 8 8 rfl 17
  have h1' : (if (l.length : Int) ≤ 20 then some true else some ((l.length : Int) == 65)) = some (decide (l.length ≤ 20) || decide (l.length = 65)) := h1
  have h2' : (if (x.length : Int) ≤ 8 then some true else some ((x.length : Int) == 17)) = some (decide (x.length ≤ 8) || decide (x.length = 17)) := h2
  rw [h1', h2', Option.bind_some, Option.bind_some]
  cases (decide (l.length ≤ 20) || decide (l.length = 65)) <;> rfl
end Go.Proofs.Ythboaobgipodiaa.K
