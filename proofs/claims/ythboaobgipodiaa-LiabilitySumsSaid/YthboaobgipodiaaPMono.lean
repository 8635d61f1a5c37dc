import Derived.Test.YthboaobgipodiaaPLaw
/- By hand: plain facts of the greatest liability that several laws share. -/
namespace Go.Proofs.Ythboaobgipodiaa.K
open Go.RowKit Go.Proofs.YthboaobgipodiaaW.PrintWords
set_option linter.unusedVariables false
set_option linter.unusedSimpArgs false

theorem ct_f (a : Int) (l : List S60) (h : l.length ≤ 1000) : spilelaw51_ct.f a l = some (a, l) := by
  unfold spilelaw51_ct.f clone32.f
  rw [if_pos (by omega)]
  rfl
theorem cl13_f (l : List S35) (h : l.length ≤ 1000) : clone13.f l = some l := by
  unfold clone13.f
  rw [if_pos (by omega)]
theorem cl22_f (l : List S51) (h : l.length ≤ 1000) : clone22.f l = some l := by
  unfold clone22.f
  rw [if_pos (by omega)]
theorem few_len {l : List S60} {x : List S35} (h : fewB l x = true) : l.length ≤ 65 ∧ x.length ≤ 17 := by
  unfold fewB at h
  simp only [Bool.and_eq_true, Bool.or_eq_true, decide_eq_true_eq] at h
  omega
theorem frc_inv (cls day : Int) (s : S60 × Bool) (hs : s.2 = true → s.1.f0 = cls ∧ s.1.f1 ≤ day) : ∀ l : List S60, (l.foldl (fstep cls day) s).2 = true → (l.foldl (fstep cls day) s).1.f0 = cls ∧ (l.foldl (fstep cls day) s).1.f1 ≤ day
  | [], h => hs h
  | r :: l, h => by
    rw [List.foldl_cons] at h ⊢
    refine frc_inv cls day _ ?_ l h
    unfold fstep
    split
    · rename_i c
      exact fun _ => c
    · exact hs
theorem grt_inv (cls fr tt : Int) (s : S60 × Bool) (hs : s.2 = true → s.1.f0 = cls ∧ s.1.f1 ≤ tt) : ∀ l : List S60, (l.foldl (gstep cls fr tt) s).2 = true → (l.foldl (gstep cls fr tt) s).1.f0 = cls ∧ (l.foldl (gstep cls fr tt) s).1.f1 ≤ tt
  | [], h => hs h
  | r :: l, h => by
    rw [List.foldl_cons] at h ⊢
    refine grt_inv cls fr tt _ ?_ l h
    unfold gstep
    split
    · rename_i c
      exact fun _ => ⟨c.1, c.2.1.2⟩
    · exact hs
theorem grt_to {cls fr tt : Int} {l : List S60} (hft : fr ≤ tt) (h : (grt cls fr tt l).2 = true) : (grt cls fr tt l).1.f0 = cls ∧ (grt cls fr tt l).1.f1 ≤ tt := by
  refine grt_inv cls fr tt _ (fun h => ?_) l h
  have := frc_inv cls fr (z60, false) (fun h => by cases h) l h
  exact ⟨this.1, by have := this.2; unfold frc; omega⟩
theorem gres_zero {s : S60 × Bool} (h : (gres s).2.2.2 = 0) : s.2 = true ∧ gres s = (s.1.f0, s.1.f1, s.1.f2, 0) := by
  unfold gres at h ⊢
  by_cases h2 : s.2 = true
  · exact ⟨h2, by rw [if_pos h2]⟩
  · rw [if_neg h2] at h
    cases h
theorem grtP_zero {a : Int} {l : List S60} {cls fr tt : Int} (h : (grtP a l cls fr tt).2.2.2 = 0) : spanP a l cls fr tt = 0 ∧ (grt cls fr tt l).2 = true ∧ grtP a l cls fr tt = ((grt cls fr tt l).1.f0, (grt cls fr tt l).1.f1, (grt cls fr tt l).1.f2, 0) := by
  unfold grtP at h ⊢
  by_cases hs : spanP a l cls fr tt = 0
  · rw [if_pos hs] at h ⊢
    have := gres_zero h
    exact ⟨hs, this.1, this.2⟩
  · rw [if_neg hs] at h
    exact absurd h hs
theorem wday_in (a : Int) (l : List S60) (x : S35) (day : Int) (hx : x.f3 ≤ day) : x.f3 ≤ wday a l x day ∧ wday a l x day ≤ day := by
  unfold wday
  by_cases h : (grtP a l x.f2 x.f3 day).2.2.2 = 0
  · rw [if_pos h]
    obtain ⟨_, h2, h3⟩ := grtP_zero h
    rw [h3]
    have h4 := (grt_to hx h2).2
    show x.f3 ≤ mx (grt x.f2 x.f3 day l).1.f1 x.f3 ∧ mx (grt x.f2 x.f3 day l).1.f1 x.f3 ≤ day
    unfold mx
    split <;> omega
  · rw [if_neg h]
    omega
theorem worst_fits (a : Int) (l : List S60) (x : S35) (day : Int) (hx : x.f3 ≤ day) : fitsP x (worstP a l x day) day = true := by
  have h := wday_in a l x day hx
  unfold fitsP
  have : wB (worstP a l x day).f3 x.f3 day = true := wB_iff.2 h
  rw [this]
  simp [worstP]
theorem asks_one {a : Int} {l : List S60} {x : List S35} {day : Int} (h : asksP a l x day = 0) (y : S35) (hy : y ∈ x) : asksP a l [y] day = 0 := by
  obtain ⟨h1, h2, h3, h4⟩ := asks_zero h
  have hk := (lchk_to h2).2 y hy
  unfold asksP
  have e : (lchk [y]).2 = 0 := by
    unfold lchk
    rw [if_neg (by simp), lgo, if_pos hk, if_neg (by simp), lgo]
  rw [if_pos ⟨h1, e⟩, if_pos (wB_iff.2 ⟨h3, h4⟩)]
theorem g_worst {a : Int} {l : List S60} {x : S35} {day : Int} (hx : x.f3 ≤ day) : gP a l day x = causesP a l x (worstP a l x day) := by
  unfold gP
  rw [if_neg (by omega)]
theorem sum_worst (a : Int) (l : List S60) (day : Int) : ∀ (x : List S35) (s : Int), (∀ y ∈ x, y.f3 ≤ day) → sumP a l day s x (x.map fun y => worstP a l y day) = (gsum a l day s x, 0)
  | [], s, _ => by simp [sumP, gsum]
  | y :: x, s, h => by
    have hy := h y List.mem_cons_self
    rw [List.map_cons, sumP, if_pos (worst_fits a l y day hy), ← g_worst hy, sum_worst a l day x _ (fun z hz => h z (List.mem_cons_of_mem _ hz))]
    rfl
end Go.Proofs.Ythboaobgipodiaa.K
/- By hand: the greatest rate, and how duties grow. -/
namespace Go.Proofs.Ythboaobgipodiaa.K
open Go.RowKit Go.Proofs.YthboaobgipodiaaW.PrintWords
set_option linter.unusedVariables false
set_option linter.unusedSimpArgs false

/-! ### sorted rates -/
theorem befR_iff {a b : S60} : befR a b = true ↔ a.f0 < b.f0 ∨ (a.f0 = b.f0 ∧ a.f1 < b.f1) := by
  unfold befR
  simp only [Bool.or_eq_true, Bool.and_eq_true, decide_eq_true_eq]
theorem befR_trans {a b c : S60} (h1 : befR a b = true) (h2 : befR b c = true) : befR a c = true := by
  rw [befR_iff] at *
  omega
theorem tgo_ok : ∀ (l : List S60) (p : Option S60) (i : Nat), (tgo p i l).2 = 0 → (∀ r ∈ l, rok r = true) ∧ l.Pairwise (fun a b => befR a b = true) ∧ ∀ q, p = some q → ∀ r ∈ l, befR q r = true
  | [], p, i, _ => ⟨fun r hr => by simp at hr, List.Pairwise.nil, fun q _ r hr => by simp at hr⟩
  | x :: l, p, i, h => by
    rw [tgo] at h
    by_cases h1 : rok x = true
    · rw [if_pos h1] at h
      by_cases h2 : (p.any fun y => !befR y x) = true
      · rw [if_pos h2] at h
        cases h
      · rw [if_neg h2] at h
        obtain ⟨a1, a2, a3⟩ := tgo_ok l _ _ h
        refine ⟨fun r hr => ?_, List.pairwise_cons.2 ⟨fun r hr => a3 x rfl r hr, a2⟩, fun q hq r hr => ?_⟩
        · rcases List.mem_cons.1 hr with rfl | hr
          · exact h1
          · exact a1 r hr
        · subst hq
          have hqx : befR q x = true := by
            cases hb : befR q x with
            | true => rfl
            | false => exact absurd (by simp [hb]) h2
          rcases List.mem_cons.1 hr with rfl | hr
          · exact hqx
          · exact befR_trans hqx (a3 x rfl r hr)
    · rw [if_neg h1] at h
      cases h
theorem tchk_ok {a : Int} {l : List S60} (h : (tchk a l).2 = 0) : (1 ≤ a ∧ a ≤ 4) ∧ l.length ≤ 64 ∧ (∀ r ∈ l, rok r = true) ∧ l.Pairwise (fun a b => befR a b = true) := by
  have hl := tgo_len h
  unfold tchk at h
  cases hw : wB a 1 4 with
  | false => rw [hw] at h; simp at h
  | true =>
    rw [hw, if_pos rfl, if_neg (by omega)] at h
    obtain ⟨a1, a2, _⟩ := tgo_ok l _ _ h
    exact ⟨wB_iff.1 hw, hl, a1, a2⟩
theorem rok_iff {r : S60} : rok r = true ↔ (1 ≤ r.f0 ∧ r.f0 ≤ 9) ∧ (0 ≤ r.f1 ∧ r.f1 ≤ 100000) ∧ (0 ≤ r.f2 ∧ r.f2 ≤ 1000000) := by
  unfold rok
  simp only [Bool.and_eq_true, wB_iff]

/-! ### the rate in force -/
def Force (cls d : Int) (l : List S60) (s : S60 × Bool) : Prop :=
  (s.2 = false ∧ ∀ r ∈ l, ¬ (r.f0 = cls ∧ r.f1 ≤ d)) ∨ (s.2 = true ∧ s.1 ∈ l ∧ s.1.f0 = cls ∧ s.1.f1 ≤ d ∧ ∀ r ∈ l, r.f0 = cls → r.f1 ≤ d → r = s.1 ∨ r.f1 < s.1.f1)
theorem force_spec (cls d : Int) : ∀ (n : Nat) (l : List S60), l.length = n → l.Pairwise (fun a b => befR a b = true) → Force cls d l (frc cls d l)
  | 0, l, hn, _ => by
    obtain rfl := List.length_eq_zero_iff.1 hn
    exact .inl ⟨rfl, fun r hr => by simp at hr⟩
  | n + 1, l, hn, hp => by
    obtain ⟨l', r, rfl⟩ : ∃ l' r, l = l' ++ [r] := ⟨l.dropLast, l.getLast (by rintro rfl; simp at hn), (List.dropLast_concat_getLast _).symm⟩
    rw [List.pairwise_append] at hp
    obtain ⟨hp1, _, hp2⟩ := hp
    have ih := force_spec cls d n l' (by simpa using hn) hp1
    have hlt : ∀ q ∈ l', q.f0 = r.f0 → q.f1 < r.f1 := fun q hq e => by
      have := befR_iff.1 (hp2 q hq r (by simp))
      omega
    have e : frc cls d (l' ++ [r]) = fstep cls d (frc cls d l') r := by
      unfold frc
      rw [List.foldl_append]
      rfl
    rw [e]
    unfold fstep
    by_cases c : r.f0 = cls ∧ r.f1 ≤ d
    · rw [if_pos c]
      refine .inr ⟨rfl, by simp, c.1, c.2, fun q hq h1 h2 => ?_⟩
      rcases List.mem_append.1 hq with hq | hq
      · exact .inr (hlt q hq (h1.trans c.1.symm))
      · exact .inl (by simpa using hq)
    · rw [if_neg c]
      rcases ih with ⟨h1, h2⟩ | ⟨h1, h2, h3, h4, h5⟩
      · refine .inl ⟨h1, fun q hq => ?_⟩
        rcases List.mem_append.1 hq with hq | hq
        · exact h2 q hq
        · obtain rfl : q = r := by simpa using hq
          exact c
      · refine .inr ⟨h1, List.mem_append_left _ h2, h3, h4, fun q hq e1 e2 => ?_⟩
        rcases List.mem_append.1 hq with hq | hq
        · exact h5 q hq e1 e2
        · obtain rfl : q = r := by simpa using hq
          exact absurd ⟨e1, e2⟩ c
/-- The greatest rate: one that may be in force, and no other is greater. -/
def Great (cls fr tt : Int) (s0 : S60 × Bool) (l : List S60) (s : S60 × Bool) : Prop :=
  (s = s0 ∨ (s.2 = true ∧ s.1 ∈ l ∧ s.1.f0 = cls ∧ fr ≤ s.1.f1 ∧ s.1.f1 ≤ tt)) ∧ (s0.2 = true → s.2 = true ∧ s0.1.f2 ≤ s.1.f2) ∧ ∀ r ∈ l, r.f0 = cls → fr ≤ r.f1 → r.f1 ≤ tt → s.2 = true ∧ r.f2 ≤ s.1.f2
theorem great_spec (cls fr tt : Int) (s0 : S60 × Bool) : ∀ (n : Nat) (l : List S60), l.length = n → Great cls fr tt s0 l (l.foldl (gstep cls fr tt) s0)
  | 0, l, hn => by
    obtain rfl := List.length_eq_zero_iff.1 hn
    exact ⟨.inl rfl, fun h => ⟨h, Int.le_refl _⟩, fun r hr => by simp at hr⟩
  | n + 1, l, hn => by
    obtain ⟨l', r, rfl⟩ : ∃ l' r, l = l' ++ [r] := ⟨l.dropLast, l.getLast (by rintro rfl; simp at hn), (List.dropLast_concat_getLast _).symm⟩
    obtain ⟨h1, h2, h3⟩ := great_spec cls fr tt s0 n l' (by simpa using hn)
    rw [List.foldl_append]
    show Great cls fr tt s0 (l' ++ [r]) (gstep cls fr tt (l'.foldl (gstep cls fr tt) s0) r)
    generalize l'.foldl (gstep cls fr tt) s0 = s at h1 h2 h3
    unfold gstep
    by_cases c : r.f0 = cls ∧ (fr ≤ r.f1 ∧ r.f1 ≤ tt) ∧ (s.2 = false ∨ r.f2 > s.1.f2)
    · rw [if_pos c]
      obtain ⟨c1, ⟨c2, c3⟩, c4⟩ := c
      refine ⟨.inr ⟨rfl, by simp, c1, c2, c3⟩, fun h => ⟨rfl, ?_⟩, fun q hq e1 e2 e3 => ⟨rfl, ?_⟩⟩
      · obtain ⟨b1, b2⟩ := h2 h
        rcases c4 with c4 | c4
        · rw [b1] at c4
          cases c4
        · show s0.1.f2 ≤ r.f2
          omega
      · rcases List.mem_append.1 hq with hq | hq
        · obtain ⟨b1, b2⟩ := h3 q hq e1 e2 e3
          rcases c4 with c4 | c4
          · rw [b1] at c4
            cases c4
          · show q.f2 ≤ r.f2
            omega
        · obtain rfl : q = r := by simpa using hq
          exact Int.le_refl _
    · rw [if_neg c]
      refine ⟨?_, h2, fun q hq e1 e2 e3 => ?_⟩
      · rcases h1 with h1 | ⟨b1, b2, b3⟩
        · exact .inl h1
        · exact .inr ⟨b1, List.mem_append_left _ b2, b3⟩
      · rcases List.mem_append.1 hq with hq | hq
        · exact h3 q hq e1 e2 e3
        · obtain rfl : q = r := by simpa using hq
          by_cases b : s.2 = true
          · refine ⟨b, ?_⟩
            by_cases b2 : q.f2 ≤ s.1.f2
            · exact b2
            · exact absurd ⟨e1, ⟨e2, e3⟩, .inr (by omega)⟩ c
          · exact absurd ⟨e1, ⟨e2, e3⟩, .inl (by simpa using b)⟩ c
section
variable {cls fr tt : Int} {l : List S60} (hp : l.Pairwise (fun a b => befR a b = true))
include hp
/-- What is in force on a day of them is not greater. -/
theorem force_le_great {d : Int} (h1 : fr ≤ d) (h2 : d ≤ tt) (h : (frc cls d l).2 = true) : (grt cls fr tt l).2 = true ∧ (frc cls d l).1.f2 ≤ (grt cls fr tt l).1.f2 := by
  obtain ⟨g1, g2, g3⟩ := great_spec cls fr tt (frc cls fr l) l.length l rfl
  rcases force_spec cls d l.length l rfl hp with ⟨a1, _⟩ | ⟨a1, a2, a3, a4, a5⟩
  · rw [a1] at h
    cases h
  · by_cases c : (frc cls d l).1.f1 ≤ fr
    · rcases force_spec cls fr l.length l rfl hp with ⟨b1, b2⟩ | ⟨b1, b2, b3, b4, b5⟩
      · exact absurd ⟨a3, c⟩ (b2 _ a2)
      · have e : (frc cls d l).1 = (frc cls fr l).1 := by
          rcases b5 _ a2 a3 c with e | e
          · exact e
          · rcases a5 _ b2 b3 (by omega) with e2 | e2
            · exact e2.symm
            · omega
        rw [e]
        exact g2 b1
    · exact g3 _ a2 a3 (by omega) (by omega)
/-- The greatest rate is in force on the first day from fr on on which it can be. -/
theorem great_force (hft : fr ≤ tt) (h : (grt cls fr tt l).2 = true) : (frc cls (mx (grt cls fr tt l).1.f1 fr) l).2 = true ∧ (frc cls (mx (grt cls fr tt l).1.f1 fr) l).1 = (grt cls fr tt l).1 := by
  obtain ⟨g1, g2, g3⟩ := great_spec cls fr tt (frc cls fr l) l.length l rfl
  have g1' : grt cls fr tt l = frc cls fr l ∨ ((grt cls fr tt l).2 = true ∧ (grt cls fr tt l).1 ∈ l ∧ (grt cls fr tt l).1.f0 = cls ∧ fr ≤ (grt cls fr tt l).1.f1 ∧ (grt cls fr tt l).1.f1 ≤ tt) := g1
  rcases g1' with g | ⟨_, b2, b3, b4, b5⟩
  · rw [g] at h ⊢
    rcases force_spec cls fr l.length l rfl hp with ⟨a1, _⟩ | ⟨a1, a2, a3, a4, a5⟩
    · rw [a1] at h
      cases h
    · have e : mx (frc cls fr l).1.f1 fr = fr := by unfold mx; split <;> omega
      rw [e]
      exact ⟨h, rfl⟩
  · have e : mx (grt cls fr tt l).1.f1 fr = (grt cls fr tt l).1.f1 := by unfold mx; split <;> omega
    rw [e]
    rcases force_spec cls (grt cls fr tt l).1.f1 l.length l rfl hp with ⟨a1, a2⟩ | ⟨a1, a2, a3, a4, a5⟩
    · exact absurd ⟨b3, Int.le_refl _⟩ (a2 _ b2)
    · refine ⟨a1, ?_⟩
      rcases a5 _ b2 b3 (Int.le_refl _) with e2 | e2
      · exact e2.symm
      · omega
theorem great_mem (hft : fr ≤ tt) (h : (grt cls fr tt l).2 = true) : (grt cls fr tt l).1 ∈ l := by
  obtain ⟨h1, h2⟩ := great_force hp hft h
  rcases force_spec cls (mx (grt cls fr tt l).1.f1 fr) l.length l rfl hp with ⟨a1, _⟩ | ⟨_, a2, _⟩
  · rw [a1] at h1
    cases h1
  · rwa [h2] at a2
end

/-! ### rounding -/
theorem u64w {n : Int} (h0 : 0 ≤ n) (h1 : n < 18446744073709551616) : IntKind.u64.wrap n = n := by
  unfold IntKind.wrap
  simp [IntKind.signed, IntKind.bits]
  omega
def upN (n rule : Int) : Bool :=
  if rule = 2 then decide (0 < n % 10000000) else if rule = 3 then decide (10000000 ≤ 2 * (n % 10000000)) else
  if rule = 4 then decide (10000000 < 2 * (n % 10000000) ∨ (2 * (n % 10000000) = 10000000 ∧ n / 10000000 % 2 = 1)) else false
theorem rnd_eq {n rule : Int} (h0 : 0 ≤ n) (h1 : n ≤ 10737418240000000000) : rndP n rule = n / 10000000 + (if upN n rule = true then 1 else 0) := by
  have hq : Int.tdiv n 10000000 = n / 10000000 := Int.tdiv_eq_ediv_of_nonneg h0
  have hr : Int.tmod n 10000000 = n % 10000000 := Int.tmod_eq_emod_of_nonneg h0
  have hw : IntKind.u64.wrap (n / 10000000) = n / 10000000 := u64w (by omega) (by omega)
  have h2 : IntKind.u64.wrap (2 * (n % 10000000)) = 2 * (n % 10000000) := u64w (by omega) (by omega)
  have h3 : Int.tmod (n / 10000000) 2 = n / 10000000 % 2 := Int.tmod_eq_emod_of_nonneg (by omega)
  have hu : upB n rule = upN n rule := by
    unfold upB upN
    rw [hq, hr, hw, h2, h3]
    by_cases c2 : rule = 2
    · rw [if_pos c2, if_pos c2]
    · rw [if_neg c2, if_neg c2]
      by_cases c3 : rule = 3
      · rw [if_pos c3, if_pos c3]
      · rw [if_neg c3, if_neg c3]
        by_cases c4 : rule = 4
        · rw [if_pos c4, if_pos c4]
          by_cases c5 : 2 * (n % 10000000) > 10000000
          · have c5' : 10000000 < 2 * (n % 10000000) := c5
            rw [if_pos c5]
            simp [c5']
          · rw [if_neg c5]
            by_cases c6 : 2 * (n % 10000000) = 10000000
            · rw [if_pos c6]
              by_cases h : n / 10000000 % 2 = 1 <;> simp [c6, h]
            · have c5' : ¬ 10000000 < 2 * (n % 10000000) := c5
              rw [if_neg c6]
              simp [c6, c5']
        · rw [if_neg c4, if_neg c4]
  unfold rndP
  rw [hu, hq, hw]
  cases upN n rule with
  | true =>
    rw [if_pos rfl, if_pos rfl, u64w (by omega) (by omega)]
    unfold wrap64
    omega
  | false =>
    rw [if_neg (by decide), if_neg (by decide)]
    unfold wrap64
    omega
theorem rnd_mono {n m rule : Int} (h0 : 0 ≤ n) (h : n ≤ m) : n / 10000000 + (if upN n rule = true then 1 else 0) ≤ m / 10000000 + (if upN m rule = true then 1 else 0) := by
  by_cases c : n / 10000000 < m / 10000000
  · split <;> split <;> omega
  · have e : n / 10000000 = m / 10000000 := by omega
    have er : n % 10000000 ≤ m % 10000000 := by omega
    have : upN n rule = true → upN m rule = true := by
      unfold upN
      rw [e]
      split
      · simp only [decide_eq_true_eq]
        omega
      · split
        · simp only [decide_eq_true_eq]
          omega
        · split
          · simp only [decide_eq_true_eq]
            omega
          · exact fun h => h
    by_cases u : upN n rule = true
    · rw [if_pos u, if_pos (this u)]
      omega
    · rw [if_neg u]
      split <;> omega
/-- The duty at a rate. -/
def amt (rule c m : Int) : Int := c * m / 10000000 + (if upN (c * m) rule = true then 1 else 0)
theorem prod_le {c m : Int} (hc : 0 ≤ c ∧ c ≤ 1000000) (hm : 0 ≤ m ∧ m ≤ 10737418240000) : 0 ≤ c * m ∧ c * m ≤ 10737418240000000000 := by
  refine ⟨Int.mul_nonneg hc.1 hm.1, ?_⟩
  have := Int.mul_le_mul hc.2 hm.2 hm.1 (by omega)
  omega
theorem amt_rnd {rule c m : Int} (hc : 0 ≤ c ∧ c ≤ 1000000) (hm : 0 ≤ m ∧ m ≤ 10737418240000) : rndP (prodP c m) rule = amt rule c m := by
  have h := prod_le hc hm
  have e : prodP c m = c * m := by
    unfold prodP
    rw [u64w hc.1 (by omega), u64w hm.1 (by omega), u64w h.1 (by omega)]
  rw [e, rnd_eq h.1 h.2]
  rfl
theorem amt_mono {rule c m c' m' : Int} (hc : 0 ≤ c ∧ c ≤ c') (hm : 0 ≤ m ∧ m ≤ m') : 0 ≤ amt rule c m ∧ amt rule c m ≤ amt rule c' m' := by
  have h0 := Int.mul_nonneg hc.1 hm.1
  have h1 := Int.mul_le_mul hc.2 hm.2 hm.1 (by omega)
  refine ⟨?_, rnd_mono h0 h1⟩
  unfold amt
  split <;> omega
theorem amt_top {rule c m : Int} (hc : 0 ≤ c ∧ c ≤ 1000000) (hm : 0 ≤ m ∧ m ≤ 10737418240000) : amt rule c m ≤ 1073741824001 := by
  have h := prod_le hc hm
  unfold amt
  split <;> omega

/-! ### what is caused -/
/-- The rate in force as a number: nothing, if there is none. -/
def rateOf (s : S60 × Bool) : Int := if s.2 = true then s.1.f2 else 0
theorem rate_in {l : List S60} (hr : ∀ r ∈ l, rok r = true) {s : S60 × Bool} (hs : s.2 = true → s.1 ∈ l) : 0 ≤ rateOf s ∧ rateOf s ≤ 1000000 := by
  unfold rateOf
  by_cases h : s.2 = true
  · rw [if_pos h]
    exact (rok_iff.1 (hr _ (hs h))).2.2
  · rw [if_neg h]
    omega
theorem force_mem {cls d : Int} {l : List S60} (hp : l.Pairwise (fun a b => befR a b = true)) (h : (frc cls d l).2 = true) : (frc cls d l).1 ∈ l := by
  rcases force_spec cls d l.length l rfl hp with ⟨a1, _⟩ | ⟨_, a2, _⟩
  · rw [a1] at h
    cases h
  · exact a2
theorem amt_zero (rule m : Int) (hr : 1 ≤ rule ∧ rule ≤ 4) : amt rule 0 m = 0 := by
  unfold amt upN
  simp
theorem duty_eq {a : Int} {l : List S60} {cls d m : Int} (ht : (tchk a l).2 = 0) (hc : 1 ≤ cls ∧ cls ≤ 9) (hd : 0 ≤ d ∧ d ≤ 100000) (hm : 0 ≤ m ∧ m ≤ 10737418240000) : (dutyP a l cls d m).1 = amt a (rateOf (frc cls d l)) m := by
  obtain ⟨ha, _, hr, hp⟩ := tchk_ok ht
  have hat : atP a l cls d = gres (frc cls d l) := by
    unfold atP
    rw [if_pos ht, if_pos (by rw [wB_iff.2 hc, wB_iff.2 hd]; rfl)]
  unfold dutyP
  rw [if_neg (by rw [wB_iff.2 hm]; simp), hat]
  have hri := rate_in hr (s := frc cls d l) (force_mem hp)
  by_cases h : (frc cls d l).2 = true
  · have e : gres (frc cls d l) = ((frc cls d l).1.f0, (frc cls d l).1.f1, (frc cls d l).1.f2, 0) := by unfold gres; rw [if_pos h]
    have er : rateOf (frc cls d l) = (frc cls d l).1.f2 := by unfold rateOf; rw [if_pos h]
    rw [er] at hri ⊢
    rw [e, if_pos rfl]
    exact amt_rnd hri hm
  · have e : gres (frc cls d l) = (0, 0, 0, 7) := by unfold gres; rw [if_neg h]
    have er : rateOf (frc cls d l) = 0 := by unfold rateOf; rw [if_neg h]
    rw [er, e, if_neg (by decide)]
    exact (amt_zero a m ha).symm
section
variable {a : Int} {l : List S60} {day : Int} {x : S35} (ht : (tchk a l).2 = 0) (hd : 0 ≤ day ∧ day ≤ 100000) (hx : xok x = true)
include ht hd hx
theorem wday_rate (hs : x.f3 ≤ day) : rateOf (frc x.f2 (wday a l x day) l) = rateOf (grt x.f2 x.f3 day l) := by
  obtain ⟨ha, _, hr, hp⟩ := tchk_ok ht
  obtain ⟨_, _, x2, x3, _⟩ := xok_iff.1 hx
  have hsp : spanP a l x.f2 x.f3 day = 0 := by
    unfold spanP
    rw [if_pos ht, if_pos (by rw [wB_iff.2 x2, wB_iff.2 x3, wB_iff.2 ⟨hs, hd.2⟩]; rfl)]
  have hg : grtP a l x.f2 x.f3 day = gres (grt x.f2 x.f3 day l) := by unfold grtP; rw [if_pos hsp]
  unfold wday
  rw [hg]
  by_cases h : (grt x.f2 x.f3 day l).2 = true
  · have e : gres (grt x.f2 x.f3 day l) = ((grt x.f2 x.f3 day l).1.f0, (grt x.f2 x.f3 day l).1.f1, (grt x.f2 x.f3 day l).1.f2, 0) := by unfold gres; rw [if_pos h]
    rw [e, if_pos rfl]
    obtain ⟨b1, b2⟩ := great_force hp hs h
    unfold rateOf
    rw [if_pos h, if_pos b1, b2]
  · have e : gres (grt x.f2 x.f3 day l) = (0, 0, 0, 7) := by unfold gres; rw [if_neg h]
    rw [e, if_neg (by decide)]
    unfold rateOf
    rw [if_neg h]
    by_cases h2 : (frc x.f2 x.f3 l).2 = true
    · exact absurd (force_le_great hp (Int.le_refl _) hs h2).1 h
    · rw [if_neg h2]
theorem gP_eq : gP a l day x = if day < x.f3 then 0 else amt a (rateOf (grt x.f2 x.f3 day l)) x.f4 := by
  obtain ⟨_, _, x2, x3, x4⟩ := xok_iff.1 hx
  unfold gP
  by_cases c : day < x.f3
  · rw [if_pos c, if_pos c]
  · rw [if_neg c, if_neg c]
    have hw := wday_in a l x day (by omega)
    unfold causesP
    rw [if_neg (show ¬ (worstP a l x day).f2 = 0 by show ¬ x.f4 = 0; omega)]
    show (dutyP a l x.f2 (wday a l x day) x.f4).1 = _
    rw [duty_eq ht x2 (by omega) (by omega), wday_rate ht hd hx (by omega)]
theorem causes_eq {o : S51} (ho : fitsP x o day = true) : causesP a l x o = amt a (rateOf (frc x.f2 o.f3 l)) o.f2 ∧ 0 ≤ o.f2 ∧ o.f2 ≤ x.f4 ∧ x.f3 ≤ o.f3 ∧ o.f3 ≤ day := by
  obtain ⟨ha, _, hr, hp⟩ := tchk_ok ht
  obtain ⟨_, _, x2, x3, x4⟩ := xok_iff.1 hx
  unfold fitsP at ho
  simp only [Bool.and_eq_true, decide_eq_true_eq, wB_iff] at ho
  obtain ⟨⟨_, h3⟩, h4⟩ := ho
  have hm : 0 ≤ o.f2 ∧ o.f2 ≤ x.f4 := by
    by_cases c1 : o.f1 = 1
    · rw [if_pos c1] at h4
      simp only [decide_eq_true_eq] at h4
      omega
    · rw [if_neg c1] at h4
      by_cases c2 : o.f1 = 2
      · rw [if_pos c2] at h4
        simp only [decide_eq_true_eq] at h4
        omega
      · rw [if_neg c2] at h4
        by_cases c3 : o.f1 = 3
        · rw [if_pos c3] at h4
          simp only [decide_eq_true_eq] at h4
          omega
        · rw [if_neg c3] at h4
          cases h4
  refine ⟨?_, hm.1, hm.2, h3.1, h3.2⟩
  unfold causesP
  by_cases c : o.f2 = 0
  · rw [if_pos c, c]
    unfold amt upN
    simp
  · rw [if_neg c, duty_eq ht x2 (by omega) (by omega)]
theorem causes_le {o : S51} (ho : fitsP x o day = true) : 0 ≤ causesP a l x o ∧ causesP a l x o ≤ gP a l day x := by
  obtain ⟨ha, _, hr, hp⟩ := tchk_ok ht
  obtain ⟨h1, h2, h3, h4, h5⟩ := causes_eq ht hd hx ho
  rw [h1, gP_eq ht hd hx, if_neg (by omega)]
  have hi := rate_in hr (s := frc x.f2 o.f3 l) (force_mem hp)
  refine amt_mono ⟨hi.1, ?_⟩ ⟨h2, h3⟩
  unfold rateOf
  by_cases c : (frc x.f2 o.f3 l).2 = true
  · obtain ⟨b1, b2⟩ := force_le_great (fr := x.f3) (tt := day) hp h4 h5 c
    rw [if_pos c, if_pos b1]
    exact b2
  · rw [if_neg c]
    exact (rate_in hr (s := grt x.f2 x.f3 day l) (great_mem hp (by omega))).1
theorem gP_in : 0 ≤ gP a l day x ∧ gP a l day x ≤ 1073741824001 := by
  obtain ⟨ha, _, hr, hp⟩ := tchk_ok ht
  obtain ⟨_, _, x2, x3, x4⟩ := xok_iff.1 hx
  rw [gP_eq ht hd hx]
  by_cases c : day < x.f3
  · rw [if_pos c]
    omega
  · rw [if_neg c]
    have hi := rate_in hr (s := grt x.f2 x.f3 day l) (great_mem hp (by omega))
    exact ⟨(amt_mono ⟨hi.1, Int.le_refl _⟩ ⟨by omega, Int.le_refl _⟩).1, amt_top hi ⟨by omega, x4.2⟩⟩
end
end Go.Proofs.Ythboaobgipodiaa.K
