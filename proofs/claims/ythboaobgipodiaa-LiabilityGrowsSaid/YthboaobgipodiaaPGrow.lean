/- By hand: how the greatest liability grows, and what the bonds' sums make together. -/
import Derived.Test.YthboaobgipodiaaPSum
namespace Go.Proofs.Ythboaobgipodiaa.K
open Go.RowKit Go.Proofs.YthboaobgipodiaaW.PrintWords
set_option linter.unusedVariables false
set_option linter.unusedSimpArgs false

theorem rd42_get (xs : List S42) (i : Nat) (h : i < xs.length) : rd_T42 xs (i : Int) = xs[i] := by
  unfold rd_T42
  simp [List.getD_eq_getElem?_getD, h]
/-! ### sums -/
theorem isum_mono {α : Type} {f g : α → Int} : ∀ l : List α, (∀ y ∈ l, f y ≤ g y) → isum (l.map f) ≤ isum (l.map g)
  | [], _ => Int.le_refl _
  | y :: l, h => by
    have h1 := h y List.mem_cons_self
    have h2 := isum_mono l (fun z hz => h z (List.mem_cons_of_mem _ hz))
    simp only [List.map_cons, isum]
    omega
theorem isum_nonneg : ∀ l : List Int, (∀ y ∈ l, 0 ≤ y) → 0 ≤ isum l
  | [], _ => Int.le_refl _
  | y :: l, h => by
    have h1 := h y List.mem_cons_self
    have h2 := isum_nonneg l (fun z hz => h z (List.mem_cons_of_mem _ hz))
    rw [isum]
    omega
/-- What a bond has, without a whole number's bounds. -/
def bs : List (Int × Int) → Int → Int
  | [], _ => 0
  | p :: ps, x => (if p.1 = x then p.2 else 0) + bs ps x
theorem bs_in : ∀ (ps : List (Int × Int)) (x : Int), (∀ p ∈ ps, 0 ≤ p.2) → 0 ≤ bs ps x ∧ bs ps x ≤ isum (ps.map (·.2))
  | [], x, _ => ⟨Int.le_refl _, Int.le_refl _⟩
  | p :: ps, x, h => by
    have h1 := h p List.mem_cons_self
    obtain ⟨h2, h3⟩ := bs_in ps x (fun z hz => h z (List.mem_cons_of_mem _ hz))
    rw [bs, List.map_cons, isum]
    split <;> omega
theorem bsum_from : ∀ (ps : List (Int × Int)) (x s : Int), (∀ p ∈ ps, 0 ≤ p.2) → 0 ≤ s → s + isum (ps.map (·.2)) ≤ 4611686018427387904 →
    ps.foldl (fun s p => if p.1 = x then wrap64 (s + p.2) else s) s = s + bs ps x
  | [], x, s, _, _, _ => by simp [bs]
  | p :: ps, x, s, h, h0, hb => by
    have h1 := h p List.mem_cons_self
    have hn := isum_nonneg (ps.map (·.2)) (fun z hz => by
      obtain ⟨q, hq, rfl⟩ := List.mem_map.1 hz
      exact h q (List.mem_cons_of_mem _ hq))
    rw [List.map_cons, isum] at hb
    rw [List.foldl_cons, bs]
    by_cases c : p.1 = x
    · have hw : wrap64 (s + p.2) = s + p.2 := wrap_big _ (by omega) (by omega)
      rw [if_pos c, if_pos c, hw, bsum_from ps x _ (fun z hz => h z (List.mem_cons_of_mem _ hz)) (by omega) (by omega)]
      omega
    · rw [if_neg c, if_neg c, bsum_from ps x _ (fun z hz => h z (List.mem_cons_of_mem _ hz)) h0 (by omega)]
      omega
theorem bsum_eq {ps : List (Int × Int)} (x : Int) (h : ∀ p ∈ ps, 0 ≤ p.2) (hb : isum (ps.map (·.2)) ≤ 4611686018427387904) : bsum ps x = bs ps x := by
  unfold bsum
  rw [bsum_from ps x 0 h (Int.le_refl _) (by omega)]
  omega
theorem bs_none : ∀ (ps : List (Int × Int)) (x : Int), x ∉ ps.map (·.1) → bs ps x = 0
  | [], _, _ => rfl
  | p :: ps, x, h => by
    rw [List.map_cons, List.mem_cons, not_or] at h
    rw [bs, if_neg (fun e => h.1 e.symm), bs_none ps x h.2]
    rfl
theorem isum_away (F : Int → Int) (x c : Int) : ∀ ks : List Int, x ∉ ks → isum (ks.map fun z => (if x = z then c else 0) + F z) = isum (ks.map F)
  | [], _ => rfl
  | y :: ks, h => by
    rw [List.mem_cons, not_or] at h
    simp only [List.map_cons, isum, isum_away F x c ks h.2, if_neg h.1]
    omega
theorem isum_ins (F : Int → Int) (x c : Int) : ∀ ks : List Int, ks.Pairwise (· < ·) → (x ∉ ks → F x = 0) → isum ((insU x ks).map fun z => (if x = z then c else 0) + F z) = c + isum (ks.map F)
  | [], _, h => by
    have := h (by simp)
    simp only [insU, List.map_cons, List.map_nil, isum, if_pos, this]
    omega
  | y :: ks, hp, h => by
    obtain ⟨p1, p2⟩ := List.pairwise_cons.1 hp
    unfold insU
    by_cases c1 : x < y
    · have hn : x ∉ y :: ks := by
        intro hm
        rcases List.mem_cons.1 hm with e | hm
        · omega
        · have := p1 x hm
          omega
      have := h hn
      rw [if_pos c1, List.map_cons, isum, isum_away F x c _ hn, if_pos rfl, this]
      omega
    · rw [if_neg c1]
      by_cases c2 : x = y
      · subst c2
        have hn : x ∉ ks := fun hm => by have := p1 x hm; omega
        rw [if_pos rfl, List.map_cons, isum, isum_away F x c _ hn, if_pos rfl, List.map_cons, isum]
        omega
      · have ih := isum_ins F x c ks p2 (fun hm => h (by
          rw [List.mem_cons, not_or]
          exact ⟨c2, hm⟩))
        rw [if_neg c2, List.map_cons, isum, if_neg c2, ih, List.map_cons, isum]
        omega
theorem bs_whole : ∀ ps : List (Int × Int), isum ((bkeys ps).map (bs ps)) = isum (ps.map (·.2))
  | [] => rfl
  | p :: ps => by
    have e : bs (p :: ps) = fun z => (if p.1 = z then p.2 else 0) + bs ps z := rfl
    rw [e]
    show isum ((insU p.1 (bkeys ps)).map fun z => (if p.1 = z then p.2 else 0) + bs ps z) = _
    rw [isum_ins (bs ps) p.1 p.2 (bkeys ps) (asc_bkeys ps) (fun hm => bs_none ps p.1 (fun h => hm ((mem_bkeys _ _).2 h))), bs_whole ps, List.map_cons, isum]
/-- The bonds: each once, in ascending order, and their sums make the whole. -/
theorem bonds_spec {ps : List (Int × Int)} (h : ∀ p ∈ ps, 0 ≤ p.2) (hb : isum (ps.map (·.2)) ≤ 4611686018427387904) :
    (bonds ps).Pairwise (fun a b => a.f0 < b.f0) ∧ (∀ b ∈ bonds ps, b.f1 = 0 ∧ 0 ≤ b.f2) ∧ isum ((bonds ps).map (·.f2)) = isum (ps.map (·.2)) := by
  refine ⟨?_, fun b hm => ?_, ?_⟩
  · unfold bonds
    rw [List.pairwise_map]
    exact asc_bkeys ps
  · obtain ⟨x, _, rfl⟩ := List.mem_map.1 hm
    refine ⟨rfl, ?_⟩
    show 0 ≤ bsum ps x
    rw [bsum_eq x h hb]
    exact (bs_in ps x h).1
  · unfold bonds
    rw [List.map_map, ← bs_whole ps]
    congr 1
    exact List.map_congr_left (fun x _ => bsum_eq x h hb)

/-! ### days and alcohol -/
section
variable {a : Int} {l : List S60} (ht : (tchk a l).2 = 0)
include ht
theorem great_day {cls fr tt tt' : Int} (h1 : fr ≤ tt) (h2 : tt ≤ tt') : rateOf (grt cls fr tt l) ≤ rateOf (grt cls fr tt' l) := by
  obtain ⟨ha, _, hr, hp⟩ := tchk_ok ht
  by_cases h : (grt cls fr tt l).2 = true
  · obtain ⟨b1, b2⟩ := great_force hp h1 h
    have hb := (grt_to h1 h).2
    have hin : fr ≤ mx (grt cls fr tt l).1.f1 fr ∧ mx (grt cls fr tt l).1.f1 fr ≤ tt := by
      unfold mx
      split <;> omega
    obtain ⟨c1, c2⟩ := force_le_great (fr := fr) (tt := tt') hp hin.1 (Int.le_trans hin.2 h2) b1
    unfold rateOf
    rw [if_pos h, if_pos c1, ← b2]
    exact c2
  · have := (rate_in hr (s := grt cls fr tt' l) (great_mem hp (by omega))).1
    have e : rateOf (grt cls fr tt l) = 0 := by unfold rateOf; rw [if_neg h]
    omega
theorem gP_day {day later : Int} {x : S35} (hd : 0 ≤ day ∧ day ≤ 100000) (hd' : 0 ≤ later ∧ later ≤ 100000) (hx : xok x = true) (hle : day ≤ later) : gP a l day x ≤ gP a l later x := by
  obtain ⟨ha, _, hr, hp⟩ := tchk_ok ht
  obtain ⟨_, _, x2, x3, x4⟩ := xok_iff.1 hx
  by_cases c : day < x.f3
  · have : gP a l day x = 0 := by unfold gP; rw [if_pos c]
    have := gP_in ht hd' hx
    omega
  · rw [gP_eq ht hd hx, gP_eq ht hd' hx, if_neg c, if_neg (by omega)]
    have hi := rate_in hr (s := grt x.f2 x.f3 day l) (great_mem hp (by omega))
    exact (amt_mono ⟨hi.1, great_day ht (by omega) hle⟩ ⟨by omega, Int.le_refl _⟩).2
theorem gP_more {day : Int} {x : S35} {m : Int} (hd : 0 ≤ day ∧ day ≤ 100000) (hx : xok x = true) (hx' : xok ⟨x.f0, x.f1, x.f2, x.f3, m⟩ = true) (hm : x.f4 ≤ m) : gP a l day x ≤ gP a l day ⟨x.f0, x.f1, x.f2, x.f3, m⟩ := by
  obtain ⟨ha, _, hr, hp⟩ := tchk_ok ht
  obtain ⟨_, _, x2, x3, x4⟩ := xok_iff.1 hx
  rw [gP_eq ht hd hx, gP_eq ht hd hx']
  by_cases c : day < x.f3
  · rw [if_pos c, if_pos c]
    exact Int.le_refl _
  · rw [if_neg c, if_neg c]
    have hi := rate_in hr (s := grt x.f2 x.f3 day l) (great_mem hp (by omega))
    exact (amt_mono ⟨hi.1, Int.le_refl _⟩ ⟨by omega, hm⟩).2
end

/-! ### other exposures -/
theorem lgo_ix : ∀ (l : List S35) (p : Option Int) (i j : Nat), (lgo p i l).2 = (lgo p j l).2
  | [], _, _, _ => rfl
  | z :: l, p, i, j => by
    rw [lgo, lgo]
    split
    · split
      · rfl
      · exact lgo_ix l _ _ _
    · rfl
theorem lgo_tail {l : List S35} {p : Option Int} {i j : Nat} (h : (lgo p i l).2 = 0) : (lgo none j l).2 = 0 := by
  cases l with
  | nil => rfl
  | cons z l =>
    rw [lgo] at h ⊢
    by_cases c : xok z = true
    · rw [if_pos c] at h ⊢
      rw [if_neg (by simp)]
      split at h
      · cases h
      · rw [← lgo_ix l (some z.f0) (i + 1)]
        exact h
    · rw [if_neg c] at h
      cases h
theorem asks_mk {a : Int} {l : List S60} {x : List S35} {day : Int} (h1 : (tchk a l).2 = 0) (h2 : (lchk x).2 = 0) (h3 : 0 ≤ day ∧ day ≤ 100000) : asksP a l x day = 0 := by
  unfold asksP
  rw [if_pos ⟨h1, h2⟩, if_pos (wB_iff.2 h3)]
theorem asks_tail {a : Int} {l : List S60} {y : S35} {x : List S35} {day : Int} (h : asksP a l (y :: x) day = 0) : asksP a l x day = 0 := by
  obtain ⟨h1, h2, h3⟩ := asks_zero h
  have hl := (lchk_to h2).1
  refine asks_mk h1 ?_ h3
  unfold lchk at h2 ⊢
  rw [List.length_cons] at hl
  rw [if_neg (by rw [List.length_cons]; omega), lgo] at h2
  rw [if_neg (by omega)]
  by_cases c : xok y = true
  · rw [if_pos c, if_neg (by simp)] at h2
    exact lgo_tail h2
  · rw [if_neg c] at h2
    cases h2
theorem asks_head {a : Int} {l : List S60} {y y' : S35} {x : List S35} {day : Int} (h : asksP a l (y :: x) day = 0) (h0 : y'.f0 = y.f0) (hy : xok y' = true) : asksP a l (y' :: x) day = 0 := by
  obtain ⟨h1, h2, h3⟩ := asks_zero h
  have hl := (lchk_to h2).1
  refine asks_mk h1 ?_ h3
  unfold lchk at h2 ⊢
  rw [List.length_cons] at hl
  rw [if_neg (by rw [List.length_cons]; omega), lgo] at h2 ⊢
  rw [if_pos hy, if_neg (by simp), h0]
  by_cases c : xok y = true
  · rw [if_pos c, if_neg (by simp)] at h2
    exact h2
  · rw [if_neg c] at h2
    cases h2
end Go.Proofs.Ythboaobgipodiaa.K
