/- By hand: wet and dry spaces of lying casks, in plain words. -/
import Derived.Test.YtefjmcljkmppoaaPLyP
import Derived.Test.YtefjmcljkmppoaaK7
namespace Go.Proofs.Ytefjmcljkmppoaa.K
open Go.RowKit Go.Proofs.YtefjmcljkmppoaaW.PrintWords
set_option linter.unusedVariables false
set_option linter.unusedSimpArgs false
def gvH (from_ h n : Int) (i : Nat) : Int := wrap64 (from_ + wrap64 (Int.tdiv (wrap64 ((i : Int) * h)) n))
def htL (from_ h n : Int) : List Int := (List.range (n.toNat + 1)).map (gvH from_ h n)
theorem htL_len (from_ h n : Int) : (htL from_ h n).length = n.toNat + 1 := by simp [htL]
theorem part_bd (h n : Int) (i : Nat) (hh : 0 ≤ h ∧ h ≤ 200000) (hn : 1 ≤ n ∧ n ≤ 64) (hi : (i : Int) ≤ n) : 0 ≤ Int.tdiv ((i : Int) * h) n ∧ Int.tdiv ((i : Int) * h) n ≤ h ∧ 0 ≤ (i : Int) * h ∧ (i : Int) * h ≤ 12800000 := by
  have h1 : 0 ≤ (i : Int) * h := Int.mul_nonneg (by omega) hh.1
  have h2 : (i : Int) * h ≤ n * h := Int.mul_le_mul_of_nonneg_right hi hh.1
  have h3 : n * h ≤ 64 * 200000 := Int.mul_le_mul hn.2 hh.2 hh.1 (by decide)
  have h4 : (64 : Int) * 200000 = 12800000 := rfl
  rw [Int.tdiv_eq_ediv_of_nonneg h1]
  refine ⟨Int.ediv_nonneg h1 (by omega), ?_, h1, by omega⟩
  have := Int.ediv_le_ediv (show (0 : Int) < n by omega) h2
  rw [Int.mul_ediv_cancel_left _ (show n ≠ 0 by omega)] at this
  exact this
theorem gv_val (from_ h n : Int) (i : Nat) (hf : 0 ≤ from_ ∧ from_ ≤ 200000) (hh : 0 ≤ h ∧ h ≤ 200000) (hn : 1 ≤ n ∧ n ≤ 64) (hi : (i : Int) ≤ n) : gvH from_ h n i = from_ + Int.tdiv ((i : Int) * h) n := by
  obtain ⟨h1, h2, h3, h4⟩ := part_bd h n i hh hn hi
  unfold gvH
  rw [show wrap64 ((i : Int) * h) = (i : Int) * h by unfold wrap64; omega, show wrap64 (Int.tdiv ((i : Int) * h) n) = Int.tdiv ((i : Int) * h) n by unfold wrap64; omega]
  unfold wrap64
  omega
theorem part_mono (h n : Int) (i : Nat) (hh : 0 ≤ h ∧ h ≤ 200000) (hn : 1 ≤ n ∧ n ≤ 64) : Int.tdiv ((i : Int) * h) n ≤ Int.tdiv (((i + 1 : Nat) : Int) * h) n := by
  have h1 : 0 ≤ (i : Int) * h := Int.mul_nonneg (by omega) hh.1
  have h2 : (i : Int) * h ≤ ((i + 1 : Nat) : Int) * h := Int.mul_le_mul_of_nonneg_right (by omega) hh.1
  rw [Int.tdiv_eq_ediv_of_nonneg h1, Int.tdiv_eq_ediv_of_nonneg (by omega)]
  exact Int.ediv_le_ediv (by omega) h2
theorem ht_get (from_ h n : Int) (i : Nat) (hi : i < n.toNat + 1) : rd (htL from_ h n) (i : Int) = gvH from_ h n i := by
  rw [rdG_get _ i (by rw [htL_len]; exact hi)]
  simp [htL]
theorem ht_bd (from_ h n : Int) (hf : 0 ≤ from_) (hs : from_ + h ≤ 200000) (hh : 0 ≤ h) (hn : 1 ≤ n ∧ n ≤ 64) : ∀ x ∈ htL from_ h n, 0 ≤ x ∧ x ≤ 200000 := by
  intro x hx
  obtain ⟨i, hi, rfl⟩ := List.mem_map.1 hx
  have hi2 : (i : Int) ≤ n := by have := List.mem_range.1 hi; omega
  rw [gv_val from_ h n i ⟨hf, by omega⟩ ⟨hh, by omega⟩ hn hi2]
  have := part_bd h n i ⟨hh, by omega⟩ hn hi2
  omega
theorem pairsI_at : ∀ (v : List Int) (x : Int × Int), x ∈ pairsI v → ∃ i, i + 1 < v.length ∧ x = (rd v (i : Int), rd v ((i + 1 : Nat) : Int)) := by
  intro v x hx
  obtain ⟨i, hi, rfl⟩ := List.mem_iff_getElem.1 hx
  rw [pairsI_len] at hi
  have := pairsI_get v i (by omega)
  rw [List.getElem?_eq_getElem (by rw [pairsI_len]; exact hi)] at this
  refine ⟨i, by omega, ?_⟩
  rw [Option.some.inj this, rdG_get v i (by omega), rdG_get v (i + 1) (by omega)]
theorem ht_seg (from_ h n : Int) (hf : 0 ≤ from_) (hs : from_ + h ≤ 200000) (hh : 0 ≤ h) (hn : 1 ≤ n ∧ n ≤ 64) : segC (htL from_ h n) = 0 := by
  have hl := htL_len from_ h n
  have hb := ht_bd from_ h n hf hs hh hn
  have c1 : ¬ (htL from_ h n).length < 2 := by rw [hl]; omega
  have c2 : ¬ 65 < (htL from_ h n).length := by rw [hl]; omega
  have c3 : ¬ (htL from_ h n).any outH = true := fun e => by
    obtain ⟨x, hx, e⟩ := List.any_eq_true.1 e
    have := hb x hx
    rw [outH, decide_eq_false (by omega), decide_eq_false (by omega)] at e
    cases e
  have c4 : ¬ (pairsI (htL from_ h n)).any (fun x => decide (x.2 < x.1)) = true := fun e => by
    obtain ⟨x, hx, e⟩ := List.any_eq_true.1 e
    obtain ⟨i, hi, rfl⟩ := pairsI_at _ x hx
    rw [hl] at hi
    dsimp only at e
    rw [ht_get _ _ _ i (by omega), ht_get _ _ _ (i + 1) (by omega), gv_val from_ h n i ⟨hf, by omega⟩ ⟨hh, by omega⟩ hn (by omega), gv_val from_ h n (i + 1) ⟨hf, by omega⟩ ⟨hh, by omega⟩ hn (by omega)] at e
    have := part_mono h n i ⟨hh, by omega⟩ hn
    rw [decide_eq_false (by omega)] at e
    cases e
  unfold segC
  rw [if_neg c1, if_neg c2, if_neg c3, if_neg c4]
theorem putX_mem {x z : Int} {out : List Int} (h : z ∈ putX x out) : z = x ∨ z ∈ out := by
  unfold putX at h
  split at h
  · rcases List.mem_append.1 h with h | h
    · exact .inr h
    · exact .inl (List.mem_singleton.1 h)
  · exact .inr h
theorem inS_mem (p h m : Int) : ∀ (is : List Nat) (out : List Int) (z : Int), z ∈ inS p h m is out → z ∈ out ∨ ∃ i ∈ is, z = stepX p h m i
  | [], out, z, hz => .inl hz
  | i :: is, out, z, hz => by
    rcases inS_mem p h m is _ z hz with hz | ⟨j, hj, rfl⟩
    · rcases putX_mem hz with rfl | hz
      · exact .inr ⟨i, List.mem_cons_self .., rfl⟩
      · exact .inl hz
    · exact .inr ⟨j, List.mem_cons_of_mem _ hj, rfl⟩
theorem ouS_mem (m : Int) : ∀ (ss : List (S39 × S39)) (out : List Int) (z : Int), z ∈ ouS m ss out → z ∈ out ∨ ∃ s ∈ ss, ∃ i ∈ List.range' 1 m.toNat, z = stepX s.1.f0 (wrap64 (s.2.f0 - s.1.f0)) m i
  | [], out, z, hz => .inl hz
  | s :: r, out, z, hz => by
    rcases ouS_mem m r _ z hz with hz | ⟨t, ht, i, hi, e⟩
    · rcases inS_mem _ _ m _ _ z hz with hz | ⟨i, hi, e⟩
      · exact .inl hz
      · exact .inr ⟨s, List.mem_cons_self .., i, hi, e⟩
    · exact .inr ⟨t, List.mem_cons_of_mem _ ht, i, hi, e⟩
theorem asc_last : ∀ (l : List S39) (p : S39), (∀ s ∈ pairs (p :: l), len1 s) → ∀ q ∈ p :: l, q.f0 ≤ lastX (p :: l)
  | [], p, _, q, hq => by
    rw [List.mem_singleton.1 hq]
    exact Int.le_refl _
  | r :: l, p, h, q, hq => by
    have e := pairs_last l p r
    have ih := asc_last l r (fun s hs => h s (by rw [pairs]; exact List.mem_cons_of_mem _ hs))
    rw [e]
    rcases List.mem_cons.1 hq with rfl | hq
    · have h1 := (h (q, r) (by rw [pairs]; exact List.mem_cons_self ..)).1
      have h2 := ih r (List.mem_cons_self ..)
      exact Int.le_trans (Int.le_of_lt h1.2.1) h2
    · exact ih q hq
theorem last_max (l : List S39) (hp : profC l = 0) : ∀ q ∈ l, q.f0 ≤ lastX l := by
  have h := prof_len1 l hp
  intro q hq
  cases l with
  | nil => cases hq
  | cons p r => exact asc_last r p h q hq
theorem step_val (p h m : Int) (i : Nat) (hp : 0 ≤ p ∧ p ≤ 100000) (hh : 0 ≤ h ∧ h ≤ 100000) (hm : 1 ≤ m ∧ m ≤ 64) (hi : (i : Int) ≤ m) : p ≤ stepX p h m i ∧ stepX p h m i ≤ p + h := by
  have e : stepX p h m i = gvH p h m i := rfl
  have hh2 : 0 ≤ h ∧ h ≤ 200000 := ⟨hh.1, by omega⟩
  have := part_bd h m i hh2 hm hi
  rw [e, gv_val p h m i ⟨hp.1, by omega⟩ hh2 hm hi]
  omega
theorem slc_bd (l : List S39) (hp : profC l = 0) (m : Int) (hm : 1 ≤ m ∧ m ≤ 64) : ∀ z ∈ slcL l m, 0 ≤ z ∧ z ≤ lastX l := by
  intro z hz
  have hb := last_bd l hp
  rcases ouS_mem m (pairs l) [0] z hz with hz | ⟨s, hs, i, hi, rfl⟩
  · rw [List.mem_singleton.1 hz]
    exact ⟨Int.le_refl _, hb.1⟩
  · have hlen := prof_len1 l hp s hs
    have hmem := last_max l hp s.2 (pairs_mem l s hs).2
    have hi2 : (i : Int) ≤ m := by have := List.mem_range'.1 hi; omega
    obtain ⟨⟨a1, a2, a3⟩, _, _⟩ := hlen
    have w : wrap64 (s.2.f0 - s.1.f0) = s.2.f0 - s.1.f0 := by unfold wrap64; omega
    rw [w]
    have := step_val s.1.f0 (s.2.f0 - s.1.f0) m i ⟨a1, by omega⟩ ⟨by omega, by omega⟩ hm hi2
    omega
theorem slc_ne (l : List S39) (m : Int) : slcL l m ≠ [] := by
  unfold slcL
  have : ∀ (ss : List (S39 × S39)) (out : List Int), out ≠ [] → ouS m ss out ≠ [] := fun ss => by
    induction ss with
    | nil => exact fun out h => h
    | cons s r ih => exact fun out h => ih _ (inS_ne _ _ _ _ _ h)
  exact this _ _ (by simp)
def dipBad (R dip m n : Int) : Prop := dip < 0 ∨ dip > 2 * R ∨ m < 1 ∨ m > 64 ∨ n < 1 ∨ n > 64
instance (R dip m n : Int) : Decidable (dipBad R dip m n) := by unfold dipBad; exact inferInstance
def cutE (a : ByteArray) (p : Int) (l : List S39) (d dip m n : Int) (ab : Bool) : Int × Int × Int :=
  if lieC a p l d = 0 then (if dipBad (bungR l) dip m n then (0, 0, 2) else if (slcL l m).length > 65 then (0, 0, 15) else
    ((betS l (bungR l) (if ab = true then htL dip (2 * bungR l - dip) n else htL 0 dip n) (pairsI (slcL l m))).1, (betS l (bungR l) (if ab = true then htL dip (2 * bungR l - dip) n else htL 0 dip n) (pairsI (slcL l m))).2, 0))
  else (0, 0, lieC a p l d)
theorem cut_l0 (a : ByteArray) (p : Int) (l : List S39) (d n : Int) (v : List Int) (from_ h : Int) (hn : 1 ≤ n ∧ n ≤ 64) (r : Int × Int) (hb : betw57.f a p l d v (htL from_ h n) = some r) (suf : List Nat) :
    ∀ (i : Nat) (out : List Int), (List.range (n.toNat + 1)).drop i = suf → out ++ suf.map (gvH from_ h n) = htL from_ h n → Ev (fun k => lying_cut.l0 k n v from_ h out (wrap64 (n + 1)) (i : Int) a p l d) (r.1, r.2, 0) := by
  have e0 : wrap64 (n + 1) = n + 1 := by unfold wrap64; omega
  rw [e0]
  induction suf with
  | nil =>
    intro i out hd ho
    have h4 := drop_end hd
    rw [List.length_range] at h4
    rw [List.map_nil, List.append_nil] at ho
    refine Ev.succ (Ev.const _) (fun k => ?_)
    rw [lying_cut.l0, if_neg (by omega), ho, hb]
    rfl
  | cons j suf ih =>
    intro i out hd ho
    obtain ⟨h1, rfl, h3⟩ := range_at hd
    have hlen : out.length ≤ 65 := by
      have := congrArg List.length ho
      rw [htL_len] at this
      simp at this
      omega
    have ih := ih (j + 1) (out ++ [gvH from_ h n j]) h3 (by rw [← ho]; simp)
    refine Ev.succ ih (fun k => ?_)
    rw [lying_cut.l0, if_pos (by omega), if_neg (by omega), if_pos (by omega), wrap_up (by omega)]
    rfl
theorem cut_ev (a : ByteArray) (p : Int) (l : List S39) (d dip m n : Int) (ab : Bool) : Ev (fun k => lying_cut.f k a p l d dip m n ab) (cutE a p l d dip m n ab) := by
  unfold lying_cut.f cutE
  refine Ev.bind (lies_ev a p l d) ?_
  by_cases c : lieC a p l d = 0
  · obtain ⟨c1, c2, c3⟩ := lie_spec c
    have hR := bungR_bd l c3
    obtain ⟨R, eR⟩ : ∃ R, bungR l = R := ⟨_, rfl⟩
    have hD := Depth_ev a p l d
    rw [if_pos c1, depthV, if_pos c2, eR] at hD
    rw [if_pos c]
    have hbet : ∀ hs, m < 1 ∨ m > 64 ∨ (slcL l m).length > 65 ∨ betw57.f a p l d (slcL l m) hs = some (betS l R hs (pairsI (slcL l m))) := fun hs => by
      by_cases q1 : m < 1
      · exact .inl q1
      by_cases q2 : m > 64
      · exact .inr (.inl q2)
      by_cases q3 : (slcL l m).length > 65
      · exact .inr (.inr (.inl q3))
      · rw [← eR]
        exact .inr (.inr (.inr (betw_ev a p l d _ hs c (slc_bd l c3 m ⟨by omega, by omega⟩) (by omega))))
    have hslc : slcE l m = if m < 1 ∨ m > 64 then ([], 2) else finS (slcL l m) := by unfold slcE; rw [if_pos c3]
    have hps := pslc_ev l m
    rw [hslc] at hps
    rw [eR] at hR ⊢
    simp only [c, if_true]
    clear c c1 c2 c3 hslc eR
    refine Ev.bind hD ?_
    have hj2 : Ev (fun k => lying_cut.j0 k dip m n ab (2 * R) true a p l d) (0, 0, 2) := Ev.succ (Ev.const _) (fun k => by rw [lying_cut.j0, if_pos rfl])
    by_cases cb : dipBad R dip m n
    · rw [if_pos cb]
      refine hj2.congr (fun k => ?_)
      by_cases q1 : dip < 0
      · rw [if_pos q1]
      rw [if_neg q1]
      by_cases q2 : dip > 2 * R
      · rw [if_pos q2]
      rw [if_neg q2, strips_ev, Option.bind_some]
      by_cases q3 : m < 1 ∨ m > 64
      · rw [decide_eq_true q3, if_neg (by simp)]
      rw [decide_eq_false q3, if_pos (by simp), strips_ev, Option.bind_some]
      have q4 : n < 1 ∨ n > 64 := by
        rcases cb with cb | cb | cb | cb | cb | cb
        · exact absurd cb q1
        · exact absurd cb q2
        · exact absurd (.inl cb) q3
        · exact absurd (.inr cb) q3
        · exact .inl cb
        · exact .inr cb
      rw [decide_eq_true q4]
      rfl
    · rw [if_neg cb]
      have q1 : ¬ dip < 0 := fun e => cb (.inl e)
      have q2 : ¬ dip > 2 * R := fun e => cb (.inr (.inl e))
      have q3 : ¬ (m < 1 ∨ m > 64) := fun e => cb (e.elim (fun e => .inr (.inr (.inl e))) (fun e => .inr (.inr (.inr (.inl e)))))
      have q4 : ¬ (n < 1 ∨ n > 64) := fun e => cb (e.elim (fun e => .inr (.inr (.inr (.inr (.inl e))))) (fun e => .inr (.inr (.inr (.inr (.inr e))))))
      rw [if_neg q3] at hps
      have main : Ev (fun k => lying_cut.j0 k dip m n ab (2 * R) false a p l d) (if (slcL l m).length > 65 then (0, 0, 15) else ((betS l R (if ab = true then htL dip (2 * R - dip) n else htL 0 dip n) (pairsI (slcL l m))).1, (betS l R (if ab = true then htL dip (2 * R - dip) n else htL 0 dip n) (pairsI (slcL l m))).2, 0)) := by
        refine Ev.succ (Ev.bind (h := fun k bt168 => if bt168.2 = 0 then (if ab = true then lying_cut.j1 k n bt168.1 dip (wrap64 (2 * R - dip)) a p l d else lying_cut.j1 k n bt168.1 0 dip a p l d) else some (0, 0, bt168.2)) hps ?_) (fun k => by rw [lying_cut.j0, if_neg (by simp)])
        unfold finS
        by_cases q5 : (slcL l m).length > 65
        · rw [if_pos q5, if_pos q5]
          exact (Ev.const _).congr (fun k => by rw [if_neg (by decide)])
        · rw [if_neg q5, if_neg q5]
          have w1 : wrap64 (2 * R - dip) = 2 * R - dip := by unfold wrap64; omega
          have hbt : ∀ hs, betw57.f a p l d (slcL l m) hs = some (betS l R hs (pairsI (slcL l m))) := fun hs => by
            rcases hbet hs with e | e | e | e
            · exact absurd (.inl e) q3
            · exact absurd (.inr e) q3
            · exact absurd e q5
            · exact e
          have hj : ∀ from_ h : Int, Ev (fun k => lying_cut.j1 k n (slcL l m) from_ h a p l d) ((betS l R (htL from_ h n) (pairsI (slcL l m))).1, (betS l R (htL from_ h n) (pairsI (slcL l m))).2, 0) := fun from_ h =>
            Ev.succ (cut_l0 a p l d n (slcL l m) from_ h ⟨by omega, by omega⟩ _ (hbt _) _ 0 [] List.drop_zero rfl) (fun k => by rw [lying_cut.j1]; rfl)
          cases ab with
          | true => exact (hj dip (2 * R - dip)).congr (fun k => by rw [if_pos rfl, if_pos rfl, w1])
          | false => exact (hj 0 dip).congr (fun k => by rw [if_pos rfl, if_neg (by simp)])
      refine main.congr (fun k => ?_)
      rw [if_neg q1, if_neg q2, strips_ev, Option.bind_some, decide_eq_false q3, if_pos (by simp), strips_ev, Option.bind_some, decide_eq_false q4]
      rfl
  · simp only [if_neg c]
    exact Ev.const _
theorem pwet_ev (a : ByteArray) (p : Int) (l : List S39) (d dip m n : Int) : Ev (fun k => lying_Wet.f k a p l d dip m n) (cutE a p l d dip m n false) := by
  unfold lying_Wet.f
  exact Ev.bind (cut_ev a p l d dip m n false) (Ev.const _)
theorem pdry_ev (a : ByteArray) (p : Int) (l : List S39) (d dip m n : Int) : Ev (fun k => lying_Dry.f k a p l d dip m n) (cutE a p l d dip m n true) := by
  unfold lying_Dry.f
  exact Ev.bind (cut_ev a p l d dip m n true) (Ev.const _)
end Go.Proofs.Ytefjmcljkmppoaa.K
