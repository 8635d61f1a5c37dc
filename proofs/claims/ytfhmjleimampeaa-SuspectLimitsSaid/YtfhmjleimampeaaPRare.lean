/- By hand: what is counted by choices: each choice once, whatever the order of the numbers; the statistic against them. -/
import Derived.Test.YtfhmjleimampeaaPCount
import Derived.Lib.SlicesCompact
namespace Go.Proofs.Ytfhmjleimampeaa.K
open Go Go.RowKit Go.Proofs.YtfhmjleimampeaaW.PrintWords
set_option linter.unusedVariables false
set_option linter.unusedSimpArgs false
theorem stepC_comm (r q : Int) (C : Nat → Int → Nat) : stepC r (stepC q C) = stepC q (stepC r C) := by
  funext p t
  unfold stepC
  match p with
  | 0 => rfl
  | 1 => simp only; omega
  | p + 2 =>
    simp only
    rw [show t - r - q = t - q - r by omega]
    omega
theorem cntL_perm {R S : List Int} (h : R.Perm S) : cntL R = cntL S := by
  unfold cntL
  exact h.foldl_eq' (fun x _ y _ C => stepC_comm _ _ C) C0
theorem cntL_cons (x : Int) (R : List Int) : cntL (x :: R) = stepC x (cntL R) := by
  rw [cntL_perm (List.perm_append_singleton x R).symm, cntL_snoc]
theorem cnt_pos {S R : List Int} (h : S.Sublist R) : 0 < cntL R S.length (isum S) := by
  induction h with
  | slnil => decide
  | cons a h ih =>
    rw [cntL_cons]
    unfold stepC
    omega
  | cons_cons a h ih =>
    rw [cntL_cons, List.length_cons, isum_cons]
    unfold stepC
    simp only
    rw [show a + isum _ - a = isum _ from by rw [Int.add_comm, Int.add_sub_cancel]]
    omega
theorem cnt_sub : ∀ (R : List Int) (p : Nat) (t : Int), 0 < cntL R p t → ∃ S : List Int, S.Sublist R ∧ S.length = p ∧ isum S = t
  | [], p, t, h => by
    have h : 0 < C0 p t := h
    unfold C0 at h
    split at h
    · rename_i c
      exact ⟨[], .slnil, c.1.symm, c.2.symm⟩
    · omega
  | x :: R, p, t, h => by
    rw [cntL_cons] at h
    unfold stepC at h
    by_cases c : 0 < cntL R p t
    · obtain ⟨S, h1, h2, h3⟩ := cnt_sub R p t c
      exact ⟨S, h1.cons x, h2, h3⟩
    · cases p with
      | zero => simp only at h; omega
      | succ p =>
        obtain ⟨S, h1, h2, h3⟩ := cnt_sub R p (t - x) (by simp only at h; omega)
        exact ⟨x :: S, h1.cons_cons x, by rw [List.length_cons, h2], by rw [isum_cons, h3]; omega⟩
/-! ### sums over a range -/
theorem sumR_le {f g : Int → Int} : ∀ n : Nat, (∀ t : Int, 0 ≤ t → t < n → f t ≤ g t) → sumR f n ≤ sumR g n
  | 0, _ => Int.le_refl _
  | n + 1, h => by
    have h1 := sumR_le n (fun t h0 h1 => h t h0 (by omega))
    have h2 := h n (by omega) (by omega)
    show sumR f n + f n ≤ sumR g n + g n
    omega
theorem sumR_lt {f g : Int → Int} (u : Int) (hu : f u < g u) : ∀ n : Nat, 0 ≤ u → u < n → (∀ t : Int, 0 ≤ t → t < n → f t ≤ g t) → sumR f n < sumR g n
  | 0, h0, h1, _ => by omega
  | n + 1, h0, h1, h => by
    show sumR f n + f n < sumR g n + g n
    have h3 := h n (by omega) (by omega)
    by_cases c : u < (n : Int)
    · have := sumR_lt u hu n h0 c (fun t h0 h1 => h t h0 (by omega))
      omega
    · have e : u = (n : Int) := by omega
      have := sumR_le (f := f) (g := g) n (fun t h0 h1 => h t h0 (by omega))
      rw [e] at hu
      omega
section
variable {P : Nat} {C : Nat → Int → Nat} {s s' : Int}
theorem g_le_w : gAll P C s ≤ wAll P C := sumR_le 3000 (fun t _ _ => by split <;> omega)
theorem g_mono (h : s ≤ s') : gAll P C s' ≤ gAll P C s := sumR_le 3000 (fun t _ _ => by split <;> split <;> omega)
theorem g_pos (h0 : 0 ≤ s) (h1 : s < 3000) (h : 0 < C P s) : 1 ≤ gAll P C s := by
  have hz : sumR (fun _ => (0 : Int)) 3000 = 0 := by
    have := sumR_bd (fun _ => (0 : Int)) 0 3000 (fun _ _ _ => ⟨Int.le_refl _, Int.le_refl _⟩)
    omega
  have := sumR_lt (f := fun _ => (0 : Int)) (g := fun t => if t ≥ s then (C P t : Int) else 0) s (by rw [if_pos (Int.le_refl s)]; omega) 3000 h0 h1 (fun t _ _ => by split <;> omega)
  unfold gAll
  omega
theorem g_all (h : ∀ t : Int, t < s → C P t = 0) : gAll P C s = wAll P C := sumR_congr 3000 (fun t _ _ => by
  split
  · rfl
  · rw [h t (by omega)]; rfl)
theorem g_less {t : Int} (h0 : 0 ≤ t) (h1 : t < 3000) (h : 0 < C P t) (ht : t < s) : gAll P C s < wAll P C :=
  sumR_lt t (by rw [if_neg (by omega)]; omega) 3000 h0 h1 (fun t _ _ => by split <;> omega)
end
/-! ### ranks -/
theorem rkS_mono {x y : Int} (h : x ≤ y) (m : Int) : rkS x m ≤ rkS y m := by
  unfold rkS
  split <;> split <;> (try split) <;> (try split) <;> omega
theorem isum_mono (f g : Int → Int) : ∀ l : List Int, (∀ m ∈ l, f m ≤ g m) → isum (l.map f) ≤ isum (l.map g)
  | [], _ => Int.le_refl _
  | x :: l, h => by
    have h1 := h x (by simp)
    have h2 := isum_mono f g l (fun m hm => h m (List.mem_cons_of_mem _ hm))
    rw [List.map_cons, List.map_cons, isum_cons, isum_cons]
    omega
theorem rk_mono (l : List Int) {x y : Int} (h : x ≤ y) : rk l x ≤ rk l y := by
  have := isum_mono (rkS x) (rkS y) l (fun m _ => rkS_mono h m)
  unfold rk
  omega
theorem isum_perm {a b : List Int} (h : a.Perm b) : isum a = isum b := by
  induction h with
  | nil => rfl
  | cons x _ ih => rw [isum_cons, isum_cons, ih]
  | swap x y l => rw [isum_cons, isum_cons, isum_cons, isum_cons]; omega
  | trans _ _ ih1 ih2 => rw [ih1, ih2]
theorem rk_perm {a b : List Int} (h : a.Perm b) (x : Int) : rk a x = rk b x := by
  unfold rk
  rw [isum_perm (h.map (rkS x))]
theorem rk_lt {l : List Int} {x y : Int} (hx : x ∈ l) (h : x < y) : rk l x < rk l y := by
  have e1 := rk_perm (List.perm_cons_erase hx) x
  have e2 := rk_perm (List.perm_cons_erase hx) y
  have h3 := rk_mono (l.erase x) (Int.le_of_lt h)
  have h4 : rkS x x = 1 := by unfold rkS; rw [if_neg (Int.lt_irrefl x), if_pos rfl]
  have h5 : rkS y x = 2 := by unfold rkS; rw [if_pos h]
  have c : ∀ z, rk (x :: l.erase x) z = rkS z x + rk (l.erase x) z := fun z => by
    unfold rk
    rw [List.map_cons, isum_cons]
    omega
  rw [e1, e2, c, c]
  omega
/-- The ranks of n numbers that all differ, in order. -/
def canon : Nat → List Int
  | 0 => []
  | n + 1 => 2 :: (canon n).map (2 + ·)
theorem canon_asc : ∀ l : List Int, l.Pairwise (· < ·) → l.map (rk l) = canon l.length
  | [], _ => rfl
  | x :: l, h => by
    obtain ⟨h1, h2⟩ := List.pairwise_cons.1 h
    have ih := canon_asc l h2
    have e1 : rk (x :: l) x = 2 := by
      have hz : isum (l.map (rkS x)) = 0 := by
        have := isum_bd 0 (l.map (rkS x)) (fun y hy => by
          obtain ⟨m, hm, rfl⟩ := List.mem_map.1 hy
          have := h1 m hm
          unfold rkS
          rw [if_neg (by omega), if_neg (by omega)]
          omega)
        omega
      have h4 : rkS x x = 1 := by unfold rkS; rw [if_neg (Int.lt_irrefl x), if_pos rfl]
      unfold rk
      rw [List.map_cons, isum_cons, hz, h4]
      rfl
    have e2 : l.map (rk (x :: l)) = (l.map (rk l)).map (2 + ·) := by
      rw [List.map_map]
      refine List.map_congr_left (fun y hy => ?_)
      have h5 : rkS y x = 2 := by unfold rkS; rw [if_pos (h1 y hy)]
      show rk (x :: l) y = 2 + rk l y
      unfold rk
      rw [List.map_cons, isum_cons, h5]
      omega
    rw [List.map_cons, e1, e2, ih]
    rfl
/-- Numbers of which no two are equal: their ranks are 2, 4, .. up to order. -/
theorem ranks_perm {l s : List Int} (h : s.Perm l) (hs : s.Pairwise (· < ·)) : (l.map (rk l)).Perm (canon l.length) := by
  rw [← h.length_eq, ← canon_asc s hs]
  have e : s.map (rk s) = s.map (rk l) := List.map_congr_left (fun x _ => rk_perm h x)
  rw [e]
  exact (h.map (rk l)).symm
/-! ### the statistic grows with a number -/
def dbl2 (a b : List Int) : Int := isum (a.map (fun x => isum (b.map (rkS x))))
theorem rk_app (a b : List Int) (x : Int) : rk (a ++ b) x = rk a x + isum (b.map (rkS x)) := by
  unfold rk
  rw [List.map_append, isum_append]
  omega
theorem isum_add (f g : Int → Int) : ∀ l : List Int, isum (l.map (fun x => f x + g x)) = isum (l.map f) + isum (l.map g)
  | [] => rfl
  | x :: l => by
    have := isum_add f g l
    rw [List.map_cons, List.map_cons, List.map_cons, isum_cons, isum_cons, isum_cons, this]
    omega
theorem self_cons (x : Int) (t : List Int) : isum ((x :: t).map (rk (x :: t))) = isum (t.map (rk t)) + 2 + 2 * (t.length : Int) := by
  have h4 : rkS x x = 1 := by unfold rkS; rw [if_neg (Int.lt_irrefl x), if_pos rfl]
  have e1 : ∀ z, rk (x :: t) z = rk t z + rkS z x := fun z => by
    unfold rk
    rw [List.map_cons, isum_cons]
    omega
  have e2 : t.map (rk (x :: t)) = t.map (fun z => rk t z + rkS z x) := List.map_congr_left (fun z _ => e1 z)
  have e3 : ∀ u : List Int, isum (u.map (fun z => rkS z x)) + isum (u.map (rkS x)) = 2 * (u.length : Int) := fun u => by
    induction u with
    | nil => rfl
    | cons y u ih =>
      have h5 : rkS y x + rkS x y = 2 := by
        unfold rkS
        split <;> (try split) <;> (try split) <;> (try split) <;> omega
      rw [List.map_cons, List.map_cons, isum_cons, isum_cons, List.length_cons]
      push_cast
      omega
  have e4 := e3 t
  rw [List.map_cons, isum_cons, e1, h4, e2, isum_add]
  unfold rk at *
  omega
theorem self_eq : ∀ {a c : List Int}, a.length = c.length → isum (a.map (rk a)) = isum (c.map (rk c))
  | [], [], _ => rfl
  | x :: a, y :: c, h => by
    have h : a.length = c.length := by simpa using h
    rw [self_cons, self_cons, self_eq h, h]
  | [], _ :: _, h => by simp at h
  | _ :: _, [], h => by simp at h
theorem stat_split (a b : List Int) : statL a b = isum (a.map (rk a)) + isum (a.map (fun x => isum (b.map (rkS x)))) := by
  unfold statL
  rw [← isum_add]
  exact congrArg isum (List.map_congr_left (fun x _ => rk_app a b x))
theorem stat_grows (b : List Int) : ∀ (a : List Int) (i : Nat) (y : Int) (h : i < a.length), a[i] ≤ y → isum (a.map (fun x => isum (b.map (rkS x)))) ≤ isum ((a.set i y).map (fun x => isum (b.map (rkS x))))
  | [], i, y, h, _ => by simp at h
  | x :: a, 0, y, _, hy => by
    have := isum_mono (rkS x) (rkS y) b (fun m _ => rkS_mono hy m)
    rw [List.set_cons_zero, List.map_cons, List.map_cons, isum_cons, isum_cons]
    omega
  | x :: a, i + 1, y, h, hy => by
    have := stat_grows b a i y (by simpa using h) (by simpa using hy)
    rw [List.set_cons_succ, List.map_cons, List.map_cons, isum_cons, isum_cons]
    omega
theorem stat_mono (a b : List Int) (i : Nat) (y : Int) (h : i < a.length) (hy : a[i] ≤ y) : statL a b ≤ statL (a.set i y) b := by
  rw [stat_split, stat_split, self_eq (c := a.set i y) (by simp)]
  have := stat_grows b a i y h hy
  omega
/-! ### the least choice -/
theorem sub_sum (M : Int) {S L : List Int} (h : S.Sublist L) : (∀ x ∈ L, x ≤ M) → isum L + M * (S.length : Int) ≤ isum S + M * (L.length : Int) := by
  induction h with
  | slnil => intro _; exact Int.le_refl _
  | cons a h ih =>
    intro hM
    have h1 := hM a (by simp)
    have h2 := ih (fun x hx => hM x (List.mem_cons_of_mem _ hx))
    rw [isum_cons, List.length_cons]
    push_cast
    rw [Int.mul_add, Int.mul_one]
    omega
  | cons_cons a h ih =>
    intro hM
    have h2 := ih (fun x hx => hM x (List.mem_cons_of_mem _ hx))
    rw [isum_cons, isum_cons, List.length_cons, List.length_cons]
    push_cast
    rw [Int.mul_add, Int.mul_add, Int.mul_one]
    omega
theorem isum_ge (M : Int) : ∀ L : List Int, (∀ x ∈ L, M ≤ x) → M * (L.length : Int) ≤ isum L
  | [], _ => by rw [isum_nil]; simp
  | x :: L, h => by
    have h1 := h x (by simp)
    have h2 := isum_ge M L (fun y hy => h y (List.mem_cons_of_mem _ hy))
    rw [isum_cons, List.length_cons]
    push_cast
    rw [Int.mul_add, Int.mul_one]
    omega
theorem least_sum {A B S : List Int} (M : Int) (hA : ∀ x ∈ A, x ≤ M) (hB : ∀ x ∈ B, M ≤ x) (h : S.Sublist (A ++ B)) (hl : S.length = A.length) : isum A ≤ isum S := by
  obtain ⟨S1, S2, rfl, h1, h2⟩ := List.sublist_append_iff.1 h
  have a1 := sub_sum M h1 hA
  have a2 := isum_ge M S2 (fun x hx => hB x (h2.subset hx))
  have e : (A.length : Int) = (S1.length : Int) + (S2.length : Int) := by
    have : (S1 ++ S2).length = S1.length + S2.length := List.length_append
    omega
  rw [isum_append]
  rw [e, Int.mul_add] at a1
  omega
theorem less_choice {A B : List Int} (i : Nat) (hi : i < A.length) {y : Int} (hy : y ∈ B) (h : y < A[i]) : ∃ S : List Int, S.Sublist (A ++ B) ∧ S.length = A.length ∧ isum S < isum A := by
  refine ⟨A.eraseIdx i ++ [y], (List.eraseIdx_sublist A i).append (List.singleton_sublist.2 hy), ?_, ?_⟩
  · rw [List.length_append, List.length_eraseIdx_of_lt hi]
    simp
    omega
  · have e : isum A = A[i] + isum (A.eraseIdx i) := by
      rw [List.eraseIdx_eq_take_drop_succ, isum_append]
      have e1 : A = A.take i ++ A[i] :: A.drop (i + 1) := by rw [← List.drop_eq_getElem_cons hi, List.take_append_drop]
      have e2 := congrArg isum e1
      rw [isum_append, isum_cons] at e2
      omega
    rw [isum_append, isum_cons, isum_nil, e]
    omega
/-! ### no two equal -/
theorem asc_strict {s : List Int} (h : s.Pairwise (· ≤ ·)) (hc : ¬ (Lib.compact s).length < s.length) : s.Pairwise (· < ·) := by
  have hk : ((List.range s.length).filter (Lib.keeps s.toArray)).length = (List.range s.length).length := by
    have e : (Lib.compact s).length = ((List.range s.length).filter (Lib.keeps s.toArray)).length := by
      unfold Lib.compact Lib.compactUpTo
      rw [List.length_map]
    have := List.length_filter_le (Lib.keeps s.toArray) (List.range s.length)
    rw [List.length_range] at this ⊢
    omega
  have hall := List.length_filter_eq_length_iff.1 hk
  rw [List.pairwise_iff_getElem] at h ⊢
  intro i j hi hj hij
  have h1 := hall j (List.mem_range.2 hj)
  unfold Lib.keeps at h1
  have h2 := of_decide_eq_true h1
  rcases h2 with h2 | h2
  · omega
  · have h3 : s[j] ≠ s[j - 1] := by
      intro e
      apply h2
      simp only [List.getElem!_toArray]
      rw [getElem!_pos s j hj, getElem!_pos s (j - 1) (by omega), e]
    have h4 := h (j - 1) j (by omega) hj (by omega)
    by_cases c : i = j - 1
    · subst c
      omega
    · have h5 := h i (j - 1) hi (by omega) (by omega)
      omega
end Go.Proofs.Ytfhmjleimampeaa.K
