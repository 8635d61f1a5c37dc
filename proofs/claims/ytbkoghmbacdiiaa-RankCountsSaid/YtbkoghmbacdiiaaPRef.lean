/- By hand: the reference of package 33 in plain words: the error, the numbers in ascending order, the ranks. -/
import Derived.Test.YtbkoghmbacdiiaaK13
import Derived.Test.YtbkoghmbacdiiaaPRank
import Derived.Test.YtbkoghmbacdiiaaGRank
namespace Go.Proofs.Ytbkoghmbacdiiaa.K
open Go Go.RowKit Go.Proofs.YtbkoghmbacdiiaaW.PrintWords
set_option linter.unusedVariables false
set_option linter.unusedSimpArgs false
theorem check_l0 (l : List Int) (hl : l.length ≤ 1000) : ∀ (suf : List Int) (i : Nat), l.drop i = suf → Ev (fun k => spileref33_Check.l0 k l (i : Int)) (if suf.any offS = true then 2 else 0)
  | [], i, h => by
    have hj := drop_endI h
    exact Ev.succ (Ev.const _) (fun k => by rw [spileref33_Check.l0, if_neg (by omega)]; rfl)
  | x :: suf, i, h => by
    obtain ⟨hi, hx, hd, _⟩ := drop_atI h
    have ih := check_l0 l hl suf (i + 1) hd
    rw [List.any_cons]
    by_cases c1 : x < -1099511627776
    · refine Ev.succ (Ev.const _) (fun k => ?_)
      rw [spileref33_Check.l0, if_pos (by omega), if_pos (by omega), hx, if_pos c1]
      simp [offS, c1]
    · by_cases c2 : x > 1099511627776
      · refine Ev.succ (Ev.const _) (fun k => ?_)
        rw [spileref33_Check.l0, if_pos (by omega), if_pos (by omega), hx, if_neg c1, if_pos c2]
        simp [offS, c2]
      · have e : offS x = false := by simp [offS]; omega
        rw [e, Bool.false_or]
        refine Ev.succ ih (fun k => ?_)
        rw [spileref33_Check.l0, if_pos (by omega), if_pos (by omega), hx, if_neg c1, if_neg c2, wrap_up (by omega)]
theorem check_ev (l : List Int) : Ev (fun k => spileref33_Check.f k l) (ftE l) := by
  unfold spileref33_Check.f ftE
  by_cases c0 : l.length = 0
  · simp only [if_pos (show (l.length : Int) = 0 by omega), if_pos c0]
    exact Ev.const _
  · simp only [if_neg (show ¬ (l.length : Int) = 0 by omega), if_neg c0]
    by_cases c1 : l.length > 64
    · simp only [if_pos (show (l.length : Int) > 64 by omega), if_pos c1]
      exact Ev.const _
    · simp only [if_neg (show ¬ (l.length : Int) > 64 by omega), if_neg c1]
      exact check_l0 l (by omega) l 0 rfl
/-! ### ascending order -/
theorem srt_perm' (l : List Int) : (srt l).Perm l := List.mergeSort_perm _ _
theorem srt_asc' (l : List Int) : (srt l).Pairwise (· ≤ ·) := by
  have h := List.pairwise_mergeSort (le := fun x y : Int => decide (x ≤ y)) (fun a b c h1 h2 => by simp at h1 h2 ⊢; omega) (fun a b => by simp; omega) l
  exact h.imp (fun h => by simpa using h)
theorem asc_one {a b : List Int} (h : a.Perm b) (ha : a.Pairwise (· ≤ ·)) (hb : b.Pairwise (· ≤ ·)) : a = b :=
  h.eq_of_pairwise (fun _ _ _ _ h1 h2 => Int.le_antisymm h1 h2) ha hb
theorem rd_mid (A : List Int) (y : Int) (B : List Int) : rd (A ++ y :: B) (A.length : Int) = y := by
  unfold rd
  simp [List.getD_eq_getElem?_getD]
theorem set_mid (A : List Int) (y z : Int) (B : List Int) : (A ++ y :: B).set A.length z = A ++ z :: B := by
  simp
/-- x goes down to its place: A is what it may still pass, B what it has passed. -/
theorem sorted_l1 (i : Nat) (hi : i ≤ 1000) (x : Int) (tl : List Int) (S R : List Int) (n : Nat) :
    ∀ (A B : List Int), A.length = n → n + B.length = i → (A ++ B).Pairwise (· ≤ ·) → (∀ y ∈ B, x < y) → (A ++ B).Perm S →
    (∀ Y : List Int, Y.length = i + 1 → Y.Pairwise (· ≤ ·) → Y.Perm (x :: S) → Ev (fun k => spileref33_sorted.l0 k (Y ++ tl) ((i + 1 : Nat) : Int)) R) →
    Ev (fun k => spileref33_sorted.l1 k (A ++ x :: B ++ tl) (i : Int) (n : Int)) R := by
  induction n with
  | zero =>
    intro A B hA hB hs hx hp hN
    obtain rfl := List.eq_nil_of_length_eq_zero hA
    have h := hN (x :: B) (by simp; omega) (List.pairwise_cons.2 ⟨fun y hy => by have := hx y hy; omega, by simpa using hs⟩) (by simpa using hp.cons x)
    refine Ev.succ h (fun k => ?_)
    rw [spileref33_sorted.l1, if_neg (by omega), wrap_up (by omega)]
    rfl
  | succ n ih =>
    intro A B hA hB hs hx hp hN
    obtain ⟨A', y, rfl⟩ : ∃ A' y, A = A' ++ [y] := ⟨A.dropLast, A.getLast (by intro e; simp [e] at hA), (List.dropLast_concat_getLast _).symm⟩
    have hA' : A'.length = n := by simpa using hA
    have e1 : A' ++ [y] ++ x :: B ++ tl = A' ++ y :: (x :: (B ++ tl)) := by simp
    have e2 : A' ++ [y] ++ x :: B ++ tl = (A' ++ [y]) ++ x :: (B ++ tl) := by simp
    have hw : wrap64 (((n + 1 : Nat) : Int) - 1) = (n : Int) := by unfold wrap64; omega
    have r1 : rd (A' ++ [y] ++ x :: B ++ tl) (n : Int) = y := by rw [e1, ← hA']; exact rd_mid _ _ _
    have r2 : rd (A' ++ [y] ++ x :: B ++ tl) ((n + 1 : Nat) : Int) = x := by
      rw [e2, show n + 1 = (A' ++ [y]).length by simp [hA']]
      exact rd_mid _ _ _
    have hlen : ((A' ++ [y] ++ x :: B ++ tl).length : Int) ≥ n + 2 := by simp; omega
    by_cases c : y > x
    · have h := ih A' (y :: B) hA' (by simp at hB ⊢; omega) (by simpa using hs) (fun z hz => by
        rcases List.mem_cons.1 hz with rfl | hz
        · exact c
        · exact hx z hz) (by simpa using hp) hN
      refine Ev.succ h (fun k => ?_)
      rw [spileref33_sorted.l1, if_pos (by omega), hw, if_pos (by omega), if_pos (by omega), if_pos (by omega), if_pos (by omega), r1, r2, if_pos c, Int.toNat_natCast, Int.toNat_natCast]
      congr 1
      rw [e1, ← hA', set_mid, show A' ++ x :: x :: (B ++ tl) = (A' ++ [x]) ++ x :: (B ++ tl) by simp, show A'.length + 1 = (A' ++ [x]).length by simp, set_mid]
      simp
    · have h := hN (A' ++ [y] ++ x :: B) (by simp at hB hA ⊢; omega) (by
        have hs' := hs
        rw [List.pairwise_append] at hs ⊢
        obtain ⟨h1, h2, h3⟩ := hs
        refine ⟨h1, List.pairwise_cons.2 ⟨fun z hz => by have := hx z hz; omega, h2⟩, fun a ha b hb => ?_⟩
        rcases List.mem_cons.1 hb with rfl | hb
        · rcases List.mem_append.1 ha with ha | ha
          · have hay : a ≤ y := (List.pairwise_append.1 h1).2.2 a ha y (by simp)
            omega
          · have : a = y := by simpa using ha
            omega
        · exact h3 a ha b hb) (List.perm_middle.trans (hp.cons x))
      refine Ev.succ h (fun k => ?_)
      rw [spileref33_sorted.l1, if_pos (by omega), hw, if_pos (by omega), if_pos (by omega), if_pos (by omega), if_pos (by omega), r1, r2, if_neg c, wrap_up (by omega)]
theorem sorted_l0 (l : List Int) (hl : l.length ≤ 1000) (m : Nat) : ∀ (Y tl : List Int), Y.length + m = l.length → tl.length = m → Y.Pairwise (· ≤ ·) → (Y ++ tl).Perm l → Ev (fun k => spileref33_sorted.l0 k (Y ++ tl) (Y.length : Int)) (srt l) := by
  induction m with
  | zero =>
    intro Y tl hm ht hs hp
    obtain rfl := List.eq_nil_of_length_eq_zero ht
    rw [List.append_nil] at hp ⊢
    refine Ev.succ (Ev.const _) (fun k => ?_)
    rw [spileref33_sorted.l0, if_neg (by omega), asc_one (hp.trans (srt_perm' l).symm) hs (srt_asc' l)]
  | succ m ih =>
    intro Y tl hm ht hs hp
    obtain ⟨x, tl, rfl⟩ : ∃ x t, tl = x :: t := by
      cases tl with
      | nil => simp at ht
      | cons x t => exact ⟨x, t, rfl⟩
    have ht' : tl.length = m := by simpa using ht
    have h := sorted_l1 (R := srt l) Y.length (by omega) x tl Y Y.length Y [] rfl (by simp) (by simpa using hs) (fun y hy => by simp at hy) (by simp) (fun Z hZ hs2 hp2 => by
      have h2 := ih Z tl (by omega) ht' hs2 (((hp2.append_right tl).trans (by simpa using List.perm_middle.symm)).trans hp)
      rw [hZ] at h2
      exact h2)
    have e : Y ++ x :: [] ++ tl = Y ++ x :: tl := by simp
    rw [e] at h
    refine Ev.succ h (fun k => ?_)
    rw [spileref33_sorted.l0, if_pos (by simp; omega)]
theorem sorted_ev (l : List Int) (hl : l.length ≤ 1000) : Ev (fun k => spileref33_sorted.f k l) (srt l) := by
  unfold spileref33_sorted.f
  refine Ev.bind (g := fun _ => some ([] : List Int)) (Ev.const _) ?_
  have h := sorted_l0 l hl l.length [] l (by simp) rfl List.Pairwise.nil (by simp)
  simp only [if_pos (show ([] : List Int).length + l.length < 17592186044416 by simp; omega)]
  exact h
end Go.Proofs.Ytbkoghmbacdiiaa.K
