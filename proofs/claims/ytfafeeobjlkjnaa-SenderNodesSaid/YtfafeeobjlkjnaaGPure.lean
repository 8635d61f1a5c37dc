/- Plain lists: what IndexFunc and DeleteFunc compute. -/
import Derived.Test.YtfafeeobjlkjnaaK0
namespace Go.Proofs.Ytfafeeobjlkjnaa.K
open Go.RowKit
def idxF (p : S33 → Bool) (xs : List S33) : Int := match xs.findIdx? p with | some i => (i : Int) | none => -1
theorem rd_get (xs : List S33) (i : Nat) (h : i < xs.length) : rd_T33 xs (i : Int) = xs[i] := by
  unfold rd_T33
  simp [List.getD_eq_getElem?_getD, h]
theorem idxF_none (p : S33 → Bool) (xs : List S33) (h : ∀ t : Int, 0 ≤ t → t < xs.length → p (rd_T33 xs t) = false) : idxF p xs = -1 := by
  have : xs.findIdx? p = none := by
    rw [List.findIdx?_eq_none_iff]
    intro x hx
    obtain ⟨i, hi, rfl⟩ := List.mem_iff_getElem.1 hx
    have := h i (by omega) (by omega)
    rwa [rd_get xs i hi] at this
  simp [idxF, this]
theorem idxF_some (p : S33 → Bool) (xs : List S33) (j : Int) (h0 : 0 ≤ j) (h1 : j < xs.length) (h : ∀ t : Int, 0 ≤ t → t < j → p (rd_T33 xs t) = false) (hp : p (rd_T33 xs j) = true) : idxF p xs = j := by
  obtain ⟨i, rfl⟩ := Int.eq_ofNat_of_zero_le h0
  have hi : i < xs.length := by omega
  rw [rd_get xs i hi] at hp
  have : xs.findIdx? p = some i := by
    rw [List.findIdx?_eq_some_iff_getElem]
    refine ⟨hi, hp, fun t ht => ?_⟩
    have := h t (by omega) (by omega)
    rw [rd_get xs t (by omega)] at this
    simp [this]
  simp [idxF, this]
theorem idxF_cases (p : S33 → Bool) (xs : List S33) : (idxF p xs = -1 ∧ xs.filter (fun x => !p x) = xs) ∨
    ∃ i : Nat, idxF p xs = i ∧ i < xs.length ∧ (xs.take (i + 1)).filter (fun x => !p x) = xs.take i := by
  unfold idxF
  cases h : xs.findIdx? p with
  | none =>
    refine .inl ⟨rfl, ?_⟩
    rw [List.findIdx?_eq_none_iff] at h
    rw [List.filter_eq_self]
    intro x hx
    simp [h x hx]
  | some i =>
    refine .inr ⟨i, rfl, ?_⟩
    rw [List.findIdx?_eq_some_iff_getElem] at h
    obtain ⟨hi, hp, hb⟩ := h
    refine ⟨hi, ?_⟩
    rw [List.take_succ_eq_append_getElem hi, List.filter_append]
    have h1 : (xs.take i).filter (fun x => !p x) = xs.take i := by
      rw [List.filter_eq_self]
      intro x hx
      obtain ⟨t, ht, rfl⟩ := List.mem_iff_getElem.1 hx
      rw [List.getElem_take]
      have ht2 : t < i := by rw [List.length_take] at ht; omega
      have := hb t ht2
      simpa using this
    rw [h1]
    simp [hp]
theorem filt_step_in (p : S33 → Bool) (xs ys : List S33) (i j : Nat) (hl : ys.length = xs.length) (hij : i < j) (hj : j < xs.length) (ht : (xs.take j).filter (fun x => !p x) = ys.take i) (hd : ys.drop j = xs.drop j) (hp : p (rd_T33 ys (j : Int)) = false) :
    (xs.take (j + 1)).filter (fun x => !p x) = (ys.set i (rd_T33 ys (j : Int))).take (i + 1) ∧ (ys.set i (rd_T33 ys (j : Int))).drop (j + 1) = xs.drop (j + 1) := by
  have hjy : j < ys.length := by omega
  have e : ys[j] = xs[j] := by
    have := congrArg (fun l => l[0]?) hd
    simp [List.getElem?_drop, hj, hjy] at this
    exact this
  rw [rd_get ys j hjy] at hp ⊢
  constructor
  · rw [List.take_succ_eq_append_getElem hj, List.filter_append, ht, List.take_succ_eq_append_getElem (by simp; omega)]
    simp [← e, hp, List.take_set_of_le]
  · rw [List.drop_set_of_lt (by omega), ← List.drop_drop, hd, List.drop_drop]
theorem filt_step_out (p : S33 → Bool) (xs ys : List S33) (i j : Nat) (hl : ys.length = xs.length) (hj : j < xs.length) (ht : (xs.take j).filter (fun x => !p x) = ys.take i) (hd : ys.drop j = xs.drop j) (hp : p (rd_T33 ys (j : Int)) = true) :
    (xs.take (j + 1)).filter (fun x => !p x) = ys.take i ∧ ys.drop (j + 1) = xs.drop (j + 1) := by
  have hjy : j < ys.length := by omega
  have e : ys[j] = xs[j] := by
    have := congrArg (fun l => l[0]?) hd
    simp [List.getElem?_drop, hj, hjy] at this
    exact this
  rw [rd_get ys j hjy] at hp
  constructor
  · rw [List.take_succ_eq_append_getElem hj, List.filter_append, ht]
    simp [← e, hp]
  · rw [← List.drop_drop, hd, List.drop_drop]
end Go.Proofs.Ytfafeeobjlkjnaa.K
