/- By hand: how many rises a list has, in plain words. -/
import Derived.Test.YtfhmjleimampeaaPRank
import Derived.Test.YtfhmjleimampeaaK3b
namespace Go.Proofs.Ytfhmjleimampeaa.K
open Go Go.RowKit Go.Proofs.YtfhmjleimampeaaW.PrintWords
set_option linter.unusedVariables false
set_option linter.unusedSimpArgs false
def upW (x : Int) (c : Int) (L : List Int) : Int := L.foldl (fun c y => if y < x then wrap64 (c + 1) else c) c
def upsW : List Int → List Int → Int → Int
  | _, [], c => c
  | A, x :: L, c => upsW (A ++ [x]) L (upW x c A)
section
variable {R : Int × Int}
theorem rise_l1 (l : List Int) (hl : l.length ≤ 1000) (i : Nat) (x : Int) (hi : i < l.length) (hx : rd l (i : Int) = x) (m : Nat) : ∀ (j : Nat) (c : Int), j + m = i → Ev (fun k => rank_Rises.l0 k l (upW x c ((l.take i).drop j)) (l.length : Int) ((i + 1 : Nat) : Int)) R → Ev (fun k => rank_Rises.l1 k l c (i : Int) (l.length : Int) (i : Int) (i : Int) (j : Int)) R := by
  induction m with
  | zero =>
    intro j c hj h
    rw [List.drop_eq_nil_of_le (by rw [List.length_take]; omega)] at h
    refine Ev.succ h (fun k => ?_)
    rw [rank_Rises.l1, if_neg (by omega), wrap_up (by omega)]
    rfl
  | succ m ih =>
    intro j c hj h
    have hjl : j < (l.take i).length := by rw [List.length_take]; omega
    rw [List.drop_eq_getElem_cons hjl, List.getElem_take] at h
    have hy : rd l (j : Int) = l[j] := by unfold rd; simp [List.getD_eq_getElem?_getD, show j < l.length by omega]
    by_cases c1 : l[j] < x
    · have h2 := ih (j + 1) (wrap64 (c + 1)) (by omega) (by
        unfold upW at h ⊢
        rw [List.foldl_cons, if_pos c1] at h
        exact h)
      refine Ev.succ h2 (fun k => ?_)
      rw [rank_Rises.l1, if_pos (by omega), if_pos (by omega), if_pos (by omega), if_pos (by omega), if_pos (by omega), hy, hx, if_pos c1, wrap_up (by omega)]
    · have h2 := ih (j + 1) c (by omega) (by
        unfold upW at h ⊢
        rw [List.foldl_cons, if_neg c1] at h
        exact h)
      refine Ev.succ h2 (fun k => ?_)
      rw [rank_Rises.l1, if_pos (by omega), if_pos (by omega), if_pos (by omega), if_pos (by omega), if_pos (by omega), hy, hx, if_neg c1, wrap_up (by omega)]
theorem rise_l0 (l : List Int) (hl : l.length ≤ 1000) : ∀ (suf : List Int) (i : Nat) (c : Int), l.drop i = suf → Ev (fun k => rank_Rises.l0 k l c (l.length : Int) (i : Int)) (upsW (l.take i) suf c, 0)
  | [], i, c, h => by
    have hj := drop_endI h
    exact Ev.succ (Ev.const _) (fun k => by rw [rank_Rises.l0, if_neg (by omega)]; rfl)
  | x :: suf, i, c, h => by
    obtain ⟨hi, hx, hd, ht⟩ := drop_atI h
    have ih := rise_l0 l hl suf (i + 1) (upW x c (l.take i)) hd
    rw [ht] at ih
    refine Ev.succ (rise_l1 l hl i x hi hx i 0 c (by omega) ih) (fun k => ?_)
    rw [rank_Rises.l0, if_pos (by omega)]
    rfl
end
def risesE (l : List Int) : Int × Int := if ftE l = 0 then (upsW [] l 0, 0) else (0, ftE l)
theorem rises_ev (l : List Int) : Ev (fun k => rank_Rises.f k l) (risesE l) := by
  unfold rank_Rises.f risesE
  refine Ev.bind (fault_ev l) ?_
  by_cases hf : ftE l = 0
  · simp only [if_pos hf]
    exact rise_l0 l (by have := (ft_ok hf).2.1; omega) l 0 0 rfl
  · simp only [if_neg hf]
    exact Ev.const _
end Go.Proofs.Ytfhmjleimampeaa.K
