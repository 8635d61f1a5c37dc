/- By hand: the law's awake is true. -/
import Derived.Test.YtbkoghmbacdiiaaK10
import Derived.Test.YtbkoghmbacdiiaaPRank
namespace Go.Proofs.Ytbkoghmbacdiiaa.K
open Go Go.RowKit Go.Proofs.YtbkoghmbacdiiaaW.PrintWords
set_option linter.unusedVariables false
theorem sumR_cut (f : Int → Int) (m : Nat) : ∀ n : Nat, m ≤ n → (∀ t : Int, m ≤ t → f t = 0) → sumR f n = sumR f m
  | 0, h, _ => by
    have e : m = 0 := by omega
    rw [e]
  | n + 1, h, hz => by
    by_cases e : m = n + 1
    · rw [e]
    · rw [show sumR f (n + 1) = sumR f n + f n from rfl, sumR_cut f m n (by omega) hz, hz n (by omega), Int.add_zero]
theorem srt4 : srt [5, 1, 5, 9] = [1, 5, 5, 9] := by
  simp [srt, List.mergeSort, List.MergeSort.Internal.splitInTwo]
theorem q4 : rank_Quantile.f 40 [5, 1, 5, 9] 1 2 = some (5, 0) := by
  unfold rank_Quantile.f rank_Sorted.f
  rw [srt4]
  kernel_rfl
theorem atl4 : rank_AtLeast.f [9, 5] [1, 4] = some (1, 6, 0) := by
  have hR : ([9, 5] ++ [1, 4] : List Int).map (rk ([9, 5] ++ [1, 4])) = [8, 6, 2, 4] := by decide +kernel
  have hs : statL [9, 5] [1, 4] = 14 := by decide +kernel
  have hB := cntL_bd [8, 6, 2, 4] (by decide) 4 (by decide)
  have hz : ∀ t : Int, (401 : Nat) ≤ t → cntL [8, 6, 2, 4] 2 t = 0 := fun t h => by
    have h1 := hB.pos 2 t
    have e : List.take 4 [8, 6, 2, 4] = ([8, 6, 2, 4] : List Int) := rfl
    rw [e] at h1
    omega
  have hw : wAll 2 (cntL [8, 6, 2, 4]) = 6 := by
    unfold wAll
    rw [sumR_cut _ 401 3000 (by decide) (fun t h => by rw [hz t h]; rfl)]
    decide +kernel
  have hg : gAll 2 (cntL [8, 6, 2, 4]) 14 = 1 := by
    unfold gAll
    rw [sumR_cut _ 401 3000 (by decide) (fun t h => by rw [hz t h]; split <;> rfl)]
    decide +kernel
  unfold rank_AtLeast.f atlE
  rw [if_pos (by decide +kernel), hR, hs]
  show some (gAll 2 (cntL [8, 6, 2, 4]) 14, wAll 2 (cntL [8, 6, 2, 4]), 0) = _
  rw [hw, hg]
theorem r4 : rank_Ranks.f 40 [5, 1, 5, 9] = some ([5, 2, 5, 8], 0) := by kernel_rfl
theorem i4 : rank_Rises.f 40 [3, 1, 2] = some (1, 0) := by kernel_rfl
theorem o4 : rank_Orders.f 40 3 2 = some (3, 0) := by kernel_rfl
theorem s4 : rank_Statistic.f 40 [9, 5] [1, 4] = some (14, 0) := by kernel_rfl
theorem e4 : slices_Equal_int_int.f 40 [5, 2, 5, 8] [5, 2, 5, 8] = some true := by kernel_rfl
theorem awake_ev : Ev (fun k => spilelaw33_awake.f k) true := by
  unfold spilelaw33_awake.f
  refine Ev.bind (r := [5, 1, 5, 9]) (Ev.const _) ?_
  refine Ev.bind (r := ([5, 2, 5, 8], 0)) (Ev.of_mono (fun k => rank_Ranks.mono _ k) r4) ?_
  refine Ev.bind (r := (5, 0)) (Ev.of_mono (fun k => rank_Quantile.mono _ _ _ k) q4) ?_
  refine Ev.bind (g := fun _ => rank_AtLeast.f [9, 5] [1, 4]) (r := (1, 6, 0)) ⟨0, fun _ _ => atl4⟩ ?_
  refine Ev.bind (r := (1, 0)) (Ev.of_mono (fun k => rank_Rises.mono _ k) i4) ?_
  refine Ev.bind (r := (3, 0)) (Ev.of_mono (fun k => rank_Orders.mono _ _ k) o4) ?_
  refine Ev.bind (r := (14, 0)) (Ev.of_mono (fun k => rank_Statistic.mono _ _ k) s4) ?_
  refine Ev.bind (r := true) (Ev.of_mono (fun k => slices_Equal_int_int.mono _ _ k) e4) ?_
  exact Ev.congr (Ev.const true) (fun k => by kernel_rfl)
end Go.Proofs.Ytbkoghmbacdiiaa.K
