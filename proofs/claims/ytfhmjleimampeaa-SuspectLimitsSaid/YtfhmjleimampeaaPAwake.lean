/- By hand: the example of package suspect's laws comes out true. -/
import Derived.Test.YtfhmjleimampeaaK12
import Derived.Test.YtfhmjleimampeaaPRank
namespace Go.Proofs.Ytfhmjleimampeaa.K
open Go Go.RowKit Go.Proofs.YtfhmjleimampeaaW.PrintWords
set_option linter.unusedVariables false
set_option linter.unusedSimpArgs false
theorem sumR_cut (f : Int → Int) (m : Nat) : ∀ n : Nat, m ≤ n → (∀ t : Int, m ≤ t → f t = 0) → sumR f n = sumR f m
  | n, hn, h => by
    induction n with
    | zero => have e : m = 0 := by omega
              rw [e]
    | succ n ih =>
      by_cases c : m = n + 1
      · rw [c]
      · rw [show sumR f (n + 1) = sumR f n + f n from rfl, ih (by omega), h n (by omega), Int.add_zero]
def exL : List S30 := [⟨1, 1, 7, 10⟩, ⟨1, 2, 8, 90⟩, ⟨2, 1, 7, 12⟩, ⟨2, 2, 8, 95⟩, ⟨3, 1, 7, 11⟩]
theorem atlA (a b R : List Int) (s x y : Int) (h2 : twoE a b = 0) (hR : (a ++ b).map (rk (a ++ b)) = R) (hs : statL a b = s) (hb : ∀ r ∈ R, 0 ≤ r ∧ r ≤ 100) (hl : R.length = 5)
    (hw : sumR (fun t => (cntL R a.length t : Int)) 501 = y) (hg : sumR (fun t => if t ≥ s then (cntL R a.length t : Int) else 0) 501 = x) : atlE a b = (x, y, 0) := by
  have hB := cntL_bd R hb R.length (Nat.le_refl _)
  rw [List.take_length, hl] at hB
  have hz : ∀ t : Int, (501 : Nat) ≤ t → cntL R a.length t = 0 := fun t h => by
    have h1 := hB.pos a.length t
    omega
  unfold atlE
  rw [if_pos h2, hR, hs]
  unfold wAll gAll
  rw [sumR_cut _ 501 3000 (by decide) (fun t h => by rw [hz t h]; split <;> rfl), sumR_cut _ 501 3000 (by decide) (fun t h => by rw [hz t h]; rfl), hw, hg]
theorem atl7 : atlE [10, 12, 11] [90, 95] = (10, 10, 0) := atlA _ _ [2, 6, 4, 8, 10] 12 _ _ (by decide +kernel) (by decide +kernel) (by decide +kernel) (by decide) rfl (by decide +kernel) (by decide +kernel)
theorem atl8 : atlE [90, 95] [10, 12, 11] = (1, 10, 0) := atlA _ _ [8, 10, 2, 6, 4] 18 _ _ (by decide +kernel) (by decide +kernel) (by decide +kernel) (by decide) rfl (by decide +kernel) (by decide +kernel)
theorem of7 : ofE exL 2 7 = ([10, 12, 11], [90, 95], 0) := by decide +kernel
theorem of8 : ofE exL 2 8 = ([90, 95], [10, 12, 11], 0) := by decide +kernel
theorem test7 : testE exL 2 7 = (10, 10, 0) := by
  unfold testE
  rw [of7]
  exact atl7
theorem test8 : testE exL 2 8 = (1, 10, 0) := by
  unfold testE
  rw [of8]
  exact atl8
theorem susp4 : suspE exL 2 1 10 = ([8], 0) := by
  have h1 : (chkE exL).2 = 0 := by decide +kernel
  have h2 : keysOf (kfE 2) exL = [7, 8] := by decide +kernel
  unfold suspE
  rw [if_neg (by rw [h1]; simp), if_neg (by omega), h2]
  have e7 : ((testE exL 2 7).2.2 == 0 && decide (wrap64 ((testE exL 2 7).1 * 10) ≤ wrap64 ((testE exL 2 7).2.1 * 1))) = false := by rw [test7]; decide +kernel
  have e8 : ((testE exL 2 8).2.2 == 0 && decide (wrap64 ((testE exL 2 8).1 * 10) ≤ wrap64 ((testE exL 2 8).2.1 * 1))) = true := by rw [test8]; decide +kernel
  rw [List.filter_cons, if_neg (by rw [e7]; simp), List.filter_cons, if_pos e8]
  rfl
theorem trend4 : trendE exL 1 = (3, 6, 0) := by decide +kernel
theorem with4 : withoutE exL 1 1 = ([⟨1, 2, 8, 90⟩, ⟨2, 2, 8, 95⟩], 0) := by
  have h : (ofE exL 1 1).2.2 = 0 := by decide +kernel
  unfold withoutE
  rw [if_pos h]
  rfl
theorem e4 : slices_Equal_int_int.f 40 [8] [8] = some true := by kernel_rfl
theorem w8 (x : Int) (h0 : 0 ≤ x) (h1 : x ≤ 100) : (Lit.int .i64 x).wf = true := WalkArith.wf_i64 (by omega)
theorem awake_ev : Ev (fun k => spilelaw34_awake.f k) true := by
  have hx : spilelaw34_example.f = some exL := rfl
  have hT : suspect_Test.f exL 2 8 = some (1, 10, 0) := by rw [test_some (w8 8 (by omega) (by omega)), test8]
  have hS : suspect_Suspects.f exL 2 1 10 = some ([8], 0) := by unfold suspect_Suspects.f; rw [susp4]
  have hR : suspect_Trend.f exL 1 = some (3, 6, 0) := by unfold suspect_Trend.f; rw [if_pos (w8 1 (by omega) (by omega)), trend4]
  have hW : suspect_Without.f exL 1 1 = some ([⟨1, 2, 8, 90⟩, ⟨2, 2, 8, 95⟩], 0) := by unfold suspect_Without.f; rw [if_pos (w8 1 (by omega) (by omega)), with4]
  unfold spilelaw34_awake.f
  rw [hx]
  simp only [Option.bind_some, hT, hS, hR, hW, if_true]
  refine Ev.bind (r := true) (Ev.of_mono (fun k => slices_Equal_int_int.mono _ _ k) e4) ?_
  exact Ev.congr (Ev.const true) (fun k => by kernel_rfl)
end Go.Proofs.Ytfhmjleimampeaa.K
