/- By hand: among equal numbers all choices count. -/
import Derived.Test.YtfhmjleimampeaaPRare
import Derived.Test.YtfhmjleimampeaaPRank
namespace Go.Proofs.Ytfhmjleimampeaa.K
open Go Go.RowKit Go.Proofs.YtfhmjleimampeaaW.PrintWords
set_option linter.unusedVariables false
set_option linter.unusedSimpArgs false
theorem ft_mk {l : List Int} (h0 : 0 < l.length) (h1 : l.length ≤ 64) (h : ∀ x ∈ l, -1099511627776 ≤ x ∧ x ≤ 1099511627776) : ftE l = 0 := by
  unfold ftE
  rw [if_neg (by omega), if_neg (by omega), if_neg]
  intro c
  obtain ⟨x, hx, hc⟩ := List.any_eq_true.1 c
  have := h x hx
  unfold offS at hc
  simp only [Bool.or_eq_true, decide_eq_true_eq] at hc
  omega
theorem two_mk {a b : List Int} (h0 : ftE a = 0) (h1 : ftE b = 0) (h : a.length + b.length ≤ 24) : twoE a b = 0 := by
  unfold twoE
  rw [if_pos h0, if_pos h1, if_neg (by omega)]
section
variable {a b : List Int}
theorem RB (h : a.length + b.length ≤ 24) : ∀ r ∈ (a ++ b).map (rk (a ++ b)), 1 ≤ r ∧ r ≤ 100 := fun r hr => by
  obtain ⟨y, _, rfl⟩ := List.mem_map.1 hr
  have := rk_bd (a ++ b) y
  simp only [List.length_append] at this
  omega
theorem ssub : (a.map (rk (a ++ b))).Sublist ((a ++ b).map (rk (a ++ b))) := by
  rw [List.map_append]
  exact List.sublist_append_left _ _
theorem stat_bd (h : a.length + b.length ≤ 24) : 0 ≤ statL a b ∧ statL a b < 3000 := by
  have hb := RB h
  have := isum_bd 100 (a.map (rk (a ++ b))) (fun r hr => by have := hb r (ssub.subset hr); omega)
  rw [List.length_map] at this
  unfold statL
  omega
theorem one_le (h : a.length + b.length ≤ 24) : 1 ≤ gAll a.length (cntL ((a ++ b).map (rk (a ++ b)))) (statL a b) := by
  have hp := cnt_pos (ssub (a := a) (b := b))
  rw [List.length_map] at hp
  exact g_pos (stat_bd h).1 (stat_bd h).2 hp
end
theorem isum_const (r : Int) : ∀ L : List Int, (∀ x ∈ L, x = r) → isum L = r * (L.length : Int)
  | [], _ => by rw [isum_nil]; simp
  | x :: L, h => by
    have h1 := h x (by simp)
    have h2 := isum_const r L (fun y hy => h y (List.mem_cons_of_mem _ hy))
    rw [isum_cons, List.length_cons, h1, h2]
    push_cast
    rw [Int.mul_add, Int.mul_one]
    omega
theorem atl_const {a b : List Int} {s : Int} (ha : ∀ x ∈ a, x = s) (hb : ∀ x ∈ b, x = s) (a0 : 0 < a.length) (b0 : 0 < b.length) (h24 : a.length + b.length ≤ 24) (hs : -1099511627776 ≤ s ∧ s ≤ 1099511627776) :
    ∃ n : Int, 1 ≤ n ∧ n ≤ 100000000000 ∧ atlE a b = (n, n, 0) := by
  have f1 : ftE a = 0 := ft_mk a0 (by omega) (fun x hx => by rw [ha x hx]; exact hs)
  have f2 : ftE b = 0 := ft_mk b0 (by omega) (fun x hx => by rw [hb x hx]; exact hs)
  have h2 := two_mk f1 f2 h24
  have hR : ∀ r ∈ (a ++ b).map (rk (a ++ b)), r = rk (a ++ b) s := fun r hr => by
    obtain ⟨y, hy, rfl⟩ := List.mem_map.1 hr
    rcases List.mem_append.1 hy with h | h
    · rw [ha y h]
    · rw [hb y h]
  have hst : statL a b = rk (a ++ b) s * (a.length : Int) := by
    have h := isum_const (rk (a ++ b) s) (a.map (rk (a ++ b))) (fun r hr => hR r (ssub.subset hr))
    rw [List.length_map] at h
    exact h
  have hg : gAll a.length (cntL ((a ++ b).map (rk (a ++ b)))) (statL a b) = wAll a.length (cntL ((a ++ b).map (rk (a ++ b)))) := g_all (fun t ht => by
    by_cases c : 0 < cntL ((a ++ b).map (rk (a ++ b))) a.length t
    · exfalso
      obtain ⟨S, h1, h3, h4⟩ := cnt_sub _ _ _ c
      have h5 := isum_const (rk (a ++ b) s) S (fun r hr => hR r (h1.subset hr))
      rw [h4, h3] at h5
      omega
    · omega)
  have h1 := one_le h24
  have hB := cntL_bd ((a ++ b).map (rk (a ++ b))) (fun r hr => by have := RB h24 r hr; omega) _ (Nat.le_refl _)
  rw [List.take_length] at hB
  have hw := sumR_bd (fun t => (cntL ((a ++ b).map (rk (a ++ b))) a.length t : Int)) 16777216 3000 (fun t _ _ => by
    have h3 := hB.le a.length t
    have h4 : 2 ^ ((a ++ b).map (rk (a ++ b))).length ≤ 2 ^ 24 := Nat.pow_le_pow_right (by omega) (by simp; omega)
    have h5 : (2 : Nat) ^ 24 = 16777216 := by decide
    refine ⟨by omega, ?_⟩
    have h6 : cntL ((a ++ b).map (rk (a ++ b))) a.length t ≤ 16777216 := by omega
    exact Int.ofNat_le.2 h6)
  unfold atlE
  rw [if_pos h2, hg]
  rw [hg] at h1
  have hw2 : wAll a.length (cntL ((a ++ b).map (rk (a ++ b)))) ≤ 16777216 * (3000 : Nat) := hw.2
  exact ⟨_, h1, by omega, rfl⟩
end Go.Proofs.Ytfhmjleimampeaa.K
