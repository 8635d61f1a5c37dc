/- By hand: the law LyingCylinders in plain words. -/
import Derived.Test.YtefjmcljkmppoaaPLyA
import Derived.Test.YtefjmcljkmppoaaPC08
import Derived.Test.YtefjmcljkmppoaaSayLyingCylinders
import Derived.Test.YtefjmcljkmppoaaK23
namespace Go.Proofs.Ytefjmcljkmppoaa.K
open Go.RowKit Go.Proofs.YtefjmcljkmppoaaW.PrintWords
set_option linter.unusedVariables false
set_option linter.unusedSimpArgs false
def cyl (e r : Int) : List S39 := [⟨0, r⟩, ⟨e, r⟩]
theorem cyl_spec {e r : Int} (h : profC (cyl e r) = 0) : (0 < e ∧ e ≤ 100000) ∧ (0 ≤ r ∧ r ≤ 100000) := by
  have h1 := prof_len1 _ h (⟨0, r⟩, ⟨e, r⟩) (List.mem_cons_self ..)
  exact ⟨⟨h1.1.2.1, h1.1.2.2⟩, h1.2.1⟩
theorem cyl_at {e r : Int} (h : profC (cyl e r) = 0) (x : Int) (hx : 0 ≤ x ∧ x ≤ lastX (cyl e r)) : atV (cyl e r) x = (r, r, 0) := by
  obtain ⟨⟨e0, e1⟩, r0, r1⟩ := cyl_spec h
  have hl : lastX (cyl e r) = e := rfl
  rw [hl] at hx
  rw [atV_at _ h x (by rw [hl]; exact hx)]
  show ((atP x [(⟨0, r⟩, ⟨e, r⟩)]).1, (atP x [(⟨0, r⟩, ⟨e, r⟩)]).2, (0 : Int)) = _
  rw [atP, if_neg (by dsimp only; omega), stv]
  dsimp only
  have e2 : r * (e - x) + r * (x - 0) = r * e := by rw [← Int.mul_add]; congr 1; omega
  rw [e2, Int.sub_zero, Int.mul_tdiv_cancel _ (by omega)]
  have h3 : 0 ≤ r * e := Int.mul_nonneg r0 (by omega)
  rw [Int.tdiv_eq_ediv_of_nonneg (show 0 ≤ r * e + e - 1 by omega), show r * e + e - 1 = (e - 1) + r * e by omega, Int.add_mul_ediv_right _ _ (by omega), Int.ediv_eq_zero_of_lt (by omega) (by omega), Int.zero_add]
theorem len_sum : ∀ (v : List Int) (p q : Int), isum (fun x : Int × Int => x.2 - x.1) (pairsI (p :: v)) = rd (p :: v) ((v.length : Int)) - p
  | [], p, q => by
    show (0 : Int) = p - p
    omega
  | y :: v, p, q => by
    rw [pairsI, isum, len_sum v y q]
    have : rd (p :: y :: v) ((y :: v).length : Int) = rd (y :: v) (v.length : Int) := by
      rw [rdG_get _ _ (by simp), rdG_get _ _ (by simp)]
      simp
    rw [this]
    dsimp only
    omega
theorem cyl_bung {e r : Int} : bungR (cyl e r) = r := by
  have : ¬ r < r := by omega
  show (rd_T39 (cyl e r) ((bgI (cyl e r) 0 0 (cyl e r) : Nat) : Int)).f1 = r
  unfold cyl
  rw [bgI, if_neg (show ¬ (rd_T39 [(⟨0, r⟩ : S39), ⟨e, r⟩] ((0 : Nat) : Int)).f1 < r from this), bgI, if_neg (show ¬ (rd_T39 [(⟨0, r⟩ : S39), ⟨e, r⟩] ((0 : Nat) : Int)).f1 < r from this)]
  rfl
theorem wrap_mull (a b : Int) : wrap64 (wrap64 a * b) = wrap64 (a * b) := by rw [Int.mul_comm, wrap_mulr, Int.mul_comm]
/-- The sums of a cylinder are the area's, times the length. -/
theorem cyl_sums (e r : Int) (hp : profC (cyl e r) = 0) (v hs : List Int) (hv : ∀ x ∈ v, 0 ≤ x ∧ x ≤ lastX (cyl e r)) (h2 : 2 ≤ v.length) (h0 : rd v 0 = 0) (he : rd v ((v.length : Int) - 1) = e) (hh : segC hs = 0) :
    betS (cyl e r) r hs (pairsI v) = (wrap64 (e * (areaV r r hs).1), wrap64 (e * (areaV r r hs).2.1)) := by
  obtain ⟨⟨e0, e1⟩, hr⟩ := cyl_spec hp
  have hok := sl_ok (cyl e r) hp v hv
  have hsl : ∀ x ∈ pairsI v, slV (cyl e r) x = (wrap64 (x.2 - x.1), r, r) := fun x hx => by
    obtain ⟨m1, m2⟩ := pairsI_mem v x hx
    unfold slV
    rw [cyl_at hp x.1 (hv _ m1), cyl_at hp x.2 (hv _ m2)]
    dsimp only
    rw [Int.min_self, Int.max_self]
  rw [betS_val (cyl e r) r hs _ hok hr hh, area_val r r hs hr hr hh]
  dsimp only
  rw [wrap_mulr, wrap_mulr]
  have key : ∀ S : Int, wrap64 (isum (fun x => wrap64 (x.2 - x.1) * S) (pairsI v)) = wrap64 (e * S) := fun S => by
    have e3 : isum (fun x : Int × Int => x.2 - x.1) (pairsI v) = e := by
      cases v with
      | nil => simp at h2
      | cons p v =>
        rw [len_sum v p 0]
        have h1 : rd (p :: v) 0 = p := rfl
        rw [h1] at h0
        rw [show (((p :: v).length : Int) - 1) = (v.length : Int) by simp] at he
        rw [he, h0]
        omega
    have w := isum_wrap (fun x : Int × Int => (x.2 - x.1) * S) (pairsI v) 0
    have w2 := isum_wrap (fun x : Int × Int => wrap64 (x.2 - x.1) * S) (pairsI v) 0
    simp only [Int.zero_add, wrap_mull] at w w2
    rw [← w2, w]
    congr 1
    rw [show (fun x : Int × Int => (x.2 - x.1) * S) = fun x => S * (x.2 - x.1) from funext fun x => Int.mul_comm _ _, ← isum_mul, e3, Int.mul_comm]
  refine Prod.ext ?_ ?_
  · dsimp only
    rw [← key]
    exact congrArg wrap64 (isum_congr fun x hx => by rw [hsl x hx])
  · dsimp only
    rw [← key]
    exact congrArg wrap64 (isum_congr fun x hx => by rw [hsl x hx])
theorem cyl_pure (r : Int) (v hs : List Int) : ∃ k, spilelaw11_LyingCylinders.f k r v hs = some true := by
  refine Ev.one ?_
  unfold spilelaw11_LyingCylinders.f
  refine Ev.bind awake_ev ?_
  simp only [if_true]
  have ht : Ev (fun k => spilelaw11_LyingCylinders.j0 k r v hs true) true := Ev.succ (Ev.const _) (fun k => by rw [spilelaw11_LyingCylinders.j0, if_pos rfl])
  by_cases c1 : v.length < 2
  · exact ht.congr (fun k => by rw [if_pos (by omega)])
  by_cases c2 : v.length > 65
  · exact ht.congr (fun k => by rw [if_neg (by omega), if_pos (by omega)])
  by_cases c3 : hs.length > 66
  · exact ht.congr (fun k => by rw [if_neg (by omega), if_neg (by omega), decide_eq_true (by omega)])
  have e1 : wrap64 ((v.length : Int) - 1) = (v.length : Int) - 1 := by unfold wrap64; omega
  obtain ⟨e, he⟩ : ∃ e, rd v ((v.length : Int) - 1) = e := ⟨_, rfl⟩
  have main : Ev (fun k => (lying_Between.f k (⟨#[99]⟩ : ByteArray) 1 (cyl e r) 0 v hs).bind fun bt621 => (if bt621.2.2 = 0 then ((clone22.f hs).bind fun t625 => ((area29.f r r t625).bind fun bt628 => (if bt628.2.2 = 0 then ((spileref08_Check.f k (cyl e r)).bind fun t632 => (if t632 = 0 then (some (bt621.1 == (wrap64 (e * bt628.1)) && (bt621.2.1 == (wrap64 (e * bt628.2.1))))) else (none))) else (none)))) else (some (bt621.1 == 0 && (bt621.2.1 == 0))))) true := by
    refine Ev.bind (pbet_ev ⟨#[99]⟩ 1 (cyl e r) 0 v hs) ?_
    unfold bspE
    by_cases c : lchC ⟨#[99]⟩ 1 (cyl e r) 0 v = 0
    · obtain ⟨d1, d2, _, d3, _, d4⟩ := lch_spec c
      have hp := (lie_spec d1).2.2
      obtain ⟨_, hr⟩ := cyl_spec hp
      by_cases c4 : segC hs = 0
      · simp only [if_pos c, if_pos c4, cloneI_ev hs (show hs.length ≤ 1000000 by omega), area29.f, Option.bind_some]
        rw [cyl_bung, cyl_sums e r hp v hs d4 d2.1 d3.1 he c4, area_val r r hs hr hr c4]
        simp only [if_true]
        refine Ev.bind (c08_ev (cyl e r)) ?_
        rw [hp]
        exact (Ev.const true).congr (fun k => by simp)
      · simp only [if_pos c, if_neg c4]
        exact (Ev.const true).congr (fun k => by simp)
    · simp only [if_neg c]
      exact (Ev.const true).congr (fun k => by simp)
  refine Ev.succ main (fun k => ?_)
  rw [if_neg (by omega), if_neg (by omega), decide_eq_false (by omega), spilelaw11_LyingCylinders.j0, if_neg (by simp), e1, if_pos (by omega), if_pos (by omega), cloneI_ev v (by omega), cloneI_ev hs (by omega), he]
  rfl
end Go.Proofs.Ytefjmcljkmppoaa.K
namespace Go.Proofs.Ytefjmcljkmppoaa.Pure
theorem LyingCylinders : K.LyingCylindersPure := fun x0 x1 x2 _ _ _ => K.cyl_pure x0 x1 x2
end Go.Proofs.Ytefjmcljkmppoaa.Pure
