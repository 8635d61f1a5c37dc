/- By hand: the law StandingCylinders in plain words. -/
import Derived.Test.YtmcmbjkjilcmeaaPGeo
import Derived.Test.YtmcmbjkjilcmeaaSayStandingCylinders
import Derived.Test.YtmcmbjkjilcmeaaK26
namespace Go.Proofs.Ytmcmbjkjilcmeaa.K
open Go.RowKit Go.Proofs.YtmcmbjkjilcmeaaW.PrintWords
set_option linter.unusedVariables false
set_option linter.unusedSimpArgs false
def cylL (r e : Int) : List S33 := [⟨0, r⟩, ⟨e, r⟩]
theorem cyl_at (r e : Int) (hp : profC (cylL r e) = 0) (x : Int) (h0 : 0 ≤ x) (h1 : x ≤ e) : (0 ≤ r ∧ r ≤ 100000) ∧ atP x (pairs (cylL r e)) = (r, r) := by
  obtain ⟨s, m, hs, e1, e2, e3⟩ := at_find (cylL r e) hp x h0 h1
  have hse : s = (⟨0, r⟩, ⟨e, r⟩) := by simpa [cylL, pairs] using m
  subst hse
  obtain ⟨a1, a2, a3, a4⟩ := nm_bd _ hs x e1 e2
  have hn : nmS (⟨0, r⟩, ⟨e, r⟩) x = r * htS (⟨0, r⟩, ⟨e, r⟩) := by simp only [nmS, htS]; grind
  obtain ⟨b1, b2, b3, b4, b5, b6, b7⟩ := flo_ce _ _ a1 a3 a4
  obtain ⟨h, hh⟩ : ∃ h, htS (⟨0, r⟩, ⟨e, r⟩) = h := ⟨_, rfl⟩
  refine ⟨hs.2.1, ?_⟩
  rw [e3, stv_eq]
  rw [hn, hh] at b4 b5 b6 b7 ⊢
  rw [hh] at a1
  have c1 := Int.le_of_mul_le_mul_right b4 (by omega)
  have c2 := Int.le_of_mul_le_mul_right b5 (by omega)
  have c3 := Int.lt_of_mul_lt_mul_right b6 (by omega)
  have c4 := Int.lt_of_mul_lt_mul_right b7 (by omega)
  exact Prod.ext (by dsimp only; omega) (by dsimp only; omega)
theorem cyl_sB (r e : Int) (hp : profC (cylL r e) = 0) (lv : List Int) (hin : ∀ x ∈ lv, 0 ≤ x ∧ x ≤ lastX (cylL r e)) (hasc : ascI lv = true) : ∀ j : Nat, j < lv.length → sB (cylL r e) lv j = ⟨3 * r * r * (rd lv (j : Int) - rd lv 0), 3 * r * r * (rd lv (j : Int) - rd lv 0)⟩ := by
  intro j
  induction j with
  | zero =>
    intro hj
    simp only [Int.natCast_zero, Int.sub_self, Int.mul_zero]
    rfl
  | succ j ih =>
    intro hj
    have hi := ih (by omega)
    obtain ⟨hs, _⟩ := sB_step (cylL r e) hp lv hin hasc j hj
    have hx := hin _ (rd_mem lv (j : Int) (by omega) (by omega))
    have hy := hin _ (rd_mem lv ((j : Int) + 1) (by omega) (by omega))
    have c1 := (cyl_at r e hp _ hx.1 hx.2).2
    have c2 := (cyl_at r e hp _ hy.1 hy.2).2
    rw [hs, hi, loR, hiR, c1, c2]
    dsimp only
    rw [show ((j + 1 : Nat) : Int) = (j : Int) + 1 by omega, Int.min_self, Int.max_self]
    congr 1 <;> grind
theorem cyl_l0 (r e : Int) (hp : profC (cylL r e) = 0) (lv : List Int) (hin : ∀ x ∈ lv, 0 ≤ x ∧ x ≤ lastX (cylL r e)) (hasc : ascI lv = true) (h2 : 2 ≤ lv.length) (hv : lv.length ≤ 1000) : ∀ (m i : Nat), i + m = lv.length - 1 →
    Ev (fun k => spilelaw12_StandingCylinders.l0 k r lv (outS (cylL r e) lv (lv.length - 1)) ((outS (cylL r e) lv (lv.length - 1)).length : Int) (i : Int)) true := by
  have hr := (cyl_at r e hp 0 (by omega) (by have := last_bd _ hp; exact this.1)).1
  intro m
  induction m with
  | zero =>
    intro i hi
    exact Ev.succ (Ev.const _) (fun k => by rw [spilelaw12_StandingCylinders.l0, if_neg (by rw [outS_len]; omega)])
  | succ m ih =>
    intro i hi
    have e1 : wrap64 ((i : Int) + 1) = ((i + 1 : Nat) : Int) := wrap_up (by omega)
    have hx := hin _ (rd_mem lv ((i + 1 : Nat) : Int) (by omega) (by omega))
    have hz := hin _ (rd_mem lv 0 (by omega) (by omega))
    have hb := last_bd _ hp
    have hel : rd_T40 (outS (cylL r e) lv (lv.length - 1)) (i : Int) = sB (cylL r e) lv (i + 1) := by
      unfold rd_T40
      rw [List.getD_eq_getElem?_getD, Int.toNat_natCast, outS, List.getElem?_map, List.getElem?_range (by omega)]
      rfl
    have hlt := (sB_step (cylL r e) hp lv hin hasc i (by omega)).2
    have hw : wrap64 ((wrap64 ((wrap64 (3 * r)) * r)) * (wrap64 (rd lv ((i + 1 : Nat) : Int) - rd lv 0))) = 3 * r * r * (rd lv ((i + 1 : Nat) : Int) - rd lv 0) := by
      have a1 := mul_nn (3 * r) r 300000 100000 ⟨by omega, by omega⟩ hr
      have h3 := cyl_sB r e hp lv hin hasc (i + 1) (by omega)
      rw [h3] at hlt
      dsimp only at hlt
      rw [wrap_id2 (3 * r) (by omega), wrap_id2 (3 * r * r) (by omega), wrap_id (rd lv ((i + 1 : Nat) : Int) - rd lv 0) (by omega), wrap_id2 _ (by rw [show ((i + 1 : Nat) : Int) = (i : Int) + 1 by omega] at *; omega)]
    refine Ev.succ (ih (i + 1) (by omega)) (fun k => ?_)
    rw [spilelaw12_StandingCylinders.l0, if_pos (by rw [outS_len]; omega), if_pos (by omega), if_pos (by rw [outS_len]; omega), e1, if_pos (by omega), if_pos (by omega), if_pos (by omega), hw, hel, cyl_sB r e hp lv hin hasc (i + 1) (by omega), if_neg (by simp)]
theorem cyl_pure (r e : Int) (lv : List Int) : ∃ k, spilelaw12_StandingCylinders.f k r e lv = some true := by
  refine Ev.one ?_
  unfold spilelaw12_StandingCylinders.f
  refine Ev.bind awake_ev ?_
  simp only [if_true]
  by_cases c : (lv.length : Int) > 129
  · simp only [if_pos c]
    exact Ev.const _
  · simp only [if_neg c, Option.bind_some, cloneI_ev lv (by omega)]
    refine Ev.bind (ssums_ev ⟨#[99]⟩ 2 (cylL r e) 0 lv) ?_
    unfold sumsE
    by_cases c1 : chkC ⟨#[99]⟩ 2 (cylL r e) 0 lv = 0
    · obtain ⟨h1, h2, h3, h4, h5⟩ := chk_in c1
      have hp := std_prof h1
      simp only [if_pos c1, if_true]
      refine Ev.bind (by have := c08_ev (cylL r e); rw [hp] at this; exact this) ?_
      simp only [if_true]
      have e1 : ((outS (cylL r e) lv (lv.length - 1)).length : Int) = wrap64 ((lv.length : Int) - 1) := by rw [outS_len, wrap_dn (by omega) (by omega)]
      have := cyl_l0 r e hp lv h5 (chkL_asc h4).1 h2 (by omega) (lv.length - 1) 0 (by omega)
      refine Ev.succ this (fun k => ?_)
      rw [spilelaw12_StandingCylinders.j0, ← e1, if_neg (by simp)]
      rfl
    · simp only [if_neg c1]
      exact (Ev.const true).congr (fun k => by rfl)
end Go.Proofs.Ytmcmbjkjilcmeaa.K
namespace Go.Proofs.Ytmcmbjkjilcmeaa.Pure
theorem StandingCylinders : K.StandingCylindersPure := fun x0 x1 x2 _ _ _ => K.cyl_pure x0 x1 x2
end Go.Proofs.Ytmcmbjkjilcmeaa.Pure
