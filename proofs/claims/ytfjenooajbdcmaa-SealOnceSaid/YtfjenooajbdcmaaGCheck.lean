/- By hand: seal.Check: the first fault of events. -/
import Derived.Test.YtfjenooajbdcmaaGAsked
namespace Go.Proofs.Ytfjenooajbdcmaa.K
open Go Go.RowKit Go.Maps Go.Proofs.YtfjenooajbdcmaaW.PrintWords Go.Proofs.YtfjenooajbdcmaaW.PrintLast Go.Proofs.YtfjenooajbdcmaaW.PrintMore Go.Proofs.Ytfjenooajbdcmaa.GM Go.Proofs.Ytfjenooajbdcmaa.GW
set_option linter.unusedVariables false
theorem folgo_ok : ∀ (l : List S34) (M : Int → Option St) (p : Option Int) (i : Nat), (folgo M p i l).2.2 = 0 → (folgo M p i l).2.1 = -1
  | [], M, p, i, _ => rfl
  | x :: l, M, p, i, h => by
    rw [folgo] at h ⊢
    by_cases c : faultP M p x = 0
    · rw [if_pos c] at h ⊢
      exact folgo_ok l _ _ _ h
    · rw [if_neg c] at h
      exact absurd h c
theorem fol_ok {l : List S34} (h : (fol l).2.2 = 0) : (fol l).2.1 = -1 ∧ l.length ≤ 128 := by
  unfold fol at h ⊢
  by_cases c : l.length > 128
  · rw [if_pos c] at h
    cases h
  · rw [if_neg c] at h ⊢
    exact ⟨folgo_ok l _ _ _ h, by omega⟩
def seal_Check.f (l : List S34) : Option (Int × Int) := if (l.all wf34) = true then some ((fol l).2.1, (fol l).2.2) else none
theorem seal_Check.calls (A0 : Option Addr) (c0 : Nat) (l0 : List S34) (r1 r2 : Int) (w : World) (hr0 : Kd.C k34 w A0 l0.length l0) (hc0 : l0.length ≤ c0) (h : seal_Check.f l0 = some (r1, r2)) :
    Calls Try.prog 28 #[.slice A0 l0.length c0] w fun e w' => e = .returned (.tuple #[.int .i64 r1, .int .i64 r2]) ∧ Below w.heap.size w w' := by
  unfold seal_Check.f at h
  by_cases hwf : (l0.all wf34) = true
  · rw [if_pos hwf] at h
    simp only [Option.some.injEq, Prod.mk.injEq] at h
    obtain ⟨rfl, rfl⟩ := h
    have HW : Aside0 (∀ x ∈ l0, wf34 x = true) := ⟨fun x hx => List.all_eq_true.1 hwf x hx⟩
    have HR0 := Aside0.mk hr0
    have HC0 := Aside0.mk hc0
    clear hr0 hc0 hwf
    by_cases hfz : (fol l0).2.2 = 0
    · have HFZ := Aside0.mk hfz
      have HF1 := Aside0.mk (fol_ok hfz).1
      clear hfz
      go_enter Try.func28, Try.ntmps28
      go_wp2_with (first
        | ((with_reducible show Calls Try.prog 53 _ _ _); refine (follow_calls A0 c0 l0 _ HR0.out HC0.out HW.out).mono ?_; rintro e w3 ⟨hfe, hb⟩; obtain ⟨gm, hge, rfl, hm⟩ := hfe.good HFZ.out; have HB := Aside0.mk hb; clear hfe hb hge hm))
      go_ret2
      exact ⟨by rw [HF1.out, HFZ.out]; rfl, HB.out⟩
    · have HFZ := Aside0.mk hfz
      clear hfz
      go_enter Try.func28, Try.ntmps28
      go_wp2_with (first
        | ((with_reducible show Calls Try.prog 53 _ _ _); refine (follow_calls A0 c0 l0 _ HR0.out HC0.out HW.out).mono ?_; rintro e w3 ⟨hfe, hb⟩; obtain rfl := hfe.bad HFZ.out; have HB := Aside0.mk hb; clear hfe hb))
      go_ret2
      exact ⟨rfl, HB.out⟩
  · rw [if_neg hwf] at h
    cases h
end Go.Proofs.Ytfjenooajbdcmaa.K
