/- By hand: seal.Unbroken: whether a place was under seal from a day to another one. -/
import Derived.Test.YtfjenooajbdcmaaGIntactP
namespace Go.Proofs.Ytfjenooajbdcmaa.K
open Go Go.RowKit Go.Maps Go.Sort Go.Proofs.YtfjenooajbdcmaaW.PrintWords Go.Proofs.YtfjenooajbdcmaaW.PrintLast Go.Proofs.YtfjenooajbdcmaaW.PrintMore Go.Proofs.Ytfjenooajbdcmaa.GM Go.Proofs.Ytfjenooajbdcmaa.GW
set_option linter.unusedVariables false
def ubS (fr tt : Int) (s : St) : Bool := decide (s.fr ≤ fr) && decide (s.tt > tt)
def ubM (l : List S34) (place fr tt : Int) : Bool := (sids l).any fun z => (ownP l place z).any (ubS fr tt)
theorem ubM_true {l : List S34} {place fr tt z : Int} {s : St} (h : ownP l place z = some s) (hs : ubS fr tt s = true) : ubM l place fr tt = true := by
  refine List.any_eq_true.2 ⟨z, fol_mem l z ?_, by rw [h]; exact hs⟩
  have : (ownP l place z).isSome = true := by rw [h]; rfl
  exact filter_some this
theorem ubM_false {l : List S34} {place fr tt : Int} (h : ∀ z s, ownP l place z = some s → ubS fr tt s = false) : ubM l place fr tt = false := by
  refine List.any_eq_false.2 (fun z _ => ?_)
  cases hz : ownP l place z with
  | none => simp
  | some s =>
    have := h z s hz
    simp [this]
theorem ub_step {M : Int → Option St} {left : Lit → Bool} {p : St → Bool} (h : ∀ x s, M x = some s → left (.int .i64 x) = false → p s = false) {x0 : Int} {s0 : St} (hM : M x0 = some s0) (hp : p s0 = false) :
    ∀ x s, M x = some s → (left (.int .i64 x) && !(Lit.int .i64 x).sameKey (.int .i64 x0)) = false → p s = false := by
  intro x s hx hl
  rw [same_int] at hl
  by_cases e : x = x0
  · subst e
    rw [hM] at hx
    injection hx with hx
    rw [← hx]
    exact hp
  · rw [decide_eq_false e] at hl
    exact h x s hx (by simpa using hl)
def seal_Unbroken.f (l : List S34) (place fr tt : Int) : Option (Bool × Int) :=
  if (l.all wf34) = true then (if askE l place [fr, tt] = 0 then (if fr > tt then some (false, 5) else some (ubM l place fr tt, 0)) else some (false, askE l place [fr, tt])) else none
set_option maxHeartbeats 2000000 in
set_option maxRecDepth 100000 in
theorem seal_Unbroken.calls (A0 : Option Addr) (c0 : Nat) (l0 : List S34) (a1 a2 a3 : Int) (r1 : Bool) (r2 : Int) (w : World) (hr0 : Kd.C k34 w A0 l0.length l0) (hc0 : l0.length ≤ c0) (h : seal_Unbroken.f l0 a1 a2 a3 = some (r1, r2)) :
    Calls Try.prog 16 #[.slice A0 l0.length c0, .int .i64 a1, .int .i64 a2, .int .i64 a3] w fun e w' => e = .returned (.tuple #[.bool r1, .int .i64 r2]) ∧ Below w.heap.size w w' := by
  unfold seal_Unbroken.f at h
  have hu61 := Try.underlying61
  by_cases hwf : (l0.all wf34) = true
  · rw [if_pos hwf] at h
    have HR0 := Aside0.mk hr0
    have HC0 := Aside0.mk hc0
    have HW := Aside0.mk (all_wf hwf)
    have HB := Aside0.mk (Below.refl w.heap.size w)
    clear hr0 hc0 hwf
    by_cases ha : askE l0 a1 [a2, a3] = 0
    · rw [if_pos ha] at h
      have HA := Aside0.mk ha
      clear ha
      by_cases hft : a2 > a3
      · rw [if_pos hft] at h
        have cf : decide (a2 > a3) = true := decide_eq_true hft
        simp only [Option.some.injEq, Prod.mk.injEq] at h
        obtain ⟨rfl, rfl⟩ := h
        clear hft
        go_enter Try.func16, Try.ntmps16
        go_wp2_with (first
          | ((with_reducible show Calls Try.prog 37 _ _ _); refine (asked_calls A0 c0 l0 a1 _ _ [a2, a3] _ (GS.rC (Kd.C_below HR0.out HB.out)) HC0.out HW.out (C_new _ [a2, a3] (by simp) (by unfold maxLen; simp))).mono ?_; rintro e w3 ⟨hae, hb⟩; obtain ⟨gm, hge, rfl, hm⟩ := hae.good HA.out; have GM_ : Aside0 (w.heap.size ≤ gm) := ⟨Nat.le_trans (lqZ (GS.lB HB.out)) hge⟩; have n0_ := Aside0.mk (lqT (GS.lB HB.out) hb); have HM_ := Aside0.mk hm; clear HB hae hb hge hm; have HB := n0_; clear n0_))
        go_ret2
        exact ⟨rfl, GS.lB HB.out⟩
      · rw [if_neg hft] at h
        have cf : decide (a2 > a3) = false := decide_eq_false hft
        simp only [Option.some.injEq, Prod.mk.injEq] at h
        obtain ⟨rfl, rfl⟩ := h
        clear hft
        go_enter Try.func16, Try.ntmps16
        go_wp2_with (first
          | ((with_reducible show Calls Try.prog 37 _ _ _); refine (asked_calls A0 c0 l0 a1 _ _ [a2, a3] _ (GS.rC (Kd.C_below HR0.out HB.out)) HC0.out HW.out (C_new _ [a2, a3] (by simp) (by unfold maxLen; simp))).mono ?_; rintro e w3 ⟨hae, hb⟩; obtain ⟨gm, hge, rfl, hm⟩ := hae.good HA.out; have GM_ : Aside0 (w.heap.size ≤ gm) := ⟨Nat.le_trans (lqZ (GS.lB HB.out)) hge⟩; have n0_ := Aside0.mk (lqT (GS.lB HB.out) hb); have HM_ := Aside0.mk hm; clear HB hae hb hge hm; have HB := n0_; clear n0_)
          | (at_range; refine wp_range (gm := gm) (n := l0.length) (M := ownP l0 a1) _ rfl rfl rfl HM_.out ?_; intro w4 left0 cnt0 hr0 hl0 hg0 hs0))
        have HZ : Aside0 (w.heap.size ≤ w3.heap.size) := ⟨HB.out.size⟩
        have HB4 := Aside0.mk (below_past HB.out (hg0.but (some w3.heap.size)) HZ.out)
        go_frame
        go_loopg [] cnt0 (fun kq w' => ∃ left cnt, Aside0 (cnt ≤ kq) ∧ Aside0 (HR w' gm w3.heap.size l0.length (ownP l0 a1) left cnt) ∧ Aside0 (∀ x s, ownP l0 a1 x = some s → left (.int .i64 x) = false → ubS a2 a3 s = false) ∧ Aside0 (Below w.heap.size w w'))
        case atStart => exact ⟨left0, cnt0, ⟨Nat.le_refl _⟩, ⟨hr0⟩, ⟨fun x s h1 h2 => by rw [hl0 x, h1] at h2; cases h2⟩, HB4⟩
        case round =>
          clear HB HB4 HM_
          obtain ⟨left, cnt, HK, HR_, HP, HB⟩ := hrel
          go_wp2_with (first | (at_next; refine wp_next (r := w3.heap.size) (gm := gm) (n := l0.length) _ rfl rfl rfl HR_.out ?_ ?_))
          · intro hle
            have HE : Aside0 (ubM l0 a1 a2 a3 = false) := ⟨ubM_false (fun z s hz => HP.out z s hz (hle _))⟩
            go_wp2
            go_ret2
            exact ⟨by rw [HE.out]; rfl, GS.lB HB.out⟩
          · intro x s w5 cnt5 hwx hlx hMx hr5 hlt5 hg5 hs5 hen
            have HB5 := Aside0.mk (below_past HB.out hg5 HZ.out)
            cases hu : ubS a2 a3 s with
            | true =>
              have HE : Aside0 (ubM l0 a1 a2 a3 = true) := ⟨ubM_true hMx hu⟩
              unfold ubS at hu
              simp only [Bool.and_eq_true] at hu
              obtain ⟨hu1, hu2⟩ := hu
              go_wp2
              go_ret2
              exact ⟨by rw [HE.out]; rfl, GS.lB HB5.out⟩
            | false =>
              have HU := Aside0.mk hu
              unfold ubS at hu
              cases gk with
              | zero => exact absurd HK.out (by omega)
              | succ gk =>
                cases hu1 : decide (s.fr ≤ a2) with
                | true =>
                  rw [hu1, Bool.true_and] at hu
                  go_wp2
                  go_roundg gk
                  case measure => omega
                  case rel => exact ⟨_, cnt5, ⟨by have := HK.out; omega⟩, ⟨hr5.kept (World.grownBy_alloc _ _ none) (by simp) (by simp)⟩, ⟨ub_step HP.out hMx HU.out⟩, ⟨GS.lB HB5.out⟩⟩
                | false =>
                  clear hu
                  go_wp2
                  go_roundg gk
                  case measure => omega
                  case rel => exact ⟨_, cnt5, ⟨by have := HK.out; omega⟩, ⟨hr5.kept (World.grownBy_alloc _ _ none) (by simp) (by simp)⟩, ⟨ub_step HP.out hMx HU.out⟩, ⟨GS.lB HB5.out⟩⟩
    · rw [if_neg ha] at h
      simp only [Option.some.injEq, Prod.mk.injEq] at h
      obtain ⟨rfl, rfl⟩ := h
      have HA := Aside0.mk ha
      have cn : (askE l0 a1 [a2, a3] != 0) = true := bne_iff_ne.mpr ha
      clear ha
      go_enter Try.func16, Try.ntmps16
      go_wp2_with (first
        | ((with_reducible show Calls Try.prog 37 _ _ _); refine (asked_calls A0 c0 l0 a1 _ _ [a2, a3] _ (GS.rC (Kd.C_below HR0.out HB.out)) HC0.out HW.out (C_new _ [a2, a3] (by simp) (by unfold maxLen; simp))).mono ?_; rintro e w3 ⟨hae, hb⟩; obtain rfl := hae.bad HA.out; have n0_ := Aside0.mk (lqT (GS.lB HB.out) hb); clear HB hae hb; have HB := n0_; clear n0_))
      go_ret2
      exact ⟨rfl, GS.lB HB.out⟩
  · rw [if_neg hwf] at h
    cases h
end Go.Proofs.Ytfjenooajbdcmaa.K
