/- By hand: rank.Sorted: the numbers in ascending order. -/
import Derived.Test.YtbkoghmbacdiiaaPFault
import Derived.Test.YtbkoghmbacdiiaaGSorted
namespace Go.Proofs.Ytbkoghmbacdiiaa.K
open Go.RowKit Go.Proofs.YtbkoghmbacdiiaaW.PrintWords Go.Proofs.YtbkoghmbacdiiaaW.PrintLast Go.Proofs.YtbkoghmbacdiiaaW.PrintMore
set_option linter.unusedVariables false
set_option linter.unusedSimpArgs false
def rank_Sorted.f (l : List Int) : Option (List Int × Int) := some (if ftE l = 0 then (srt l, 0) else ([], ftE l))
set_option maxHeartbeats 2000000 in
set_option maxRecDepth 100000 in
theorem rank_Sorted.calls (A0 : Option Addr) (c0 : Nat) (l0 : List Int) (r1 : List Int) (r2 : Int) (w : World) (hr0 : Kd.C (Kd.int .i64) w A0 l0.length l0) (hc0 : l0.length ≤ c0) (h : rank_Sorted.f l0 = some (r1, r2)) :
    Calls Try.prog 13 #[.slice A0 l0.length c0] w fun e w' => ∃ v0_ : Value, e = .returned (.tuple #[v0_, .int .i64 r2]) ∧ Kd.R (Kd.int .i64) 3 w' w.heap.size (fun _ => True) v0_ r1 ∧ Below w.heap.size w w' := by
  obtain ⟨k, hk⟩ := (fault_ev l0).one
  have h := Option.some.inj h
  have HK := Aside0.mk hk
  have HR0 := Aside0.mk hr0
  have HC0 := Aside0.mk hc0
  clear hk hr0 hc0
  by_cases hf : ftE l0 = 0
  · have HL : Aside0 (l0.length < 1000000000) := ⟨by have := (ft_ok hf).2.1; omega⟩
    rw [if_pos hf] at h
    rw [hf] at HK
    simp only [Prod.mk.injEq] at h
    obtain ⟨rfl, rfl⟩ := h
    clear hf
    go_enter Try.func13, Try.ntmps13
    go_wp2_with (first
      | ((with_reducible show Calls Try.prog 37 _ _ _); refine (rank_fault.calls k A0 c0 l0 _ _ HR0.out HC0.out HK.out).mono ?_; rintro e w3 ⟨rfl, hb⟩; have HB : Aside0 (Below w.heap.size w w3) := ⟨hb.below⟩; clear hb)
      | ((with_reducible show Calls Try.prog 39 _ _ _); refine ((callsIn_wide (n := 5)).1 (values_in 5 A0 l0.length c0 _)).mono ?_; rintro e w4 ⟨rfl, rfl⟩)
      | ((with_reducible show Calls Try.prog 38 _ _ _); refine (sorted_vals A0 c0 l0 HL.out _ (by first | exact Kd.C_below HR0.out HB.out | exact HR0.out | exact Kd.C_below HR0.out (Drawn0.below HB.out))).mono ?_; rintro e w5 ⟨v, rfl, hro, hb⟩; have HO := Aside0.mk hro; have HB5 := Aside0.mk hb; clear hro hb))
    go_ret2
    exact ⟨_, rfl, by first | exact HO.out | exact Kd.R_lower HO.out (lqZ (GS.lB HB.out)), by first | exact HB5.out | exact lqT (GS.lB HB.out) HB5.out⟩
  · rw [if_neg hf] at h
    simp only [Prod.mk.injEq] at h
    obtain ⟨rfl, rfl⟩ := h
    have cn : (ftE l0 != 0) = true := bne_iff_ne.mpr hf
    clear hf
    go_enter Try.func13, Try.ntmps13
    go_wp2_with (first
      | ((with_reducible show Calls Try.prog 37 _ _ _); refine (rank_fault.calls k A0 c0 l0 _ _ HR0.out HC0.out HK.out).mono ?_; rintro e w3 ⟨rfl, hb⟩; have HB : Aside0 (Below w.heap.size w w3) := ⟨hb.below⟩; clear hb))
    go_ret2
    exact ⟨_, rfl, Kd.R_nil _ _ _ _ _, by first | exact HB.out | exact GS.lB HB.out | exact HB.out.below⟩
end Go.Proofs.Ytbkoghmbacdiiaa.K
