/- By hand: suspect.Trend. -/
import Derived.Test.YtfhmjleimampeaaGOf
import Derived.Test.YtfhmjleimampeaaPOrd
import Derived.Test.YtfhmjleimampeaaPRis
namespace Go.Proofs.Ytfhmjleimampeaa.K
open Go Go.RowKit Go.Maps Go.Proofs.YtfhmjleimampeaaW.PrintWords Go.Proofs.YtfhmjleimampeaaW.PrintLast Go.Proofs.YtfhmjleimampeaaW.PrintMore Go.Proofs.Ytfhmjleimampeaa.GW Go.Proofs.Ytfhmjleimampeaa.RM
set_option linter.unusedVariables false
set_option linter.unusedSimpArgs false
def trendE (l : List S30) (c : Int) : Int × Int × Int :=
  if (chkE l).2 ≠ 0 then (0, 0, 1) else if (grp (kfE 1) l c).length = 0 then (0, 0, 7) else if (grp (kfE 1) l c).length > 20 then (0, 0, 8) else ((ordE ((grp (kfE 1) l c).length : Int) (risesE (grp (kfE 1) l c)).1).1, (ordE ((grp (kfE 1) l c).length : Int) 0).1, 0)
def suspect_Trend.f (l : List S30) (c : Int) : Option (Int × Int × Int) := if (Lit.int .i64 c).wf = true then some (trendE l c) else none
set_option maxHeartbeats 1000000 in
set_option maxRecDepth 100000 in
theorem suspect_Trend.calls (A0 : Option Addr) (c0 : Nat) (l0 : List S30) (a1 : Int) (r1 r2 r3 : Int) (w : World) (hr0 : Kd.C k30 w A0 l0.length l0) (hc0 : l0.length ≤ c0) (h : suspect_Trend.f l0 a1 = some (r1, r2, r3)) :
    Calls Try.prog 23 #[.slice A0 l0.length c0, .int .i64 a1] w fun e w' => e = .returned (.tuple #[.int .i64 r1, .int .i64 r2, .int .i64 r3]) ∧ Below w.heap.size w w' := by
  unfold suspect_Trend.f at h
  by_cases hid : (Lit.int .i64 a1).wf = true
  case neg => rw [if_neg hid] at h; cases h
  rw [if_pos hid] at h
  replace h := Option.some.inj h
  obtain ⟨k, hk⟩ := (right_ev l0).one
  have HK := Aside0.mk hk
  have HR0 := Aside0.mk hr0
  have HC0 := Aside0.mk hc0
  have HID := Aside0.mk hid
  have HB := Aside0.mk (Below.refl w.heap.size w)
  have HV := Aside0.mk (whoV_ok (b := 1) (.inl rfl))
  clear hk hr0 hc0 hid
  unfold trendE at h
  by_cases c0_ : (chkE l0).2 ≠ 0
  · rw [if_pos c0_] at h
    simp only [Prod.mk.injEq] at h
    obtain ⟨rfl, rfl, rfl⟩ := h
    have HK2 : Aside0 (suspect_right.f k l0 = some false) := ⟨by rw [HK.out, beq_eq_false_iff_ne.2 c0_]⟩
    clear c0_ HK
    go_enter Try.func23, Try.ntmps23
    go_wp2_with (first | ((with_reducible show Calls Try.prog 37 _ _ _); refine (suspect_right.calls k A0 c0 l0 _ _ (Kd.C_below HR0.out HB.out) HC0.out HK2.out).mono ?_; rintro e w4 ⟨rfl, hb⟩; have n0_ := Aside0.mk (lqT (GS.lB HB.out) hb); clear HB hb; have HB := n0_; clear n0_))
    go_ret3
    exact ⟨rfl, by first | exact HB.out | exact GS.lB HB.out⟩
  rw [if_neg c0_] at h
  have c0' : (chkE l0).2 = 0 := Decidable.not_not.1 c0_
  have HLN := Aside0.mk (chk_ok c0').1
  have HKW := Aside0.mk (kf_wf c0' 1)
  have HK2 : Aside0 (suspect_right.f k l0 = some true) := ⟨by rw [HK.out, c0']; rfl⟩
  clear c0_ c0' HK
  obtain ⟨own, hown⟩ : ∃ own, own = grp (kfE 1) l0 a1 := ⟨_, rfl⟩
  have HGR : Aside0 (grp (kfE 1) l0 a1 = own) := ⟨hown.symm⟩
  rw [← hown] at h
  clear hown
  by_cases c1 : own.length = 0
  · rw [if_pos c1] at h
    simp only [Prod.mk.injEq] at h
    obtain ⟨rfl, rfl, rfl⟩ := h
    have cz : ((own.length : Int) == 0) = true := by rw [c1]; rfl
    clear c1
    go_enter Try.func23, Try.ntmps23
    go_wp2_with (first | ((with_reducible show Calls Try.prog 37 _ _ _); refine (suspect_right.calls k A0 c0 l0 _ _ (Kd.C_below HR0.out HB.out) HC0.out HK2.out).mono ?_; rintro e w4 ⟨rfl, hb⟩; have n0_ := Aside0.mk (lqT (GS.lB HB.out) hb); clear HB hb; have HB := n0_; clear n0_) | ((with_reducible show Calls Try.prog 36 _ _ _); refine (who36 _ _).mono ?_; rw [HV.out]; rintro e w3 ⟨rfl, rfl⟩) | ((with_reducible show Calls Try.prog 38 _ _ _); refine (groups38 58 (kfE 1) (whoE 1) A0 c0 l0 _ (Kd.C_below HR0.out HB.out) (by have := HLN.out; omega) HKW.out).mono ?_; rintro e w5 ⟨gm, M, rfl, hm, hb⟩; have HM := Aside0.mk hm; have HW4 := Aside0.mk HB.out.size; have n0_ := Aside0.mk (lqT (GS.lB HB.out) hb); clear HB hb hm; have HB := n0_; clear n0_; have hlk := HM.out.map.look HID.out; have hro := (HM.out.rowD a1).toR; rw [HGR.out] at hro; obtain ⟨Ao, co, eo⟩ := Kd.R_slice hro; rw [eo] at hlk hro; have HO := Aside0.mk hro; clear hro eo))
    go_ret3
    exact ⟨rfl, by first | exact HB.out | exact GS.lB HB.out⟩
  rw [if_neg c1] at h
  have cz : ((own.length : Int) == 0) = false := beq_eq_false_iff_ne.2 (by omega)
  by_cases c2 : own.length > 20
  · rw [if_pos c2] at h
    simp only [Prod.mk.injEq] at h
    obtain ⟨rfl, rfl, rfl⟩ := h
    have cg : decide (20 < (own.length : Int)) = true := decide_eq_true (by omega)
    clear c1 c2
    go_enter Try.func23, Try.ntmps23
    go_wp2_with (first | ((with_reducible show Calls Try.prog 37 _ _ _); refine (suspect_right.calls k A0 c0 l0 _ _ (Kd.C_below HR0.out HB.out) HC0.out HK2.out).mono ?_; rintro e w4 ⟨rfl, hb⟩; have n0_ := Aside0.mk (lqT (GS.lB HB.out) hb); clear HB hb; have HB := n0_; clear n0_) | ((with_reducible show Calls Try.prog 36 _ _ _); refine (who36 _ _).mono ?_; rw [HV.out]; rintro e w3 ⟨rfl, rfl⟩) | ((with_reducible show Calls Try.prog 38 _ _ _); refine (groups38 58 (kfE 1) (whoE 1) A0 c0 l0 _ (Kd.C_below HR0.out HB.out) (by have := HLN.out; omega) HKW.out).mono ?_; rintro e w5 ⟨gm, M, rfl, hm, hb⟩; have HM := Aside0.mk hm; have HW4 := Aside0.mk HB.out.size; have n0_ := Aside0.mk (lqT (GS.lB HB.out) hb); clear HB hb hm; have HB := n0_; clear n0_; have hlk := HM.out.map.look HID.out; have hro := (HM.out.rowD a1).toR; rw [HGR.out] at hro; obtain ⟨Ao, co, eo⟩ := Kd.R_slice hro; rw [eo] at hlk hro; have HO := Aside0.mk hro; clear hro eo))
    go_ret3
    exact ⟨rfl, by first | exact HB.out | exact GS.lB HB.out⟩
  rw [if_neg c2] at h
  simp only [Prod.mk.injEq] at h
  obtain ⟨rfl, rfl, rfl⟩ := h
  have cg : decide (20 < (own.length : Int)) = false := decide_eq_false (by omega)
  obtain ⟨k1, hk1⟩ := (rises_ev own).one
  obtain ⟨k2, hk2⟩ := (ord_ev (own.length : Int) (risesE own).1).one
  obtain ⟨k3, hk3⟩ := (ord_ev (own.length : Int) 0).one
  generalize risesE own = z1 at hk1 hk2 ⊢
  generalize ordE (own.length : Int) z1.1 = z2 at hk2 ⊢
  generalize ordE (own.length : Int) 0 = z3 at hk3 ⊢
  obtain ⟨z10, z11⟩ := z1
  obtain ⟨z20, z21⟩ := z2
  obtain ⟨z30, z31⟩ := z3
  have HK3 := Aside0.mk hk1
  have HK4 := Aside0.mk hk2
  have HK5 := Aside0.mk hk3
  clear c1 c2 hk1 hk2 hk3
  go_enter Try.func23, Try.ntmps23
  go_wp2_with (first | ((with_reducible show Calls Try.prog 37 _ _ _); refine (suspect_right.calls k A0 c0 l0 _ _ (Kd.C_below HR0.out HB.out) HC0.out HK2.out).mono ?_; rintro e w4 ⟨rfl, hb⟩; have n0_ := Aside0.mk (lqT (GS.lB HB.out) hb); clear HB hb; have HB := n0_; clear n0_) | ((with_reducible show Calls Try.prog 36 _ _ _); refine (who36 _ _).mono ?_; rw [HV.out]; rintro e w3 ⟨rfl, rfl⟩) | ((with_reducible show Calls Try.prog 38 _ _ _); refine (groups38 58 (kfE 1) (whoE 1) A0 c0 l0 _ (Kd.C_below HR0.out HB.out) (by have := HLN.out; omega) HKW.out).mono ?_; rintro e w5 ⟨gm, M, rfl, hm, hb⟩; have HM := Aside0.mk hm; have HW4 := Aside0.mk HB.out.size; have n0_ := Aside0.mk (lqT (GS.lB HB.out) hb); clear HB hb hm; have HB := n0_; clear n0_; have hlk := HM.out.map.look HID.out; have hro := (HM.out.rowD a1).toR; rw [HGR.out] at hro; obtain ⟨Ao, co, eo⟩ := Kd.R_slice hro; rw [eo] at hlk hro; have HO := Aside0.mk hro; clear hro eo) | ((with_reducible show Calls Try.prog 47 _ _ _); refine (rank_Rises.calls k1 Ao co own _ _ _ ((Kd.R_reads' HO.out).2.2) ((Kd.R_reads' HO.out).2.1) HK3.out).mono ?_; rintro e w6 ⟨rfl, hb⟩; have n0_ := Aside0.mk (lqT (GS.lB HB.out) hb.below); clear HB hb; have HB := n0_; clear n0_) | ((with_reducible show Calls Try.prog 48 _ _ _); with_reducible refine (rank_Orders.calls k2 _ _ _ _ _ HK4.out).mono ?_; rintro e w7 ⟨rfl, hb⟩; have n0_ := Aside0.mk (lqT (GS.lB HB.out) hb); clear HB hb; have HB := n0_; clear n0_) | ((with_reducible show Calls Try.prog 48 _ _ _); with_reducible refine (rank_Orders.calls k3 _ _ _ _ _ HK5.out).mono ?_; rintro e w8 ⟨rfl, hb⟩; have n0_ := Aside0.mk (lqT (GS.lB HB.out) hb); clear HB hb; have HB := n0_; clear n0_))
  go_ret3
  exact ⟨rfl, by first | exact HB.out | exact GS.lB HB.out⟩
end Go.Proofs.Ytfhmjleimampeaa.K
