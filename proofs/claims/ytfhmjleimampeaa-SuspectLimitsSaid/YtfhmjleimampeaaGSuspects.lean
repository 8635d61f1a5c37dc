/- By hand: suspect.Suspects. -/
import Derived.Test.YtfhmjleimampeaaGOf
import Derived.Test.YtfhmjleimampeaaGKeys
import Derived.Test.YtfhmjleimampeaaK3
namespace Go.Proofs.Ytfhmjleimampeaa.K
open Go Go.RowKit Go.Maps Go.Proofs.YtfhmjleimampeaaW.PrintWords Go.Proofs.YtfhmjleimampeaaW.PrintLast Go.Proofs.YtfhmjleimampeaaW.PrintMore Go.Proofs.Ytfhmjleimampeaa.GW Go.Proofs.Ytfhmjleimampeaa.RM
set_option linter.unusedVariables false
set_option linter.unusedSimpArgs false
def testE (l : List S30) (b id : Int) : Int × Int × Int :=
  if (ofE l b id).2.2 = 0 then (if (ofE l b id).2.1.length = 0 then (0, 0, 9) else atlE (ofE l b id).1 (ofE l b id).2.1) else (0, 0, (ofE l b id).2.2)
theorem test_some {l : List S30} {b id : Int} (h : (Lit.int .i64 id).wf = true) : suspect_Test.f l b id = some ((testE l b id).1, (testE l b id).2.1, (testE l b id).2.2) := by
  unfold suspect_Test.f suspect_Of.f testE
  rw [if_pos h]
  simp only [Option.bind_some]
  by_cases c : (ofE l b id).2.2 = 0
  · simp only [if_pos c]
    by_cases c2 : (ofE l b id).2.1.length = 0
    · simp only [if_pos c2, if_pos (show ((ofE l b id).2.1.length : Int) = 0 by omega)]
    · simp only [if_neg c2, if_neg (show ¬ ((ofE l b id).2.1.length : Int) = 0 by omega)]
      rfl
  · simp only [if_neg c]
def suspE (l : List S30) (b num den : Int) : List Int × Int :=
  if (chkE l).2 ≠ 0 then ([], 1) else if ¬ (b = 1 ∨ b = 2) ∨ den < 1 ∨ den > 1000000 ∨ num < 0 ∨ num > den then ([], 2) else
    ((keysOf (kfE b) l).filter (fun id => (testE l b id).2.2 == 0 && decide (wrap64 ((testE l b id).1 * den) ≤ wrap64 ((testE l b id).2.1 * num))), 0)
def suspect_Suspects.f (l : List S30) (b num den : Int) : Option (List Int × Int) := some (suspE l b num den)
set_option maxHeartbeats 4000000 in
set_option maxRecDepth 100000 in
theorem suspect_Suspects.calls (A0 : Option Addr) (c0 : Nat) (l0 : List S30) (a1 a2 a3 : Int) (r1 : List Int) (r2 : Int) (w : World) (hr0 : Kd.C k30 w A0 l0.length l0) (hc0 : l0.length ≤ c0) (h : suspect_Suspects.f l0 a1 a2 a3 = some (r1, r2)) :
    Calls Try.prog 25 #[.slice A0 l0.length c0, .int .i64 a1, .int .i64 a2, .int .i64 a3] w fun e w' => ∃ v0_ : Value, e = .returned (.tuple #[v0_, .int .i64 r2]) ∧ Kd.R (Kd.int .i64) 3 w' w.heap.size (fun _ => True) v0_ r1 ∧ Below w.heap.size w w' := by
  replace h := Option.some.inj h
  obtain ⟨k, hk⟩ := (right_ev l0).one
  have hqn := eqN
  have hqf := eqF (gE a1)
  have HK := Aside0.mk hk
  have HR0 := Aside0.mk hr0
  have HC0 := Aside0.mk hc0
  have HB := Aside0.mk (Below.refl w.heap.size w)
  clear hk hr0 hc0
  unfold suspE at h
  by_cases c0_ : (chkE l0).2 ≠ 0
  · rw [if_pos c0_] at h
    simp only [Prod.mk.injEq] at h
    obtain ⟨rfl, rfl⟩ := h
    have HK2 : Aside0 (suspect_right.f k l0 = some false) := ⟨by rw [HK.out, beq_eq_false_iff_ne.2 c0_]⟩
    clear c0_ HK
    go_enter Try.func25, Try.ntmps25
    go_wp2_with (first | ((with_reducible show Calls Try.prog 36 _ _ _); refine (who36 _ _).mono ?_; rintro e w3 ⟨rfl, rfl⟩) | ((with_reducible show Calls Try.prog 37 _ _ _); refine (suspect_right.calls k A0 c0 l0 _ _ (Kd.C_below HR0.out HB.out) HC0.out HK2.out).mono ?_; rintro e w4 ⟨rfl, hb⟩; have n0_ := Aside0.mk (lqT (GS.lB HB.out) hb); clear HB hb; have HB := n0_; clear n0_))
    go_ret2
    exact ⟨_, rfl, Kd.R_nil _ _ _ _ _, by first | exact HB.out | exact GS.lB HB.out⟩
  rw [if_neg c0_] at h
  have c0' : (chkE l0).2 = 0 := Decidable.not_not.1 c0_
  have HLN := Aside0.mk (chk_ok c0').1
  have HKW := Aside0.mk (kf_wf c0' a1)
  have HK2 : Aside0 (suspect_right.f k l0 = some true) := ⟨by rw [HK.out, c0']; rfl⟩
  clear c0_ c0' HK
  by_cases cw : ¬ (a1 = 1 ∨ a1 = 2)
  · rw [if_pos (by first | exact .inl cw | omega)] at h
    simp only [Prod.mk.injEq] at h
    obtain ⟨rfl, rfl⟩ := h
    have HV := Aside0.mk (whoV_bad cw)
    clear cw
    go_enter Try.func25, Try.ntmps25
    go_wp2_with (first | ((with_reducible show Calls Try.prog 36 _ _ _); refine (who36 _ _).mono ?_; rw [HV.out]; rintro e w3 ⟨rfl, rfl⟩) | ((with_reducible show Calls Try.prog 37 _ _ _); refine (suspect_right.calls k A0 c0 l0 _ _ (Kd.C_below HR0.out HB.out) HC0.out HK2.out).mono ?_; rintro e w4 ⟨rfl, hb⟩; have n0_ := Aside0.mk (lqT (GS.lB HB.out) hb); clear HB hb; have HB := n0_; clear n0_))
    go_ret2
    exact ⟨_, rfl, Kd.R_nil _ _ _ _ _, by first | exact HB.out | exact GS.lB HB.out⟩
  replace cw := Decidable.not_not.1 cw
  by_cases d0 : a3 < 1
  · have e0 : decide (a3 < 1) = true := decide_eq_true d0
    rw [if_pos (by first | exact .inl cw | omega)] at h
    simp only [Prod.mk.injEq] at h
    obtain ⟨rfl, rfl⟩ := h
    have HV := Aside0.mk (whoV_ok cw)
    clear cw d0
    go_enter Try.func25, Try.ntmps25
    go_wp2_with (first | ((with_reducible show Calls Try.prog 36 _ _ _); refine (who36 _ _).mono ?_; rw [HV.out]; rintro e w3 ⟨rfl, rfl⟩) | ((with_reducible show Calls Try.prog 37 _ _ _); refine (suspect_right.calls k A0 c0 l0 _ _ (Kd.C_below HR0.out HB.out) HC0.out HK2.out).mono ?_; rintro e w4 ⟨rfl, hb⟩; have n0_ := Aside0.mk (lqT (GS.lB HB.out) hb); clear HB hb; have HB := n0_; clear n0_))
    go_ret2
    exact ⟨_, rfl, Kd.R_nil _ _ _ _ _, by first | exact HB.out | exact GS.lB HB.out⟩
  have e0 : decide (a3 < 1) = false := decide_eq_false d0
  by_cases d1 : a3 > 1000000
  · have e1 : decide (1000000 < a3) = true := decide_eq_true d1
    rw [if_pos (by first | exact .inl cw | omega)] at h
    simp only [Prod.mk.injEq] at h
    obtain ⟨rfl, rfl⟩ := h
    have HV := Aside0.mk (whoV_ok cw)
    clear cw d0 d1
    go_enter Try.func25, Try.ntmps25
    go_wp2_with (first | ((with_reducible show Calls Try.prog 36 _ _ _); refine (who36 _ _).mono ?_; rw [HV.out]; rintro e w3 ⟨rfl, rfl⟩) | ((with_reducible show Calls Try.prog 37 _ _ _); refine (suspect_right.calls k A0 c0 l0 _ _ (Kd.C_below HR0.out HB.out) HC0.out HK2.out).mono ?_; rintro e w4 ⟨rfl, hb⟩; have n0_ := Aside0.mk (lqT (GS.lB HB.out) hb); clear HB hb; have HB := n0_; clear n0_))
    go_ret2
    exact ⟨_, rfl, Kd.R_nil _ _ _ _ _, by first | exact HB.out | exact GS.lB HB.out⟩
  have e1 : decide (1000000 < a3) = false := decide_eq_false d1
  by_cases d2 : a2 < 0
  · have e2 : decide (a2 < 0) = true := decide_eq_true d2
    rw [if_pos (by first | exact .inl cw | omega)] at h
    simp only [Prod.mk.injEq] at h
    obtain ⟨rfl, rfl⟩ := h
    have HV := Aside0.mk (whoV_ok cw)
    clear cw d0 d1 d2
    go_enter Try.func25, Try.ntmps25
    go_wp2_with (first | ((with_reducible show Calls Try.prog 36 _ _ _); refine (who36 _ _).mono ?_; rw [HV.out]; rintro e w3 ⟨rfl, rfl⟩) | ((with_reducible show Calls Try.prog 37 _ _ _); refine (suspect_right.calls k A0 c0 l0 _ _ (Kd.C_below HR0.out HB.out) HC0.out HK2.out).mono ?_; rintro e w4 ⟨rfl, hb⟩; have n0_ := Aside0.mk (lqT (GS.lB HB.out) hb); clear HB hb; have HB := n0_; clear n0_))
    go_ret2
    exact ⟨_, rfl, Kd.R_nil _ _ _ _ _, by first | exact HB.out | exact GS.lB HB.out⟩
  have e2 : decide (a2 < 0) = false := decide_eq_false d2
  by_cases d3 : a2 > a3
  · have e3 : decide (a3 < a2) = true := decide_eq_true d3
    rw [if_pos (by first | exact .inl cw | omega)] at h
    simp only [Prod.mk.injEq] at h
    obtain ⟨rfl, rfl⟩ := h
    have HV := Aside0.mk (whoV_ok cw)
    clear cw d0 d1 d2 d3
    go_enter Try.func25, Try.ntmps25
    go_wp2_with (first | ((with_reducible show Calls Try.prog 36 _ _ _); refine (who36 _ _).mono ?_; rw [HV.out]; rintro e w3 ⟨rfl, rfl⟩) | ((with_reducible show Calls Try.prog 37 _ _ _); refine (suspect_right.calls k A0 c0 l0 _ _ (Kd.C_below HR0.out HB.out) HC0.out HK2.out).mono ?_; rintro e w4 ⟨rfl, hb⟩; have n0_ := Aside0.mk (lqT (GS.lB HB.out) hb); clear HB hb; have HB := n0_; clear n0_))
    go_ret2
    exact ⟨_, rfl, Kd.R_nil _ _ _ _ _, by first | exact HB.out | exact GS.lB HB.out⟩
  have e3 : decide (a3 < a2) = false := decide_eq_false d3
  rw [if_neg (by omega)] at h
  simp only [Prod.mk.injEq] at h
  obtain ⟨rfl, rfl⟩ := h
  clear d0 d1 d2 d3
  have HV := Aside0.mk (whoV_ok cw)
  clear cw
  obtain ⟨ks, hks⟩ : ∃ ks, ks = keysOf (kfE a1) l0 := ⟨_, rfl⟩
  have HKS : Aside0 (keysOf (kfE a1) l0 = ks) := ⟨hks.symm⟩
  have HAS : Aside0 (ks.Pairwise (· < ·)) := ⟨by rw [hks]; exact asc_keysOf _ _⟩
  have HKL : Aside0 (ks.length ≤ 24) := ⟨by have h1 := len_keysOf (kfE a1) l0; have h2 := HLN.out; rw [hks]; omega⟩
  have HKF : Aside0 (∀ x ∈ ks, (Lit.int .i64 x).wf = true) := ⟨fun x hx => by rw [hks] at hx; obtain ⟨y, h1, h2⟩ := (mem_keysOf _ _ _).1 hx; rw [← h2]; exact HKW.out y h1⟩
  obtain ⟨P, hP0⟩ : ∃ P : Int → Bool, P = (fun id => (testE l0 a1 id).2.2 == 0 && decide (wrap64 ((testE l0 a1 id).1 * a3) ≤ wrap64 ((testE l0 a1 id).2.1 * a2))) := ⟨_, rfl⟩
  have HPE := Aside0.mk hP0
  rw [← hks, ← hP0]
  clear hks hP0
  go_enter Try.func25, Try.ntmps25
  go_wp2_with (first | ((with_reducible show Calls Try.prog 36 _ _ _); refine (who36 _ _).mono ?_; rw [HV.out]; rintro e w3 ⟨rfl, rfl⟩) | ((with_reducible show Calls Try.prog 37 _ _ _); refine (suspect_right.calls k A0 c0 l0 _ _ (Kd.C_below HR0.out HB.out) HC0.out HK2.out).mono ?_; rintro e w4 ⟨rfl, hb⟩; have n0_ := Aside0.mk (lqT (GS.lB HB.out) hb); clear HB hb; have HB := n0_; clear n0_) | ((with_reducible show Calls Try.prog 38 _ _ _); refine (groups38 (gE a1) (kfE a1) (whoE a1) A0 c0 l0 _ (Kd.C_below HR0.out HB.out) (by have := HLN.out; omega) HKW.out).mono ?_; rintro e w5 ⟨gm, M, rfl, hm, hb⟩; obtain ⟨D, hD, hP⟩ := RMap_keys hm; have HD := Aside0.mk hD; have HP := Aside0.mk hP; have n0_ := Aside0.mk (lqT (GS.lB HB.out) hb); clear HB hb hm hD hP; have HB := n0_; clear n0_) | (go_at_call 52; refine (Try.keys52 _ _).mono ?_; rintro e W' ⟨rfl, rfl⟩) | (go_at_call 51; refine (Try.sorted51 gm _ D _ _ HD.out (by have := HD.out.size_le; have := HLN.out; unfold maxLen; omega) (by have := HD.out.size_le; have := HLN.out; omega)).mono ?_; rintro e w9 ⟨v9, ss, rfl, hS_, hrow_, hb⟩; have hk9 : Kd.R (Kd.int .i64) 3 w9 w.heap.size (fun _ => True) v9 ks := keys_row HAS.out hS_ (by rw [← HKS.out]; exact HP.out) hrow_ (lqZ (GS.lB HB.out)); have HK9 := Aside0.mk hk9; have n0_ := Aside0.mk (lqT (GS.lB HB.out) hb); clear HB hS_ hrow_ hk9; have HB := n0_; clear n0_ hb; obtain ⟨Ao, co, eo⟩ := Kd.R_slice HK9.out; subst eo))
  have HSZ := Aside0.mk HB.out.size
  have HB0 := HB
  clear HB
  go_loopg [11, 49] ks.length (fun kq v11 v49 w' => ∃ (j : Nat), v49 = .int .i64 (j : Int) ∧ Aside0 (j + kq = ks.length) ∧ Aside0 (Kd.R (Kd.int .i64) 3 w' w9.heap.size (fun _ => True) v11 ((ks.take j).filter P)) ∧ Aside0 (Below w9.heap.size w9 w'))
  case atStart => exact ⟨0, rfl, ⟨by omega⟩, ⟨Kd.R_nil _ _ _ _ _⟩, ⟨GS.lB (Below.refl _ _)⟩⟩
  case round =>
    obtain ⟨j, rfl, HJ, HO, HB⟩ := hrel
    cases gk with
    | zero =>
      have ej : j = ks.length := by have := HJ.out; omega
      subst ej
      have cz2 : decide ((ks.length : Int) < (ks.length : Int)) = false := decide_eq_false (by omega)
      go_wp2
      go_ret2
      refine ⟨_, rfl, ?_, lqT HB0.out HB.out⟩
      have hO := HO.out
      rw [List.take_length] at hO
      exact Kd.R_lower hO HSZ.out
    | succ gk =>
      have q2 : (j : Int) < (ks.length : Int) := by have := HJ.out; omega
      have hj : j < ks.length := by omega
      have cb2 : decide ((j : Int) < (ks.length : Int)) = true := decide_eq_true q2
      have HW2 : Aside0 (wrap64 ((j : Int) + 1) = ((j + 1 : Nat) : Int)) := ⟨by unfold wrap64; have := HKL.out; omega⟩
      obtain ⟨ad, e1, x0⟩ := Kd.at_int (Kd.C_below (Kd.R_reads' HK9.out).2.2 HB.out) (j : Int) (by omega) q2
      cases e1
      obtain ⟨KX, hKX⟩ : ∃ KX, KX = Go.Proofs.YtfhmjleimampeaaW.PrintWords.rd ks (j : Int) := ⟨_, rfl⟩
      have hKX2 : KX = ks[j] := by rw [hKX]; unfold Go.Proofs.YtfhmjleimampeaaW.PrintWords.rd; simp [List.getD_eq_getElem?_getD, hj]
      rw [← hKX] at x0
      simp only [Int.toNat_natCast] at x0
      have HTS : Aside0 ((ks.take (j + 1)).filter P = if P KX = true then (ks.take j).filter P ++ [KX] else (ks.take j).filter P) := ⟨by
        rw [← List.take_append_getElem hj, List.filter_append, ← hKX2]
        cases hp : P KX with
        | true => simp [hp]
        | false => simp [hp]⟩
      have HFL : Aside0 (((ks.take j).filter P).length ≤ 24) := ⟨by have h1 := List.length_filter_le P (ks.take j); have h2 := HKL.out; simp only [List.length_take] at h1; omega⟩
      have HT : Aside0 (suspect_Test.f l0 a1 KX = some ((testE l0 a1 KX).1, (testE l0 a1 KX).2.1, (testE l0 a1 KX).2.2)) := ⟨test_some (HKF.out _ (by rw [hKX2]; exact List.getElem_mem hj))⟩
      have HPX : Aside0 (P KX = ((testE l0 a1 KX).2.2 == 0 && decide (wrap64 ((testE l0 a1 KX).1 * a3) ≤ wrap64 ((testE l0 a1 KX).2.1 * a2)))) := ⟨by rw [HPE.out]⟩
      generalize testE l0 a1 KX = z at HT HPX
      obtain ⟨z0, z1, z2⟩ := z
      have pj : (0 ≤ (j : Int)) = True := eq_true (by omega)
      have qj : ((j : Int) < (ks.length : Int)) = True := eq_true q2
      have cj : decide (j < ks.length) = true := decide_eq_true hj
      clear q2 hj hKX hKX2
      by_cases t0 : z2 = 0
      · have tb : (z2 == 0) = true := beq_iff_eq.2 t0
        by_cases t1 : wrap64 (z0 * a3) ≤ wrap64 (z1 * a2)
        · have td : decide (wrap64 (z0 * a3) ≤ wrap64 (z1 * a2)) = true := decide_eq_true t1
          have HST : Aside0 ((ks.take (j + 1)).filter P = (ks.take j).filter P ++ [KX]) := ⟨by rw [HTS.out, if_pos]; rw [HPX.out]; simp [tb, td]⟩
          clear t0 t1 HTS HPX
          go_wp2_with (first | ((with_reducible show Calls Try.prog 21 _ _ _); refine (suspect_Test.calls A0 c0 l0 a1 KX _ _ _ _ (Kd.C_below (Kd.C_below HR0.out HB0.out) HB.out) HC0.out HT.out).mono ?_; rintro e w12 ⟨rfl, hb⟩; have n0_ := Aside0.mk (lqT (GS.lB HB.out) hb); have n1_ := Aside0.mk (Kd.R_below HO.out hb); clear HB HO hb; have HB := n0_; have HO := n1_; clear n0_ n1_) | ((with_reducible refine gate_builtin (b := .append) (xs := #[.tmp 72, .tmp 74]) rfl ?_); at_builtin; refine Kd.R_append (Kd.int .i64) (w0 := w9) w9.heap.size rfl (.tmp 72) (.tmp 74) 31 3 (.int .i64 0) 8 rfl Try.underlying31 info3 rfl (by decide) (by omega) _ ((ks.take j).filter P) KX [.int .i64 KX] (fun _ => True) (fun _ => False) rfl rfl ?aP (fun _ hk => hk.elim) ?aF ?aO ?aB ?aS ?aL ?_; (case aP => exact rfl); (case aB => exact (GS.lB HB.out)); (case aF => exact (fun _ _ => trivial)); (case aO => exact (GS.rR HO.out)); (case aS => exact (lqZ (GS.lB HB.out))); (case aL => have := HFL.out; omega); intro v13 w13 ho hb hg hat; rw [← HST.out] at ho; have n0_ := Aside0.mk hb; have n1_ := Aside0.mk ho; clear HB HO; have HB := n0_; have HO := n1_; clear n0_ n1_ ho hb hg hat))
          go_roundg gk
          case measure => omega
          case rel => exact ⟨j + 1, by first | rw [HW2.out] | (simp; done), ⟨by have := HJ.out; omega⟩, HO, HB⟩
        · have td : decide (wrap64 (z0 * a3) ≤ wrap64 (z1 * a2)) = false := decide_eq_false t1
          have HST : Aside0 ((ks.take (j + 1)).filter P = (ks.take j).filter P) := ⟨by rw [HTS.out, if_neg]; rw [HPX.out]; simp [tb, td]⟩
          clear t0 t1 HTS HPX
          go_wp2_with (first | ((with_reducible show Calls Try.prog 21 _ _ _); refine (suspect_Test.calls A0 c0 l0 a1 KX _ _ _ _ (Kd.C_below (Kd.C_below HR0.out HB0.out) HB.out) HC0.out HT.out).mono ?_; rintro e w12 ⟨rfl, hb⟩; have n0_ := Aside0.mk (lqT (GS.lB HB.out) hb); have n1_ := Aside0.mk (Kd.R_below HO.out hb); clear HB HO hb; have HB := n0_; have HO := n1_; clear n0_ n1_))
          go_roundg gk
          case measure => omega
          case rel => exact ⟨j + 1, by first | rw [HW2.out] | (simp; done), ⟨by have := HJ.out; omega⟩, ⟨by rw [HST.out]; exact HO.out⟩, HB⟩
      · have tb : (z2 == 0) = false := beq_eq_false_iff_ne.2 t0
        have HST : Aside0 ((ks.take (j + 1)).filter P = (ks.take j).filter P) := ⟨by rw [HTS.out, if_neg]; rw [HPX.out]; simp [tb]⟩
        clear t0 HTS HPX
        go_wp2_with (first | ((with_reducible show Calls Try.prog 21 _ _ _); refine (suspect_Test.calls A0 c0 l0 a1 KX _ _ _ _ (Kd.C_below (Kd.C_below HR0.out HB0.out) HB.out) HC0.out HT.out).mono ?_; rintro e w12 ⟨rfl, hb⟩; have n0_ := Aside0.mk (lqT (GS.lB HB.out) hb); have n1_ := Aside0.mk (Kd.R_below HO.out hb); clear HB HO hb; have HB := n0_; have HO := n1_; clear n0_ n1_))
        go_roundg gk
        case measure => omega
        case rel => exact ⟨j + 1, by first | rw [HW2.out] | (simp; done), ⟨by have := HJ.out; omega⟩, ⟨by rw [HST.out]; exact HO.out⟩, HB⟩
end Go.Proofs.Ytfhmjleimampeaa.K
