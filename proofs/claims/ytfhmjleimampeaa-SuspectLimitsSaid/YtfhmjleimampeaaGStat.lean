/- By hand: rank.statistic: the sum of the doubled ranks of some numbers among others. -/
import Derived.Test.YtfhmjleimampeaaPRank
import Derived.Test.YtfhmjleimampeaaGConcat
import Derived.Test.YtfhmjleimampeaaGShort
import Derived.Test.YtfhmjleimampeaaGW
namespace Go.Proofs.Ytfhmjleimampeaa.K
open Go.RowKit Go.Proofs.YtfhmjleimampeaaW.PrintWords Go.Proofs.YtfhmjleimampeaaW.PrintLast Go.Proofs.YtfhmjleimampeaaW.PrintMore
set_option linter.unusedVariables false
set_option linter.unusedSimpArgs false
def rank_statistic.f (a b : List Int) : Option Int := if a.length ≤ 200 ∧ b.length ≤ 200 then some (statL a b) else none
theorem stat_take (R : List Int) (i : Nat) (hi : i < R.length) : isum (R.take (i + 1)) = isum (R.take i) + rd R (i : Int) := by
  have e : rd R (i : Int) = R[i] := by
    unfold rd
    simp [List.getD_eq_getElem?_getD, hi]
  rw [e, ← List.take_append_getElem hi, isum_append]
  simp [isum_cons, isum_nil]
set_option maxHeartbeats 2000000 in
set_option maxRecDepth 100000 in
theorem rank_statistic.calls (A0 : Option Addr) (c0 : Nat) (l0 : List Int) (A1 : Option Addr) (c1 : Nat) (l1 : List Int) (r : Int) (w : World) (hr0 : Kd.C (Kd.int .i64) w A0 l0.length l0) (hc0 : l0.length ≤ c0) (hr1 : Kd.C (Kd.int .i64) w A1 l1.length l1) (hc1 : l1.length ≤ c1) (h : rank_statistic.f l0 l1 = some r) :
    Calls Try.prog 63 #[.slice A0 l0.length c0, .slice A1 l1.length c1] w fun e w' => e = .returned (.int .i64 r) ∧ Below w.heap.size w w' := by
  unfold rank_statistic.f at h
  by_cases hl : l0.length ≤ 200 ∧ l1.length ≤ 200
  · rw [if_pos hl] at h
    obtain rfl := Option.some.inj h
    obtain ⟨k, hk⟩ := (ranks_ev l0 (l0 ++ l1) (by omega) (by simp; omega)).one
    obtain ⟨al, hal⟩ : ∃ al, al = l0 ++ l1 := ⟨_, rfl⟩
    have HAL : Aside0 (l0 ++ l1 = al) := ⟨hal.symm⟩
    obtain ⟨R, hR⟩ : ∃ R, R = l0.map (rk (l0 ++ l1)) := ⟨_, rfl⟩
    have HS : Aside0 (statL l0 l1 = isum R) := ⟨by rw [hR]; rfl⟩
    have HRB : Aside0 (∀ i, 0 ≤ isum (R.take i) ∧ isum (R.take i) ≤ 1000 * 200) := ⟨fun i => by
      have h1 := isum_bd 1000 (R.take i) (fun x hx => by
        rw [hR] at hx
        obtain ⟨y, hy, rfl⟩ := List.mem_map.1 (List.mem_of_mem_take hx)
        have := rk_bd (l0 ++ l1) y
        simp at this
        omega)
      have h2 : (R.take i).length ≤ 200 := by rw [hR]; simp; omega
      omega⟩
    have HRL : Aside0 (R.length ≤ 200) := ⟨by rw [hR]; simp; omega⟩
    rw [← hR, ← hal] at hk
    clear hR hal
    have HK := Aside0.mk hk
    have HL := Aside0.mk hl
    have HR0 := Aside0.mk hr0
    have HC0 := Aside0.mk hc0
    have HR1 := Aside0.mk hr1
    have HC1 := Aside0.mk hc1
    have HB := Aside0.mk (Below.refl w.heap.size w)
    clear hk hr0 hc0 hr1 hc1 hl
    go_enter Try.func63, Try.ntmps63
    go_wp2_with (first
      | ((with_reducible refine GW.gate_op (N := some 11) rfl rfl ?_); refine lit_ev (N := 11) (cs := #[.slice A0 l0.length c0, .slice A1 l1.length c1]) (t := 31) (n := 2) rfl rfl ?_ ?_; (· first | (go_simp; done) | (go_simp; rfl)); intro gL hg w1 hbox hb; have HL1 := Aside0.mk hbox; have n0_ := Aside0.mk (lqT (GS.lB HB.out) hb); clear HB; have HB := n0_; clear n0_ hb hbox hg)
      | ((with_reducible show Calls Try.prog 61 _ _ _); refine (concat2.calls gL A0 A1 c0 c1 l0 l1 _ HL1.out (Kd.C_below HR0.out HB.out) (Kd.C_below HR1.out HB.out) (by have := HL.out; omega) (by have := HL.out; omega)).mono ?_; rintro e w3 ⟨v3, rfl, hro, hb⟩; rw [HAL.out] at hro; obtain ⟨Ac, cc, ec⟩ := Kd.R_slice hro; subst ec; have HO := Aside0.mk hro; have n0_ := Aside0.mk (lqT (GS.lB HB.out) hb); clear HB hb hro; have HB := n0_; clear n0_)
      | ((with_reducible show Calls Try.prog 62 _ _ _); refine (rank_ranks.calls k A0 c0 l0 Ac cc al R _ (Kd.C_below HR0.out HB.out) HC0.out (Kd.R_reads' HO.out).2.2 (Kd.R_reads' HO.out).2.1 HK.out).mono ?_; rintro e w4 ⟨v4, rfl, hro, hb⟩; obtain ⟨Ar, cr, er⟩ := Kd.R_slice hro; subst er; have HO4 := Aside0.mk ((Kd.R_reads' hro).2.2); have n0_ := Aside0.mk (lqT (GS.lB HB.out) hb); clear HB HO hb hro; have HB := n0_; clear n0_))
    go_loopg [5, 15] R.length (fun kq v5 v15 w' => ∃ i : Nat, v5 = .int .i64 (isum (R.take i)) ∧ v15 = .int .i64 (i : Int) ∧ Aside0 (i + kq = R.length) ∧ Aside0 (Kd.C (Kd.int .i64) w' Ar R.length R) ∧ Aside0 (Below w.heap.size w w'))
    case atStart => exact ⟨0, by first | rfl | simp [isum_nil], rfl, ⟨by omega⟩, HO4, HB⟩
    case round =>
      clear HB HO4
      obtain ⟨i, rfl, rfl, HI, HO4, HB⟩ := hrel
      cases gk with
      | zero =>
        have he : i = R.length := by have := HI.out; omega
        subst he
        have cz : decide ((R.length : Int) < (R.length : Int)) = false := decide_eq_false (by omega)
        rw [List.take_length]
        go_wp2
        go_ret
        exact ⟨by rw [HS.out]; rfl, HB.out⟩
      | succ gk =>
        have hi : i < R.length := by have := HI.out; omega
        have cb : decide ((i : Int) < (R.length : Int)) = true := decide_eq_true (by omega)
        obtain ⟨ad, e1, x0⟩ := Kd.at_int HO4.out (i : Int) (by omega) (by omega)
        cases e1
        simp only [Int.toNat_natCast] at x0
        have hst := stat_take R i hi
        have hb1 := HRB.out (i + 1)
        have HW := Aside0.mk (show wrap64 (isum (R.take i) + rd R (i : Int)) = isum (R.take (i + 1)) by rw [← hst]; unfold wrap64; omega)
        have HWI : Aside0 (wrap64 ((i : Int) + 1) = ((i + 1 : Nat) : Int)) := ⟨wrap_up (by have := HRL.out; omega)⟩
        have p2 : (0 ≤ (i : Int)) = True := eq_true (by omega)
        have q2 : ((i : Int) < (R.length : Int)) = True := eq_true (by omega)
        clear hst hb1
        go_wp2
        go_roundg gk
        case measure => omega
        case rel => exact ⟨i + 1, by first | rw [HW.out] | (simp; done), by first | rw [HWI.out] | (simp; done), ⟨by have := HI.out; omega⟩, HO4, HB⟩
  · rw [if_neg hl] at h
    cases h
end Go.Proofs.Ytfhmjleimampeaa.K
