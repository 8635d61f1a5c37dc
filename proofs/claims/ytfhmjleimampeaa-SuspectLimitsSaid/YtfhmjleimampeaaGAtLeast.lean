/- By hand: rank.AtLeast: how many choices are at least as great, by counts in a map. -/
import Derived.Test.YtfhmjleimampeaaPCount
import Derived.Test.YtfhmjleimampeaaGStat
namespace Go.Proofs.Ytfhmjleimampeaa.K
open Go Go.RowKit Go.Maps Go.Proofs.YtfhmjleimampeaaW.PrintWords Go.Proofs.YtfhmjleimampeaaW.PrintLast Go.Proofs.YtfhmjleimampeaaW.PrintMore Go.Proofs.Ytfhmjleimampeaa.KM Go.Proofs.Ytfhmjleimampeaa.GW
set_option linter.unusedVariables false
set_option linter.unusedSimpArgs false
def rank_AtLeast.f (a b : List Int) : Option (Int × Int × Int) := some (atlE a b)
set_option maxHeartbeats 1000000 in
set_option maxRecDepth 100000 in
theorem rank_AtLeast.calls (A0 : Option Addr) (c0 : Nat) (l0 : List Int) (A1 : Option Addr) (c1 : Nat) (l1 : List Int) (r1 r2 r3 : Int) (w : World) (hr0 : Kd.C (Kd.int .i64) w A0 l0.length l0) (hc0 : l0.length ≤ c0) (hr1 : Kd.C (Kd.int .i64) w A1 l1.length l1) (hc1 : l1.length ≤ c1) (h : rank_AtLeast.f l0 l1 = some (r1, r2, r3)) :
    Calls Try.prog 45 #[.slice A0 l0.length c0, .slice A1 l1.length c1] w fun e w' => e = .returned (.tuple #[.int .i64 r1, .int .i64 r2, .int .i64 r3]) ∧ Below w.heap.size w w' := by
  have h := Option.some.inj h
  unfold atlE at h
  obtain ⟨k2, hk2⟩ := (two_ev l0 l1).one
  have hu55 := Try.underlying80
  have HK2 := Aside0.mk hk2
  have HR0 := Aside0.mk hr0
  have HC0 := Aside0.mk hc0
  have HR1 := Aside0.mk hr1
  have HC1 := Aside0.mk hc1
  clear hk2 hr0 hc0 hr1 hc1
  by_cases hf : twoE l0 l1 = 0
  · rw [if_pos hf] at h
    rw [hf] at HK2
    simp only [Prod.mk.injEq] at h
    obtain ⟨rfl, rfl, rfl⟩ := h
    obtain ⟨hf0, hf1, hlen⟩ := two_ok hf
    have HLP := Aside0.mk (ft_ok hf0).1
    have HLEN := Aside0.mk hlen
    clear hf hf0 hf1
    obtain ⟨al, hal⟩ : ∃ al, al = l0 ++ l1 := ⟨_, rfl⟩
    have HAL : Aside0 (l0 ++ l1 = al) := ⟨hal.symm⟩
    have hall : al.length ≤ 24 := by rw [hal]; simpa using hlen
    rw [← hal]
    obtain ⟨kr, hkr⟩ := (ranks_ev al al (by omega) (by omega)).one
    obtain ⟨R, hR⟩ : ∃ R, R = al.map (rk al) := ⟨_, rfl⟩
    rw [← hR]
    rw [← hR] at hkr
    have hRL : R.length ≤ 24 := by rw [hR]; simpa using hall
    have hRB : ∀ r ∈ R, 0 ≤ r ∧ r ≤ 100 := fun r hr => by
      rw [hR] at hr
      obtain ⟨y, hy, rfl⟩ := List.mem_map.1 hr
      have := rk_bd al y
      omega
    have HKR := Aside0.mk hkr
    have HRL := Aside0.mk hRL
    have HCB := Aside0.mk (cntL_bd R hRB)
    have HRB := Aside0.mk hRB
    clear hal hkr hR hRL hRB hlen
    obtain ⟨P, hP⟩ : ∃ P, P = l0.length := ⟨_, rfl⟩
    have HP := Aside0.mk hP
    have HST : Aside0 (rank_statistic.f l0 l1 = some (statL l0 l1)) := ⟨by unfold rank_statistic.f; rw [if_pos (by have := HLEN.out; omega)]⟩
    have HSB : Aside0 (0 ≤ statL l0 l1) := ⟨by
      unfold statL
      exact (isum_bd 1000 _ (fun x hx => by obtain ⟨y, _, rfl⟩ := List.mem_map.1 hx; have := rk_bd (l0 ++ l1) y; rw [HAL.out] at this ⊢; omega)).1⟩
    obtain ⟨S0, hS0⟩ : ∃ S0, S0 = statL l0 l1 := ⟨_, rfl⟩
    rw [← hS0] at HST HSB
    rw [← hS0]
    clear hS0
    obtain ⟨G, hG⟩ : ∃ G, G = gAll l0.length (cntL R) S0 := ⟨_, rfl⟩
    obtain ⟨W, hW⟩ : ∃ W, W = wAll l0.length (cntL R) := ⟨_, rfl⟩
    rw [← hG, ← hW]
    rw [← hP] at hG hW
    have HGW := Aside0.mk (And.intro hG hW)
    clear hG hW hP h
    have HB := Aside0.mk (Below.refl w.heap.size w)
    go_enter Try.func45, Try.ntmps45
    go_wp2_with (first
      | ((with_reducible show Calls Try.prog 60 _ _ _); refine (rank_two.calls k2 A0 c0 l0 A1 c1 l1 0 _ (Kd.C_below HR0.out HB.out) HC0.out (Kd.C_below HR1.out HB.out) HC1.out HK2.out).mono ?_; rintro e w3 ⟨rfl, hb⟩; have n0_ : Aside0 (Below w.heap.size w w3) := ⟨lqT (GS.lB HB.out) hb.below⟩; clear HB hb; have HB := n0_; clear n0_)
      | ((with_reducible refine gate_dst (N := 28) rfl ?_); refine lit_ev (N := 28) (cs := #[.slice A0 l0.length c0, .slice A1 l1.length c1]) (t := 31) (n := 2) rfl rfl ?_ ?_; (· first | (go_simp; done) | (go_simp; rfl)); intro gL hg w4 hbox hb; have HL1 := Aside0.mk hbox; have n0_ := Aside0.mk (lqT (GS.lB HB.out) hb); clear HB; have HB := n0_; clear n0_ hb hbox hg)
      | ((with_reducible show Calls Try.prog 61 _ _ _); refine (concat2.calls gL A0 A1 c0 c1 l0 l1 _ HL1.out (Kd.C_below HR0.out HB.out) (Kd.C_below HR1.out HB.out) (by have := HLEN.out; omega) (by have := HLEN.out; omega)).mono ?_; rintro e w5 ⟨v5, rfl, hro, hb⟩; rw [HAL.out] at hro; obtain ⟨Ac, cc, ec⟩ := Kd.R_slice hro; subst ec; have HOC := Aside0.mk (Kd.R_reads' hro).2.2; have HOL := Aside0.mk (Kd.R_reads' hro).2.1; have HBA := Aside0.mk (Below.refl w5.heap.size w5); have n0_ := Aside0.mk (lqT (GS.lB HB.out) hb); clear HB hb hro; have HB := n0_; clear n0_)
      | ((with_reducible refine gate_dst (N := 30) rfl ?_); refine map_event rfl (t := 81) rfl ?_; intro g0 hg0 w6 hmap hb; have GM_ : Aside0 (w.heap.size ≤ g0) := ⟨by rw [hg0]; exact (lqZ (GS.lB HB.out))⟩; have GM5 : Aside0 (w5.heap.size ≤ g0) := ⟨by rw [hg0]; exact (lqZ (GS.lB HBA.out))⟩; have HM0 := Aside0.mk (HM.new hmap); have n1_ := Aside0.mk (lqT (GS.lB HBA.out) hb); have n0_ := Aside0.mk (lqT (GS.lB HB.out) hb); clear HB HBA hb hmap hg0; have HB := n0_; have HBA := n1_; clear n0_ n1_)
      | ((with_reducible refine gate_op (N := none) (op := Op.insert 81 (.tmp 30) (.tmp 31) (.const (.int .i64 1))) rfl rfl ?_); refine wp_insert _ _ _ rfl rfl rfl ⟨0, 0⟩ 1 rfl rfl HM0.out (by unfold maxLen; omega) (ok_of (by simp) (by simp)) ?_; intro w7 hm7 hg7; have HM1 := Aside0.mk hm7; have n0_ := Aside0.mk (below_past (GS.lB HB.out) hg7 GM_.out); have n1_ := Aside0.mk (below_past (GS.lB HBA.out) hg7 GM5.out); clear HB HBA HM0 hm7 hg7; have HB := n0_; have HBA := n1_; clear n0_ n1_)
      | ((with_reducible show Calls Try.prog 62 _ _ _); refine (rank_ranks.calls kr Ac cc al Ac cc al R _ (Kd.C_below HOC.out HBA.out) HOL.out (Kd.C_below HOC.out HBA.out) HOL.out HKR.out).mono ?_; rintro e w8 ⟨v8, rfl, hro, hb⟩; obtain ⟨Ar, cr, er⟩ := Kd.R_slice hro; subst er; have HRC := Aside0.mk ((Kd.R_reads' hro).2.2); have GL0 : Aside0 (g0 < w8.heap.size) := ⟨Nat.lt_of_lt_of_le HM1.out.lt hb.size⟩; have n2_ := Aside0.mk (HM1.out.kept (grown_of_below hb none) (by simp)); have n0_ := Aside0.mk (lqT (GS.lB HB.out) hb); clear HB HBA HM1 hb hro; have HB := n0_; have HM1 := n2_; clear n0_ n2_))
    have HBL := Aside0.mk (Below.refl w8.heap.size w8)
    have HZ := Aside0.mk HB.out.size
    have HM2 : Aside0 (HM w8 g0 (2 ^ 0) (mapC P (cntL (R.take 0)))) := ⟨HM1.out.congr (fun k _ => start_map P k)⟩
    clear HM1 HOC HOL GM5 HL1 HKR
    have HBW := HB
    clear HB
    try go_frame
    go_loopg [9, 37] R.length (fun kq v9 v37 w' => ∃ (i gm : Nat), v9 = .map (some gm) ∧ v37 = .int .i64 (i : Int) ∧ Aside0 (i + kq = R.length) ∧ Aside0 (HM w' gm (2 ^ i) (mapC P (cntL (R.take i)))) ∧ Aside0 (Below w8.heap.size w8 w'))
    case atStart => exact ⟨0, g0, rfl, rfl, ⟨by omega⟩, HM2, HBL⟩
    case round =>
      clear HM2 HBL
      obtain ⟨i, gm, rfl, rfl, HI, HM3, HBL⟩ := hrel
      cases gk with
      | zero =>
        have he : i = R.length := by have := HI.out; omega
        subst he
        have cz : decide ((R.length : Int) < (R.length : Int)) = false := decide_eq_false (by omega)
        rw [List.take_length] at HM3
        have HCN := HCB.out R.length (Nat.le_refl _)
        rw [List.take_length] at HCN
        have HCN := Aside0.mk HCN
        generalize cntL R = C at HM3 HCN HGW
        generalize R.length = len at HM3 HCN HRL cz ⊢
        go_wp2_with (first
          | ((with_reducible show Calls Try.prog 63 _ _ _); refine (rank_statistic.calls A0 c0 l0 A1 c1 l1 S0 _ (GS.rC (Kd.C_below HR0.out (lqT HBW.out HBL.out))) HC0.out (GS.rC (Kd.C_below HR1.out (lqT HBW.out HBL.out))) HC1.out HST.out).mono ?_; rintro e w9 ⟨rfl, hb⟩; have n2_ := Aside0.mk (HM3.out.kept (grown_of_below (lqT (GS.lB (Below.refl _ _)) hb) none) (by simp)); have n0_ := Aside0.mk (lqT (GS.lB HBL.out) hb); clear HBL HM3 hb; have HBL := n0_; have HM3 := n2_; clear n0_ n2_)
          | (at_range; refine wp_range (gm := gm) (n := 2 ^ len) (M := mapC P C) _ rfl rfl rfl HM3.out ?_; intro w10 left0 cnt0 hr0 hcn0 hl0 hg0 hs0))
        have HZ9 : Aside0 (w8.heap.size ≤ w9.heap.size) := ⟨HBL.out.size⟩
        have HB10 := Aside0.mk (below_past HBL.out (hg0.but (some w9.heap.size)) HZ9.out)
        have hss := sums_start (P := P) (C := C) (s := S0) hl0 HCN.out HRL.out
        try go_frame
        go_loopg [16, 17] cnt0 (fun kq v16 v17 w' => ∃ left cnt, v16 = .int .i64 (gSum P C S0 left) ∧ v17 = .int .i64 (wSum P C left) ∧ Aside0 (cnt ≤ kq) ∧ Aside0 (HR w' gm w9.heap.size (2 ^ len) (mapC P C) left cnt) ∧ Aside0 (Below w8.heap.size w8 w'))
        case atStart => exact ⟨left0, cnt0, by rw [hss.2], by rw [hss.1], ⟨Nat.le_refl _⟩, ⟨hr0⟩, HB10⟩
        case round =>
          clear HB10 HBL HM3 hss
          obtain ⟨left, cnt, rfl, rfl, HK, HR_, HB⟩ := hrel
          go_wp2_with (first | (at_next; refine wp_next (r := w9.heap.size) (gm := gm) (n := 2 ^ len) _ rfl rfl rfl HR_.out ?_ ?_))
          · intro hle
            have HE := Aside0.mk (sums_end (P := P) (C := C) (s := S0) hle)
            go_wp2
            go_ret3
            exact ⟨by rw [HE.out.1, HE.out.2, HGW.out.1, HGW.out.2]; rfl, GS.lB (lqT HBW.out HB.out)⟩
          · intro ky x w11 cnt11 hok hl hM hr11 hlt11 hg11 hs11 hen
            have HB11 := Aside0.mk (below_past HB.out hg11 HZ9.out)
            have HR11 := Aside0.mk hr11
            have HST2 := Aside0.mk (sums_step (P := P) (C := C) (s := S0) HCN.out HRL.out hok hl hM)
            have HSBD := Aside0.mk (sums_bd (P := P) (C := C) (s := S0) (left := (fun z => left z && !z.sameKey (kyL ky))) HCN.out HRL.out)
            have HLT := Aside0.mk hlt11
            have HGE : Aside0 (w8.heap.size ≤ w11.heap.size) := ⟨HB11.out.size⟩
            have HNE : Aside0 (gm < w11.heap.size ∧ w9.heap.size < w11.heap.size) := ⟨hr11.owns.lt, hr11.rlt⟩
            cases gk with
            | zero => exact absurd HK.out (by omega)
            | succ gk =>
              clear HB HR_ hr11 hg11 hs11 hlt11
              go_upto_region 22 with (first | ((with_reducible refine gqD (N := 18) rfl ?_); refine GS.bx (N := 18) (cs := #[.int .i64 0, .int .i64 0]) (t := 80) ?_; intro g18 hg w12 hbox hb; have B18 := Aside0.mk hbox; have NG : Aside0 (gm ≠ g18 ∧ w9.heap.size ≠ g18 ∧ w8.heap.size ≤ g18) := ⟨by have h1 := HNE.out; have h2 := HGE.out; rw [hg]; omega⟩; have n2_ := Aside0.mk (HR11.out.kept (grown_of_below hb none) (by simp) (by simp)); have n0_ := Aside0.mk (lqT HB11.out hb); clear HB11 HR11; have HB11 := n0_; have HR11 := n2_; clear n0_ n2_ hb hbox hg; obtain ⟨z0, z1, f0, f1⟩ := GS.c2 B18.out))
              have hge18 : Aside0 (w8.heap.size ≤ g18) := ⟨NG.out.2.2⟩
              have n1_ := Aside0.mk (GS.lB HB11.out : Below w8.heap.size w8 ((w12.setCell ⟨g18, 0, none⟩ (.int .i64 ky.pl)).setCell ⟨g18, 1, none⟩ (.int .i64 ky.sm)))
              have n2_ := Aside0.mk (HR11.out.kept (grown_set2 w12 g18 0 1 (.int .i64 ky.pl) (.int .i64 ky.sm)) (by have := NG.out.1; simpa using this) (by have := NG.out.2.1; simpa using this))
              have n3_ : Aside0 (((w12.setCell ⟨g18, 0, none⟩ (.int .i64 ky.pl)).setCell ⟨g18, 1, none⟩ (.int .i64 ky.sm)).heap[g18]? = some (.cells #[.int .i64 ky.pl, .int .i64 ky.sm] 80 (0, 0))) := ⟨GS.bqZ B18.out⟩
              clear HB11 HR11 B18 z0 z1 f0 f1
              generalize ((w12.setCell ⟨g18, 0, none⟩ (.int .i64 ky.pl)).setCell ⟨g18, 1, none⟩ (.int .i64 ky.sm)) = w13 at n1_ n2_ n3_ ⊢
              obtain ⟨z0, z1, f0, f1⟩ := GS.c2 n3_.out
              have HWW : Aside0 (wSum P C (fun z => left z && !z.sameKey (kyL ky)) = wSum P C left + (if ky.pl = (l0.length : Int) then x else 0)) := ⟨by rw [HST2.out.1, HP.out]⟩
              have HGG : Aside0 (gSum P C S0 (fun z => left z && !z.sameKey (kyL ky)) = gSum P C S0 left + (if ky.pl = (l0.length : Int) ∧ ky.sm ≥ S0 then x else 0)) := ⟨by rw [HST2.out.2, HP.out]⟩
              clear HST2
              by_cases hp : ky.pl = (l0.length : Int)
              · have cn : (ky.pl != (l0.length : Int)) = false := by rw [hp]; simp
                have hW : wrap64 (wSum P C left + x) = wSum P C (fun z => left z && !z.sameKey (kyL ky)) := by
                  have h1 := HWW.out
                  rw [if_pos hp] at h1
                  have h2 := HSBD.out
                  unfold wrap64
                  omega
                by_cases hs : ky.sm ≥ S0
                · have cs : decide (ky.sm ≥ S0) = true := decide_eq_true hs
                  have hG : wrap64 (gSum P C S0 left + x) = gSum P C S0 (fun z => left z && !z.sameKey (kyL ky)) := by
                    have h1 := HGG.out
                    rw [if_pos ⟨hp, hs⟩] at h1
                    have h2 := HSBD.out
                    unfold wrap64
                    omega
                  clear hp hs
                  go_wp2
                  go_roundg gk
                  case measure => omega
                  case rel => exact ⟨_, cnt11, by rw [hG], by rw [hW], ⟨by have h1 := HK.out; have h2 := HLT.out; omega⟩, n2_, n1_⟩
                · have cs : decide (ky.sm ≥ S0) = false := decide_eq_false hs
                  have hG : gSum P C S0 left = gSum P C S0 (fun z => left z && !z.sameKey (kyL ky)) := by
                    have h1 := HGG.out
                    rw [if_neg (fun e => hs e.2)] at h1
                    omega
                  clear hp hs
                  go_wp2
                  go_roundg gk
                  case measure => omega
                  case rel => exact ⟨_, cnt11, by rw [hG], by rw [hW], ⟨by have h1 := HK.out; have h2 := HLT.out; omega⟩, n2_, n1_⟩
              · have cn : (ky.pl != (l0.length : Int)) = true := bne_iff_ne.mpr hp
                have hG : gSum P C S0 left = gSum P C S0 (fun z => left z && !z.sameKey (kyL ky)) := by
                  have h1 := HGG.out
                  rw [if_neg (fun e => hp e.1)] at h1
                  omega
                have hW : wSum P C left = wSum P C (fun z => left z && !z.sameKey (kyL ky)) := by
                  have h1 := HWW.out
                  rw [if_neg hp] at h1
                  omega
                clear hp
                go_wp2
                go_roundg gk
                case measure => omega
                case rel => exact ⟨_, cnt11, by rw [hG], by rw [hW], ⟨by have h1 := HK.out; have h2 := HLT.out; omega⟩, n2_, n1_⟩
      | succ go =>
        have hi : i < R.length := by have := HI.out; omega
        have cz : decide ((i : Int) < (R.length : Int)) = true := decide_eq_true (by omega)
        obtain ⟨ad, e1, x0⟩ := Kd.at_int (Kd.C_below HRC.out HBL.out) (i : Int) (by omega) (by omega)
        cases e1
        simp only [Int.toNat_natCast] at x0
        have p2 : (0 ≤ (i : Int)) = True := eq_true (by omega)
        have q2 : ((i : Int) < (R.length : Int)) = True := eq_true (by omega)
        have HCI := Aside0.mk (HCB.out i (by omega))
        obtain ⟨r, hr⟩ : ∃ r, r = rd R (i : Int) := ⟨_, rfl⟩
        have hrR : R[i] = r := by rw [hr, rd, Int.toNat_natCast, List.getD_eq_getElem?_getD, List.getElem?_eq_getElem hi]; rfl
        have HRR : Aside0 (0 ≤ r ∧ r ≤ 100) := ⟨HRB.out r (by rw [← hrR]; exact List.getElem_mem _)⟩
        have HSTEP : Aside0 (cntL (R.take (i + 1)) = stepC r (cntL (R.take i))) := ⟨by rw [← List.take_append_getElem hi, cntL_snoc, hrR]⟩
        rw [← hr] at x0
        have HWI : Aside0 (wrap64 ((i : Int) + 1) = ((i + 1 : Nat) : Int)) := ⟨wrap_up (by have := HRL.out; omega)⟩
        have HI24 : Aside0 (i ≤ 24 ∧ 2 ^ i ≤ 16777216) := ⟨by have h24 : i ≤ 24 := by { have := HRL.out; omega }; exact ⟨h24, by have h := Nat.pow_le_pow_right (show 0 < 2 by omega) h24; have e24 : (2 : Nat) ^ 24 = 16777216 := (by decide); omega⟩⟩
        clear hr hrR hi
        generalize hCC : cntL (R.take i) = C at HM3 HCI HSTEP
        clear hCC
        have HI2 := HI
        clear HI
        go_wp2_with (first
          | ((with_reducible refine gate_dst (N := 41) rfl ?_); refine map_event rfl (t := 81) rfl ?_; intro gn hgn w9 hmap hb; have HN0 := Aside0.mk (HM.new hmap); have GN : Aside0 (w8.heap.size ≤ gn ∧ gm < gn) := ⟨by rw [hgn]; exact ⟨(lqZ (GS.lB HBL.out)), HM3.out.lt⟩⟩; have n2_ := Aside0.mk (HM3.out.kept (grown_of_below hb none) (by simp)); have n0_ := Aside0.mk (lqT (GS.lB HBL.out) hb); clear HBL HM3 hb hgn hmap x0; have HBL := n0_; have HM3 := n2_; clear n0_ n2_)
          | (at_range; refine wp_range (gm := gm) (n := 2 ^ i) (M := mapC P C) _ rfl rfl rfl HM3.out ?_; intro w10 left0 cnt0 hr0 hcn0 hl0 hg0 hs0))
        have GN9 : Aside0 (gn < w9.heap.size) := ⟨HN0.out.lt⟩
        have HZ9 : Aside0 (w8.heap.size ≤ w9.heap.size) := ⟨HBL.out.size⟩
        have HB10 := Aside0.mk (below_past HBL.out (hg0.but (some w9.heap.size)) HZ9.out)
        have HN1 : Aside0 (HM w10 gn (2 * (cnt0 - cnt0)) (nextN P C r left0)) := ⟨((HN0.out.kept hg0 (by simp)).congr (fun k _ => (nextN_start (P := P) (r := r) hl0 HCI.out (by have := HI24.out; omega) k).symm)).mono (by omega)⟩
        have HR10 := Aside0.mk hr0
        have HC0 := Aside0.mk hcn0
        clear HN0 HBL HM3 hg0 hs0 hl0 hr0 hcn0
        try go_frame
        go_loopg [14] cnt0 (fun kq v14 w' => ∃ left cnt, Aside0 (cnt ≤ kq ∧ cnt ≤ cnt0) ∧ Aside0 (HR w' gm w9.heap.size (2 ^ i) (mapC P C) left cnt) ∧ Aside0 (HM w' gn (2 * (cnt0 - cnt)) (nextN P C r left)) ∧ Aside0 (Below w8.heap.size w8 w'))
        case atStart => exact ⟨left0, cnt0, ⟨Nat.le_refl _, Nat.le_refl _⟩, HR10, HN1, HB10⟩
        case round =>
          clear HB10 HR10 HN1
          obtain ⟨left, cnt, HK, HR_, HN, HB⟩ := hrel
          go_wp2_with (first | (at_next; refine wp_next (r := w9.heap.size) (gm := gm) (n := 2 ^ i) _ rfl rfl rfl HR_.out ?_ ?_))
          · intro hle
            have HM5 : Aside0 (HM _ gn (2 ^ (i + 1)) (mapC P (cntL (R.take (i + 1))))) := ⟨(HN.out.congr (fun k _ => by rw [next_end hle, HSTEP.out])).mono (by rw [Nat.pow_succ]; have := HC0.out; omega)⟩
            clear HN
            go_wp2
            go_roundg go
            case measure => omega
            case rel => exact ⟨i + 1, gn, rfl, by rw [HWI.out], ⟨by have := HI2.out; omega⟩, HM5, HB⟩
          · intro ky x w11 cnt11 hok hl hM hr11 hlt11 hg11 hs11 hen
            have HOK := Aside0.mk hok
            have HB11 := Aside0.mk (below_past HB.out hg11 HZ9.out)
            have HR11 := Aside0.mk hr11
            have HNX := Aside0.mk (fun h k => next_step (P := P) (r := r) (left := left) HCI.out HI24.out.1 hok hl hM h HRR.out.1 k)
            have HNY := Aside0.mk (fun h k => next_step0 (P := P) (r := r) (left := left) HCI.out HI24.out.1 hok hl hM h k)
            have HXB := Aside0.mk (And.intro (mapC_ok HCI.out HI24.out.1 hM).2 (mapC_some hM).1)
            have HVB := Aside0.mk (fun k => (show 0 ≤ (nextN P C r left k).getD 0 ∧ (nextN P C r left k).getD 0 ≤ 33554432 by
              rw [nextN_getD HCI.out]
              have h1 := val1_bd (P := P) (left := left) HCI.out k
              have h2 := val2_bd (P := P) (r := r) (left := left) HCI.out k
              have h3 := HI24.out.2
              have h4 : ((2 ^ i : Nat) : Int) = 2 ^ i := by push_cast; rfl
              omega))
            have HXI : Aside0 (0 < x ∧ x ≤ 16777216) := ⟨by
              have h1 := HXB.out
              have h3 := HI24.out.2
              have h4 : ((2 ^ i : Nat) : Int) = 2 ^ i := by push_cast; rfl
              omega⟩
            have hgn11 : (some gn : Option Nat) ≠ some w9.heap.size := by have := GN9.out; intro e; injection e with e; omega
            have HN11 := Aside0.mk (HN.out.kept hg11 hgn11)
            have HLT := Aside0.mk hlt11
            have HGE : Aside0 (w8.heap.size ≤ w11.heap.size) := ⟨HB11.out.size⟩
            have HNE : Aside0 (gm < w11.heap.size ∧ w9.heap.size < w11.heap.size ∧ gn < w11.heap.size) := ⟨hr11.owns.lt, hr11.rlt, HN11.out.lt⟩
            cases gk with
            | zero => exact absurd HK.out (by omega)
            | succ gk =>
              clear HB HR_ HN hr11 hg11 hs11 hlt11 hgn11 hok
              obtain ⟨Mx, hMx⟩ : ∃ Mx, Mx = nextN P C r left := ⟨_, rfl⟩
              rw [← hMx] at HNX HNY HVB HN11
              clear hMx
              obtain ⟨N0, hN0⟩ : ∃ N0, N0 = 2 * (cnt0 - cnt) := ⟨_, rfl⟩
              rw [← hN0] at HN11
              have HNB : Aside0 (N0 ≤ 33554432 ∧ N0 + 2 ≤ 2 * (cnt0 - cnt11)) := ⟨by have h1 := HK.out; have h2 := HLT.out; have h3 := HC0.out; have h4 := HI24.out; omega⟩
              clear hN0
              go_upto_region 13 with (first | ((with_reducible refine gqD (N := 13) rfl ?_); refine GS.bx (N := 13) (cs := #[.int .i64 0, .int .i64 0]) (t := 80) ?_; intro g13 hg w12 hbox hb; have B13 := Aside0.mk hbox; have NG : Aside0 (gm ≠ g13 ∧ w9.heap.size ≠ g13 ∧ gn ≠ g13) := ⟨by have h1 := HNE.out; rw [hg]; omega⟩; have hge13 : Aside0 (w8.heap.size ≤ g13) := ⟨by have h2 := HGE.out; rw [hg]; omega⟩; have n3_ := Aside0.mk (HN11.out.kept (grown_of_below hb none) (by simp)); have n2_ := Aside0.mk (HR11.out.kept (grown_of_below hb none) (by simp) (by simp)); have n0_ := Aside0.mk (lqT HB11.out hb); clear HB11 HR11 HN11; have HB11 := n0_; have HR11 := n2_; have HN11 := n3_; clear n0_ n2_ n3_ hb hbox hg; obtain ⟨z0, z1, f0, f1⟩ := GS.c2 B13.out))
              have n1_ := Aside0.mk (GS.lB HB11.out : Below w8.heap.size w8 ((w12.setCell ⟨g13, 0, none⟩ (.int .i64 ky.pl)).setCell ⟨g13, 1, none⟩ (.int .i64 ky.sm)))
              have n2_ := Aside0.mk (HR11.out.kept (grown_set2 w12 g13 0 1 (.int .i64 ky.pl) (.int .i64 ky.sm)) (by have := NG.out.1; simpa using this) (by have := NG.out.2.1; simpa using this))
              have n4_ := Aside0.mk (HN11.out.kept (grown_set2 w12 g13 0 1 (.int .i64 ky.pl) (.int .i64 ky.sm)) (by have := NG.out.2.2; simpa using this))
              have n3_ : Aside0 (((w12.setCell ⟨g13, 0, none⟩ (.int .i64 ky.pl)).setCell ⟨g13, 1, none⟩ (.int .i64 ky.sm)).heap[g13]? = some (.cells #[.int .i64 ky.pl, .int .i64 ky.sm] 80 (0, 0))) := ⟨GS.bqZ B13.out⟩
              clear HB11 HR11 HN11 B13 z0 z1 f0 f1
              generalize ((w12.setCell ⟨g13, 0, none⟩ (.int .i64 ky.pl)).setCell ⟨g13, 1, none⟩ (.int .i64 ky.sm)) = w13 at n1_ n2_ n3_ n4_ ⊢
              have B13 := n3_
              have HN := n4_
              have HR11 := n2_
              have HB11 := n1_
              clear n1_ n2_ n3_ n4_
              have NG13 : Aside0 (g13 ≠ gn) := ⟨fun e => NG.out.2.2 e.symm⟩
              have NGM : Aside0 (gm ≠ gn ∧ w9.heap.size ≠ gn ∧ w8.heap.size ≤ gn) := ⟨by have h1 := GN.out; have h2 := GN9.out; omega⟩
              obtain ⟨V1, hV1⟩ : ∃ V1, V1 = (Mx ky).getD 0 := ⟨_, rfl⟩
              have HV1 := Aside0.mk hV1
              clear hV1
              refine start_ (n := 8) (S := fun w' => w'.heap[g13]? = some (.cells #[.int .i64 ky.pl, .int .i64 ky.sm] 80 (0, 0)) ∧ (Instr.lookup 81 (.map (some gn)) (.agg #[.int .i64 ky.pl, .int .i64 ky.sm]) false).run Try.prog w' = .ok (.int .i64 V1) w') (ds := [7]) #[false, false, false, false, false, false, false, false] (by kernel_rfl) rfl rfl ⟨bqD B13.out, by have h_ := HN.out.drew.look (k := ⟨ky.pl, ky.sm⟩) HOK.out; rw [← HV1.out] at h_; exact h_⟩ (fun hHeld => ?_)
              refine pure_ (i := 0) (N := some 49) (v := ?_) (a' := ?_) #[true, false, false, false, false, false, false, false] rfl rfl (by kernel_rfl) (fun _ _ _ h => h) (Or.inl ⟨by rfl, ?_⟩) ?_ ?_
              rotate_left
              · intro w'
                go_simp
                with_reducible rfl
              rotate_left
              · simp only [Act.put, List.setIfInBounds_toArray, List.set_cons_zero, List.set_cons_succ, i64_w, i32_w]
                rfl
              refine pure_ (i := 3) (N := some 52) (v := ?_) (a' := ?_) #[true, false, false, true, false, false, false, false] rfl rfl (by kernel_rfl) (fun _ _ _ h => h) (Or.inl ⟨by rfl, ?_⟩) ?_ ?_
              rotate_left
              · intro w'
                go_simp
                with_reducible rfl
              rotate_left
              · simp only [Act.put, List.setIfInBounds_toArray, List.set_cons_zero, List.set_cons_succ, i64_w, i32_w]
                rfl
              refine take_ (i := 1) (N := some 50) (v := ?_) (a' := ?_) #[true, true, false, true, false, false, false, false] rfl rfl (by kernel_rfl) (fun _ _ _ h => h) (Or.inl ⟨by rfl, ?_⟩) hHeld ?_ ?_
              rotate_left
              · rintro w' ⟨s0, s1⟩
                obtain ⟨z0, z1, _, _⟩ := GS.c2 s0
                go_simp
                with_reducible rfl
              rotate_left
              · simp only [Act.put, List.setIfInBounds_toArray, List.set_cons_zero, List.set_cons_succ, i64_w, i32_w]
                rfl
              refine take_ (i := 2) (N := some 51) (v := ?_) (a' := ?_) #[true, true, true, true, false, false, false, false] rfl rfl (by kernel_rfl) (fun _ _ _ h => h) (Or.inl ⟨by rfl, ?_⟩) hHeld ?_ ?_
              rotate_left
              · rintro w' ⟨s0, s1⟩
                obtain ⟨z0, z1, _, _⟩ := GS.c2 s0
                go_simp
                with_reducible rfl
              rotate_left
              · simp only [Act.put, List.setIfInBounds_toArray, List.set_cons_zero, List.set_cons_succ, i64_w, i32_w]
                rfl
              refine pure_ (i := 4) (N := some 53) (v := ?_) (a' := ?_) #[true, true, true, true, true, false, false, false] rfl rfl (by kernel_rfl) (fun _ _ _ h => h) (Or.inl ⟨by rfl, ?_⟩) ?_ ?_
              rotate_left
              · intro w'
                go_simp
                with_reducible rfl
              rotate_left
              · simp only [Act.put, List.setIfInBounds_toArray, List.set_cons_zero, List.set_cons_succ, i64_w, i32_w]
                rfl
              refine one_ (i := 5) (N := some 54) #[true, true, true, true, true, true, false, false] rfl rfl (by kernel_rfl) (by decide) (fun K hK => ?_)
              obtain ⟨v0, st, wE1, hrunE, hgE, hlkE, hstE⟩ := HN.out.drew.entry (by have := HNB.out; unfold maxLen; omega) (k := ⟨ky.pl, ky.sm⟩) HOK.out
              rw [← HV1.out] at hlkE
              have B13e := Aside0.mk (blk_grown (bqD B13.out) hgE (fun e => NG13.out (by injection e with e)))
              have hrunE' : (Instr.mapEntry 81 (.map (some gn)) (.agg #[.int .i64 ky.pl, .int .i64 ky.sm])).run Try.prog _ = _ := hrunE
              have hlkE' : (Instr.lookup 81 (.map (some gn)) (.agg #[.int .i64 ky.pl, .int .i64 ky.sm]) false).run Try.prog _ = _ := hlkE
              refine value_ (w1 := wE1) (v := .tuple #[v0, goInt st]) (by rfl) rfl ?_ ?_
              · exact entry_run rfl (by rfl) (by rfl) hrunE'
              refine hK.out _ _ ⟨B13e.out, hlkE'⟩ (fun hHeld => ?_)
              clear hK K
              refine norm_ (a' := ?_) ?_ ?_
              rotate_left
              · show Act.put _ (some 54) _ = _
                simp only [Act.put, List.setIfInBounds_toArray, List.set_cons_zero, List.set_cons_succ, i64_w, i32_w]
                rfl
              refine pure_ (i := 6) (N := some 55) (v := ?_) (a' := ?_) #[true, true, true, true, true, true, true, false] rfl rfl (by kernel_rfl) (fun _ _ _ h => h) (Or.inl ⟨by rfl, ?_⟩) ?_ ?_
              rotate_left
              · intro w'
                go_simp
                with_reducible rfl
              rotate_left
              · simp only [Act.put, List.setIfInBounds_toArray, List.set_cons_zero, List.set_cons_succ, i64_w, i32_w]
                rfl
              refine last_ (i := 7) (N := none) #[true, true, true, true, true, true, true, true] rfl rfl (by kernel_rfl) (by decide) (fun K hK => ?_)
              obtain ⟨wS1, hrunS, hmS, hgS⟩ := hstE wE1 (wrap64 (V1 + x)) rfl
              refine skip_ (w1 := wS1) (by rfl) rfl ?_ ?_
              · exact entryStore_run rfl (by rfl) (by rfl) (by rfl) hrunS
              refine hK.out _ _ ?_
              clear hK K
              refine done_ (by kernel_rfl) ?_
              have n1_ := Aside0.mk (below_past (below_past (GS.lB HB11.out : Below w8.heap.size w8 w13.drew) hgE NGM.out.2.2) hgS NGM.out.2.2)
              have hd_ : HR w13.drew gm w9.heap.size (2 ^ i) (mapC P C) (fun z => left z && !z.sameKey (kyL ky)) cnt11 := ⟨HR11.out.out⟩
              have n2_ := Aside0.mk ((hd_.kept hgE (by have := NGM.out.1; simpa using this) (by have := NGM.out.2.1; simpa using this)).kept hgS (by have := NGM.out.1; simpa using this) (by have := NGM.out.2.1; simpa using this))
              have n3_ := Aside0.mk (blk_grown B13e.out hgS (fun e => NG13.out (by injection e with e)))
              have hw1 : wrap64 (V1 + x) = (Mx ky).getD 0 + x := by
                have h1 := HVB.out ky
                have h2 := HXI.out
                rw [HV1.out]
                unfold wrap64
                omega
              rw [hw1] at hmS
              have n4_ := Aside0.mk hmS
              clear hw1 hd_ hmS hgS hgE B13e hrunE hrunE' hlkE hlkE' hstE hrunS hHeld HB11 HR11 HN B13
              have HB11 := n1_
              have HR11 := n2_
              have B13 := n3_
              have HN := n4_
              clear n1_ n2_ n3_ n4_
              have HKP : Aside0 (0 ≤ ky.pl ∧ ky.pl ≤ 24 ∧ 0 ≤ ky.sm ∧ ky.sm ≤ 2400) := ⟨by
                have h1 := HXB.out
                have h2 := HI24.out
                omega⟩
              have HK1 : Aside0 (wrap64 (ky.pl + 1) = ky.pl + 1) := ⟨by have := HKP.out; unfold wrap64; omega⟩
              have HK2 : Aside0 (wrap64 (ky.sm + r) = ky.sm + r) := ⟨by have := HKP.out; have := HRR.out; unfold wrap64; omega⟩
              obtain ⟨z0, z1, f0, f1⟩ := GS.c2 B13.out
              by_cases hp : ky.pl < (l0.length : Int)
              · have cp : decide (ky.pl < (l0.length : Int)) = true := decide_eq_true hp
                have HNX2 := Aside0.mk (HNX.out (by rw [HP.out]; exact hp))
                have HOK2 : Aside0 (Ky.ok ⟨wrap64 (ky.pl + 1), wrap64 (ky.sm + r)⟩) := ⟨by rw [HK1.out, HK2.out]; have := HKP.out; have := HRR.out; exact ok_of (by simp; omega) (by simp; omega)⟩
                obtain ⟨My, hMy⟩ : ∃ My, My = mput Mx ky ((Mx ky).getD 0 + x) := ⟨_, rfl⟩
                have HVB2 : Aside0 (0 ≤ (My ⟨wrap64 (ky.pl + 1), wrap64 (ky.sm + r)⟩).getD 0 ∧ (My ⟨wrap64 (ky.pl + 1), wrap64 (ky.sm + r)⟩).getD 0 ≤ 33554432) := ⟨by
                  rw [HK1.out, HK2.out, hMy]
                  have hne : (⟨ky.pl + 1, ky.sm + r⟩ : Ky) ≠ ky := fun e => by
                    have h : ky.pl + 1 = ky.pl := congrArg Ky.pl e
                    omega
                  unfold mput
                  rw [if_neg hne]
                  exact HVB.out _⟩
                rw [← hMy] at HN HNX2
                clear hMy hp
                obtain ⟨V2, hV2⟩ : ∃ V2, V2 = (My ⟨wrap64 (ky.pl + 1), wrap64 (ky.sm + r)⟩).getD 0 := ⟨_, rfl⟩
                have HV2 := Aside0.mk hV2
                clear hV2
                go_upto_region 15 with fail
                clear z0 z1 f0 f1
                refine start_ (n := 15) (S := fun w' => w'.heap[g13]? = some (.cells #[.int .i64 ky.pl, .int .i64 ky.sm] 80 (0, 0)) ∧ (Instr.lookup 81 (.map (some gn)) (.agg #[.int .i64 (wrap64 (ky.pl + 1)), .int .i64 (wrap64 (ky.sm + r))]) false).run Try.prog w' = .ok (.int .i64 V2) w') (ds := [14]) #[false, false, false, false, false, false, false, false, false, false, false, false, false, false, false] (by kernel_rfl) rfl rfl ⟨bqD B13.out, by have h_ := HN.out.drew.look (k := ⟨(wrap64 (ky.pl + 1)), (wrap64 (ky.sm + r))⟩) HOK2.out; rw [← HV2.out] at h_; exact h_⟩ (fun hHeld => ?_)
                refine pure_ (i := 0) (N := some 61) (v := ?_) (a' := ?_) #[true, false, false, false, false, false, false, false, false, false, false, false, false, false, false] rfl rfl (by kernel_rfl) (fun _ _ _ h => h) (Or.inl ⟨by rfl, ?_⟩) ?_ ?_
                rotate_left
                · intro w'
                  go_simp
                  with_reducible rfl
                rotate_left
                · simp only [Act.put, List.setIfInBounds_toArray, List.set_cons_zero, List.set_cons_succ, i64_w, i32_w]
                  rfl
                refine pure_ (i := 1) (N := some 62) (v := ?_) (a' := ?_) #[true, true, false, false, false, false, false, false, false, false, false, false, false, false, false] rfl rfl (by kernel_rfl) (fun _ _ _ h => h) (Or.inl ⟨by rfl, ?_⟩) ?_ ?_
                rotate_left
                · intro w'
                  go_simp
                  with_reducible rfl
                rotate_left
                · simp only [Act.put, List.setIfInBounds_toArray, List.set_cons_zero, List.set_cons_succ, i64_w, i32_w]
                  rfl
                refine pure_ (i := 4) (N := some 65) (v := ?_) (a' := ?_) #[true, true, false, false, true, false, false, false, false, false, false, false, false, false, false] rfl rfl (by kernel_rfl) (fun _ _ _ h => h) (Or.inl ⟨by rfl, ?_⟩) ?_ ?_
                rotate_left
                · intro w'
                  go_simp
                  with_reducible rfl
                rotate_left
                · simp only [Act.put, List.setIfInBounds_toArray, List.set_cons_zero, List.set_cons_succ, i64_w, i32_w]
                  rfl
                refine pure_ (i := 6) (N := some 67) (v := ?_) (a' := ?_) #[true, true, false, false, true, false, true, false, false, false, false, false, false, false, false] rfl rfl (by kernel_rfl) (fun _ _ _ h => h) (Or.inl ⟨by rfl, ?_⟩) ?_ ?_
                rotate_left
                · intro w'
                  go_simp
                  with_reducible rfl
                rotate_left
                · simp only [Act.put, List.setIfInBounds_toArray, List.set_cons_zero, List.set_cons_succ, i64_w, i32_w]
                  rfl
                refine pure_ (i := 10) (N := some 71) (v := ?_) (a' := ?_) #[true, true, false, false, true, false, true, false, false, false, true, false, false, false, false] rfl rfl (by kernel_rfl) (fun _ _ _ h => h) (Or.inl ⟨by rfl, ?_⟩) ?_ ?_
                rotate_left
                · intro w'
                  go_simp
                  with_reducible rfl
                rotate_left
                · simp only [Act.put, List.setIfInBounds_toArray, List.set_cons_zero, List.set_cons_succ, i64_w, i32_w]
                  rfl
                refine take_ (i := 2) (N := some 63) (v := ?_) (a' := ?_) #[true, true, true, false, true, false, true, false, false, false, true, false, false, false, false] rfl rfl (by kernel_rfl) (fun _ _ _ h => h) (Or.inl ⟨by rfl, ?_⟩) hHeld ?_ ?_
                rotate_left
                · rintro w' ⟨s0, s1⟩
                  obtain ⟨z0, z1, _, _⟩ := GS.c2 s0
                  go_simp
                  with_reducible rfl
                rotate_left
                · simp only [Act.put, List.setIfInBounds_toArray, List.set_cons_zero, List.set_cons_succ, i64_w, i32_w]
                  rfl
                refine pure_ (i := 3) (N := some 64) (v := ?_) (a' := ?_) #[true, true, true, true, true, false, true, false, false, false, true, false, false, false, false] rfl rfl (by kernel_rfl) (fun _ _ _ h => h) (Or.inl ⟨by rfl, ?_⟩) ?_ ?_
                rotate_left
                · intro w'
                  go_simp
                  with_reducible rfl
                rotate_left
                · simp only [Act.put, List.setIfInBounds_toArray, List.set_cons_zero, List.set_cons_succ, i64_w, i32_w]
                  rfl
                refine take_ (i := 5) (N := some 66) (v := ?_) (a' := ?_) #[true, true, true, true, true, true, true, false, false, false, true, false, false, false, false] rfl rfl (by kernel_rfl) (fun _ _ _ h => h) (Or.inl ⟨by rfl, ?_⟩) hHeld ?_ ?_
                rotate_left
                · rintro w' ⟨s0, s1⟩
                  obtain ⟨z0, z1, _, _⟩ := GS.c2 s0
                  go_simp
                  with_reducible rfl
                rotate_left
                · simp only [Act.put, List.setIfInBounds_toArray, List.set_cons_zero, List.set_cons_succ, i64_w, i32_w]
                  rfl
                refine pure_ (i := 7) (N := some 68) (v := ?_) (a' := ?_) #[true, true, true, true, true, true, true, true, false, false, true, false, false, false, false] rfl rfl (by kernel_rfl) (fun _ _ _ h => h) (Or.inl ⟨by rfl, ?_⟩) ?_ ?_
                rotate_left
                · intro w'
                  go_simp
                  with_reducible rfl
                rotate_left
                · simp only [Act.put, List.setIfInBounds_toArray, List.set_cons_zero, List.set_cons_succ, i64_w, i32_w]
                  rfl
                refine pure_ (i := 8) (N := some 69) (v := ?_) (a' := ?_) #[true, true, true, true, true, true, true, true, true, false, true, false, false, false, false] rfl rfl (by kernel_rfl) (fun _ _ _ h => h) (Or.inl ⟨by rfl, ?_⟩) ?_ ?_
                rotate_left
                · intro w'
                  go_simp
                  with_reducible rfl
                rotate_left
                · simp only [Act.put, List.setIfInBounds_toArray, List.set_cons_zero, List.set_cons_succ, i64_w, i32_w]
                  rfl
                refine take_ (i := 9) (N := some 70) (v := ?_) (a' := ?_) #[true, true, true, true, true, true, true, true, true, true, true, false, false, false, false] rfl rfl (by kernel_rfl) (fun _ _ _ h => h) (Or.inl ⟨by rfl, ?_⟩) hHeld ?_ ?_
                rotate_left
                · rintro w' ⟨s0, s1⟩
                  obtain ⟨z0, z1, _, _⟩ := GS.c2 s0
                  go_simp
                  with_reducible rfl
                rotate_left
                · simp only [Act.put, List.setIfInBounds_toArray, List.set_cons_zero, List.set_cons_succ, i64_w, i32_w]
                  rfl
                refine pure_ (i := 11) (N := some 72) (v := ?_) (a' := ?_) #[true, true, true, true, true, true, true, true, true, true, true, true, false, false, false] rfl rfl (by kernel_rfl) (fun _ _ _ h => h) (Or.inl ⟨by rfl, ?_⟩) ?_ ?_
                rotate_left
                · intro w'
                  go_simp
                  with_reducible rfl
                rotate_left
                · simp only [Act.put, List.setIfInBounds_toArray, List.set_cons_zero, List.set_cons_succ, i64_w, i32_w]
                  rfl
                refine one_ (i := 12) (N := some 73) #[true, true, true, true, true, true, true, true, true, true, true, true, true, false, false] rfl rfl (by kernel_rfl) (by decide) (fun K hK => ?_)
                obtain ⟨v0, st, wE, hrunE, hgE, hlkE, hstE⟩ := HN.out.drew.entry (by have := HNB.out; unfold maxLen; omega) (k := ⟨(wrap64 (ky.pl + 1)), (wrap64 (ky.sm + r))⟩) HOK2.out
                rw [← HV2.out] at hlkE
                have B13e := Aside0.mk (blk_grown (bqD B13.out) hgE (fun e => NG13.out (by injection e with e)))
                have hrunE' : (Instr.mapEntry 81 (.map (some gn)) (.agg #[.int .i64 (wrap64 (ky.pl + 1)), .int .i64 (wrap64 (ky.sm + r))])).run Try.prog _ = _ := hrunE
                have hlkE' : (Instr.lookup 81 (.map (some gn)) (.agg #[.int .i64 (wrap64 (ky.pl + 1)), .int .i64 (wrap64 (ky.sm + r))]) false).run Try.prog _ = _ := hlkE
                refine value_ (w1 := wE) (v := .tuple #[v0, goInt st]) (by rfl) rfl ?_ ?_
                · exact entry_run rfl (by rfl) (by rfl) hrunE'
                refine hK.out _ _ ⟨B13e.out, hlkE'⟩ (fun hHeld => ?_)
                clear hK K
                refine norm_ (a' := ?_) ?_ ?_
                rotate_left
                · show Act.put _ (some 73) _ = _
                  simp only [Act.put, List.setIfInBounds_toArray, List.set_cons_zero, List.set_cons_succ, i64_w, i32_w]
                  rfl
                refine pure_ (i := 13) (N := some 74) (v := ?_) (a' := ?_) #[true, true, true, true, true, true, true, true, true, true, true, true, true, true, false] rfl rfl (by kernel_rfl) (fun _ _ _ h => h) (Or.inl ⟨by rfl, ?_⟩) ?_ ?_
                rotate_left
                · intro w'
                  go_simp
                  with_reducible rfl
                rotate_left
                · simp only [Act.put, List.setIfInBounds_toArray, List.set_cons_zero, List.set_cons_succ, i64_w, i32_w]
                  rfl
                refine last_ (i := 14) (N := none) #[true, true, true, true, true, true, true, true, true, true, true, true, true, true, true] rfl rfl (by kernel_rfl) (by decide) (fun K hK => ?_)
                obtain ⟨wS, hrunS, hmS, hgS⟩ := hstE wE (wrap64 (V2 + x)) rfl
                refine skip_ (w1 := wS) (by rfl) rfl ?_ ?_
                · exact entryStore_run rfl (by rfl) (by rfl) (by rfl) hrunS
                refine hK.out _ _ ?_
                clear hK K
                refine done_ (by kernel_rfl) ?_
                have n1_ := Aside0.mk (below_past (below_past (GS.lB HB11.out : Below w8.heap.size w8 wS1.drew) hgE NGM.out.2.2) hgS NGM.out.2.2)
                have hd_ : HR wS1.drew gm w9.heap.size (2 ^ i) (mapC P C) (fun z => left z && !z.sameKey (kyL ky)) cnt11 := ⟨HR11.out.out⟩
                have n2_ := Aside0.mk ((hd_.kept hgE (by have := NGM.out.1; simpa using this) (by have := NGM.out.2.1; simpa using this)).kept hgS (by have := NGM.out.1; simpa using this) (by have := NGM.out.2.1; simpa using this))
                have hw1 : wrap64 (V2 + x) = (My ⟨wrap64 (ky.pl + 1), wrap64 (ky.sm + r)⟩).getD 0 + x := by
                  have hwg : ∀ v : Int, 0 ≤ v ∧ v ≤ 33554432 → wrap64 (v + x) = v + x := fun v h1 => by
                    have h2 := HXI.out
                    unfold wrap64
                    omega
                  rw [HV2.out]
                  exact hwg _ HVB2.out
                rw [hw1, HK1.out, HK2.out] at hmS
                have n4_ := Aside0.mk ((hmS.congr (fun k _ => HNX2.out k)).mono (show N0 + 1 + 1 ≤ 2 * (cnt0 - cnt11) from HNB.out.2))
                clear hw1 hd_ hmS hgS hgE B13e hrunE hrunE' hlkE hlkE' hstE hrunS hHeld HB11 HR11 HN B13
                go_wp2
                go_roundg gk
                case measure => omega
                case rel => exact ⟨_, cnt11, ⟨by have h1 := HK.out; have h2 := HLT.out; omega⟩, n2_, n4_, n1_⟩
              · have cp : decide (ky.pl < (l0.length : Int)) = false := decide_eq_false hp
                have HNY2 := Aside0.mk (HNY.out (by rw [HP.out]; exact hp))
                have n4_ := Aside0.mk ((HN.out.congr (fun k _ => HNY2.out k)).mono (show N0 + 1 ≤ 2 * (cnt0 - cnt11) by have := HNB.out.2; omega))
                clear hp HN HNY2
                go_wp2
                go_roundg gk
                case measure => omega
                case rel => exact ⟨_, cnt11, ⟨by have h1 := HK.out; have h2 := HLT.out; omega⟩, HR11, n4_, HB11⟩
  · rw [if_neg hf] at h
    simp only [Prod.mk.injEq] at h
    obtain ⟨rfl, rfl, rfl⟩ := h
    have cn : (twoE l0 l1 != 0) = true := bne_iff_ne.mpr hf
    clear hf
    go_enter Try.func45, Try.ntmps45
    go_wp2_with (first
      | ((with_reducible show Calls Try.prog 60 _ _ _); refine (rank_two.calls k2 A0 c0 l0 A1 c1 l1 _ _ HR0.out HC0.out HR1.out HC1.out HK2.out).mono ?_; rintro e w3 ⟨rfl, hb⟩; have HB : Aside0 (Below w.heap.size w w3) := ⟨hb.below⟩; clear hb))
    go_ret3
    exact ⟨rfl, by first | exact HB.out | exact GS.lB HB.out⟩
end Go.Proofs.Ytfhmjleimampeaa.K
