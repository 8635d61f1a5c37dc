/- By hand: seal.Open: the days of a span on which a place was under no seal. -/
import Derived.Test.YtfjenooajbdcmaaGColl
import Derived.Test.YtfjenooajbdcmaaGUnbroken
import Derived.Test.YtfjenooajbdcmaaGCheck
namespace Go.Proofs.Ytfjenooajbdcmaa.K
open Go Go.RowKit Go.Maps Go.Sort Go.Proofs.YtfjenooajbdcmaaW.PrintWords Go.Proofs.YtfjenooajbdcmaaW.PrintLast Go.Proofs.YtfjenooajbdcmaaW.PrintMore Go.Proofs.Ytfjenooajbdcmaa.GM Go.Proofs.Ytfjenooajbdcmaa.GW
set_option linter.unusedVariables false
def k61 : Kd St := Kd.iso (Kd.pair (Kd.int .i64) (Kd.pair (Kd.int .i64) (Kd.int .i64))) (fun x : St => (x.pl, x.fr, x.tt))
theorem k61_open {w : World} {x : St} {cs : List Value} (h : k61.K w x cs) : cs = [.int .i64 x.pl, .int .i64 x.fr, .int .i64 x.tt] := by
  obtain ⟨_, _, rfl, rfl, ⟨_, _, rfl, rfl, rfl⟩⟩ := h
  exact rfl
theorem k61_mkM (w : World) (base : Nat) (ok : Nat → Prop) (x : St) : k61.M w base ok x [.int .i64 x.pl, .int .i64 x.fr, .int .i64 x.tt] := ⟨[.int .i64 x.pl], [.int .i64 x.fr, .int .i64 x.tt], rfl, rfl, ⟨[.int .i64 x.fr], [.int .i64 x.tt], rfl, rfl, rfl⟩⟩
theorem at_T61 {w : World} {A : Option Addr} {n : Nat} {xs : List St} (h : Kd.C k61 w A n xs) (i : Nat) (h1 : i < xs.length) : ∃ ad , A = some ad ∧ w.cell? (ad.add (i * 3)) = some (.int .i64 xs[i].pl) ∧ w.cell? ⟨(ad.add (i * 3)).block, (ad.add (i * 3)).off + 1, none⟩ = some (.int .i64 xs[i].fr) ∧ w.cell? ⟨(ad.add (i * 3)).block, (ad.add (i * 3)).off + 2, none⟩ = some (.int .i64 xs[i].tt) := by
  obtain ⟨ad, c, e, _, hK, hc0⟩ := Kd.C_get h ⟨0, 0, 0⟩ (i : Int) (by omega) (by have := h.1; omega)
  have hc : ∀ j u, c[j]? = some u → w.cell? (ad.add (i * 3 + j)) = some u := hc0
  obtain rfl := k61_open hK
  have e1 : (xs.getD ((i : Int)).toNat ⟨0, 0, 0⟩) = xs[i] := by simp [h1]
  rw [e1] at hc
  exact ⟨ad, e, hc 0 _ rfl, by rw [← add_field _ _ 1 (by omega)]; exact hc 1 _ rfl, by rw [← add_field _ _ 2 (by omega)]; exact hc 2 _ rfl⟩
theorem take_sts : ∀ (ss : List St) (j : Nat) (p : St), ss[j]? = some p → ((ss.flatMap stC).drop (j * 3)).take 3 = stC p
  | s :: ss, 0, p, h => by simp at h; subst h; simp [List.flatMap_cons, stC]
  | s :: ss, j + 1, p, h => by
    have := take_sts ss j p (by simpa using h)
    rw [List.flatMap_cons, show (j + 1) * 3 = 3 + j * 3 by omega, ← List.drop_drop]
    simpa [stC] using this
theorem R_sts {w : World} {base : Nat} {v : Value} {ss : List St} (ho : w.ownsRow base 61 3 v ss.length (ss.flatMap stC)) : k61.R 61 w base (fun _ => True) v ss := by
  refine ⟨fun _ _ => trivial, ss.flatMap stC, ho, ?_, fun j p hj => ?_⟩
  · rw [stC_len]
    rfl
  · have := take_sts ss j p hj
    show k61.M _ _ _ p (((ss.flatMap stC).drop (j * 3)).take 3)
    rw [this]
    exact k61_mkM _ _ _ _
/-- The number of the k days from d on that p tells nothing of. -/
def opn (p : Int → Bool) : Int → Nat → Int
  | _, 0 => 0
  | d, k + 1 => (if p d = true then 0 else 1) + opn p (d + 1) k
theorem opn_le (p : Int → Bool) : ∀ (k : Nat) (d : Int), 0 ≤ opn p d k ∧ opn p d k ≤ k
  | 0, d => by simp [opn]
  | k + 1, d => by
    have := opn_le p k (d + 1)
    unfold opn
    split <;> omega
def seal_Open.f (l : List S34) (place fr tt : Int) : Option (Int × Int) :=
  if (l.all wf34) = true then (if askE l place [fr, tt] = 0 then (if fr > tt then some (0, 5) else some (opn (fun d => ubM l place d d) fr (tt + 1 - fr).toNat, 0)) else some (0, askE l place [fr, tt])) else none
theorem any_cov {l : List S34} {place d : Int} {ss : List St} (h : ∀ s, s ∈ ss ↔ ∃ x, ownP l place x = some s) : ss.any (ubS d d) = ubM l place d d := by
  cases hc : ss.any (ubS d d) with
  | true =>
    obtain ⟨s, hs, hu⟩ := List.any_eq_true.1 hc
    obtain ⟨x, hx⟩ := (h s).1 hs
    exact (ubM_true hx hu).symm
  | false =>
    refine (ubM_false fun z s hz => ?_).symm
    have := List.any_eq_false.1 hc s ((h s).2 ⟨z, hz⟩)
    simpa using this
theorem ask_days {l : List S34} {place fr tt : Int} (h : askE l place [fr, tt] = 0) : 0 ≤ fr ∧ fr ≤ 100000 ∧ 0 ≤ tt ∧ tt ≤ 100000 := by
  unfold askE at h
  by_cases c : (fol l).2.2 ≠ 0
  · rw [if_pos c] at h
    cases h
  · rw [if_neg c] at h
    by_cases c2 : (decide (place < 1) || (decide (place > 1073741824) || [fr, tt].any badD)) = true
    · rw [if_pos c2] at h
      cases h
    · simp [badD] at c2
      omega
theorem any_take {ss : List St} {p : St → Bool} {i : Nat} (hi : i < ss.length) : (ss.take (i + 1)).any p = ((ss.take i).any p || p ss[i]) := by
  rw [← List.take_append_getElem hi, List.any_append]
  simp
set_option maxHeartbeats 4000000 in
set_option maxRecDepth 100000 in
theorem seal_Open.calls (A0 : Option Addr) (c0 : Nat) (l0 : List S34) (a1 a2 a3 : Int) (r1 r2 : Int) (w : World) (hr0 : Kd.C k34 w A0 l0.length l0) (hc0 : l0.length ≤ c0) (h : seal_Open.f l0 a1 a2 a3 = some (r1, r2)) :
    Calls Try.prog 18 #[.slice A0 l0.length c0, .int .i64 a1, .int .i64 a2, .int .i64 a3] w fun e w' => e = .returned (.tuple #[.int .i64 r1, .int .i64 r2]) ∧ Below w.heap.size w w' := by
  unfold seal_Open.f at h
  have hu61 := Try.underlying61
  have hu69 := Try.underlying69
  by_cases hwf : (l0.all wf34) = true
  · rw [if_pos hwf] at h
    have HR0 := Aside0.mk hr0
    have HC0 := Aside0.mk hc0
    have HW := Aside0.mk (all_wf hwf)
    have HB := Aside0.mk (Below.refl w.heap.size w)
    clear hr0 hc0 hwf
    by_cases ha : askE l0 a1 [a2, a3] = 0
    · rw [if_pos ha] at h
      have HA := Aside0.mk ha
      have HN := Aside0.mk (ask_len ha)
      have HD := Aside0.mk (ask_days ha)
      clear ha
      by_cases hft : a2 > a3
      · rw [if_pos hft] at h
        have cf : decide (a2 > a3) = true := decide_eq_true hft
        simp only [Option.some.injEq, Prod.mk.injEq] at h
        obtain ⟨rfl, rfl⟩ := h
        clear hft
        go_enter Try.func18, Try.ntmps18
        go_wp2_with (first
          | ((with_reducible show Calls Try.prog 37 _ _ _); refine (asked_calls A0 c0 l0 a1 _ _ [a2, a3] _ (GS.rC (Kd.C_below HR0.out HB.out)) HC0.out HW.out (C_new _ [a2, a3] (by simp) (by unfold maxLen; simp))).mono ?_; rintro e w3 ⟨hae, hb⟩; obtain ⟨gm, hge, rfl, hm⟩ := hae.good HA.out; have GM_ : Aside0 (w.heap.size ≤ gm) := ⟨Nat.le_trans (lqZ (GS.lB HB.out)) hge⟩; have n0_ := Aside0.mk (lqT (GS.lB HB.out) hb); have HM_ := Aside0.mk hm; clear HB hae hb hge hm; have HB := n0_; clear n0_))
        go_ret2
        exact ⟨rfl, GS.lB HB.out⟩
      · rw [if_neg hft] at h
        have cf : decide (a2 > a3) = false := decide_eq_false hft
        simp only [Option.some.injEq, Prod.mk.injEq] at h
        obtain ⟨rfl, rfl⟩ := h
        have HFT := Aside0.mk hft
        clear hft
        go_enter Try.func18, Try.ntmps18
        go_wp2_with (first
          | ((with_reducible show Calls Try.prog 37 _ _ _); refine (asked_calls A0 c0 l0 a1 _ _ [a2, a3] _ (GS.rC (Kd.C_below HR0.out HB.out)) HC0.out HW.out (C_new _ [a2, a3] (by simp) (by unfold maxLen; simp))).mono ?_; rintro e w3 ⟨hae, hb⟩; obtain ⟨gm, hge, rfl, hm⟩ := hae.good HA.out; have GM_ : Aside0 (w.heap.size ≤ gm) := ⟨Nat.le_trans (lqZ (GS.lB HB.out)) hge⟩; have n0_ := Aside0.mk (lqT (GS.lB HB.out) hb); have HM_ := Aside0.mk hm; clear HB hae hb hge hm; have HB := n0_; clear n0_)
          | ((with_reducible show Calls Try.prog 49 _ _ _); refine (values_calls _ _).mono ?_; rintro e w4 ⟨rfl, hw4⟩; have HM4 : Aside0 (HM w4 gm l0.length (ownP l0 a1)) := ⟨by rw [hw4]; exact HM_.out.kept (World.grownBy_alloc _ _ none) (by simp)⟩; have HC4 : Aside0 (w4.cell? ⟨w3.heap.size, 0, none⟩ = some (.map (some gm))) := ⟨by rw [hw4]; exact (cell_of_box_a (World.alloc_heap_new w3 _)).1⟩; have HL4 : Aside0 (w3.heap.size < w4.heap.size) := ⟨by rw [hw4]; simp⟩; have n0_ : Aside0 (Below w.heap.size w w4) := ⟨by rw [hw4]; exact GS.lB HB.out⟩; clear HB HM_ hw4; have HB := n0_; clear n0_)
          | ((with_reducible show Calls Try.prog 48 _ _ _); refine (HM4.out.collect (by have := HN.out; omega) HL4.out HC4.out).mono ?_; rintro e w5 ⟨v5, ss, rfl, hmem, hrow, hnil, hlen, hb⟩; have HCV : Aside0 (∀ d, ss.any (ubS d d) = ubM l0 a1 d d) := ⟨fun d => any_cov hmem⟩; have HLN := Aside0.mk hlen; have HO := Aside0.mk (R_sts hrow); have n0_ := Aside0.mk (lqT (HB.out) hb); clear HB HM4 HC4 HL4 hmem hlen hb hrow hnil; have HB := n0_; clear n0_; obtain ⟨Ao, co, eo⟩ := Kd.R_slice HO.out; subst eo; have HCS := Aside0.mk (Kd.R_reads' HO.out).2.2; clear HO))
        clear HC0 HR0 HW
        go_loopg [12, 14] (a3 + 1 - a2).toNat (fun kq v12 v14 w' => ∃ n d : Int, v12 = .int .i64 n ∧ v14 = .int .i64 d ∧ Aside0 ((d + kq : Int) = a3 + 1) ∧ Aside0 (a2 ≤ d) ∧ Aside0 (0 ≤ n ∧ n ≤ d - a2) ∧ Aside0 (opn (fun d => ubM l0 a1 d d) a2 (a3 + 1 - a2).toNat = n + opn (fun d => ubM l0 a1 d d) d kq) ∧ Aside0 (Kd.C k61 w' Ao ss.length ss) ∧ Aside0 (Below w.heap.size w w'))
        case atStart => exact ⟨0, a2, rfl, rfl, ⟨by have := HFT.out; omega⟩, ⟨Int.le_refl _⟩, ⟨by omega⟩, ⟨by simp⟩, HCS, HB⟩
        case round =>
          clear HCS HB
          obtain ⟨n, d, rfl, rfl, HK, HAD, HNN, HT, HCS, HB⟩ := hrel
          cases gk with
          | zero =>
            have cz : decide (d ≤ a3) = false := decide_eq_false (by have := HK.out; omega)
            go_wp2
            go_ret2
            exact ⟨by rw [HT.out]; simp [opn], GS.lB HB.out⟩
          | succ ko =>
            have cz : decide (d ≤ a3) = true := decide_eq_true (by have := HK.out; omega)
            go_wp2
            go_loopg [15, 46] ss.length (fun kq v15 v46 w' => ∃ i : Nat, v46 = .int .i64 (i : Int) ∧ Aside0 (i + kq = ss.length) ∧ v15 = .bool ((ss.take i).any (ubS d d)) ∧ Aside0 (Kd.C k61 w' Ao ss.length ss) ∧ Aside0 (Below w.heap.size w w'))
            case atStart => exact ⟨0, rfl, ⟨by omega⟩, by simp, HCS, HB⟩
            case round =>
              clear HCS HB
              obtain ⟨i, rfl, HI, rfl, HCS, HB⟩ := hrel
              cases gk with
              | zero =>
                have ei : i = ss.length := by have := HI.out; omega
                subst ei
                have cz : decide ((ss.length : Int) < (ss.length : Int)) = false := decide_eq_false (by omega)
                have ht : (ss.take ss.length).any (ubS d d) = ubM l0 a1 d d := by rw [List.take_length]; exact HCV.out d
                have hT := HT.out
                rw [opn] at hT
                have hNN := HNN.out
                have hK := HK.out
                have hDD := HD.out
                have hAD := HAD.out
                have hw : wrap64 (d + 1) = d + 1 := by unfold wrap64; omega
                have HWD := Aside0.mk hw
                cases hcv : ubM l0 a1 d d with
                | true =>
                  rw [hcv] at ht hT
                  rw [ht]
                  have n0_ : Aside0 (opn (fun d => ubM l0 a1 d d) a2 (a3 + 1 - a2).toNat = n + opn (fun d => ubM l0 a1 d d) (d + 1) ko) := ⟨by rw [hT]; simp⟩
                  have n1_ : Aside0 (((d + 1) + ko : Int) = a3 + 1) := ⟨by omega⟩
                  have n2_ : Aside0 (a2 ≤ d + 1) := ⟨by omega⟩
                  have n3_ : Aside0 (0 ≤ n ∧ n ≤ (d + 1) - a2) := ⟨by omega⟩
                  clear ht hT hcv hNN hK hDD hAD hw
                  go_wp2
                  rw [HWD.out]
                  go_roundg ko
                  case measure => omega
                  case rel => exact ⟨n, d + 1, rfl, rfl, n1_, n2_, n3_, n0_, HCS, HB⟩
                | false =>
                  rw [hcv] at ht hT
                  rw [ht]
                  have HWN : Aside0 (wrap64 (n + 1) = n + 1) := ⟨by unfold wrap64; omega⟩
                  have n0_ : Aside0 (opn (fun d => ubM l0 a1 d d) a2 (a3 + 1 - a2).toNat = (n + 1) + opn (fun d => ubM l0 a1 d d) (d + 1) ko) := ⟨by rw [hT]; simp; omega⟩
                  have n1_ : Aside0 (((d + 1) + ko : Int) = a3 + 1) := ⟨by omega⟩
                  have n2_ : Aside0 (a2 ≤ d + 1) := ⟨by omega⟩
                  have n3_ : Aside0 (0 ≤ n + 1 ∧ n + 1 ≤ (d + 1) - a2) := ⟨by omega⟩
                  clear ht hT hcv hNN hK hDD hAD hw
                  go_wp2
                  rw [HWD.out, HWN.out]
                  go_roundg ko
                  case measure => omega
                  case rel => exact ⟨n + 1, d + 1, rfl, rfl, n1_, n2_, n3_, n0_, HCS, HB⟩
              | succ ki =>
                have hi : i < ss.length := by have := HI.out; omega
                have cb2 : decide ((i : Int) < (ss.length : Int)) = true := decide_eq_true (by omega)
                have HW2 : Aside0 (wrap64 ((i : Int) + 1) = ((i + 1 : Nat) : Int)) := ⟨by unfold wrap64; have := HLN.out; have := HN.out; omega⟩
                obtain ⟨ad, eA, x0, x1, x2⟩ := at_T61 HCS.out i hi
                cases eA
                have pj : (0 ≤ (i : Int)) = True := eq_true (by omega)
                have qj : ((i : Int) < (ss.length : Int)) = True := eq_true (by omega)
                obtain ⟨s, hs⟩ : ∃ s, s = ss[i] := ⟨_, rfl⟩
                rw [← hs] at x0 x1 x2
                have HTK : Aside0 ((ss.take (i + 1)).any (ubS d d) = ((ss.take i).any (ubS d d) || (decide (s.fr ≤ d) && decide (s.tt > d)))) := ⟨by rw [any_take hi, ← hs]; rfl⟩
                clear hs
                generalize (ss.take i).any (ubS d d) = cv at HTK ⊢
                have HIN : Aside0 (i + 1 + ki = ss.length) := ⟨by have := HI.out; omega⟩
                clear HI
                cases cv with
                | true =>
                  have HTT : Aside0 ((ss.take (i + 1)).any (ubS d d) = true) := ⟨by rw [HTK.out]; rfl⟩
                  go_wp2
                  rw [HW2.out]
                  go_roundg ki
                  case measure => omega
                  case rel => exact ⟨i + 1, rfl, HIN, by rw [HTT.out], ⟨Kd.C_alloc HCS.out _⟩, ⟨GS.lB HB.out⟩⟩
                | false =>
                  cases hu1 : decide (s.fr ≤ d) with
                  | false =>
                    have HTT : Aside0 ((ss.take (i + 1)).any (ubS d d) = false) := ⟨by rw [HTK.out, hu1]; rfl⟩
                    go_wp2
                    rw [HW2.out]
                    go_roundg ki
                    case measure => omega
                    case rel => exact ⟨i + 1, rfl, HIN, by rw [HTT.out], ⟨Kd.C_alloc HCS.out _⟩, ⟨GS.lB HB.out⟩⟩
                  | true =>
                    cases hu2 : decide (s.tt > d) with
                    | false =>
                      have HTT : Aside0 ((ss.take (i + 1)).any (ubS d d) = false) := ⟨by rw [HTK.out, hu1, hu2]; rfl⟩
                      go_wp2
                      rw [HW2.out]
                      go_roundg ki
                      case measure => omega
                      case rel => exact ⟨i + 1, rfl, HIN, by rw [HTT.out], ⟨Kd.C_alloc HCS.out _⟩, ⟨GS.lB HB.out⟩⟩
                    | true =>
                      have HTT : Aside0 ((ss.take (i + 1)).any (ubS d d) = true) := ⟨by rw [HTK.out, hu1, hu2]; rfl⟩
                      go_wp2
                      rw [HW2.out]
                      go_roundg ki
                      case measure => omega
                      case rel => exact ⟨i + 1, rfl, HIN, by rw [HTT.out], ⟨Kd.C_alloc HCS.out _⟩, ⟨GS.lB HB.out⟩⟩
    · rw [if_neg ha] at h
      simp only [Option.some.injEq, Prod.mk.injEq] at h
      obtain ⟨rfl, rfl⟩ := h
      have HA := Aside0.mk ha
      have cn : (askE l0 a1 [a2, a3] != 0) = true := bne_iff_ne.mpr ha
      clear ha
      go_enter Try.func18, Try.ntmps18
      go_wp2_with (first
        | ((with_reducible show Calls Try.prog 37 _ _ _); refine (asked_calls A0 c0 l0 a1 _ _ [a2, a3] _ (GS.rC (Kd.C_below HR0.out HB.out)) HC0.out HW.out (C_new _ [a2, a3] (by simp) (by unfold maxLen; simp))).mono ?_; rintro e w3 ⟨hae, hb⟩; obtain rfl := hae.bad HA.out; have n0_ := Aside0.mk (lqT (GS.lB HB.out) hb); clear HB hae hb; have HB := n0_; clear n0_))
      go_ret2
      exact ⟨rfl, GS.lB HB.out⟩
  · rw [if_neg hwf] at h
    cases h
#print axioms seal_Open.calls
end Go.Proofs.Ytfjenooajbdcmaa.K
