/- By hand: slices.Clone copies a slice: its result holds the same structs in memory of its own. -/
import Derived.Test.YtfjenooajbdcmaaK0
import Derived.WalkSpells
import Derived.Test.YtfjenooajbdcmaaGW
import Derived.Deep.RegionLaw
import Derived.Test.YtfjenooajbdcmaaGCheck
namespace Go.Proofs.Ytfjenooajbdcmaa.K
open Go.RowKit Go.Proofs.YtfjenooajbdcmaaW.PrintWords Go.Proofs.YtfjenooajbdcmaaW.PrintLast Go.Proofs.YtfjenooajbdcmaaW.PrintMore
set_option linter.unusedVariables false
set_option linter.unusedSimpArgs false

def clone34.f (l0 : List S34) : Option (List S34) := if l0.length < 4398046511104 then some l0 else none

set_option maxHeartbeats 4000000 in
set_option maxRecDepth 100000 in
theorem clone34.calls (A0 : Option Addr) (c0 : Nat) (l0 : List S34) (r : List S34) (w : World) (hr0 : Kd.C k34 w A0 l0.length l0) (hc0 : l0.length ≤ c0) (h : clone34.f l0 = some r) :
    Calls Try.prog 14 #[.slice A0 l0.length c0] w fun e w' => ∃ v1 : Value, e = .returned v1 ∧ Kd.R k34 34 w' w.heap.size (fun _ => True) v1 r ∧ Below w.heap.size w w' := by
  unfold clone34.f at h
  by_cases hl : l0.length < 4398046511104
  · rw [if_pos hl] at h
    obtain rfl := Option.some.inj h
    clear h
    have HR := Aside0.mk hr0
    have HC := Aside0.mk hc0
    have LM := Aside0.mk hl
    clear hr0 hc0 hl
    have q22 : ∀ (w : World) (a : Option Addr) (n c n' c' : Nat), (binOp .eql 22 (.slice a n c) (.slice none n' c')).run Try.prog w = .ok (.bool a.isNone) w := fun w a n c n' c' => Lib.run_eql_slice_nil w _ _ a n c n' c' Try.underlying22
    cases A0 with
    | none =>
      have h0 : l0 = [] := by
        cases l0 with
        | nil => rfl
        | cons x l => obtain ⟨ad, e, _⟩ := HR.out.2.2 (by simp); cases e
      subst h0
      go_enter Try.func14, Try.ntmps14
      go_wp2
      go_ret
      exact ⟨_, rfl, Kd.R_nil _ _ _ _ _, Below.refl _ _⟩
    | some ad =>
      go_enter Try.func14, Try.ntmps14
      go_wp2_with (first | ((with_reducible refine gate_dst (N := 5) rfl ?_); refine Kd.R_lit k34 _ 34 ?hg (N := 5) ?hd (xs := ([] : List (S34))) (inner := []) (ok := fun _ => True) (okp := fun _ => True) ?hr ?hp (fun _ hk => hk) trivial (Below.refl _ _) (Nat.le_refl _) (by simp) ?_; (case hd => rfl); (case hg => rfl); (case hr => first | (go_simp; done) | (go_simp; rfl)); (case hp => exact (Reps.none _ _)); intro v148 w5 ho6 hb hg_ hnew_; clear hg_ hnew_; have HO := Aside0.mk ho6; have HB := Aside0.mk hb; clear ho6 hb) | ((with_reducible refine gate_builtin (b := .append) (xs := #[.tmp 5, .tmp 6]) rfl ?_); at_builtin; refine Kd.R_append_rows k34 (w0 := w) w.heap.size rfl (.tmp 5) (.tmp 6) 22 34 (.agg #[(.int .i64 0), (.int .i64 0), (.int .i64 0), (.int .i64 0)]) 32 rfl Try.underlying22 info34 rfl (by decide) (by omega) v148 [] l0 _ _ _ (fun _ => True) (fun _ => False) rfl rfl ?aO ?aR (fun _ _ h => h) (fun _ h => h.elim) ?aF ?aB ?aS ?aL ?_; (case aR => exact (Kd.C_below HR.out HB.out)); (case aB => exact HB.out); (case aF => exact (fun _ _ => trivial)); (case aO => exact HO.out); (case aS => exact HB.out.size); (case aL => have := LM.out; simp; omega); intro v151 w9 ho hb hg hat; have HO2 := Aside0.mk ho; have HB2 := Aside0.mk hb; clear ho hb hg hat HO HB))
      go_ret
      exact ⟨_, rfl, by simpa using HO2.out, HB2.out⟩
  · rw [if_neg hl] at h
    cases h


end Go.Proofs.Ytfjenooajbdcmaa.K
namespace Go.Proofs.Ytfjenooajbdcmaa.K
open Go.RowKit Go.Proofs.YtfjenooajbdcmaaW.PrintWords Go.Proofs.YtfjenooajbdcmaaW.PrintLast Go.Proofs.YtfjenooajbdcmaaW.PrintMore Go.Proofs.Ytfjenooajbdcmaa.GW
set_option linter.unusedVariables false
set_option linter.unusedSimpArgs false
def idxF (p : S34 → Bool) (xs : List S34) : Int := match xs.findIdx? p with | some i => (i : Int) | none => -1
theorem rd_get (xs : List S34) (i : Nat) (h : i < xs.length) : rd_T34 xs (i : Int) = xs[i] := by
  unfold rd_T34
  simp [List.getD_eq_getElem?_getD, h]
theorem idxF_none (p : S34 → Bool) (xs : List S34) (h : ∀ t : Int, 0 ≤ t → t < xs.length → p (rd_T34 xs t) = false) : idxF p xs = -1 := by
  have : xs.findIdx? p = none := by
    rw [List.findIdx?_eq_none_iff]
    intro x hx
    obtain ⟨i, hi, rfl⟩ := List.mem_iff_getElem.1 hx
    have := h i (by omega) (by omega)
    rwa [rd_get xs i hi] at this
  simp [idxF, this]
theorem idxF_some (p : S34 → Bool) (xs : List S34) (j : Int) (h0 : 0 ≤ j) (h1 : j < xs.length) (h : ∀ t : Int, 0 ≤ t → t < j → p (rd_T34 xs t) = false) (hp : p (rd_T34 xs j) = true) : idxF p xs = j := by
  obtain ⟨i, rfl⟩ := Int.eq_ofNat_of_zero_le h0
  have hi : i < xs.length := by omega
  rw [rd_get xs i hi] at hp
  have : xs.findIdx? p = some i := by
    rw [List.findIdx?_eq_some_iff_getElem]
    refine ⟨hi, hp, fun t ht => ?_⟩
    have := h t (by omega) (by omega)
    rw [rd_get xs t (by omega)] at this
    simp [this]
  simp [idxF, this]
theorem idxF_cases (p : S34 → Bool) (xs : List S34) : (idxF p xs = -1 ∧ xs.filter (fun x => !p x) = xs) ∨
    ∃ i : Nat, idxF p xs = i ∧ i < xs.length ∧ (xs.take (i + 1)).filter (fun x => !p x) = xs.take i := by
  unfold idxF
  cases h : xs.findIdx? p with
  | none =>
    refine .inl ⟨rfl, ?_⟩
    rw [List.findIdx?_eq_none_iff] at h
    rw [List.filter_eq_self]
    intro x hx
    simp [h x hx]
  | some i =>
    refine .inr ⟨i, rfl, ?_⟩
    rw [List.findIdx?_eq_some_iff_getElem] at h
    obtain ⟨hi, hp, hb⟩ := h
    refine ⟨hi, ?_⟩
    rw [List.take_succ_eq_append_getElem hi, List.filter_append]
    have h1 : (xs.take i).filter (fun x => !p x) = xs.take i := by
      rw [List.filter_eq_self]
      intro x hx
      obtain ⟨t, ht, rfl⟩ := List.mem_iff_getElem.1 hx
      rw [List.getElem_take]
      have ht2 : t < i := by rw [List.length_take] at ht; omega
      have := hb t ht2
      simpa using this
    rw [h1]
    simp [hp]
theorem filt_step_in (p : S34 → Bool) (xs ys : List S34) (i j : Nat) (hl : ys.length = xs.length) (hij : i < j) (hj : j < xs.length) (ht : (xs.take j).filter (fun x => !p x) = ys.take i) (hd : ys.drop j = xs.drop j) (hp : p (rd_T34 ys (j : Int)) = false) :
    (xs.take (j + 1)).filter (fun x => !p x) = (ys.set i (rd_T34 ys (j : Int))).take (i + 1) ∧ (ys.set i (rd_T34 ys (j : Int))).drop (j + 1) = xs.drop (j + 1) := by
  have hjy : j < ys.length := by omega
  have e : ys[j] = xs[j] := by
    have := congrArg (fun l => l[0]?) hd
    simp [List.getElem?_drop, hj, hjy] at this
    exact this
  rw [rd_get ys j hjy] at hp ⊢
  constructor
  · rw [List.take_succ_eq_append_getElem hj, List.filter_append, ht, List.take_succ_eq_append_getElem (by simp; omega)]
    simp [← e, hp, List.take_set_of_le]
  · rw [List.drop_set_of_lt (by omega), ← List.drop_drop, hd, List.drop_drop]
theorem filt_step_out (p : S34 → Bool) (xs ys : List S34) (i j : Nat) (hl : ys.length = xs.length) (hj : j < xs.length) (ht : (xs.take j).filter (fun x => !p x) = ys.take i) (hd : ys.drop j = xs.drop j) (hp : p (rd_T34 ys (j : Int)) = true) :
    (xs.take (j + 1)).filter (fun x => !p x) = ys.take i ∧ ys.drop (j + 1) = xs.drop (j + 1) := by
  have hjy : j < ys.length := by omega
  have e : ys[j] = xs[j] := by
    have := congrArg (fun l => l[0]?) hd
    simp [List.getElem?_drop, hj, hjy] at this
    exact this
  rw [rd_get ys j hjy] at hp
  constructor
  · rw [List.take_succ_eq_append_getElem hj, List.filter_append, ht]
    simp [← e, hp]
  · rw [← List.drop_drop, hd, List.drop_drop]
theorem zv34 (w : World) : (zeroValue 34).run Try.prog w = .ok (.agg #[(.int .i64 0), (.int .i64 0), (.int .i64 0), (.int .i64 0)]) w := by kernel_rfl

set_option maxHeartbeats 4000000 in
set_option maxRecDepth 100000 in
theorem hist56.calls (g : Nat) (num : Int) (x : S34) (w : World) (b : w.heap[g]? = some (.cells #[.int .i64 num] 3 (0, 0))) :
    Calls Try.prog 56 #[.agg #[.int .i64 x.f0, .int .i64 x.f1, .int .i64 x.f2, .int .i64 x.f3], .pointer (some ⟨g, 0, none⟩)] w fun e w' => e = .returned (.bool (x.f2 != num)) ∧ Below w.heap.size w w' := by
  have hu34 := Try.underlying34
  have z0 : w.cell? ⟨g, 0, none⟩ = some (.int .i64 num) := (blk_cell b 0).trans rfl
  have hl := blk_lt b
  clear b
  go_enter Try.func56, Try.ntmps56
  go_wp2
  repeat (go_quiet (fail); try go_wp2)
  go_ret
  exact ⟨rfl, by repeat (first | exact Below.refl _ _ | apply pw_below_drewN | apply below_drew1 | apply below_alloc)⟩

set_option maxHeartbeats 4000000 in
set_option maxRecDepth 100000 in
theorem idx50_56.calls (c1 : Value) (p : S34 → Bool) (A : Option Addr) (c : Nat) (xs : List S34) (w : World) (hr : Kd.C k34 w A xs.length xs)
    (hf : ∀ W x, Below w.heap.size w W → Calls Try.prog 56 #[.agg #[.int .i64 x.f0, .int .i64 x.f1, .int .i64 x.f2, .int .i64 x.f3], c1] W fun e w' => e = .returned (.bool (p x)) ∧ Below W.heap.size W w') :
    Calls Try.prog 50 #[.slice A xs.length c, .func (.func 56) #[] #[c1]] w fun e w' => e = .returned (.int .i64 (idxF p xs)) ∧ Below w.heap.size w w' := by
  have hu34 := Try.underlying34
  have HR := Aside0.mk hr
  have HF := Aside0.mk hf
  have HM : Aside0 (xs.length ≤ 9223372036854775807) := ⟨hr.2.1⟩
  clear hr hf
  go_enter Try.func50, Try.ntmps50
  go_wp2
  go_loopg [8] xs.length (fun kq v8 w' => ∃ j : Int, v8 = .int .i64 j ∧ Aside0 (0 ≤ j ∧ j + kq = xs.length) ∧ Aside0 (∀ t : Int, 0 ≤ t → t < j → p (rd_T34 xs t) = false) ∧ Aside0 (Below w.heap.size w w'))
  case atStart => exact ⟨0, rfl, ⟨by omega, by omega⟩, ⟨fun t h1 h2 => by omega⟩, ⟨Below.refl _ _⟩⟩
  case round =>
    obtain ⟨j, rfl, HJ, HP, HB⟩ := hrel
    cases gk with
    | zero =>
      have cz : decide (j < (xs.length : Int)) = false := decide_eq_false (by have := HJ.out; omega)
      go_wp2
      go_ret
      exact ⟨by rw [idxF_none p xs (fun t h1 h2 => HP.out t h1 (by have := HJ.out; omega))]; rfl, HB.out⟩
    | succ gk =>
      have q1 : j < (xs.length : Int) := by have := HJ.out; omega
      have p1 : 0 ≤ j := HJ.out.1
      have cb1 : decide (j < (xs.length : Int)) = true := decide_eq_true q1
      have Q := Aside0.mk q1
      have hw : wrap64 (j + 1) = j + 1 := by unfold wrap64; have := HM.out; omega
      have HW := Aside0.mk hw
      clear hw
      obtain ⟨ad, e1, x0, x1, x2, x3⟩ := at_T34 (Kd.C_below HR.out HB.out) j p1 q1
      cases e1
      replace p1 := eq_true p1
      replace q1 := eq_true q1
      cases cp : p (rd_T34 xs j) with
      | true =>
        have CP := Aside0.mk cp
        clear cp
        go_wp2_with fail
        refine (HF.out _ (rd_T34 xs j) (by repeat (first | exact HB.out | apply pw_below_drewN | apply below_drew1))).mono ?_
        rw [CP.out]
        rintro e w7 ⟨rfl, hb⟩
        have HB2 := Aside0.mk (below_step (by repeat (first | exact HB.out | apply pw_below_drewN | apply below_drew1)) hb)
        clear hb
        go_wp2
        go_ret
        exact ⟨by rw [idxF_some p xs j HJ.out.1 Q.out HP.out CP.out]; rfl, HB2.out⟩
      | false =>
        have CP := Aside0.mk cp
        clear cp
        go_wp2_with fail
        refine (HF.out _ (rd_T34 xs j) (by repeat (first | exact HB.out | apply pw_below_drewN | apply below_drew1))).mono ?_
        rw [CP.out]
        rintro e w7 ⟨rfl, hb⟩
        have HB2 := Aside0.mk (below_step (by repeat (first | exact HB.out | apply pw_below_drewN | apply below_drew1)) hb)
        clear hb
        go_wp2
        go_roundg gk
        case measure => omega
        case rel => exact ⟨wrap64 (j + 1), rfl, ⟨by rw [HW.out]; have := HJ.out; omega⟩, ⟨by rw [HW.out]; intro t h1 h2; by_cases h3 : t = j; (· rw [h3]; exact CP.out); exact HP.out t h1 (by omega)⟩, HB2⟩

set_option maxHeartbeats 8000000 in
set_option maxRecDepth 100000 in
theorem delf55_56.calls (c1 : Value) (p : S34 → Bool) (A : Option Addr) (c : Nat) (xs : List S34) (base : Nat) (ok : Nat → Prop) (w : World) (HO0 : Kd.R k34 34 w base ok (.slice A xs.length c) xs)
    (hf : ∀ W x, w.grownBy W (Value.slice A xs.length c).ownBlock → Calls Try.prog 56 #[.agg #[.int .i64 x.f0, .int .i64 x.f1, .int .i64 x.f2, .int .i64 x.f3], c1] W fun e w' => e = .returned (.bool (p x)) ∧ Below W.heap.size W w') :
    Calls Try.prog 55 #[.slice A xs.length c, .func (.func 56) #[] #[c1]] w fun e w' => ∃ v', e = .returned v' ∧ Kd.R k34 34 w' base ok v' (xs.filter (fun x => !p x)) ∧ w.grownBy w' (Value.slice A xs.length c).ownBlock := by
  have hu34 := Try.underlying34
  have HO := Aside0.mk HO0
  have HF := Aside0.mk hf
  have HM : Aside0 (xs.length ≤ 9223372036854775807) := ⟨(Kd.R_reads' HO0).2.2.2.1⟩
  clear HO0 hf
  rcases idxF_cases p xs with ⟨h1, h2⟩ | ⟨i0, h1, h2, h3⟩
  · have H2 := Aside0.mk h2
    have h1' : idxF p xs = -1 := h1
    clear h2 h1
    have HI := Aside0.mk h1'
    clear h1'
    go_enter Try.func55, Try.ntmps55
    go_wp2_with (go_at_call 50; refine (idx50_56.calls c1 p A c xs _ (Kd.R_reads' HO.out).2.2 (fun W x hb => HF.out W x (grown_of_below hb _))).mono ?_; rw [HI.out]; rintro e w2 ⟨rfl, hb⟩; have HB := Aside0.mk hb; clear hb)
    go_ret
    exact ⟨_, rfl, by rw [H2.out]; exact Kd.R_below HO.out HB.out, grown_of_below HB.out _⟩
  · obtain ⟨g, cp, hv, hg1, hg2, cl, hcl⟩ := Kd.R_form HO.out (by omega)
    injection hv with hA _ hc
    subst hA
    subst hc
    have G1 := Aside0.mk hg1
    have HI := Aside0.mk h1
    have H2 := Aside0.mk h2
    have H3 := Aside0.mk h3
    have hn1 : ((i0 : Int) == -1) = false := by first | (simp; done) | (simp; omega)
    have hw0 : wrap64 ((i0 : Int) + 1) = (i0 : Int) + 1 := by unfold wrap64; have := HM.out; omega
    have HW0 := Aside0.mk hw0
    clear hg1 hg2 hcl h1 h2 h3 hw0
    go_enter Try.func55, Try.ntmps55
    go_wp2_with (go_at_call 50; refine (idx50_56.calls c1 p _ c xs _ (Kd.R_reads' HO.out).2.2 (fun W x hb => HF.out W x (grown_of_below hb _))).mono ?_; rw [HI.out]; rintro e w2 ⟨rfl, hb⟩; have HB := Aside0.mk hb; clear hb)
    go_loopg [5, 6] (xs.length - (i0 + 1)) (fun kq v5 v6 w' => ∃ (i j : Nat) (ys : List S34), v5 = .int .i64 i ∧ v6 = .int .i64 j ∧ Aside0 (i < j ∧ j + kq = xs.length) ∧ Aside0 (ys.length = xs.length ∧ (xs.take j).filter (fun x => !p x) = ys.take i ∧ ys.drop j = xs.drop j) ∧ Aside0 (Kd.R k34 34 w' base ok (.slice (some ⟨g, 0, none⟩) xs.length c) ys) ∧ Aside0 (w.grownBy w' (some g)))
    case atStart => exact ⟨i0, i0 + 1, xs, rfl, by first | rfl | (simp; done) | (rw [HW0.out]; rfl), ⟨by have := H2.out; omega⟩, ⟨rfl, H3.out, rfl⟩, ⟨Kd.R_below HO.out HB.out⟩, ⟨grown_of_below HB.out _⟩⟩
    case round =>
      clear HI H2 H3 HW0 HO HB
      obtain ⟨i, j, ys, rfl, rfl, HJ, HY, HO, HG⟩ := hrel
      have hnc : xs.length ≤ c := (Kd.R_reads' HO.out).2.1
      have t22 := Try.underlying22
      cases gk with
      | zero =>
        have s1 := fun W => sl_l t22 (size_of_info info34) (some ⟨g, 0, none⟩) xs.length c i (by have := HJ.out; omega) W
        have s2 := fun W => sl_h t22 (size_of_info info34) (some ⟨g, 0, none⟩) xs.length c i (by have := HJ.out; omega) W
        rw [if_neg (show ¬ (c = i) by have := HJ.out; omega), Option.map_some, show (⟨g, 0, none⟩ : Addr).add (i * 4) = ⟨g, 0 + i * 4, none⟩ from add_at _ _ _] at s1
        obtain ⟨w3, hcl, hR, hg⟩ := clear_run k34 t22 zv34 rfl (by decide) (m := xs.length - i) (Kd.R_take HO.out (m := i) (by have := HJ.out; have := HY.out.1; omega)) (by have := HJ.out; omega) (by have := HJ.out; omega)
        simp only [Nat.zero_add, show k34.sz = 4 from rfl] at hcl s1
        have HR2 := Aside0.mk hR
        have HG2 := Aside0.mk (World.grownBy.trans HG.out hg)
        have cz : decide ((j : Int) < (xs.length : Int)) = false := decide_eq_false (by have := HJ.out; omega)
        have cz2 : decide (j < xs.length) = false := decide_eq_false (by have := HJ.out; omega)
        clear hR hg hnc
        go_wp2
        go_ret
        refine ⟨_, rfl, ?_, HG2.out⟩
        have e : xs.filter (fun x => !p x) = ys.take i := by
          have := HY.out.2.1
          rwa [List.take_of_length_le (by have := HJ.out; omega)] at this
        rw [e]
        exact HR2.out
      | succ gk =>
        have q1 : (j : Int) < (xs.length : Int) := by have := HJ.out; omega
        have cb1 : decide ((j : Int) < (xs.length : Int)) = true := decide_eq_true q1
        have cb2 : decide (j < xs.length) = true := decide_eq_true (by omega)
        have hw : wrap64 ((j : Int) + 1) = ((j + 1 : Nat) : Int) := by unfold wrap64; have := HM.out; omega
        have hwi : wrap64 ((i : Int) + 1) = ((i + 1 : Nat) : Int) := by unfold wrap64; have := HM.out; have := HJ.out; omega
        have HW := Aside0.mk hw
        have HWI := Aside0.mk hwi
        clear hw hwi
        obtain ⟨ad, e1, x0, x1, x2, x3⟩ := at_T34 (Kd.R_reads' HO.out).2.2 (j : Int) (by omega) (by have := HY.out.1; omega)
        injection e1 with e1
        subst e1
        simp only [Int.toNat_natCast, add_at, Nat.zero_add] at x0 x1 x2 x3
        have pj : (0 ≤ (j : Int)) = True := eq_true (by omega)
        have qj : ((j : Int) < (xs.length : Int)) = True := eq_true q1
        clear q1 hnc
        cases cp : p (rd_T34 ys (j : Int)) with
        | true =>
          have CP := Aside0.mk cp
          clear cp
          go_wp2_with fail
          refine (HF.out _ (rd_T34 ys (j : Int)) (World.grownBy.trans HG.out (World.grownBy_alloc wr _ _))).mono ?_
          rw [CP.out]
          rintro e w7 ⟨rfl, hb⟩
          have HO7 := Aside0.mk (Kd.R_below (Kd.R_alloc HO.out _) hb)
          have HG7 := Aside0.mk (World.grownBy.trans (World.grownBy.trans HG.out (World.grownBy_alloc wr _ _)) (grown_of_below hb _))
          clear hb
          go_wp2
          go_roundg gk
          case measure => omega
          case rel => exact ⟨i, j + 1, ys, rfl, by first | rw [HW.out] | (simp; done), ⟨by have := HJ.out; omega⟩, ⟨HY.out.1, filt_step_out p xs ys i j HY.out.1 (by have := HJ.out; omega) HY.out.2.1 HY.out.2.2 CP.out⟩, HO7, HG7⟩
        | false =>
          have CP := Aside0.mk cp
          clear cp
          have pi : (0 ≤ (i : Int)) = True := eq_true (by omega)
          have qi : ((i : Int) < (xs.length : Int)) = True := eq_true (by have := HJ.out; omega)
          go_wp2_with fail
          refine (HF.out _ (rd_T34 ys (j : Int)) (World.grownBy.trans HG.out (World.grownBy_alloc wr _ _))).mono ?_
          rw [CP.out]
          rintro e w7 ⟨rfl, hb⟩
          have HO7 := Aside0.mk (Kd.R_below (Kd.R_alloc HO.out _) hb)
          have HG7 := Aside0.mk (World.grownBy.trans (World.grownBy.trans HG.out (World.grownBy_alloc wr _ _)) (grown_of_below hb _))
          have BX := Aside0.mk (blk_below (blk_new wr _) hb)
          clear hb
          have z0 := (blk_cell (w := w7) BX.out 0).trans rfl
          have z1 := (blk_cell (w := w7) BX.out 1).trans rfl
          have z2 := (blk_cell (w := w7) BX.out 2).trans rfl
          have z3 := (blk_cell (w := w7) BX.out 3).trans rfl
          obtain ⟨ad, e1, y0, y1, y2, y3⟩ := at_T34 (Kd.R_reads' HO7.out).2.2 (i : Int) (by omega) (by have := HY.out.1; have := HJ.out; omega)
          injection e1 with e1
          subst e1
          simp only [Int.toNat_natCast, add_at, Nat.zero_add] at y0 y1 y2 y3
          obtain ⟨cl', hcl'⟩ := R_blk HO7.out
          have f0 := blk_frozen hcl' (i * 4)
          have f1 := blk_frozen hcl' (i * 4 + 1)
          have f2 := blk_frozen hcl' (i * 4 + 2)
          have f3 := blk_frozen hcl' (i * 4 + 3)
          clear hcl'
          have HP : Aside0 (Kd.R k34 34 (w7.setCells g (i * 4) [.int .i64 (rd_T34 ys (j : Int)).f0, .int .i64 (rd_T34 ys (j : Int)).f1, .int .i64 (rd_T34 ys (j : Int)).f2, .int .i64 (rd_T34 ys (j : Int)).f3]) base ok (.slice (some ⟨g, 0, none⟩) xs.length c) (ys.set i (rd_T34 ys (j : Int))) ∧ w7.grownBy (w7.setCells g (i * 4) [.int .i64 (rd_T34 ys (j : Int)).f0, .int .i64 (rd_T34 ys (j : Int)).f1, .int .i64 (rd_T34 ys (j : Int)).f2, .int .i64 (rd_T34 ys (j : Int)).f3]) (some g)) := by
            obtain ⟨r1, r2⟩ := Kd.R_seg (d := k34) HO7.out (i : Int) (by omega) (by have := HJ.out; omega) (c := [.int .i64 (rd_T34 ys (i : Int)).f0, .int .i64 (rd_T34 ys (i : Int)).f1, .int .i64 (rd_T34 ys (i : Int)).f2, .int .i64 (rd_T34 ys (i : Int)).f3]) (seg := [.int .i64 (rd_T34 ys (j : Int)).f0, .int .i64 (rd_T34 ys (j : Int)).f1, .int .i64 (rd_T34 ys (j : Int)).f2, .int .i64 (rd_T34 ys (j : Int)).f3]) (j := 0) rfl (by
              intro q u hq
              rcases q with _ | _ | _ | _ | q
              all_goals first | (simp only [List.getElem?_cons_zero, List.getElem?_cons_succ, Option.some.injEq] at hq; subst hq; assumption) | (simp at hq)) (Nat.le_refl 4) (x' := rd_T34 ys (j : Int)) (okp := fun _ => False) (k34_mkM w7 base _ _) (fun _ h => h.elim)
            exact ⟨⟨r1, r2⟩⟩
          go_wp2_with ((with_reducible refine gate_store (t := 34) (p := 33) (v := .tmp 32) rfl ?_); refine store_event (t := 34) (p := 33) (v := .tmp 32) (w1 := w7.setCells g (i * 4) [.int .i64 (rd_T34 ys (j : Int)).f0, .int .i64 (rd_T34 ys (j : Int)).f1, .int .i64 (rd_T34 ys (j : Int)).f2, .int .i64 (rd_T34 ys (j : Int)).f3]) ?hg ?ho ?hn ?hr ?_; (case ho => rfl); (case hg => rfl); (case hn => rfl); (case hr => first | (go_simp; done) | (go_simp; rfl)); intro w8 hw; have HO8 : Aside0 (Kd.R k34 34 w8 base ok (.slice (some ⟨g, 0, none⟩) xs.length c) (ys.set i (rd_T34 ys (j : Int)))) := ⟨by rw [hw]; exact HP.out.1⟩; have HG8 : Aside0 (w.grownBy w8 (some g)) := ⟨by rw [hw]; exact World.grownBy.trans HG7.out HP.out.2⟩; clear hw)
          go_roundg gk
          case measure => omega
          case rel => exact ⟨i + 1, j + 1, ys.set i (rd_T34 ys (j : Int)), by first | rw [HWI.out] | (simp; done), by first | rw [HW.out] | (simp; done), ⟨by have := HJ.out; omega⟩, ⟨by rw [List.length_set]; exact HY.out.1, filt_step_in p xs ys i j HY.out.1 HJ.out.1 (by have := HJ.out; omega) HY.out.2.1 HY.out.2.2 CP.out⟩, HO8, HG8⟩

end Go.Proofs.Ytfjenooajbdcmaa.K
namespace Go.Proofs.Ytfjenooajbdcmaa.K
open Go Go.RowKit Go.Maps Go.Proofs.YtfjenooajbdcmaaW.PrintWords Go.Proofs.YtfjenooajbdcmaaW.PrintLast Go.Proofs.YtfjenooajbdcmaaW.PrintMore Go.Proofs.Ytfjenooajbdcmaa.GM Go.Proofs.Ytfjenooajbdcmaa.GW
set_option linter.unusedVariables false
def histL (l : List S34) (n : Int) : List S34 := l.filter fun x => !(x.f2 != n)
def seal_History.f (l : List S34) (n : Int) : Option (List S34 × Int) :=
  if (l.all wf34) = true then (if (fol l).2.2 ≠ 0 then some ([], 1) else if (histL l n).length = 0 then some ([], 7) else some (histL l n, 0)) else none
theorem own_off {v : Value} {b g : Nat} (h : ∀ k, v.ownBlock = some k → b ≤ k) (hg : g < b) : some g ≠ v.ownBlock := by
  intro e
  have := h g e.symm
  omega
set_option maxHeartbeats 2000000 in
set_option maxRecDepth 100000 in
theorem seal_History.calls (A0 : Option Addr) (c0 : Nat) (l0 : List S34) (a1 : Int) (r1 : List S34) (r2 : Int) (w : World) (hr0 : Kd.C k34 w A0 l0.length l0) (hc0 : l0.length ≤ c0) (h : seal_History.f l0 a1 = some (r1, r2)) :
    Calls Try.prog 32 #[.slice A0 l0.length c0, .int .i64 a1] w fun e w' => ∃ v0_ : Value, e = .returned (.tuple #[v0_, .int .i64 r2]) ∧ Kd.R k34 34 w' w.heap.size (fun _ => True) v0_ r1 ∧ Below w.heap.size w w' := by
  unfold seal_History.f at h
  by_cases hwf : (l0.all wf34) = true
  · rw [if_pos hwf] at h
    have HCK : Aside0 (seal_Check.f l0 = some ((fol l0).2.1, (fol l0).2.2)) := ⟨by unfold seal_Check.f; rw [if_pos hwf]⟩
    have HR0 := Aside0.mk hr0
    have HC0 := Aside0.mk hc0
    have HB := Aside0.mk (Below.refl w.heap.size w)
    clear hr0 hc0 hwf
    by_cases hfz : (fol l0).2.2 = 0
    · rw [if_neg (by simp [hfz])] at h
      have hlen := (fol_ok hfz).2
      rw [hfz] at HCK
      have HCL : Aside0 (clone34.f l0 = some l0) := ⟨by unfold clone34.f; rw [if_pos (by omega)]⟩
      obtain ⟨L, hL⟩ : ∃ L, L = histL l0 a1 := ⟨_, rfl⟩
      rw [← hL] at h
      have HFL : Aside0 ((l0.filter fun x => !(x.f2 != a1)) = L) := ⟨hL.symm⟩
      clear hfz hlen hL
      by_cases hz : L.length = 0
      · rw [if_pos hz] at h
        simp only [Option.some.injEq, Prod.mk.injEq] at h
        obtain ⟨rfl, rfl⟩ := h
        have cz : ((L.length : Int) == 0) = true := by rw [hz]; rfl
        clear hz
        go_enter Try.func32, Try.ntmps32
        go_wp2_with (first
          | ((with_reducible refine gqD (N := 3) rfl ?_); refine GS.bx (N := 3) (cs := #[.int .i64 a1]) (t := 3) ?_; intro g3 hg w1 hbox hb; have n0_ := Aside0.mk (lqT (GS.lB HB.out) hb); have B3 := Aside0.mk hbox; have G3 : Aside0 (w.heap.size ≤ g3) := ⟨by rw [hg]; exact (lqZ (GS.lB HB.out))⟩; clear HB; have HB := n0_; clear n0_ hb hbox hg)
          | ((with_reducible show Calls Try.prog 28 _ _ _); refine (seal_Check.calls A0 c0 l0 _ _ _ (GS.rC (Kd.C_below HR0.out HB.out)) HC0.out HCK.out).mono ?_; rintro e w3 ⟨rfl, hb⟩; have n0_ := Aside0.mk (lqT (GS.lB HB.out) hb); have n1_ := Aside0.mk (bqB (GS.bqX B3.out) hb); clear HB B3 hb; have HB := n0_; have B3 := n1_; clear n0_ n1_)
          | ((with_reducible show Calls Try.prog 14 _ _ _); refine (clone34.calls A0 c0 l0 _ _ (GS.rC (Kd.C_below HR0.out HB.out)) HC0.out HCL.out).mono ?_; rintro e w4 ⟨v4, rfl, hro, hb⟩; have NB : Aside0 (g3 < w3.heap.size) := ⟨blk_lt (GS.bqX B3.out)⟩; have HO := Aside0.mk hro; have HZ := Aside0.mk (HB.out.size); have n0_ := Aside0.mk (lqT (GS.lB HB.out) hb); have n1_ := Aside0.mk (bqB (GS.bqX B3.out) hb); clear HB B3 hb hro; have HB := n0_; have B3 := n1_; clear n0_ n1_; obtain ⟨Ao, co, eo⟩ := Kd.R_slice HO.out; subst eo)
          | ((with_reducible show Calls Try.prog 55 _ _ _); refine (delf55_56.calls _ (fun x => x.f2 != a1) Ao co l0 w3.heap.size _ _ HO.out (fun W x hg => hist56.calls g3 a1 x W (blk_grown B3.out hg (own_off (Kd.R_base HO.out) NB.out)))).mono ?_; rintro e w5 ⟨v5, rfl, hro, hg⟩; rw [HFL.out] at hro; have HO5 := Aside0.mk (Kd.R_lower hro HZ.out); have n0_ := Aside0.mk (HB.out.grown hg HB.out.size (fun k hk => Nat.le_trans HZ.out (Kd.R_base HO.out k hk))); clear HB B3 hro hg HO; have HB := n0_; clear n0_; obtain ⟨Ap, cp, ep⟩ := Kd.R_slice HO5.out; subst ep))
        go_ret2
        exact ⟨_, rfl, Kd.R_nil _ _ _ _ _, GS.lB HB.out⟩
      · rw [if_neg hz] at h
        simp only [Option.some.injEq, Prod.mk.injEq] at h
        obtain ⟨rfl, rfl⟩ := h
        have cz : ((L.length : Int) == 0) = false := beq_eq_false_iff_ne.mpr (by omega)
        clear hz
        go_enter Try.func32, Try.ntmps32
        go_wp2_with (first
          | ((with_reducible refine gqD (N := 3) rfl ?_); refine GS.bx (N := 3) (cs := #[.int .i64 a1]) (t := 3) ?_; intro g3 hg w1 hbox hb; have n0_ := Aside0.mk (lqT (GS.lB HB.out) hb); have B3 := Aside0.mk hbox; have G3 : Aside0 (w.heap.size ≤ g3) := ⟨by rw [hg]; exact (lqZ (GS.lB HB.out))⟩; clear HB; have HB := n0_; clear n0_ hb hbox hg)
          | ((with_reducible show Calls Try.prog 28 _ _ _); refine (seal_Check.calls A0 c0 l0 _ _ _ (GS.rC (Kd.C_below HR0.out HB.out)) HC0.out HCK.out).mono ?_; rintro e w3 ⟨rfl, hb⟩; have n0_ := Aside0.mk (lqT (GS.lB HB.out) hb); have n1_ := Aside0.mk (bqB (GS.bqX B3.out) hb); clear HB B3 hb; have HB := n0_; have B3 := n1_; clear n0_ n1_)
          | ((with_reducible show Calls Try.prog 14 _ _ _); refine (clone34.calls A0 c0 l0 _ _ (GS.rC (Kd.C_below HR0.out HB.out)) HC0.out HCL.out).mono ?_; rintro e w4 ⟨v4, rfl, hro, hb⟩; have NB : Aside0 (g3 < w3.heap.size) := ⟨blk_lt (GS.bqX B3.out)⟩; have HO := Aside0.mk hro; have HZ := Aside0.mk (HB.out.size); have n0_ := Aside0.mk (lqT (GS.lB HB.out) hb); have n1_ := Aside0.mk (bqB (GS.bqX B3.out) hb); clear HB B3 hb hro; have HB := n0_; have B3 := n1_; clear n0_ n1_; obtain ⟨Ao, co, eo⟩ := Kd.R_slice HO.out; subst eo)
          | ((with_reducible show Calls Try.prog 55 _ _ _); refine (delf55_56.calls _ (fun x => x.f2 != a1) Ao co l0 w3.heap.size _ _ HO.out (fun W x hg => hist56.calls g3 a1 x W (blk_grown B3.out hg (own_off (Kd.R_base HO.out) NB.out)))).mono ?_; rintro e w5 ⟨v5, rfl, hro, hg⟩; rw [HFL.out] at hro; have HO5 := Aside0.mk (Kd.R_lower hro HZ.out); have n0_ := Aside0.mk (HB.out.grown hg HB.out.size (fun k hk => Nat.le_trans HZ.out (Kd.R_base HO.out k hk))); clear HB B3 hro hg HO; have HB := n0_; clear n0_; obtain ⟨Ap, cp, ep⟩ := Kd.R_slice HO5.out; subst ep))
        go_ret2
        exact ⟨_, rfl, GS.rR HO5.out, GS.lB HB.out⟩
    · rw [if_pos hfz] at h
      simp only [Option.some.injEq, Prod.mk.injEq] at h
      obtain ⟨rfl, rfl⟩ := h
      have cn : ((fol l0).2.2 != 0) = true := bne_iff_ne.mpr hfz
      clear hfz
      go_enter Try.func32, Try.ntmps32
      go_wp2_with (first
        | ((with_reducible refine gqD (N := 3) rfl ?_); refine GS.bx (N := 3) (cs := #[.int .i64 a1]) (t := 3) ?_; intro g3 hg w1 hbox hb; have n0_ := Aside0.mk (lqT (GS.lB HB.out) hb); have B3 := Aside0.mk hbox; have G3 : Aside0 (w.heap.size ≤ g3) := ⟨by rw [hg]; exact (lqZ (GS.lB HB.out))⟩; clear HB; have HB := n0_; clear n0_ hb hbox hg)
        | ((with_reducible show Calls Try.prog 28 _ _ _); refine (seal_Check.calls A0 c0 l0 _ _ _ (GS.rC (Kd.C_below HR0.out HB.out)) HC0.out HCK.out).mono ?_; rintro e w3 ⟨rfl, hb⟩; have n0_ := Aside0.mk (lqT (GS.lB HB.out) hb); have n1_ := Aside0.mk (bqB (GS.bqX B3.out) hb); clear HB B3 hb; have HB := n0_; have B3 := n1_; clear n0_ n1_))
      go_ret2
      exact ⟨_, rfl, Kd.R_nil _ _ _ _ _, GS.lB HB.out⟩
  · rw [if_neg hwf] at h
    cases h
end Go.Proofs.Ytfjenooajbdcmaa.K
