/- By hand: slices.IndexFunc and slices.DeleteFunc of findings, whatever the predicate captures. -/
import Derived.Test.YtfhmjleimampeaaK0
import Derived.Test.YtfhmjleimampeaaGW
import Derived.Test.YtfhmjleimampeaaGShort
import Derived.Deep.RegionLaw
import Derived.WalkSpells
namespace Go.Proofs.Ytfhmjleimampeaa.K
open Go Go.RowKit Go.Proofs.YtfhmjleimampeaaW.PrintWords Go.Proofs.YtfhmjleimampeaaW.PrintLast Go.Proofs.YtfhmjleimampeaaW.PrintMore Go.Proofs.Ytfhmjleimampeaa.GW
set_option linter.unusedVariables false
set_option linter.unusedSimpArgs false
theorem below_step {a w W : World} (h : Below a.heap.size a w) (h2 : Below w.heap.size w W) : Below a.heap.size a W := lqT h h2
def idxF (p : S30 → Bool) (xs : List S30) : Int := match xs.findIdx? p with | some i => (i : Int) | none => -1
theorem rd_get (xs : List S30) (i : Nat) (h : i < xs.length) : rd_T30 xs (i : Int) = xs[i] := by
  unfold rd_T30
  simp [List.getD_eq_getElem?_getD, h]
theorem idxF_none (p : S30 → Bool) (xs : List S30) (h : ∀ t : Int, 0 ≤ t → t < xs.length → p (rd_T30 xs t) = false) : idxF p xs = -1 := by
  have : xs.findIdx? p = none := by
    rw [List.findIdx?_eq_none_iff]
    intro x hx
    obtain ⟨i, hi, rfl⟩ := List.mem_iff_getElem.1 hx
    have := h i (by omega) (by omega)
    rwa [rd_get xs i hi] at this
  simp [idxF, this]
theorem idxF_some (p : S30 → Bool) (xs : List S30) (j : Int) (h0 : 0 ≤ j) (h1 : j < xs.length) (h : ∀ t : Int, 0 ≤ t → t < j → p (rd_T30 xs t) = false) (hp : p (rd_T30 xs j) = true) : idxF p xs = j := by
  obtain ⟨i, rfl⟩ := Int.eq_ofNat_of_zero_le h0
  have hi : i < xs.length := by omega
  rw [rd_get xs i hi] at hp
  have : xs.findIdx? p = some i := by
    rw [List.findIdx?_eq_some_iff_getElem]
    refine ⟨hi, hp, fun t ht => ?_⟩
    have := h t (by omega) (by omega)
    rw [rd_get xs t (by omega)] at this
    simp [this]
  simp [idxF, this]
theorem idxF_cases (p : S30 → Bool) (xs : List S30) : (idxF p xs = -1 ∧ xs.filter (fun x => !p x) = xs) ∨
    ∃ i : Nat, idxF p xs = i ∧ i < xs.length ∧ (xs.take (i + 1)).filter (fun x => !p x) = xs.take i := by
  unfold idxF
  cases h : xs.findIdx? p with
  | none =>
    refine .inl ⟨rfl, ?_⟩
    rw [List.findIdx?_eq_none_iff] at h
    rw [List.filter_eq_self]
    intro x hx
    simp [h x hx]
  | some i =>
    refine .inr ⟨i, rfl, ?_⟩
    rw [List.findIdx?_eq_some_iff_getElem] at h
    obtain ⟨hi, hp, hb⟩ := h
    refine ⟨hi, ?_⟩
    rw [List.take_succ_eq_append_getElem hi, List.filter_append]
    have h1 : (xs.take i).filter (fun x => !p x) = xs.take i := by
      rw [List.filter_eq_self]
      intro x hx
      obtain ⟨t, ht, rfl⟩ := List.mem_iff_getElem.1 hx
      rw [List.getElem_take]
      have ht2 : t < i := by rw [List.length_take] at ht; omega
      have := hb t ht2
      simpa using this
    rw [h1]
    simp [hp]
theorem filt_step_in (p : S30 → Bool) (xs ys : List S30) (i j : Nat) (hl : ys.length = xs.length) (hij : i < j) (hj : j < xs.length) (ht : (xs.take j).filter (fun x => !p x) = ys.take i) (hd : ys.drop j = xs.drop j) (hp : p (rd_T30 ys (j : Int)) = false) :
    (xs.take (j + 1)).filter (fun x => !p x) = (ys.set i (rd_T30 ys (j : Int))).take (i + 1) ∧ (ys.set i (rd_T30 ys (j : Int))).drop (j + 1) = xs.drop (j + 1) := by
  have hjy : j < ys.length := by omega
  have e : ys[j] = xs[j] := by
    have := congrArg (fun l => l[0]?) hd
    simp [List.getElem?_drop, hj, hjy] at this
    exact this
  rw [rd_get ys j hjy] at hp ⊢
  constructor
  · rw [List.take_succ_eq_append_getElem hj, List.filter_append, ht, List.take_succ_eq_append_getElem (by simp; omega)]
    simp [← e, hp, List.take_set_of_le]
  · rw [List.drop_set_of_lt (by omega), ← List.drop_drop, hd, List.drop_drop]
theorem filt_step_out (p : S30 → Bool) (xs ys : List S30) (i j : Nat) (hl : ys.length = xs.length) (hj : j < xs.length) (ht : (xs.take j).filter (fun x => !p x) = ys.take i) (hd : ys.drop j = xs.drop j) (hp : p (rd_T30 ys (j : Int)) = true) :
    (xs.take (j + 1)).filter (fun x => !p x) = ys.take i ∧ ys.drop (j + 1) = xs.drop (j + 1) := by
  have hjy : j < ys.length := by omega
  have e : ys[j] = xs[j] := by
    have := congrArg (fun l => l[0]?) hd
    simp [List.getElem?_drop, hj, hjy] at this
    exact this
  rw [rd_get ys j hjy] at hp
  constructor
  · rw [List.take_succ_eq_append_getElem hj, List.filter_append, ht]
    simp [← e, hp]
  · rw [← List.drop_drop, hd, List.drop_drop]
theorem zv30 (w : World) : (zeroValue 30).run Try.prog w = .ok (.agg #[(.int .i64 0), (.int .i64 0), (.int .i64 0), (.int .i64 0)]) w := by kernel_rfl

set_option maxHeartbeats 4000000 in
set_option maxRecDepth 100000 in
theorem idx54 (g : Nat) (lb : Array Value) (heg : ∀ args w, (callFunc g args).run Try.prog w = .ok (.enter g args) w) (p : S30 → Bool) (A : Option Addr) (c : Nat) (xs : List S30) (w : World) (hr : Kd.C k30 w A xs.length xs)
    (hf : ∀ W x, Below w.heap.size w W → Calls Try.prog g (#[.agg #[.int .i64 x.f0, .int .i64 x.f1, .int .i64 x.f2, .int .i64 x.f3]] ++ lb) W fun e w' => e = .returned (.bool (p x)) ∧ Below W.heap.size W w') :
    Calls Try.prog 54 #[.slice A xs.length c, .func (.func g) #[] lb] w fun e w' => e = .returned (.int .i64 (idxF p xs)) ∧ Below w.heap.size w w' := by
  have hu30 := Try.underlying30
  have HR := Aside0.mk hr
  have HF := Aside0.mk hf
  have HM : Aside0 (xs.length ≤ 9223372036854775807) := ⟨hr.2.1⟩
  clear hr hf
  go_enter Try.func54, Try.ntmps54
  go_wp2
  go_loopg [8] xs.length (fun kq v8 w' => ∃ j : Int, v8 = .int .i64 j ∧ Aside0 (0 ≤ j ∧ j + kq = xs.length) ∧ Aside0 (∀ t : Int, 0 ≤ t → t < j → p (rd_T30 xs t) = false) ∧ Aside0 (Below w.heap.size w w'))
  case atStart => exact ⟨0, rfl, ⟨by omega, by omega⟩, ⟨fun t h1 h2 => by omega⟩, ⟨Below.refl _ _⟩⟩
  case round =>
    obtain ⟨j, rfl, HJ, HP, HB⟩ := hrel
    cases gk with
    | zero =>
      have cz : decide (j < (xs.length : Int)) = false := decide_eq_false (by have := HJ.out; omega)
      go_wp2
      go_ret
      exact ⟨by rw [idxF_none p xs (fun t h1 h2 => HP.out t h1 (by have := HJ.out; omega))]; rfl, HB.out⟩
    | succ gk =>
      have q1 : j < (xs.length : Int) := by have := HJ.out; omega
      have p1 : 0 ≤ j := HJ.out.1
      have cb1 : decide (j < (xs.length : Int)) = true := decide_eq_true q1
      have Q := Aside0.mk q1
      have hw : wrap64 (j + 1) = j + 1 := by unfold wrap64; have := HM.out; omega
      have HW := Aside0.mk hw
      clear hw
      obtain ⟨ad, e1, x0, x1, x2, x3⟩ := at_T30 (Kd.C_below HR.out HB.out) j p1 q1
      cases e1
      replace p1 := eq_true p1
      replace q1 := eq_true q1
      cases cp : p (rd_T30 xs j) with
      | true =>
        have CP := Aside0.mk cp
        clear cp
        go_wp2_with fail
        refine (HF.out _ (rd_T30 xs j) (by repeat (first | exact HB.out | apply pw_below_drewN | apply below_drew1))).mono ?_
        rw [CP.out]
        rintro e w7 ⟨rfl, hb⟩
        have HB2 := Aside0.mk (below_step (by repeat (first | exact HB.out | apply pw_below_drewN | apply below_drew1)) hb)
        clear hb
        go_wp2
        go_ret
        exact ⟨by rw [idxF_some p xs j HJ.out.1 Q.out HP.out CP.out]; rfl, HB2.out⟩
      | false =>
        have CP := Aside0.mk cp
        clear cp
        go_wp2_with fail
        refine (HF.out _ (rd_T30 xs j) (by repeat (first | exact HB.out | apply pw_below_drewN | apply below_drew1))).mono ?_
        rw [CP.out]
        rintro e w7 ⟨rfl, hb⟩
        have HB2 := Aside0.mk (below_step (by repeat (first | exact HB.out | apply pw_below_drewN | apply below_drew1)) hb)
        clear hb
        go_wp2
        go_roundg gk
        case measure => omega
        case rel => exact ⟨wrap64 (j + 1), rfl, ⟨by rw [HW.out]; have := HJ.out; omega⟩, ⟨by rw [HW.out]; intro t h1 h2; by_cases h3 : t = j; (· rw [h3]; exact CP.out); exact HP.out t h1 (by omega)⟩, HB2⟩

set_option maxHeartbeats 8000000 in
set_option maxRecDepth 100000 in
theorem delf42 (gf : Nat) (lb : Array Value) (heg : ∀ args w, (callFunc gf args).run Try.prog w = .ok (.enter gf args) w) (p : S30 → Bool) (A : Option Addr) (c : Nat) (xs : List S30) (base : Nat) (ok : Nat → Prop) (w : World) (HO0 : Kd.R k30 30 w base ok (.slice A xs.length c) xs)
    (hf : ∀ W x, w.grownBy W (Value.slice A xs.length c).ownBlock → Calls Try.prog gf (#[.agg #[.int .i64 x.f0, .int .i64 x.f1, .int .i64 x.f2, .int .i64 x.f3]] ++ lb) W fun e w' => e = .returned (.bool (p x)) ∧ Below W.heap.size W w') :
    Calls Try.prog 42 #[.slice A xs.length c, .func (.func gf) #[] lb] w fun e w' => ∃ v', e = .returned v' ∧ Kd.R k30 30 w' base ok v' (xs.filter (fun x => !p x)) ∧ w.grownBy w' (Value.slice A xs.length c).ownBlock := by
  have hu30 := Try.underlying30
  have HO := Aside0.mk HO0
  have HF := Aside0.mk hf
  have HM : Aside0 (xs.length ≤ 9223372036854775807) := ⟨(Kd.R_reads' HO0).2.2.2.1⟩
  clear HO0 hf
  rcases idxF_cases p xs with ⟨h1, h2⟩ | ⟨i0, h1, h2, h3⟩
  · have H2 := Aside0.mk h2
    have h1' : idxF p xs = -1 := h1
    clear h2 h1
    have HI := Aside0.mk h1'
    clear h1'
    go_enter Try.func42, Try.ntmps42
    go_wp2_with (go_at_call 54; refine (idx54 gf lb heg p A c xs _ (Kd.R_reads' HO.out).2.2 (fun W x hb => HF.out W x (grown_of_below hb _))).mono ?_; rw [HI.out]; rintro e w2 ⟨rfl, hb⟩; have HB := Aside0.mk hb; clear hb)
    go_ret
    exact ⟨_, rfl, by rw [H2.out]; exact Kd.R_below HO.out HB.out, grown_of_below HB.out _⟩
  · obtain ⟨g, cp, hv, hg1, hg2, cl, hcl⟩ := Kd.R_form HO.out (by omega)
    injection hv with hA _ hc
    subst hA
    subst hc
    have G1 := Aside0.mk hg1
    have HI := Aside0.mk h1
    have H2 := Aside0.mk h2
    have H3 := Aside0.mk h3
    have hn1 : ((i0 : Int) == -1) = false := by first | (simp; done) | (simp; omega)
    have hw0 : wrap64 ((i0 : Int) + 1) = (i0 : Int) + 1 := by unfold wrap64; have := HM.out; omega
    have HW0 := Aside0.mk hw0
    clear hg1 hg2 hcl h1 h2 h3 hw0
    go_enter Try.func42, Try.ntmps42
    go_wp2_with (go_at_call 54; refine (idx54 gf lb heg p _ c xs _ (Kd.R_reads' HO.out).2.2 (fun W x hb => HF.out W x (grown_of_below hb _))).mono ?_; rw [HI.out]; rintro e w2 ⟨rfl, hb⟩; have HB := Aside0.mk hb; clear hb)
    go_loopg [5, 6] (xs.length - (i0 + 1)) (fun kq v5 v6 w' => ∃ (i j : Nat) (ys : List S30), v5 = .int .i64 i ∧ v6 = .int .i64 j ∧ Aside0 (i < j ∧ j + kq = xs.length) ∧ Aside0 (ys.length = xs.length ∧ (xs.take j).filter (fun x => !p x) = ys.take i ∧ ys.drop j = xs.drop j) ∧ Aside0 (Kd.R k30 30 w' base ok (.slice (some ⟨g, 0, none⟩) xs.length c) ys) ∧ Aside0 (w.grownBy w' (some g)))
    case atStart => exact ⟨i0, i0 + 1, xs, rfl, by first | rfl | (simp; done) | (rw [HW0.out]; rfl), ⟨by have := H2.out; omega⟩, ⟨rfl, H3.out, rfl⟩, ⟨Kd.R_below HO.out HB.out⟩, ⟨grown_of_below HB.out _⟩⟩
    case round =>
      clear HI H2 H3 HW0 HO HB
      obtain ⟨i, j, ys, rfl, rfl, HJ, HY, HO, HG⟩ := hrel
      have hnc : xs.length ≤ c := (Kd.R_reads' HO.out).2.1
      have t22 := Try.underlying22
      cases gk with
      | zero =>
        have s1 := fun W => sl_l t22 (size_of_info info30) (some ⟨g, 0, none⟩) xs.length c i (by have := HJ.out; omega) W
        have s2 := fun W => sl_h t22 (size_of_info info30) (some ⟨g, 0, none⟩) xs.length c i (by have := HJ.out; omega) W
        rw [if_neg (show ¬ (c = i) by have := HJ.out; omega), Option.map_some, show (⟨g, 0, none⟩ : Addr).add (i * 4) = ⟨g, 0 + i * 4, none⟩ from add_at _ _ _] at s1
        obtain ⟨w3, hcl, hR, hg⟩ := clear_run k30 t22 zv30 rfl (by decide) (m := xs.length - i) (Kd.R_take HO.out (m := i) (by have := HJ.out; have := HY.out.1; omega)) (by have := HJ.out; omega) (by have := HJ.out; omega)
        simp only [Nat.zero_add, show k30.sz = 4 from rfl] at hcl s1
        have HR2 := Aside0.mk hR
        have HG2 := Aside0.mk (World.grownBy.trans HG.out hg)
        have cz : decide ((j : Int) < (xs.length : Int)) = false := decide_eq_false (by have := HJ.out; omega)
        have cz2 : decide (j < xs.length) = false := decide_eq_false (by have := HJ.out; omega)
        clear hR hg hnc
        go_wp2
        go_ret
        refine ⟨_, rfl, ?_, HG2.out⟩
        have e : xs.filter (fun x => !p x) = ys.take i := by
          have := HY.out.2.1
          rwa [List.take_of_length_le (by have := HJ.out; omega)] at this
        rw [e]
        exact HR2.out
      | succ gk =>
        have q1 : (j : Int) < (xs.length : Int) := by have := HJ.out; omega
        have cb1 : decide ((j : Int) < (xs.length : Int)) = true := decide_eq_true q1
        have cb2 : decide (j < xs.length) = true := decide_eq_true (by omega)
        have hw : wrap64 ((j : Int) + 1) = ((j + 1 : Nat) : Int) := by unfold wrap64; have := HM.out; omega
        have hwi : wrap64 ((i : Int) + 1) = ((i + 1 : Nat) : Int) := by unfold wrap64; have := HM.out; have := HJ.out; omega
        have HW := Aside0.mk hw
        have HWI := Aside0.mk hwi
        clear hw hwi
        obtain ⟨ad, e1, x0, x1, x2, x3⟩ := at_T30 (Kd.R_reads' HO.out).2.2 (j : Int) (by omega) (by have := HY.out.1; omega)
        injection e1 with e1
        subst e1
        simp only [Int.toNat_natCast, add_at, Nat.zero_add] at x0 x1 x2 x3
        have pj : (0 ≤ (j : Int)) = True := eq_true (by omega)
        have qj : ((j : Int) < (xs.length : Int)) = True := eq_true q1
        clear q1 hnc
        cases cp : p (rd_T30 ys (j : Int)) with
        | true =>
          have CP := Aside0.mk cp
          clear cp
          go_wp2_with fail
          refine (HF.out _ (rd_T30 ys (j : Int)) (World.grownBy.trans HG.out (World.grownBy_alloc wr _ _))).mono ?_
          rw [CP.out]
          rintro e w7 ⟨rfl, hb⟩
          have HO7 := Aside0.mk (Kd.R_below (Kd.R_alloc HO.out _) hb)
          have HG7 := Aside0.mk (World.grownBy.trans (World.grownBy.trans HG.out (World.grownBy_alloc wr _ _)) (grown_of_below hb _))
          clear hb
          go_wp2
          go_roundg gk
          case measure => omega
          case rel => exact ⟨i, j + 1, ys, rfl, by first | rw [HW.out] | (simp; done), ⟨by have := HJ.out; omega⟩, ⟨HY.out.1, filt_step_out p xs ys i j HY.out.1 (by have := HJ.out; omega) HY.out.2.1 HY.out.2.2 CP.out⟩, HO7, HG7⟩
        | false =>
          have CP := Aside0.mk cp
          clear cp
          have pi : (0 ≤ (i : Int)) = True := eq_true (by omega)
          have qi : ((i : Int) < (xs.length : Int)) = True := eq_true (by have := HJ.out; omega)
          go_wp2_with fail
          refine (HF.out _ (rd_T30 ys (j : Int)) (World.grownBy.trans HG.out (World.grownBy_alloc wr _ _))).mono ?_
          rw [CP.out]
          rintro e w7 ⟨rfl, hb⟩
          have HO7 := Aside0.mk (Kd.R_below (Kd.R_alloc HO.out _) hb)
          have HG7 := Aside0.mk (World.grownBy.trans (World.grownBy.trans HG.out (World.grownBy_alloc wr _ _)) (grown_of_below hb _))
          have BX := Aside0.mk (blk_below (blk_new wr _) hb)
          clear hb
          have z0 := (blk_cell (w := w7) BX.out 0).trans rfl
          have z1 := (blk_cell (w := w7) BX.out 1).trans rfl
          have z2 := (blk_cell (w := w7) BX.out 2).trans rfl
          have z3 := (blk_cell (w := w7) BX.out 3).trans rfl
          obtain ⟨ad, e1, y0, y1, y2, y3⟩ := at_T30 (Kd.R_reads' HO7.out).2.2 (i : Int) (by omega) (by have := HY.out.1; have := HJ.out; omega)
          injection e1 with e1
          subst e1
          simp only [Int.toNat_natCast, add_at, Nat.zero_add] at y0 y1 y2 y3
          obtain ⟨cl', hcl'⟩ := R_blk HO7.out
          have f0 := blk_frozen hcl' (i * 4)
          have f1 := blk_frozen hcl' (i * 4 + 1)
          have f2 := blk_frozen hcl' (i * 4 + 2)
          have f3 := blk_frozen hcl' (i * 4 + 3)
          clear hcl'
          have HP : Aside0 (Kd.R k30 30 (w7.setCells g (i * 4) [.int .i64 (rd_T30 ys (j : Int)).f0, .int .i64 (rd_T30 ys (j : Int)).f1, .int .i64 (rd_T30 ys (j : Int)).f2, .int .i64 (rd_T30 ys (j : Int)).f3]) base ok (.slice (some ⟨g, 0, none⟩) xs.length c) (ys.set i (rd_T30 ys (j : Int))) ∧ w7.grownBy (w7.setCells g (i * 4) [.int .i64 (rd_T30 ys (j : Int)).f0, .int .i64 (rd_T30 ys (j : Int)).f1, .int .i64 (rd_T30 ys (j : Int)).f2, .int .i64 (rd_T30 ys (j : Int)).f3]) (some g)) := by
            obtain ⟨r1, r2⟩ := Kd.R_seg (d := k30) HO7.out (i : Int) (by omega) (by have := HJ.out; omega) (c := [.int .i64 (rd_T30 ys (i : Int)).f0, .int .i64 (rd_T30 ys (i : Int)).f1, .int .i64 (rd_T30 ys (i : Int)).f2, .int .i64 (rd_T30 ys (i : Int)).f3]) (seg := [.int .i64 (rd_T30 ys (j : Int)).f0, .int .i64 (rd_T30 ys (j : Int)).f1, .int .i64 (rd_T30 ys (j : Int)).f2, .int .i64 (rd_T30 ys (j : Int)).f3]) (j := 0) rfl (by
              intro q u hq
              rcases q with _ | _ | _ | _ | q
              all_goals first | (simp only [List.getElem?_cons_zero, List.getElem?_cons_succ, Option.some.injEq] at hq; subst hq; assumption) | (simp at hq)) (Nat.le_refl 4) (x' := rd_T30 ys (j : Int)) (okp := fun _ => False) (k30_mkM w7 base _ _) (fun _ h => h.elim)
            exact ⟨⟨r1, r2⟩⟩
          go_wp2_with ((with_reducible refine gate_store (t := 30) (p := 33) (v := .tmp 32) rfl ?_); refine store_event (t := 30) (p := 33) (v := .tmp 32) (w1 := w7.setCells g (i * 4) [.int .i64 (rd_T30 ys (j : Int)).f0, .int .i64 (rd_T30 ys (j : Int)).f1, .int .i64 (rd_T30 ys (j : Int)).f2, .int .i64 (rd_T30 ys (j : Int)).f3]) ?hg ?ho ?hn ?hr ?_; (case ho => rfl); (case hg => rfl); (case hn => rfl); (case hr => first | (go_simp; done) | (go_simp; rfl)); intro w8 hw; have HO8 : Aside0 (Kd.R k30 30 w8 base ok (.slice (some ⟨g, 0, none⟩) xs.length c) (ys.set i (rd_T30 ys (j : Int)))) := ⟨by rw [hw]; exact HP.out.1⟩; have HG8 : Aside0 (w.grownBy w8 (some g)) := ⟨by rw [hw]; exact World.grownBy.trans HG7.out HP.out.2⟩; clear hw)
          go_roundg gk
          case measure => omega
          case rel => exact ⟨i + 1, j + 1, ys.set i (rd_T30 ys (j : Int)), by first | rw [HWI.out] | (simp; done), by first | rw [HW.out] | (simp; done), ⟨by have := HJ.out; omega⟩, ⟨by rw [List.length_set]; exact HY.out.1, filt_step_in p xs ys i j HY.out.1 HJ.out.1 (by have := HJ.out; omega) HY.out.2.1 HY.out.2.2 CP.out⟩, HO8, HG8⟩

end Go.Proofs.Ytfhmjleimampeaa.K
namespace Go.Proofs.Ytfhmjleimampeaa.K

end Go.Proofs.Ytfhmjleimampeaa.K
