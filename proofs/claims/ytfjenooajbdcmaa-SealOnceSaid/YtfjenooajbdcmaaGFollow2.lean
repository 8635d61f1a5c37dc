/- By hand: the closure of seal.follow: the fault of an event behind others. -/
import Derived.Test.YtfjenooajbdcmaaGModel
import Derived.Test.YtfjenooajbdcmaaGShort
import Derived.KernelRfl
import Derived.Test.YtfjenooajbdcmaaGW
namespace Go.Proofs.Ytfjenooajbdcmaa.K
open Go Go.RowKit Go.Maps Go.Proofs.YtfjenooajbdcmaaW.PrintWords Go.Proofs.YtfjenooajbdcmaaW.PrintLast Go.Proofs.YtfjenooajbdcmaaW.PrintMore Go.Proofs.Ytfjenooajbdcmaa.GM
set_option linter.unusedVariables false
theorem bad_true {x : S34} (h : x.f0 < 0 ∨ 100000 < x.f0 ∨ x.f1 < 1 ∨ 1073741824 < x.f1 ∨ x.f2 < 1 ∨ 1073741824 < x.f2 ∨ x.f3 < 1 ∨ 4 < x.f3) : badP x = true := by
  unfold badP
  simp only [Bool.or_eq_true, decide_eq_true_eq]
  omega
theorem bad_false {x : S34} (h : ¬ (x.f0 < 0 ∨ 100000 < x.f0 ∨ x.f1 < 1 ∨ 1073741824 < x.f1 ∨ x.f2 < 1 ∨ 1073741824 < x.f2 ∨ x.f3 < 1 ∨ 4 < x.f3)) : badP x = false := by
  unfold badP
  simp only [Bool.or_eq_false_iff, decide_eq_false_iff_not]
  omega
set_option maxHeartbeats 8000000 in
set_option maxRecDepth 100000 in
theorem clo64 (s : St) (b : Bool) (gm g5 g7 g6 g1 : Nat) (x : S34) (W : World)
    (hlook : (Instr.lookup 56 (.map (some gm)) (.int .i64 x.f2) true).run Try.prog W = .ok (.tuple #[.agg #[.int .i64 s.pl, .int .i64 s.fr, .int .i64 s.tt], .bool b]) W)
    (h5 : W.cell? ⟨g5, 0, none⟩ = some (.map (some gm)))
    (h70 : W.cell? ⟨g7, 0, none⟩ = some (.int .i64 x.f0)) (h71 : W.cell? ⟨g7, 1, none⟩ = some (.int .i64 x.f1)) (h72 : W.cell? ⟨g7, 2, none⟩ = some (.int .i64 x.f2)) (h73 : W.cell? ⟨g7, 3, none⟩ = some (.int .i64 x.f3))
    (h6 : W.cell? ⟨g6, 0, none⟩ = some (.int .i64 0)) (r : Int)
    (hr : Aside0 (r = if badP x = true then 2 else if x.f3 = 1 then (if b = true then 6 else 0) else if b = false then 7 else if s.pl ≠ x.f1 then 10 else if s.tt ≠ 100002 then 11 else 0)) :
    Calls Try.prog 64 #[.pointer (some ⟨g5, 0, none⟩), .pointer (some ⟨g7, 0, none⟩), .pointer (some ⟨g6, 0, none⟩), .pointer (some ⟨g1, 0, none⟩)] W fun e w' => e = .returned (.int .i64 r) ∧ Below W.heap.size W w' := by
  have hu34 := Try.underlying34
  have hu61 := Try.underlying61
  have y7 : g7 < W.heap.size := World.block_lt_of_cell? W _ h70
  have y6 : g6 < W.heap.size := World.block_lt_of_cell? W _ h6
  have z7 : g7 ≠ W.heap.size := Nat.ne_of_lt y7
  have z6 : g6 ≠ W.heap.size := Nat.ne_of_lt y6
  go_enter Try.func64, Try.ntmps64
  go_wp2
  all_goals first
    | (have hbad := bad_true (x := x) (by omega); go_ret; refine ⟨?_, (Below.refl _ _).alloc (Nat.le_refl _) _⟩; rw [hr.out, if_pos hbad]; rfl)
    | skip
  have hgood := Aside0.mk (bad_false (x := x) (by omega))
  repeat (go_quiet (fail); try go_wp2)
  all_goals (go_ret; refine ⟨?_, GS.lB (Below.refl W.heap.size W)⟩; have hrr := hr.out; have hgg := hgood.out; clear hr hgood; simp_all)
set_option maxHeartbeats 8000000 in
set_option maxRecDepth 100000 in
theorem clo64p (s : St) (b : Bool) (gm g5 g7 g6 g1 : Nat) (x : S34) (W : World)
    (hlook : (Instr.lookup 56 (.map (some gm)) (.int .i64 x.f2) true).run Try.prog W = .ok (.tuple #[.agg #[.int .i64 s.pl, .int .i64 s.fr, .int .i64 s.tt], .bool b]) W)
    (h5 : W.cell? ⟨g5, 0, none⟩ = some (.map (some gm)))
    (h70 : W.cell? ⟨g7, 0, none⟩ = some (.int .i64 x.f0)) (h71 : W.cell? ⟨g7, 1, none⟩ = some (.int .i64 x.f1)) (h72 : W.cell? ⟨g7, 2, none⟩ = some (.int .i64 x.f2)) (h73 : W.cell? ⟨g7, 3, none⟩ = some (.int .i64 x.f3))
    (i : Int) (hpi : decide (i > 0) = true) (h6 : W.cell? ⟨g6, 0, none⟩ = some (.int .i64 i)) (ad : Addr) (n c : Nat) (h1 : W.cell? ⟨g1, 0, none⟩ = some (.slice (some ad) n c))
    (p : (0 ≤ wrap64 (i - 1)) = True) (q : (wrap64 (i - 1) < (n : Int)) = True) (d : Int)
    (hd : (W.alloc (.cells #[.int .i64 s.pl, .int .i64 s.fr, .int .i64 s.tt] 61)).cell? (ad.add ((wrap64 (i - 1)).toNat * 4)) = some (.int .i64 d)) (r : Int)
    (hr : Aside0 (r = if badP x = true then 2 else if x.f0 < d then 5 else if x.f3 = 1 then (if b = true then 6 else 0) else if b = false then 7 else if s.pl ≠ x.f1 then 10 else if s.tt ≠ 100002 then 11 else 0)) :
    Calls Try.prog 64 #[.pointer (some ⟨g5, 0, none⟩), .pointer (some ⟨g7, 0, none⟩), .pointer (some ⟨g6, 0, none⟩), .pointer (some ⟨g1, 0, none⟩)] W fun e w' => e = .returned (.int .i64 r) ∧ Below W.heap.size W w' := by
  have hu34 := Try.underlying34
  have hu61 := Try.underlying61
  have hu22 := Try.underlying22
  have y7 : g7 < W.heap.size := World.block_lt_of_cell? W _ h70
  have y6 : g6 < W.heap.size := World.block_lt_of_cell? W _ h6
  have y1 : g1 < W.heap.size := World.block_lt_of_cell? W _ h1
  have z7 : g7 ≠ W.heap.size := Nat.ne_of_lt y7
  have z6 : g6 ≠ W.heap.size := Nat.ne_of_lt y6
  have z1 : g1 ≠ W.heap.size := Nat.ne_of_lt y1
  go_enter Try.func64, Try.ntmps64
  go_wp2
  all_goals first
    | (have hbad := bad_true (x := x) (by omega); go_ret; refine ⟨?_, (Below.refl _ _).alloc (Nat.le_refl _) _⟩; rw [hr.out, if_pos hbad]; rfl)
    | skip
  have hgood := Aside0.mk (bad_false (x := x) (by omega))
  repeat (go_quiet (fail); try go_wp2)
  all_goals (go_ret; refine ⟨?_, GS.lB (Below.refl W.heap.size W)⟩; have hrr := hr.out; have hgg := hgood.out; clear hr hgood hd; simp_all)
theorem clo64_all (M : Int → Option St) (n gm g5 g7 g6 g1 : Nat) (L : List S34) (i : Nat) (hi : i < L.length) (hL : L.length ≤ 128) (A : Option Addr) (c : Nat) (W : World) (hm : HM W gm n M) (h5 : W.cell? ⟨g5, 0, none⟩ = some (.map (some gm)))
    (h70 : W.cell? ⟨g7, 0, none⟩ = some (.int .i64 (L[i]).f0)) (h71 : W.cell? ⟨g7, 1, none⟩ = some (.int .i64 (L[i]).f1)) (h72 : W.cell? ⟨g7, 2, none⟩ = some (.int .i64 (L[i]).f2)) (h73 : W.cell? ⟨g7, 3, none⟩ = some (.int .i64 (L[i]).f3))
    (h6 : W.cell? ⟨g6, 0, none⟩ = some (.int .i64 (i : Int))) (h1 : W.cell? ⟨g1, 0, none⟩ = some (.slice A L.length c)) (hC : Kd.C k34 W A L.length L) (hk : wf34 (L[i]) = true) :
    Calls Try.prog 64 #[.pointer (some ⟨g5, 0, none⟩), .pointer (some ⟨g7, 0, none⟩), .pointer (some ⟨g6, 0, none⟩), .pointer (some ⟨g1, 0, none⟩)] W fun e w' => e = .returned (.int .i64 (faultP M (sprev L i) (L[i]))) ∧ Below W.heap.size W w' := by
  have hlook := hm.look_ok hk
  by_cases hz : i = 0
  · subst hz
    refine clo64 ((M (L[0]).f2).getD ⟨0, 0, 0⟩) (M (L[0]).f2).isSome gm g5 g7 g6 g1 L[0] W hlook h5 h70 h71 h72 h73 h6 _ ⟨?_⟩
    unfold faultP
    have : sprev L 0 = none := rfl
    rw [this]
    simp
  · have hw : wrap64 ((i : Int) - 1) = ((i - 1 : Nat) : Int) := by unfold wrap64; omega
    have hp : i - 1 < L.length := by omega
    have p : 0 ≤ wrap64 ((i : Int) - 1) := by omega
    have q : wrap64 ((i : Int) - 1) < (L.length : Int) := by omega
    obtain ⟨ad, e, x0, _⟩ := at_T34 (Kd.C_alloc hC (.cells #[.int .i64 ((M (L[i]).f2).getD ⟨0, 0, 0⟩).pl, .int .i64 ((M (L[i]).f2).getD ⟨0, 0, 0⟩).fr, .int .i64 ((M (L[i]).f2).getD ⟨0, 0, 0⟩).tt] 61)) (wrap64 ((i : Int) - 1)) p q
    subst e
    refine clo64p ((M (L[i]).f2).getD ⟨0, 0, 0⟩) (M (L[i]).f2).isSome gm g5 g7 g6 g1 L[i] W hlook h5 h70 h71 h72 h73 (i : Int) (decide_eq_true (by omega)) h6 ad L.length c h1 (eq_true p) (eq_true q) _ x0 _ ⟨?_⟩
    unfold faultP
    have : sprev L i = some L[i - 1].f0 := by simp [sprev, hz, hp]
    rw [this, hw, rd34_get L (i - 1) hp]
    simp
end Go.Proofs.Ytfjenooajbdcmaa.K
namespace Go.Proofs.Ytfjenooajbdcmaa.K
open Go Go.RowKit Go.Maps Go.Proofs.YtfjenooajbdcmaaW.PrintWords Go.Proofs.YtfjenooajbdcmaaW.PrintLast Go.Proofs.YtfjenooajbdcmaaW.PrintMore Go.Proofs.Ytfjenooajbdcmaa.GM Go.Proofs.Ytfjenooajbdcmaa.GW
set_option linter.unusedVariables false
def FolEnd (l : List S34) (w : World) (e : Ending) (w' : World) : Prop :=
  ((fol l).2.2 ≠ 0 ∧ e = .returned (.tuple #[.map none, .int .i64 (fol l).2.1, .int .i64 (fol l).2.2])) ∨ ((fol l).2.2 = 0 ∧ ∃ gm, w.heap.size ≤ gm ∧ e = .returned (.tuple #[.map (some gm), .int .i64 (-1), .int .i64 0]) ∧ HM w' gm l.length (fol l).1)
theorem sprev_next (l : List S34) (i : Nat) (hi : i < l.length) {x : S34} (hx : x = l[i]) : sprev l (i + 1) = some x.f0 := by
  subst hx
  simp [sprev, hi]
set_option maxHeartbeats 4000000 in
set_option maxRecDepth 100000 in
theorem follow_calls (A0 : Option Addr) (c0 : Nat) (l0 : List S34) (w : World) (hr0 : Kd.C k34 w A0 l0.length l0) (hc0 : l0.length ≤ c0) (hw : ∀ x ∈ l0, wf34 x = true) :
    Calls Try.prog 53 #[.slice A0 l0.length c0] w fun e w' => FolEnd l0 w e w' ∧ Below w.heap.size w w' := by
  have hu34 := Try.underlying34
  have hu61 := Try.underlying61
  have hu22 := Try.underlying22
  have HR0 := Aside0.mk hr0
  have HC0 := Aside0.mk hc0
  have HW := Aside0.mk hw
  have HB := Aside0.mk (Below.refl w.heap.size w)
  clear hr0 hc0 hw
  by_cases hbig : l0.length > 128
  · have cb : decide ((l0.length : Int) > 128) = true := decide_eq_true (by omega)
    have hf : fol l0 = (fun _ => none, -1, 8) := by unfold fol; rw [if_pos hbig]
    have HF := Aside0.mk hf
    clear hf hbig
    go_enter Try.func53, Try.ntmps53
    go_wp2_with (first
      | ((with_reducible refine gqD (N := 1) rfl ?_); refine GS.bx (N := 1) (cs := #[.slice A0 l0.length c0]) (t := 22) ?_; intro g1 hg w1 hbox hb; have n0_ := Aside0.mk (lqT (GS.lB HB.out) hb); have B1 := Aside0.mk hbox; have G1 : Aside0 (w.heap.size ≤ g1) := ⟨by rw [hg]; exact (lqZ (GS.lB HB.out))⟩; clear HB; have HB := n0_; clear n0_ hb hbox hg; obtain ⟨hz1, hf1⟩ := GS.c1 B1.out)
      | ((with_reducible refine gate_dst (N := 11) rfl ?_); refine map_event rfl (t := 56) rfl ?_; intro gm hgm w2 hmap hb; have GM_ : Aside0 (w.heap.size ≤ gm) := ⟨by rw [hgm]; exact (lqZ (GS.lB HB.out))⟩; have NM1 : Aside0 (g1 ≠ gm) := ⟨by rw [hgm]; exact Nat.ne_of_lt (blk_lt (GS.bqX B1.out))⟩; have HM0 := Aside0.mk (HM.new hmap); clear hmap hgm; have n0_ := Aside0.mk (lqT (GS.lB HB.out) hb); have n1_ := Aside0.mk (bqB (GS.bqX B1.out) hb); clear HB B1 hz1 hf1; have HB := n0_; have B1 := n1_; clear n0_ n1_ hb; obtain ⟨hz1, hf1⟩ := GS.c1 B1.out)
      | ((with_reducible refine gqD (N := 5) rfl ?_); refine GS.bx (N := 5) (cs := #[.map none]) (t := 56) ?_; intro g5 hg w3 hbox hb; have G5 : Aside0 (w.heap.size ≤ g5) := ⟨by rw [hg]; exact (lqZ (GS.lB HB.out))⟩; have N51 : Aside0 (g5 ≠ g1) := ⟨by rw [hg]; exact Ne.symm (Nat.ne_of_lt (blk_lt (GS.bqX B1.out)))⟩; have N5m : Aside0 (g5 ≠ gm) := ⟨by rw [hg]; exact Ne.symm (Nat.ne_of_lt HM0.out.lt)⟩; have n0_ := Aside0.mk (lqT (GS.lB HB.out) hb); have n1_ := Aside0.mk (bqB (GS.bqX B1.out) hb); have n2_ := Aside0.mk (HM0.out.kept (grown_of_below hb none) (by simp)); have B5 := Aside0.mk hbox; clear HB B1 hz1 hf1 HM0; have HB := n0_; have B1 := n1_; have HM0 := n2_; clear n0_ n1_ n2_ hb hbox hg; obtain ⟨hz1, hf1⟩ := GS.c1 B1.out; obtain ⟨hz5, hf5⟩ := GS.c1 B5.out; have q15 := N51.out; have q51 := Ne.symm N51.out))
    all_goals (go_ret3; exact ⟨.inl ⟨by rw [HF.out]; decide, by rw [HF.out]; rfl⟩, GS.lB HB.out⟩)
  · have cb : decide ((l0.length : Int) > 128) = false := decide_eq_false (by omega)
    have HL := Aside0.mk (show l0.length ≤ 128 by omega)
    clear hbig
    go_enter Try.func53, Try.ntmps53
    go_wp2_with (first
      | ((with_reducible refine gqD (N := 1) rfl ?_); refine GS.bx (N := 1) (cs := #[.slice A0 l0.length c0]) (t := 22) ?_; intro g1 hg w1 hbox hb; have n0_ := Aside0.mk (lqT (GS.lB HB.out) hb); have B1 := Aside0.mk hbox; have G1 : Aside0 (w.heap.size ≤ g1) := ⟨by rw [hg]; exact (lqZ (GS.lB HB.out))⟩; clear HB; have HB := n0_; clear n0_ hb hbox hg; obtain ⟨hz1, hf1⟩ := GS.c1 B1.out)
      | ((with_reducible refine gate_dst (N := 11) rfl ?_); refine map_event rfl (t := 56) rfl ?_; intro gm hgm w2 hmap hb; have GM_ : Aside0 (w.heap.size ≤ gm) := ⟨by rw [hgm]; exact (lqZ (GS.lB HB.out))⟩; have NM1 : Aside0 (g1 ≠ gm) := ⟨by rw [hgm]; exact Nat.ne_of_lt (blk_lt (GS.bqX B1.out))⟩; have HM0 := Aside0.mk (HM.new hmap); clear hmap hgm; have n0_ := Aside0.mk (lqT (GS.lB HB.out) hb); have n1_ := Aside0.mk (bqB (GS.bqX B1.out) hb); clear HB B1 hz1 hf1; have HB := n0_; have B1 := n1_; clear n0_ n1_ hb; obtain ⟨hz1, hf1⟩ := GS.c1 B1.out)
      | ((with_reducible refine gqD (N := 5) rfl ?_); refine GS.bx (N := 5) (cs := #[.map none]) (t := 56) ?_; intro g5 hg w3 hbox hb; have G5 : Aside0 (w.heap.size ≤ g5) := ⟨by rw [hg]; exact (lqZ (GS.lB HB.out))⟩; have N51 : Aside0 (g5 ≠ g1) := ⟨by rw [hg]; exact Ne.symm (Nat.ne_of_lt (blk_lt (GS.bqX B1.out)))⟩; have N5m : Aside0 (g5 ≠ gm) := ⟨by rw [hg]; exact Ne.symm (Nat.ne_of_lt HM0.out.lt)⟩; have n0_ := Aside0.mk (lqT (GS.lB HB.out) hb); have n1_ := Aside0.mk (bqB (GS.bqX B1.out) hb); have n2_ := Aside0.mk (HM0.out.kept (grown_of_below hb none) (by simp)); have B5 := Aside0.mk hbox; clear HB B1 hz1 hf1 HM0; have HB := n0_; have B1 := n1_; have HM0 := n2_; clear n0_ n1_ n2_ hb hbox hg; obtain ⟨hz1, hf1⟩ := GS.c1 B1.out; obtain ⟨hz5, hf5⟩ := GS.c1 B5.out; have q15 := N51.out; have q51 := Ne.symm N51.out))
    have N15 : Aside0 (g1 ≠ g5) := ⟨Ne.symm N51.out⟩
    have HM1 : Aside0 (HM (w3.setCell ⟨g5, 0, none⟩ (.map (some gm))) gm 0 (fun _ => none)) := ⟨HM0.out.set (Ne.symm N5m.out) _⟩
    have HF : Aside0 (fol l0 = folgo (fun _ => none) none 0 l0) := ⟨by unfold fol; rw [if_neg (by have := HL.out; omega)]⟩
    go_loopg [17] l0.length (fun kq v17 w' => ∃ (i : Nat) (M : Int → Option St), v17 = .int .i64 (i : Int) ∧ Aside0 (i + kq = l0.length) ∧ Aside0 (HM w' gm i M) ∧ Aside0 (w'.heap[g1]? = some (.cells #[.slice A0 l0.length c0] 22 (0, 0))) ∧ Aside0 (w'.heap[g5]? = some (.cells #[.map (some gm)] 56 (0, 0))) ∧ Aside0 (Below w.heap.size w w') ∧ Aside0 (fol l0 = folgo M (sprev l0 i) i (l0.drop i)))
    case atStart => exact ⟨0, _, rfl, ⟨by omega⟩, HM1, ⟨GS.bqZ B1.out⟩, ⟨GS.bqZ B5.out⟩, ⟨GS.lB HB.out⟩, HF⟩
    case round =>
      clear HM1 HM0 B1 B5 HB HF hz1 hf1 hz5 hf5
      obtain ⟨i, M, rfl, HJ, HM_, B1, B5, HB, HF⟩ := hrel
      cases gk with
      | zero =>
        have ei : i = l0.length := by have := HJ.out; omega
        subst ei
        have cz : decide ((l0.length : Int) < (l0.length : Int)) = false := decide_eq_false (by omega)
        have hfe := HF.out
        rw [List.drop_length, folgo] at hfe
        have HF2 := Aside0.mk hfe
        clear hfe HF
        obtain ⟨hz5, hf5⟩ := GS.c1 B5.out
        go_wp2
        go_ret3
        refine ⟨.inr ⟨by rw [HF2.out], gm, GM_.out, rfl, by rw [HF2.out]; exact HM_.out⟩, GS.lB HB.out⟩
      | succ gk =>
        have hi : i < l0.length := by have := HJ.out; omega
        have hk := HW.out _ (List.getElem_mem hi)
        have cb2 : decide ((i : Int) < (l0.length : Int)) = true := decide_eq_true (by omega)
        have hw2 : wrap64 ((i : Int) + 1) = ((i + 1 : Nat) : Int) := by unfold wrap64; have := HL.out; omega
        have HW2 := Aside0.mk hw2
        obtain ⟨ad, eA, x0, x1, x2, x3⟩ := at_T34 (Kd.C_below HR0.out HB.out) (i : Int) (by omega) (by omega)
        rw [rd34_get l0 i hi] at x0 x1 x2 x3
        simp only [Int.toNat_natCast] at x0 x1 x2 x3
        cases eA
        have pj : (0 ≤ (i : Int)) = True := eq_true (by omega)
        have qj : ((i : Int) < (l0.length : Int)) = True := eq_true (by omega)
        have hfo := HF.out
        rw [List.drop_eq_getElem_cons hi, folgo] at hfo
        obtain ⟨xv, hxv⟩ : ∃ xv, xv = l0[i] := ⟨_, rfl⟩
        rw [← hxv] at x0 x1 x2 x3 hk hfo
        have HK := Aside0.mk hk
        have HF2 := Aside0.mk hfo
        have HX := Aside0.mk hxv
        clear hw2 hk hfo HF hxv
        go_upto_region 7 with (first
          | ((with_reducible refine gqD (N := 6) rfl ?_); refine GS.bx (N := 6) (cs := #[.int .i64 0]) (t := 3) ?_; intro g6 hg w4 hbox hb; have G6 : Aside0 (w.heap.size ≤ g6) := ⟨by rw [hg]; exact (lqZ (GS.lB HB.out))⟩; have N61 : Aside0 (g1 ≠ g6) := ⟨by rw [hg]; exact Nat.ne_of_lt (blk_lt (GS.bqX B1.out))⟩; have N65 : Aside0 (g5 ≠ g6) := ⟨by rw [hg]; exact Nat.ne_of_lt (blk_lt (GS.bqX B5.out))⟩; have N6m : Aside0 (gm ≠ g6) := ⟨by rw [hg]; exact Nat.ne_of_lt HM_.out.lt⟩; have n0_ := Aside0.mk (lqT (GS.lB HB.out) hb); have n1_ := Aside0.mk (bqB (GS.bqX B1.out) hb); have n2_ := Aside0.mk (HM_.out.kept (grown_of_below hb none) (by simp)); have n3_ := Aside0.mk (bqB (GS.bqX B5.out) hb); have B6 := Aside0.mk hbox; clear HB B1 B5 HM_ x0 x1 x2 x3; have HB := n0_; have B1 := n1_; have HM_ := n2_; have B5 := n3_; clear n0_ n1_ n2_ n3_ hb hbox hg; obtain ⟨hz6, hf6⟩ := GS.c1 B6.out)
          | ((with_reducible refine gqD (N := 7) rfl ?_); refine GS.bx (N := 7) (cs := #[.int .i64 0, .int .i64 0, .int .i64 0, .int .i64 0]) (t := 34) ?_; intro g7 hg w5 hbox hb; have G7 : Aside0 (w.heap.size ≤ g7) := ⟨by rw [hg]; exact (lqZ (GS.lB HB.out))⟩; have N71 : Aside0 (g1 ≠ g7) := ⟨by rw [hg]; exact Nat.ne_of_lt (blk_lt (GS.bqX B1.out))⟩; have N75 : Aside0 (g5 ≠ g7) := ⟨by rw [hg]; exact Nat.ne_of_lt (blk_lt (GS.bqX B5.out))⟩; have N76 : Aside0 (g6 ≠ g7) := ⟨by rw [hg]; exact Nat.ne_of_lt (blk_lt (GS.bqX B6.out))⟩; have N7m : Aside0 (gm ≠ g7) := ⟨by rw [hg]; exact Nat.ne_of_lt HM_.out.lt⟩; have n0_ := Aside0.mk (lqT (GS.lB HB.out) hb); have n1_ := Aside0.mk (bqB (GS.bqX B1.out) hb); have n2_ := Aside0.mk (HM_.out.kept (grown_of_below hb none) (by simp)); have n3_ := Aside0.mk (bqB (GS.bqX B5.out) hb); have n4_ := Aside0.mk (bqB (GS.bqX B6.out) hb); have B7 := Aside0.mk hbox; clear HB B1 B5 HM_ B6 hz6 hf6; have HB := n0_; have B1 := n1_; have HM_ := n2_; have B5 := n3_; have B6 := n4_; clear n0_ n1_ n2_ n3_ n4_ hb hbox hg; obtain ⟨hz6, hf6⟩ := GS.c1 B6.out; obtain ⟨hz70, hz71, hz72, hz73, hf70, hf71, hf72, hf73⟩ := GS.c4 B7.out; have u67 := N76.out; have u76 := Ne.symm N76.out))
        have N67 : Aside0 (g7 ≠ g6) := ⟨Ne.symm N76.out⟩
        have n1_ : Aside0 ((((((w5.setCell ⟨g6, 0, none⟩ (.int .i64 (i : Int))).setCell ⟨g7, 0, none⟩ (.int .i64 xv.f0)).setCell ⟨g7, 1, none⟩ (.int .i64 xv.f1)).setCell ⟨g7, 2, none⟩ (.int .i64 xv.f2)).setCell ⟨g7, 3, none⟩ (.int .i64 xv.f3)).heap[g1]? = some (.cells #[.slice (some ad) l0.length c0] 22 (0, 0))) := ⟨GS.bqZ B1.out⟩
        have n5_ : Aside0 ((((((w5.setCell ⟨g6, 0, none⟩ (.int .i64 (i : Int))).setCell ⟨g7, 0, none⟩ (.int .i64 xv.f0)).setCell ⟨g7, 1, none⟩ (.int .i64 xv.f1)).setCell ⟨g7, 2, none⟩ (.int .i64 xv.f2)).setCell ⟨g7, 3, none⟩ (.int .i64 xv.f3)).heap[g5]? = some (.cells #[.map (some gm)] 56 (0, 0))) := ⟨GS.bqZ B5.out⟩
        have n6_ : Aside0 ((((((w5.setCell ⟨g6, 0, none⟩ (.int .i64 (i : Int))).setCell ⟨g7, 0, none⟩ (.int .i64 xv.f0)).setCell ⟨g7, 1, none⟩ (.int .i64 xv.f1)).setCell ⟨g7, 2, none⟩ (.int .i64 xv.f2)).setCell ⟨g7, 3, none⟩ (.int .i64 xv.f3)).heap[g6]? = some (.cells #[.int .i64 (i : Int)] 3 (0, 0))) := ⟨GS.bqZ B6.out⟩
        have n7_ : Aside0 ((((((w5.setCell ⟨g6, 0, none⟩ (.int .i64 (i : Int))).setCell ⟨g7, 0, none⟩ (.int .i64 xv.f0)).setCell ⟨g7, 1, none⟩ (.int .i64 xv.f1)).setCell ⟨g7, 2, none⟩ (.int .i64 xv.f2)).setCell ⟨g7, 3, none⟩ (.int .i64 xv.f3)).heap[g7]? = some (.cells #[.int .i64 xv.f0, .int .i64 xv.f1, .int .i64 xv.f2, .int .i64 xv.f3] 34 (0, 0))) := ⟨GS.bqZ B7.out⟩
        have nm_ : Aside0 (HM (((((w5.setCell ⟨g6, 0, none⟩ (.int .i64 (i : Int))).setCell ⟨g7, 0, none⟩ (.int .i64 xv.f0)).setCell ⟨g7, 1, none⟩ (.int .i64 xv.f1)).setCell ⟨g7, 2, none⟩ (.int .i64 xv.f2)).setCell ⟨g7, 3, none⟩ (.int .i64 xv.f3)) gm i M) := ⟨((((HM_.out.set N6m.out _).set N7m.out _).set N7m.out _).set N7m.out _).set N7m.out _⟩
        have nb_ : Aside0 (Below w.heap.size w (((((w5.setCell ⟨g6, 0, none⟩ (.int .i64 (i : Int))).setCell ⟨g7, 0, none⟩ (.int .i64 xv.f0)).setCell ⟨g7, 1, none⟩ (.int .i64 xv.f1)).setCell ⟨g7, 2, none⟩ (.int .i64 xv.f2)).setCell ⟨g7, 3, none⟩ (.int .i64 xv.f3))) := ⟨GS.lB HB.out⟩
        generalize (((((w5.setCell ⟨g6, 0, none⟩ (.int .i64 (i : Int))).setCell ⟨g7, 0, none⟩ (.int .i64 xv.f0)).setCell ⟨g7, 1, none⟩ (.int .i64 xv.f1)).setCell ⟨g7, 2, none⟩ (.int .i64 xv.f2)).setCell ⟨g7, 3, none⟩ (.int .i64 xv.f3)) = W6 at n1_ n5_ n6_ n7_ nm_ nb_ ⊢
        clear HB B1 B5 B6 B7 HM_ hz6 hf6 hz70 hz71 hz72 hz73 hf70 hf71 hf72 hf73
        have HC6 := Aside0.mk (Kd.C_below HR0.out nb_.out)
        have hclo := fun (hi' : i < l0.length) (hx' : xv = l0[i]) => clo64_all M i gm g5 g7 g6 g1 l0 i hi' HL.out (some ad) c0 W6 nm_.out ((bqC n5_.out 0).trans rfl) ((bqC n7_.out 0).trans (by rw [← hx']; rfl)) ((bqC n7_.out 1).trans (by rw [← hx']; rfl)) ((bqC n7_.out 2).trans (by rw [← hx']; rfl)) ((bqC n7_.out 3).trans (by rw [← hx']; rfl)) ((bqC n6_.out 0).trans rfl) ((bqC n1_.out 0).trans rfl) HC6.out (by rw [← hx']; exact HK.out)
        have hcl := hclo hi HX.out
        rw [← HX.out] at hcl
        have HCL := Aside0.mk hcl
        clear hclo hcl
        obtain ⟨r, hr⟩ : ∃ r, r = faultP M (sprev l0 i) xv := ⟨_, rfl⟩
        rw [← hr] at HCL HF2
        have HRR := Aside0.mk hr
        clear hr
        by_cases hz : r = 0
        · subst hz
          have cr : ((0 : Int) != 0) = false := rfl
          have hnew := HF2.out
          rw [if_pos rfl] at hnew
          have HF3 := Aside0.mk hnew
          clear hnew HF2
          obtain ⟨sv, hsv⟩ : ∃ sv, sv = (M xv.f2).getD ⟨0, 0, 0⟩ := ⟨_, rfl⟩
          have HSV := Aside0.mk hsv
          clear hsv
          by_cases c1 : xv.f3 = 1
          · have d1 : (xv.f3 == 1) = true := beq_iff_eq.mpr c1
            have NS : Aside0 (newSt sv xv = ⟨xv.f1, xv.f0, 100002⟩) := ⟨by unfold newSt; rw [if_pos c1]⟩
            clear c1
            go_upto_region 18 with (first
              | ((with_reducible show Calls Try.prog 64 _ _ _); refine HCL.out.mono ?_; rintro e w7 ⟨rfl, hb⟩; have k1_ := Aside0.mk (bqB n1_.out hb); have k5_ := Aside0.mk (bqB n5_.out hb); have k6_ := Aside0.mk (bqB n6_.out hb); have k7_ := Aside0.mk (bqB n7_.out hb); have km_ := Aside0.mk (nm_.out.kept (grown_of_below hb none) (by simp)); have k2_ := Aside0.mk (lqT nb_.out hb); clear hb n1_ n5_ n6_ n7_ nm_ nb_ HC6; obtain ⟨hz5, hf5⟩ := GS.c1 k5_.out; obtain ⟨hz70, hz71, hz72, hz73, hf70, hf71, hf72, hf73⟩ := GS.c4 k7_.out; have hlook := km_.out.look HK.out; rw [← HSV.out] at hlook; unfold stV at hlook)
              | ((with_reducible refine gqD (N := 10) rfl ?_); refine GS.bx (N := 10) (cs := #[.int .i64 0, .int .i64 0, .int .i64 0]) (t := 61) ?_; intro g10 hg w8 hbox hb; have G10 : Aside0 (w.heap.size ≤ g10) := ⟨by rw [hg]; exact (lqZ (GS.lB k2_.out))⟩; have P1 : Aside0 (g1 ≠ g10) := ⟨by rw [hg]; exact Nat.ne_of_lt (blk_lt (GS.bqX k1_.out))⟩; have P5 : Aside0 (g5 ≠ g10) := ⟨by rw [hg]; exact Nat.ne_of_lt (blk_lt (GS.bqX k5_.out))⟩; have P7 : Aside0 (g7 ≠ g10) := ⟨by rw [hg]; exact Nat.ne_of_lt (blk_lt (GS.bqX k7_.out))⟩; have Pm : Aside0 (gm ≠ g10) := ⟨by rw [hg]; exact Nat.ne_of_lt km_.out.lt⟩; have p1_ := Aside0.mk (bqB (GS.bqX k1_.out) hb); have p5_ := Aside0.mk (bqB (GS.bqX k5_.out) hb); have p7_ := Aside0.mk (bqB (GS.bqX k7_.out) hb); have pm_ := Aside0.mk (km_.out.kept (grown_of_below hb none) (by simp)); have p2_ := Aside0.mk (lqT (GS.lB k2_.out) hb); have B10 := Aside0.mk hbox; clear k1_ k5_ k6_ k7_ km_ k2_ hlook hz5 hf5 hz70 hz71 hz72 hz73 hf70 hf71 hf72 hf73 hb hbox hg; obtain ⟨hz5, hf5⟩ := GS.c1 p5_.out; obtain ⟨hz70, hz71, hz72, hz73, hf70, hf71, hf72, hf73⟩ := GS.c4 p7_.out; obtain ⟨hy0, hy1, hy2, hg0, hg1, hg2⟩ := GS.c3 B10.out; have u5 := P5.out; have u5' := Ne.symm P5.out; have u7 := P7.out; have u7' := Ne.symm P7.out))
            have e1_ : Aside0 (((((((w8.setCell ⟨g10, 0, none⟩ (.int .i64 sv.pl)).setCell ⟨g10, 1, none⟩ (.int .i64 sv.fr)).setCell ⟨g10, 2, none⟩ (.int .i64 sv.tt)).setCell ⟨g10, 0, none⟩ (.int .i64 xv.f1)).setCell ⟨g10, 1, none⟩ (.int .i64 xv.f0)).setCell ⟨g10, 2, none⟩ (.int .i64 100002)).heap[g1]? = some (.cells #[.slice (some ad) l0.length c0] 22 (0, 0))) := ⟨GS.bqZ p1_.out⟩
            have e5_ : Aside0 (((((((w8.setCell ⟨g10, 0, none⟩ (.int .i64 sv.pl)).setCell ⟨g10, 1, none⟩ (.int .i64 sv.fr)).setCell ⟨g10, 2, none⟩ (.int .i64 sv.tt)).setCell ⟨g10, 0, none⟩ (.int .i64 xv.f1)).setCell ⟨g10, 1, none⟩ (.int .i64 xv.f0)).setCell ⟨g10, 2, none⟩ (.int .i64 100002)).heap[g5]? = some (.cells #[.map (some gm)] 56 (0, 0))) := ⟨GS.bqZ p5_.out⟩
            have e7_ : Aside0 (((((((w8.setCell ⟨g10, 0, none⟩ (.int .i64 sv.pl)).setCell ⟨g10, 1, none⟩ (.int .i64 sv.fr)).setCell ⟨g10, 2, none⟩ (.int .i64 sv.tt)).setCell ⟨g10, 0, none⟩ (.int .i64 xv.f1)).setCell ⟨g10, 1, none⟩ (.int .i64 xv.f0)).setCell ⟨g10, 2, none⟩ (.int .i64 100002)).heap[g7]? = some (.cells #[.int .i64 xv.f0, .int .i64 xv.f1, .int .i64 xv.f2, .int .i64 xv.f3] 34 (0, 0))) := ⟨GS.bqZ p7_.out⟩
            have e10_ : Aside0 (((((((w8.setCell ⟨g10, 0, none⟩ (.int .i64 sv.pl)).setCell ⟨g10, 1, none⟩ (.int .i64 sv.fr)).setCell ⟨g10, 2, none⟩ (.int .i64 sv.tt)).setCell ⟨g10, 0, none⟩ (.int .i64 xv.f1)).setCell ⟨g10, 1, none⟩ (.int .i64 xv.f0)).setCell ⟨g10, 2, none⟩ (.int .i64 100002)).heap[g10]? = some (.cells #[.int .i64 xv.f1, .int .i64 xv.f0, .int .i64 100002] 61 (0, 0))) := ⟨GS.bqZ B10.out⟩
            have em_ : Aside0 (HM ((((((w8.setCell ⟨g10, 0, none⟩ (.int .i64 sv.pl)).setCell ⟨g10, 1, none⟩ (.int .i64 sv.fr)).setCell ⟨g10, 2, none⟩ (.int .i64 sv.tt)).setCell ⟨g10, 0, none⟩ (.int .i64 xv.f1)).setCell ⟨g10, 1, none⟩ (.int .i64 xv.f0)).setCell ⟨g10, 2, none⟩ (.int .i64 100002)) gm i M) := ⟨by with_reducible repeat (first | exact pm_.out | refine HM.set ?_ Pm.out _)⟩
            have eb_ : Aside0 (Below w.heap.size w ((((((w8.setCell ⟨g10, 0, none⟩ (.int .i64 sv.pl)).setCell ⟨g10, 1, none⟩ (.int .i64 sv.fr)).setCell ⟨g10, 2, none⟩ (.int .i64 sv.tt)).setCell ⟨g10, 0, none⟩ (.int .i64 xv.f1)).setCell ⟨g10, 1, none⟩ (.int .i64 xv.f0)).setCell ⟨g10, 2, none⟩ (.int .i64 100002))) := ⟨GS.lB p2_.out⟩
            generalize ((((((w8.setCell ⟨g10, 0, none⟩ (.int .i64 sv.pl)).setCell ⟨g10, 1, none⟩ (.int .i64 sv.fr)).setCell ⟨g10, 2, none⟩ (.int .i64 sv.tt)).setCell ⟨g10, 0, none⟩ (.int .i64 xv.f1)).setCell ⟨g10, 1, none⟩ (.int .i64 xv.f0)).setCell ⟨g10, 2, none⟩ (.int .i64 100002)) = W9 at e1_ e5_ e7_ e10_ em_ eb_ ⊢
            clear p1_ p5_ p7_ pm_ p2_ B10 hz5 hf5 hz70 hz71 hz72 hz73 hf70 hf71 hf72 hf73 hy0 hy1 hy2 hg0 hg1 hg2
            obtain ⟨hz5, hf5⟩ := GS.c1 e5_.out
            obtain ⟨hz70, hz71, hz72, hz73, hf70, hf71, hf72, hf73⟩ := GS.c4 e7_.out
            obtain ⟨hy0, hy1, hy2, hg0, hg1, hg2⟩ := GS.c3 e10_.out
            have hmx : i < maxLen := by have := HL.out; have := HJ.out; simp only [maxLen]; omega
            obtain ⟨w9, hupd, hm9, hg9⟩ := em_.out.update hmx HK.out ⟨xv.f1, xv.f0, 100002⟩
            unfold stV at hupd
            have f1_ := Aside0.mk (blk_grown e1_.out hg9 (by simp; exact NM1.out))
            have f5_ := Aside0.mk (blk_grown e5_.out hg9 (by simp; exact N5m.out))
            have fb_ := Aside0.mk (below_past eb_.out hg9 GM_.out)
            have fm_ := Aside0.mk hm9
            clear hm9 hg9 hmx
            go_wp2
            go_roundg gk
            case measure => omega
            case rel => exact ⟨i + 1, _, by first | rfl | (rw [HW2.out]) | simp [HW2.out], ⟨by have := HJ.out; omega⟩, fm_, f1_, f5_, fb_, ⟨by rw [HF3.out]; show folgo (mput M xv.f2 (newSt ((M xv.f2).getD ⟨0, 0, 0⟩) xv)) (some xv.f0) (i + 1) _ = folgo (mput M xv.f2 ⟨xv.f1, xv.f0, 100002⟩) (sprev l0 (i + 1)) (i + 1) _; rw [← HSV.out, NS.out, sprev_next l0 i hi HX.out]⟩⟩
          · have d1 : (xv.f3 == 1) = false := beq_eq_false_iff_ne.mpr c1
            by_cases c3 : xv.f3 = 3
            · have d3 : (xv.f3 == 3) = true := beq_iff_eq.mpr c3
              have NS : Aside0 (newSt sv xv = ⟨sv.pl, sv.fr, xv.f0⟩) := ⟨by unfold newSt; rw [if_neg c1, if_pos (Or.inl c3)]⟩
              clear c1 c3
              go_upto_region 18 with (first
                | ((with_reducible show Calls Try.prog 64 _ _ _); refine HCL.out.mono ?_; rintro e w7 ⟨rfl, hb⟩; have k1_ := Aside0.mk (bqB n1_.out hb); have k5_ := Aside0.mk (bqB n5_.out hb); have k6_ := Aside0.mk (bqB n6_.out hb); have k7_ := Aside0.mk (bqB n7_.out hb); have km_ := Aside0.mk (nm_.out.kept (grown_of_below hb none) (by simp)); have k2_ := Aside0.mk (lqT nb_.out hb); clear hb n1_ n5_ n6_ n7_ nm_ nb_ HC6; obtain ⟨hz5, hf5⟩ := GS.c1 k5_.out; obtain ⟨hz70, hz71, hz72, hz73, hf70, hf71, hf72, hf73⟩ := GS.c4 k7_.out; have hlook := km_.out.look HK.out; rw [← HSV.out] at hlook; unfold stV at hlook)
                | ((with_reducible refine gqD (N := 10) rfl ?_); refine GS.bx (N := 10) (cs := #[.int .i64 0, .int .i64 0, .int .i64 0]) (t := 61) ?_; intro g10 hg w8 hbox hb; have G10 : Aside0 (w.heap.size ≤ g10) := ⟨by rw [hg]; exact (lqZ (GS.lB k2_.out))⟩; have P1 : Aside0 (g1 ≠ g10) := ⟨by rw [hg]; exact Nat.ne_of_lt (blk_lt (GS.bqX k1_.out))⟩; have P5 : Aside0 (g5 ≠ g10) := ⟨by rw [hg]; exact Nat.ne_of_lt (blk_lt (GS.bqX k5_.out))⟩; have P7 : Aside0 (g7 ≠ g10) := ⟨by rw [hg]; exact Nat.ne_of_lt (blk_lt (GS.bqX k7_.out))⟩; have Pm : Aside0 (gm ≠ g10) := ⟨by rw [hg]; exact Nat.ne_of_lt km_.out.lt⟩; have p1_ := Aside0.mk (bqB (GS.bqX k1_.out) hb); have p5_ := Aside0.mk (bqB (GS.bqX k5_.out) hb); have p7_ := Aside0.mk (bqB (GS.bqX k7_.out) hb); have pm_ := Aside0.mk (km_.out.kept (grown_of_below hb none) (by simp)); have p2_ := Aside0.mk (lqT (GS.lB k2_.out) hb); have B10 := Aside0.mk hbox; clear k1_ k5_ k6_ k7_ km_ k2_ hlook hz5 hf5 hz70 hz71 hz72 hz73 hf70 hf71 hf72 hf73 hb hbox hg; obtain ⟨hz5, hf5⟩ := GS.c1 p5_.out; obtain ⟨hz70, hz71, hz72, hz73, hf70, hf71, hf72, hf73⟩ := GS.c4 p7_.out; obtain ⟨hy0, hy1, hy2, hg0, hg1, hg2⟩ := GS.c3 B10.out; have u5 := P5.out; have u5' := Ne.symm P5.out; have u7 := P7.out; have u7' := Ne.symm P7.out))
              have e1_ : Aside0 (((((w8.setCell ⟨g10, 0, none⟩ (.int .i64 sv.pl)).setCell ⟨g10, 1, none⟩ (.int .i64 sv.fr)).setCell ⟨g10, 2, none⟩ (.int .i64 sv.tt)).setCell ⟨g10, 2, none⟩ (.int .i64 xv.f0)).heap[g1]? = some (.cells #[.slice (some ad) l0.length c0] 22 (0, 0))) := ⟨GS.bqZ p1_.out⟩
              have e5_ : Aside0 (((((w8.setCell ⟨g10, 0, none⟩ (.int .i64 sv.pl)).setCell ⟨g10, 1, none⟩ (.int .i64 sv.fr)).setCell ⟨g10, 2, none⟩ (.int .i64 sv.tt)).setCell ⟨g10, 2, none⟩ (.int .i64 xv.f0)).heap[g5]? = some (.cells #[.map (some gm)] 56 (0, 0))) := ⟨GS.bqZ p5_.out⟩
              have e7_ : Aside0 (((((w8.setCell ⟨g10, 0, none⟩ (.int .i64 sv.pl)).setCell ⟨g10, 1, none⟩ (.int .i64 sv.fr)).setCell ⟨g10, 2, none⟩ (.int .i64 sv.tt)).setCell ⟨g10, 2, none⟩ (.int .i64 xv.f0)).heap[g7]? = some (.cells #[.int .i64 xv.f0, .int .i64 xv.f1, .int .i64 xv.f2, .int .i64 xv.f3] 34 (0, 0))) := ⟨GS.bqZ p7_.out⟩
              have e10_ : Aside0 (((((w8.setCell ⟨g10, 0, none⟩ (.int .i64 sv.pl)).setCell ⟨g10, 1, none⟩ (.int .i64 sv.fr)).setCell ⟨g10, 2, none⟩ (.int .i64 sv.tt)).setCell ⟨g10, 2, none⟩ (.int .i64 xv.f0)).heap[g10]? = some (.cells #[.int .i64 sv.pl, .int .i64 sv.fr, .int .i64 xv.f0] 61 (0, 0))) := ⟨GS.bqZ B10.out⟩
              have em_ : Aside0 (HM ((((w8.setCell ⟨g10, 0, none⟩ (.int .i64 sv.pl)).setCell ⟨g10, 1, none⟩ (.int .i64 sv.fr)).setCell ⟨g10, 2, none⟩ (.int .i64 sv.tt)).setCell ⟨g10, 2, none⟩ (.int .i64 xv.f0)) gm i M) := ⟨by with_reducible repeat (first | exact pm_.out | refine HM.set ?_ Pm.out _)⟩
              have eb_ : Aside0 (Below w.heap.size w ((((w8.setCell ⟨g10, 0, none⟩ (.int .i64 sv.pl)).setCell ⟨g10, 1, none⟩ (.int .i64 sv.fr)).setCell ⟨g10, 2, none⟩ (.int .i64 sv.tt)).setCell ⟨g10, 2, none⟩ (.int .i64 xv.f0))) := ⟨GS.lB p2_.out⟩
              generalize ((((w8.setCell ⟨g10, 0, none⟩ (.int .i64 sv.pl)).setCell ⟨g10, 1, none⟩ (.int .i64 sv.fr)).setCell ⟨g10, 2, none⟩ (.int .i64 sv.tt)).setCell ⟨g10, 2, none⟩ (.int .i64 xv.f0)) = W9 at e1_ e5_ e7_ e10_ em_ eb_ ⊢
              clear p1_ p5_ p7_ pm_ p2_ B10 hz5 hf5 hz70 hz71 hz72 hz73 hf70 hf71 hf72 hf73 hy0 hy1 hy2 hg0 hg1 hg2
              obtain ⟨hz5, hf5⟩ := GS.c1 e5_.out
              obtain ⟨hz70, hz71, hz72, hz73, hf70, hf71, hf72, hf73⟩ := GS.c4 e7_.out
              obtain ⟨hy0, hy1, hy2, hg0, hg1, hg2⟩ := GS.c3 e10_.out
              have hmx : i < maxLen := by have := HL.out; have := HJ.out; simp only [maxLen]; omega
              obtain ⟨w9, hupd, hm9, hg9⟩ := em_.out.update hmx HK.out ⟨sv.pl, sv.fr, xv.f0⟩
              unfold stV at hupd
              have f1_ := Aside0.mk (blk_grown e1_.out hg9 (by simp; exact NM1.out))
              have f5_ := Aside0.mk (blk_grown e5_.out hg9 (by simp; exact N5m.out))
              have fb_ := Aside0.mk (below_past eb_.out hg9 GM_.out)
              have fm_ := Aside0.mk hm9
              clear hm9 hg9 hmx
              go_wp2
              go_roundg gk
              case measure => omega
              case rel => exact ⟨i + 1, _, by first | rfl | (rw [HW2.out]) | simp [HW2.out], ⟨by have := HJ.out; omega⟩, fm_, f1_, f5_, fb_, ⟨by rw [HF3.out]; show folgo (mput M xv.f2 (newSt ((M xv.f2).getD ⟨0, 0, 0⟩) xv)) (some xv.f0) (i + 1) _ = folgo (mput M xv.f2 ⟨sv.pl, sv.fr, xv.f0⟩) (sprev l0 (i + 1)) (i + 1) _; rw [← HSV.out, NS.out, sprev_next l0 i hi HX.out]⟩⟩
            · have d3 : (xv.f3 == 3) = false := beq_eq_false_iff_ne.mpr c3
              by_cases c4 : xv.f3 = 4
              · have d4 : (xv.f3 == 4) = true := beq_iff_eq.mpr c4
                have NS : Aside0 (newSt sv xv = ⟨sv.pl, sv.fr, xv.f0⟩) := ⟨by unfold newSt; rw [if_neg c1, if_pos (Or.inr c4)]⟩
                clear c1 c3 c4
                go_upto_region 18 with (first
                  | ((with_reducible show Calls Try.prog 64 _ _ _); refine HCL.out.mono ?_; rintro e w7 ⟨rfl, hb⟩; have k1_ := Aside0.mk (bqB n1_.out hb); have k5_ := Aside0.mk (bqB n5_.out hb); have k6_ := Aside0.mk (bqB n6_.out hb); have k7_ := Aside0.mk (bqB n7_.out hb); have km_ := Aside0.mk (nm_.out.kept (grown_of_below hb none) (by simp)); have k2_ := Aside0.mk (lqT nb_.out hb); clear hb n1_ n5_ n6_ n7_ nm_ nb_ HC6; obtain ⟨hz5, hf5⟩ := GS.c1 k5_.out; obtain ⟨hz70, hz71, hz72, hz73, hf70, hf71, hf72, hf73⟩ := GS.c4 k7_.out; have hlook := km_.out.look HK.out; rw [← HSV.out] at hlook; unfold stV at hlook)
                  | ((with_reducible refine gqD (N := 10) rfl ?_); refine GS.bx (N := 10) (cs := #[.int .i64 0, .int .i64 0, .int .i64 0]) (t := 61) ?_; intro g10 hg w8 hbox hb; have G10 : Aside0 (w.heap.size ≤ g10) := ⟨by rw [hg]; exact (lqZ (GS.lB k2_.out))⟩; have P1 : Aside0 (g1 ≠ g10) := ⟨by rw [hg]; exact Nat.ne_of_lt (blk_lt (GS.bqX k1_.out))⟩; have P5 : Aside0 (g5 ≠ g10) := ⟨by rw [hg]; exact Nat.ne_of_lt (blk_lt (GS.bqX k5_.out))⟩; have P7 : Aside0 (g7 ≠ g10) := ⟨by rw [hg]; exact Nat.ne_of_lt (blk_lt (GS.bqX k7_.out))⟩; have Pm : Aside0 (gm ≠ g10) := ⟨by rw [hg]; exact Nat.ne_of_lt km_.out.lt⟩; have p1_ := Aside0.mk (bqB (GS.bqX k1_.out) hb); have p5_ := Aside0.mk (bqB (GS.bqX k5_.out) hb); have p7_ := Aside0.mk (bqB (GS.bqX k7_.out) hb); have pm_ := Aside0.mk (km_.out.kept (grown_of_below hb none) (by simp)); have p2_ := Aside0.mk (lqT (GS.lB k2_.out) hb); have B10 := Aside0.mk hbox; clear k1_ k5_ k6_ k7_ km_ k2_ hlook hz5 hf5 hz70 hz71 hz72 hz73 hf70 hf71 hf72 hf73 hb hbox hg; obtain ⟨hz5, hf5⟩ := GS.c1 p5_.out; obtain ⟨hz70, hz71, hz72, hz73, hf70, hf71, hf72, hf73⟩ := GS.c4 p7_.out; obtain ⟨hy0, hy1, hy2, hg0, hg1, hg2⟩ := GS.c3 B10.out; have u5 := P5.out; have u5' := Ne.symm P5.out; have u7 := P7.out; have u7' := Ne.symm P7.out))
                have e1_ : Aside0 (((((w8.setCell ⟨g10, 0, none⟩ (.int .i64 sv.pl)).setCell ⟨g10, 1, none⟩ (.int .i64 sv.fr)).setCell ⟨g10, 2, none⟩ (.int .i64 sv.tt)).setCell ⟨g10, 2, none⟩ (.int .i64 xv.f0)).heap[g1]? = some (.cells #[.slice (some ad) l0.length c0] 22 (0, 0))) := ⟨GS.bqZ p1_.out⟩
                have e5_ : Aside0 (((((w8.setCell ⟨g10, 0, none⟩ (.int .i64 sv.pl)).setCell ⟨g10, 1, none⟩ (.int .i64 sv.fr)).setCell ⟨g10, 2, none⟩ (.int .i64 sv.tt)).setCell ⟨g10, 2, none⟩ (.int .i64 xv.f0)).heap[g5]? = some (.cells #[.map (some gm)] 56 (0, 0))) := ⟨GS.bqZ p5_.out⟩
                have e7_ : Aside0 (((((w8.setCell ⟨g10, 0, none⟩ (.int .i64 sv.pl)).setCell ⟨g10, 1, none⟩ (.int .i64 sv.fr)).setCell ⟨g10, 2, none⟩ (.int .i64 sv.tt)).setCell ⟨g10, 2, none⟩ (.int .i64 xv.f0)).heap[g7]? = some (.cells #[.int .i64 xv.f0, .int .i64 xv.f1, .int .i64 xv.f2, .int .i64 xv.f3] 34 (0, 0))) := ⟨GS.bqZ p7_.out⟩
                have e10_ : Aside0 (((((w8.setCell ⟨g10, 0, none⟩ (.int .i64 sv.pl)).setCell ⟨g10, 1, none⟩ (.int .i64 sv.fr)).setCell ⟨g10, 2, none⟩ (.int .i64 sv.tt)).setCell ⟨g10, 2, none⟩ (.int .i64 xv.f0)).heap[g10]? = some (.cells #[.int .i64 sv.pl, .int .i64 sv.fr, .int .i64 xv.f0] 61 (0, 0))) := ⟨GS.bqZ B10.out⟩
                have em_ : Aside0 (HM ((((w8.setCell ⟨g10, 0, none⟩ (.int .i64 sv.pl)).setCell ⟨g10, 1, none⟩ (.int .i64 sv.fr)).setCell ⟨g10, 2, none⟩ (.int .i64 sv.tt)).setCell ⟨g10, 2, none⟩ (.int .i64 xv.f0)) gm i M) := ⟨by with_reducible repeat (first | exact pm_.out | refine HM.set ?_ Pm.out _)⟩
                have eb_ : Aside0 (Below w.heap.size w ((((w8.setCell ⟨g10, 0, none⟩ (.int .i64 sv.pl)).setCell ⟨g10, 1, none⟩ (.int .i64 sv.fr)).setCell ⟨g10, 2, none⟩ (.int .i64 sv.tt)).setCell ⟨g10, 2, none⟩ (.int .i64 xv.f0))) := ⟨GS.lB p2_.out⟩
                generalize ((((w8.setCell ⟨g10, 0, none⟩ (.int .i64 sv.pl)).setCell ⟨g10, 1, none⟩ (.int .i64 sv.fr)).setCell ⟨g10, 2, none⟩ (.int .i64 sv.tt)).setCell ⟨g10, 2, none⟩ (.int .i64 xv.f0)) = W9 at e1_ e5_ e7_ e10_ em_ eb_ ⊢
                clear p1_ p5_ p7_ pm_ p2_ B10 hz5 hf5 hz70 hz71 hz72 hz73 hf70 hf71 hf72 hf73 hy0 hy1 hy2 hg0 hg1 hg2
                obtain ⟨hz5, hf5⟩ := GS.c1 e5_.out
                obtain ⟨hz70, hz71, hz72, hz73, hf70, hf71, hf72, hf73⟩ := GS.c4 e7_.out
                obtain ⟨hy0, hy1, hy2, hg0, hg1, hg2⟩ := GS.c3 e10_.out
                have hmx : i < maxLen := by have := HL.out; have := HJ.out; simp only [maxLen]; omega
                obtain ⟨w9, hupd, hm9, hg9⟩ := em_.out.update hmx HK.out ⟨sv.pl, sv.fr, xv.f0⟩
                unfold stV at hupd
                have f1_ := Aside0.mk (blk_grown e1_.out hg9 (by simp; exact NM1.out))
                have f5_ := Aside0.mk (blk_grown e5_.out hg9 (by simp; exact N5m.out))
                have fb_ := Aside0.mk (below_past eb_.out hg9 GM_.out)
                have fm_ := Aside0.mk hm9
                clear hm9 hg9 hmx
                go_wp2
                go_roundg gk
                case measure => omega
                case rel => exact ⟨i + 1, _, by first | rfl | (rw [HW2.out]) | simp [HW2.out], ⟨by have := HJ.out; omega⟩, fm_, f1_, f5_, fb_, ⟨by rw [HF3.out]; show folgo (mput M xv.f2 (newSt ((M xv.f2).getD ⟨0, 0, 0⟩) xv)) (some xv.f0) (i + 1) _ = folgo (mput M xv.f2 ⟨sv.pl, sv.fr, xv.f0⟩) (sprev l0 (i + 1)) (i + 1) _; rw [← HSV.out, NS.out, sprev_next l0 i hi HX.out]⟩⟩
              · have d4 : (xv.f3 == 4) = false := beq_eq_false_iff_ne.mpr c4
                have NS : Aside0 (newSt sv xv = sv) := ⟨by unfold newSt; rw [if_neg c1, if_neg (by omega)]⟩
                clear c1 c3 c4
                go_upto_region 18 with (first
                  | ((with_reducible show Calls Try.prog 64 _ _ _); refine HCL.out.mono ?_; rintro e w7 ⟨rfl, hb⟩; have k1_ := Aside0.mk (bqB n1_.out hb); have k5_ := Aside0.mk (bqB n5_.out hb); have k6_ := Aside0.mk (bqB n6_.out hb); have k7_ := Aside0.mk (bqB n7_.out hb); have km_ := Aside0.mk (nm_.out.kept (grown_of_below hb none) (by simp)); have k2_ := Aside0.mk (lqT nb_.out hb); clear hb n1_ n5_ n6_ n7_ nm_ nb_ HC6; obtain ⟨hz5, hf5⟩ := GS.c1 k5_.out; obtain ⟨hz70, hz71, hz72, hz73, hf70, hf71, hf72, hf73⟩ := GS.c4 k7_.out; have hlook := km_.out.look HK.out; rw [← HSV.out] at hlook; unfold stV at hlook)
                  | ((with_reducible refine gqD (N := 10) rfl ?_); refine GS.bx (N := 10) (cs := #[.int .i64 0, .int .i64 0, .int .i64 0]) (t := 61) ?_; intro g10 hg w8 hbox hb; have G10 : Aside0 (w.heap.size ≤ g10) := ⟨by rw [hg]; exact (lqZ (GS.lB k2_.out))⟩; have P1 : Aside0 (g1 ≠ g10) := ⟨by rw [hg]; exact Nat.ne_of_lt (blk_lt (GS.bqX k1_.out))⟩; have P5 : Aside0 (g5 ≠ g10) := ⟨by rw [hg]; exact Nat.ne_of_lt (blk_lt (GS.bqX k5_.out))⟩; have P7 : Aside0 (g7 ≠ g10) := ⟨by rw [hg]; exact Nat.ne_of_lt (blk_lt (GS.bqX k7_.out))⟩; have Pm : Aside0 (gm ≠ g10) := ⟨by rw [hg]; exact Nat.ne_of_lt km_.out.lt⟩; have p1_ := Aside0.mk (bqB (GS.bqX k1_.out) hb); have p5_ := Aside0.mk (bqB (GS.bqX k5_.out) hb); have p7_ := Aside0.mk (bqB (GS.bqX k7_.out) hb); have pm_ := Aside0.mk (km_.out.kept (grown_of_below hb none) (by simp)); have p2_ := Aside0.mk (lqT (GS.lB k2_.out) hb); have B10 := Aside0.mk hbox; clear k1_ k5_ k6_ k7_ km_ k2_ hlook hz5 hf5 hz70 hz71 hz72 hz73 hf70 hf71 hf72 hf73 hb hbox hg; obtain ⟨hz5, hf5⟩ := GS.c1 p5_.out; obtain ⟨hz70, hz71, hz72, hz73, hf70, hf71, hf72, hf73⟩ := GS.c4 p7_.out; obtain ⟨hy0, hy1, hy2, hg0, hg1, hg2⟩ := GS.c3 B10.out; have u5 := P5.out; have u5' := Ne.symm P5.out; have u7 := P7.out; have u7' := Ne.symm P7.out))
                have e1_ : Aside0 ((((w8.setCell ⟨g10, 0, none⟩ (.int .i64 sv.pl)).setCell ⟨g10, 1, none⟩ (.int .i64 sv.fr)).setCell ⟨g10, 2, none⟩ (.int .i64 sv.tt)).heap[g1]? = some (.cells #[.slice (some ad) l0.length c0] 22 (0, 0))) := ⟨GS.bqZ p1_.out⟩
                have e5_ : Aside0 ((((w8.setCell ⟨g10, 0, none⟩ (.int .i64 sv.pl)).setCell ⟨g10, 1, none⟩ (.int .i64 sv.fr)).setCell ⟨g10, 2, none⟩ (.int .i64 sv.tt)).heap[g5]? = some (.cells #[.map (some gm)] 56 (0, 0))) := ⟨GS.bqZ p5_.out⟩
                have e7_ : Aside0 ((((w8.setCell ⟨g10, 0, none⟩ (.int .i64 sv.pl)).setCell ⟨g10, 1, none⟩ (.int .i64 sv.fr)).setCell ⟨g10, 2, none⟩ (.int .i64 sv.tt)).heap[g7]? = some (.cells #[.int .i64 xv.f0, .int .i64 xv.f1, .int .i64 xv.f2, .int .i64 xv.f3] 34 (0, 0))) := ⟨GS.bqZ p7_.out⟩
                have e10_ : Aside0 ((((w8.setCell ⟨g10, 0, none⟩ (.int .i64 sv.pl)).setCell ⟨g10, 1, none⟩ (.int .i64 sv.fr)).setCell ⟨g10, 2, none⟩ (.int .i64 sv.tt)).heap[g10]? = some (.cells #[.int .i64 sv.pl, .int .i64 sv.fr, .int .i64 sv.tt] 61 (0, 0))) := ⟨GS.bqZ B10.out⟩
                have em_ : Aside0 (HM (((w8.setCell ⟨g10, 0, none⟩ (.int .i64 sv.pl)).setCell ⟨g10, 1, none⟩ (.int .i64 sv.fr)).setCell ⟨g10, 2, none⟩ (.int .i64 sv.tt)) gm i M) := ⟨by with_reducible repeat (first | exact pm_.out | refine HM.set ?_ Pm.out _)⟩
                have eb_ : Aside0 (Below w.heap.size w (((w8.setCell ⟨g10, 0, none⟩ (.int .i64 sv.pl)).setCell ⟨g10, 1, none⟩ (.int .i64 sv.fr)).setCell ⟨g10, 2, none⟩ (.int .i64 sv.tt))) := ⟨GS.lB p2_.out⟩
                generalize (((w8.setCell ⟨g10, 0, none⟩ (.int .i64 sv.pl)).setCell ⟨g10, 1, none⟩ (.int .i64 sv.fr)).setCell ⟨g10, 2, none⟩ (.int .i64 sv.tt)) = W9 at e1_ e5_ e7_ e10_ em_ eb_ ⊢
                clear p1_ p5_ p7_ pm_ p2_ B10 hz5 hf5 hz70 hz71 hz72 hz73 hf70 hf71 hf72 hf73 hy0 hy1 hy2 hg0 hg1 hg2
                obtain ⟨hz5, hf5⟩ := GS.c1 e5_.out
                obtain ⟨hz70, hz71, hz72, hz73, hf70, hf71, hf72, hf73⟩ := GS.c4 e7_.out
                obtain ⟨hy0, hy1, hy2, hg0, hg1, hg2⟩ := GS.c3 e10_.out
                have hmx : i < maxLen := by have := HL.out; have := HJ.out; simp only [maxLen]; omega
                obtain ⟨w9, hupd, hm9, hg9⟩ := em_.out.update hmx HK.out sv
                unfold stV at hupd
                have f1_ := Aside0.mk (blk_grown e1_.out hg9 (by simp; exact NM1.out))
                have f5_ := Aside0.mk (blk_grown e5_.out hg9 (by simp; exact N5m.out))
                have fb_ := Aside0.mk (below_past eb_.out hg9 GM_.out)
                have fm_ := Aside0.mk hm9
                clear hm9 hg9 hmx
                go_wp2
                go_roundg gk
                case measure => omega
                case rel => exact ⟨i + 1, _, by first | rfl | (rw [HW2.out]) | simp [HW2.out], ⟨by have := HJ.out; omega⟩, fm_, f1_, f5_, fb_, ⟨by rw [HF3.out]; show folgo (mput M xv.f2 (newSt ((M xv.f2).getD ⟨0, 0, 0⟩) xv)) (some xv.f0) (i + 1) _ = folgo (mput M xv.f2 sv) (sprev l0 (i + 1)) (i + 1) _; rw [← HSV.out, NS.out, sprev_next l0 i hi HX.out]⟩⟩
        · have cr : (r != 0) = true := bne_iff_ne.mpr hz
          have HZ := Aside0.mk hz
          clear hz
          go_wp2_with (first
            | ((with_reducible show Calls Try.prog 64 _ _ _); refine HCL.out.mono ?_; rintro e w7 ⟨rfl, hb⟩; have k1_ := Aside0.mk (bqB n6_.out hb); have k2_ := Aside0.mk (lqT nb_.out hb); clear hb; obtain ⟨hz6, hf6⟩ := GS.c1 k1_.out))
          repeat (go_quiet (fail); try go_wp2)
          go_ret3
          exact ⟨.inl ⟨by rw [HF2.out, if_neg HZ.out]; exact HZ.out, by rw [HF2.out, if_neg HZ.out]; rfl⟩, GS.lB k2_.out⟩
end Go.Proofs.Ytfjenooajbdcmaa.K
