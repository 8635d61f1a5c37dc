/- By hand: slices.Concat of two lists of whole numbers. -/
import Derived.Test.YtfhmjleimampeaaK0
import Derived.WalkSpells
import Derived.Lib.AppendZerosOnto
namespace Go.Proofs.Ytfhmjleimampeaa.K
open Go.RowKit Go.Lib Go.Proofs.YtfhmjleimampeaaW.PrintWords Go.Proofs.YtfhmjleimampeaaW.PrintLast Go.Proofs.YtfhmjleimampeaaW.PrintMore
set_option linter.unusedVariables false
set_option linter.unusedSimpArgs false

theorem zeroCells_one (z : Value) (n : Nat) : (Builtin.zeroCells #[z] n).size = n := by
  unfold Builtin.zeroCells
  simp
set_option maxHeartbeats 4000000 in
set_option maxRecDepth 100000 in
theorem growN.calls (n : Nat) (hn : n < 1000000000) (w : World) :
    Calls Try.prog 73 #[.slice none 0 0, .int .i64 (n : Int)] w fun e w' => ∃ v, e = .returned v ∧ Kd.R (Kd.int .i64) 3 w' w.heap.size (fun _ => True) v [] ∧ Below w.heap.size w w' := by
  by_cases h0 : n = 0
  · subst h0
    go_enter Try.func73, Try.ntmps73
    go_wp2
    go_ret
    exact ⟨_, rfl, Kd.R_nil _ _ _ _ _, Below.refl _ _⟩
  · obtain ⟨i0, hi0, hzz⟩ := Option.map_eq_some_iff.1 info3
    obtain ⟨hz0, hs0, hb0⟩ : i0.zero = some (.int .i64 0) ∧ i0.size = 1 ∧ i0.bytes = 8 := by
      injection hzz with e1 e2
      injection e2 with e2 e3
      exact ⟨e1, e2, e3⟩
    have hGn : n ≤ grownCap w n 0 3 := grownCap_ge w _ _ _
    have hG63 : grownCap w n 0 3 ≤ maxLen := grownCap_le_maxLen w n 0 3 (by unfold maxLen; omega)
    have hrz : ∀ ty, (Builtin.append_ #[31, 3] ty #[.slice none 0 0, .int .i64 (n : Int)]).run Try.prog w =
        .ok (.slice (some ⟨w.heap.size, 0, none⟩) n (grownCap w n 0 3)) (w.drew.alloc (.cells (Builtin.zeroCells #[.int .i64 0] n ++ Builtin.zeroCells #[.int .i64 0] (grownCap w n 0 3 - n)) 3)) := fun ty => by
      have h := Lib.run_append_grow_zeros w 31 3 ty 3 i0 (.int .i64 0) .i64 .i64 Try.underlying31 Try.underlying3 hi0 hz0 none 0 0 [] (run_firstCells_none w.drew i0.size 0 0 0) n (by omega) (by omega) (by omega) (by omega) (by rw [hb0]; omega)
        (by rw [Nat.zero_add]; exact growslice_fits (by omega) (by rw [hb0]; omega))
      have hz : (Value.int IntKind.i64 0).cells = #[.int .i64 0] := rfl
      simpa [Nat.zero_add, hz] using h
    obtain ⟨G, hG⟩ : ∃ G, G = grownCap w n 0 3 := ⟨_, rfl⟩
    rw [← hG] at hrz hGn hG63
    have hGi : G ≤ 9223372036854775807 := by unfold maxLen at hG63; omega
    have h1 : ¬ ((n : Int) < 0) := by omega
    have h3 : wrap64 (n : Int) = (n : Int) := by unfold wrap64; omega
    have h4 : (n : Int) > 0 := by omega
    have h5 : (0 : Int) < (n : Int) := h4
    have h6 : 0 < n := by omega
    have HM := Aside0.mk hG63
    have HN := Aside0.mk hGn
    clear hi0 hzz hz0 hs0 hb0 hG h0 hn hG63
    go_enter Try.func73, Try.ntmps73
    go_wp2_with (at_builtin; refine Lib.wpList_append_run _ rfl _ _ _ _ rfl _ _ rfl rfl _ _ (hrz _) ?_)
    all_goals
      go_ret
      refine ⟨_, rfl, ⟨fun _ _ => trivial, [], ⟨rfl, Or.inr ⟨w.heap.size, G, _, rfl, Nat.le_refl _, blk_new w.drew _, Nat.zero_le _, HM.out, ?_, by simp⟩⟩, Reps.none _ _⟩, below_alloc (below_drew1 (Below.refl _ _)) _⟩
      rw [Array.size_append, zeroCells_one, zeroCells_one]
      have := HN.out
      show n + (G - n) = G * 1
      omega

/-- What stands behind the first j of the two lists x and y. -/
def cpre (x y : List Int) (j : Nat) : List Int := if j = 0 then [] else if j = 1 then x else x ++ y
set_option maxHeartbeats 4000000 in
set_option maxRecDepth 100000 in
theorem concat2.calls (gL : Nat) (A1 A2 : Option Addr) (c1 c2 : Nat) (x y : List Int) (w : World) (hL : w.heap[gL]? = some (.cells #[.slice A1 x.length c1, .slice A2 y.length c2] 31 (0, 0))) (hr1 : Kd.C (Kd.int .i64) w A1 x.length x) (hr2 : Kd.C (Kd.int .i64) w A2 y.length y) (hx : x.length < 1000000) (hy : y.length < 1000000) :
    Calls Try.prog 61 #[.slice (some ⟨gL, 0, none⟩) 2 2] w fun e w' => ∃ v, e = .returned v ∧ Kd.R (Kd.int .i64) 3 w' w.heap.size (fun _ => True) v (x ++ y) ∧ Below w.heap.size w w' := by
  have HR1 := Aside0.mk hr1
  have HR2 := Aside0.mk hr2
  have HL := Aside0.mk hL
  have HMX := Aside0.mk hx
  have HMY := Aside0.mk hy
  clear hr1 hr2 hL hx hy
  go_enter Try.func61, Try.ntmps61
  go_wp2
  go_loopg [3, 11] 2 (fun kq v3 v11 w' => ∃ j : Nat, v3 = .int .i64 (((cpre x y j).length : Nat) : Int) ∧ v11 = .int .i64 (j : Int) ∧ Aside0 (j + kq = 2) ∧ Aside0 (Below w.heap.size w w'))
  case atStart => exact ⟨0, by first | rfl | simp, rfl, ⟨rfl⟩, ⟨by repeat (first | exact Below.refl _ _ | apply pw_below_drewN | apply below_drew1)⟩⟩
  case round =>
    obtain ⟨j, rfl, rfl, HJ, HB⟩ := hrel
    cases gk with
    | zero =>
      obtain rfl : j = 2 := by have := HJ.out; omega
      go_wp2_with (go_at_call 73; refine (growN.calls (cpre x y 2).length (by have := HMX.out; have := HMY.out; simp [cpre]; omega) _).mono ?_; rintro e w5 ⟨v, rfl, ho, hb⟩; have HO0 := Aside0.mk (Kd.R_lower ho HB.out.size); have HB2 := Aside0.mk (below_step HB.out hb); clear ho hb)
      go_loopg [6, 27] 2 (fun kq v6 v27 w' => ∃ (j : Nat) (xs : List Int), v27 = .int .i64 (j : Int) ∧ Aside0 (j + kq = 2) ∧ Aside0 (xs = cpre x y j) ∧ Aside0 (Kd.R (Kd.int .i64) 3 w' w.heap.size (fun _ => True) v6 xs) ∧ Aside0 (Below w.heap.size w w'))
      case atStart => exact ⟨0, [], rfl, ⟨rfl⟩, ⟨rfl⟩, HO0, HB2⟩
      case round =>
        clear HO0 HB2 HB HJ
        obtain ⟨j, xs, rfl, HJ, HX, HO, HB⟩ := hrel
        cases gk with
        | zero =>
          obtain rfl : j = 2 := by have := HJ.out; omega
          go_wp2
          go_ret
          refine ⟨_, rfl, ?_, HB.out⟩
          have e : xs = x ++ y := by rw [HX.out]; rfl
          rw [← e]
          exact HO.out
        | succ gk =>
          have BL := Aside0.mk (blk_below HL.out HB.out)
          have z0 := (blk_cell BL.out 0).trans rfl
          have z1 := (blk_cell BL.out 1).trans rfl
          have hx : xs.length ≤ 2000000 := by
            rw [HX.out]
            have := HMX.out
            have := HMY.out
            unfold cpre
            split
            · simp
            · split
              · omega
              · simp; omega
          have HXL := Aside0.mk hx
          clear hx
          rcases (show j = 0 ∨ j = 1 by have := HJ.out; omega) with rfl | rfl
          · go_wp2_with ((with_reducible refine gate_builtin (b := .append) (xs := #[.tmp 31, .tmp 32]) rfl ?_); at_builtin; refine Kd.R_append_rows (Kd.int .i64) (w0 := w) w.heap.size rfl (.tmp 31) (.tmp 32) 31 3 (.int .i64 0) 8 rfl Try.underlying31 info3 rfl (by decide) (by omega) _ xs x _ _ _ (fun _ => True) (fun _ => False) rfl rfl ?aO ?aR (fun _ _ h => h) (fun _ h => h.elim) ?aF ?aB ?aS ?aL ?_; (case aR => exact (Kd.C_below HR1.out HB.out)); (case aB => exact HB.out); (case aF => exact (fun _ _ => trivial)); (case aO => exact HO.out); (case aS => exact HB.out.size); (case aL => have := HMX.out; have := HMY.out; have := HXL.out; omega); intro v151 w9 ho hb hg hat; have HO2 := Aside0.mk ho; have HB2 := Aside0.mk hb; clear ho hb hg hat)
            go_roundg gk
            case measure => omega
            case rel => exact ⟨1, xs ++ x, by first | rfl | simp, ⟨by have := HJ.out; omega⟩, ⟨by rw [HX.out]; first | rfl | simp [cpre]⟩, HO2, HB2⟩
          · go_wp2_with ((with_reducible refine gate_builtin (b := .append) (xs := #[.tmp 31, .tmp 32]) rfl ?_); at_builtin; refine Kd.R_append_rows (Kd.int .i64) (w0 := w) w.heap.size rfl (.tmp 31) (.tmp 32) 31 3 (.int .i64 0) 8 rfl Try.underlying31 info3 rfl (by decide) (by omega) _ xs y _ _ _ (fun _ => True) (fun _ => False) rfl rfl ?aO ?aR (fun _ _ h => h) (fun _ h => h.elim) ?aF ?aB ?aS ?aL ?_; (case aR => exact (Kd.C_below HR2.out HB.out)); (case aB => exact HB.out); (case aF => exact (fun _ _ => trivial)); (case aO => exact HO.out); (case aS => exact HB.out.size); (case aL => have := HMX.out; have := HMY.out; have := HXL.out; omega); intro v151 w9 ho hb hg hat; have HO2 := Aside0.mk ho; have HB2 := Aside0.mk hb; clear ho hb hg hat)
            go_roundg gk
            case measure => omega
            case rel => exact ⟨2, xs ++ y, by first | rfl | simp, ⟨by have := HJ.out; omega⟩, ⟨by rw [HX.out]; first | rfl | simp [cpre]⟩, HO2, HB2⟩
    | succ gk =>
      have BL := Aside0.mk (blk_below HL.out HB.out)
      have z0 := (blk_cell BL.out 0).trans rfl
      have z1 := (blk_cell BL.out 1).trans rfl
      have hM := HMX.out
      have hM2 := HMY.out
      rcases (show j = 0 ∨ j = 1 by have := HJ.out; omega) with rfl | rfl
      · have e0 : ((cpre x y 0).length : Int) = 0 := rfl
        have e1 : wrap64 (x.length : Int) = (x.length : Int) := by unfold wrap64; omega
        have e2 : ¬ ((x.length : Int) < 0) := by omega
        rw [e0]
        go_wp2
        go_roundg gk
        case measure => omega
        case rel => exact ⟨1, by first | rfl | simp [cpre], by first | rfl | simp, ⟨by have := HJ.out; omega⟩, ⟨by repeat (first | exact HB.out | apply pw_below_drewN | apply below_drew1)⟩⟩
      · have e0 : ((cpre x y 1).length : Int) = (x.length : Int) := rfl
        have e3 : (((cpre x y 2).length : Nat) : Int) = ((x.length + y.length : Nat) : Int) := by simp [cpre]
        have e1 : wrap64 ((x.length : Int) + (y.length : Int)) = ((x.length + y.length : Nat) : Int) := by unfold wrap64; omega
        have e2 : ¬ (((x.length + y.length : Nat) : Int) < 0) := by omega
        rw [e0]
        go_wp2
        go_roundg gk
        case measure => omega
        case rel => exact ⟨2, by first | (rw [e3]; done) | (rw [e3]; rfl) | (rw [e3]; simp; omega), by first | rfl | simp, ⟨by have := HJ.out; omega⟩, ⟨by repeat (first | exact HB.out | apply pw_below_drewN | apply below_drew1)⟩⟩
/-- A literal of a slice, as an event. -/
theorem lit_ev {P : Program} {ops : Array Oper} {Q : Exit → Act → World → Prop} {o : Oper} {rest : List Oper} {a : Act} {W : World} (hgd : o.guard = none) {N : Tmp} (_hd : o.dst = some N) {cs : Array Value} {t : TypeId} {n : Nat}
    (hrun : (execOp a.eval o).run P W = .ok (.value (.slice (some ⟨W.heap.size, 0, none⟩) n n)) (W.alloc (.cells cs t (0, 0))))
    (h : ∀ g, g = W.heap.size → ∀ w1, w1.heap[g]? = some (.cells cs t (0, 0)) → Below W.heap.size W w1 → wpList P ops Q rest (a.put o.dst (.slice (some ⟨g, 0, none⟩) n n)) w1) : wpList P ops Q (o :: rest) a W :=
  Kd.event_run hgd hrun (h _ rfl _ (blk_new W _) (below_alloc (Below.refl _ _) _))
end Go.Proofs.Ytfhmjleimampeaa.K
