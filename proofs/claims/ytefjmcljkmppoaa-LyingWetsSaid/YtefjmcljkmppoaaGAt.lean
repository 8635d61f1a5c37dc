/- By hand: profile.Check: its two predicates, the iterator staves, and the function itself. -/
import Derived.Test.YtefjmcljkmppoaaGIdxP
import Derived.RangeFuncNested
import Derived.RangeFuncBound
import Derived.RangeFuncCalls
import Derived.RangeFuncLeaves
import Derived.Shelf.Abstract
import Derived.Shelf.RegionOpen
import Derived.WalkKit
import Derived.OwnWalkIn
import Derived.TacticsInMore
import Derived.LoopNIn
import Derived.LoopIn
import Derived.Test.YtefjmcljkmppoaaGReg
namespace Go.Proofs.Ytefjmcljkmppoaa.K
open Go Go.RowKit Go.Shelf Go.Proofs.YtefjmcljkmppoaaW.PrintWords Go.Proofs.YtefjmcljkmppoaaW.PrintLast Go.Proofs.YtefjmcljkmppoaaW.PrintMore Go.Proofs.Ytefjmcljkmppoaa.GW
set_option linter.unusedVariables false
set_option linter.unusedSimpArgs false
attribute [local go_sem] Oper.semAt_some
def badP (p : S39) : Bool := !measP p.f0 || !measP p.f1
def zeroP (p : S39) : Bool := p.f1 == 0
theorem eg_c1 (args : Array Value) (w : World) : (callFunc 76 args).run Try.prog w = .ok (.enter 76 args) w := enters_ Try.func76 (by kernel_rfl) rfl args w
theorem eg_c2 (args : Array Value) (w : World) : (callFunc 79 args).run Try.prog w = .ok (.enter 79 args) w := enters_ Try.func79 (by kernel_rfl) rfl args w
set_option maxHeartbeats 2000000 in
set_option maxRecDepth 100000 in
theorem pred_c2 (w : World) : PredP 79 #[] zeroP w := by
  intro W x hb
  show Calls Try.prog 79 #[.agg #[.int .i64 x.f0, .int .i64 x.f1]] W _
  have hu33 := Try.underlying39
  have HB := Aside0.mk (Below.refl W.heap.size W)
  clear hb
  go_enter Try.func79, Try.ntmps79
  go_wp2
  go_ret
  exact ⟨rfl, by first | exact HB.out | exact GS.lB HB.out⟩
set_option maxHeartbeats 2000000 in
set_option maxRecDepth 100000 in
theorem pred_c1 (w : World) : PredP 76 #[] badP w := by
  intro W x hb
  show Calls Try.prog 76 #[.agg #[.int .i64 x.f0, .int .i64 x.f1]] W _
  have hu33 := Try.underlying39
  have HB := Aside0.mk (Below.refl W.heap.size W)
  clear hb
  unfold badP
  cases c1 : measP x.f0 with
  | false =>
    have C1 := Aside0.mk c1
    clear c1
    go_enter Try.func76, Try.ntmps76
    go_wp2_with (first | ((with_reducible show Calls Try.prog 77 _ _ _); refine (meas_calls x.f0 _).mono ?_; rw [C1.out]; rintro e w4 ⟨rfl, hd⟩; have n0_ := Aside0.mk (lqT (GS.lB HB.out) hd); clear HB hd; have HB := n0_; clear n0_))
    go_ret
    exact ⟨rfl, by first | exact HB.out | exact GS.lB HB.out⟩
  | true =>
    have C1 := Aside0.mk c1
    clear c1
    go_enter Try.func76, Try.ntmps76
    go_wp2_with fail
    refine (meas_calls x.f0 _).mono ?_
    rw [C1.out]
    rintro e w4 ⟨rfl, hd⟩
    have hb1 : w4.heap[W.heap.size]? = some (.cells #[.int .i64 x.f0, .int .i64 x.f1] 39 (0, 0)) := bqB (World.alloc_heap_new W _) hd
    have B1 := Aside0.mk hb1
    have HB2 := Aside0.mk (lqT (GS.lB HB.out) hd)
    obtain ⟨z0, z1, f0, f1⟩ := GS.c2 hb1
    clear hb1 hd
    go_wp2_with fail
    refine (meas_calls x.f1 _).mono ?_
    rintro e w5 ⟨rfl, hd⟩
    have HB3 := Aside0.mk (lqT HB2.out hd)
    clear hd
    go_wp2
    go_ret
    exact ⟨by cases measP x.f1 <;> rfl, HB3.out⟩
def pairs : List S39 → List (S39 × S39)
  | p :: q :: r => (p, q) :: pairs (q :: r)
  | _ => []
theorem pairs_len : ∀ l : List S39, (pairs l).length = l.length - 1
  | [] => rfl
  | [_] => rfl
  | p :: q :: r => by rw [pairs, List.length_cons, pairs_len (q :: r)]; simp
theorem pairs_get : ∀ (l : List S39) (i : Nat) (h : i + 1 < l.length), (pairs l)[i]? = some (l[i], l[i + 1])
  | [], i, h => by simp at h
  | [_], i, h => by simp at h
  | p :: q :: r, 0, h => rfl
  | p :: q :: r, i + 1, h => by
    rw [pairs, List.getElem?_cons_succ, pairs_get (q :: r) i (by simpa using h)]
    rfl
theorem pairs_rd (l : List S39) (i : Nat) (h : i + 1 < l.length) : (pairs l).take (i + 1) = (pairs l).take i ++ [(rd_T39 l (i : Int), rd_T39 l ((i : Int) + 1))] := by
  have h1 := pairs_get l i h
  rw [List.take_add_one, h1, rdP_get l i (by omega), show ((i : Int) + 1) = ((i + 1 : Nat) : Int) by omega, rdP_get l (i + 1) h]
  rfl
def encP (x : S39 × S39) : Array Value := #[.agg #[.int .i64 x.1.f0, .int .i64 x.1.f1], .agg #[.int .i64 x.2.f0, .int .i64 x.2.f1]]
set_option maxHeartbeats 1000000 in
theorem staves_in (F : Fence) (n : Nat) (hf : F.fn 78) (hro : F.round = none) (A : Option Addr) (m c : Nat) (w : World) :
    CallsIn F n Try.prog 78 #[.slice A m c] w fun e w' => e = .returned (.func (.func 95) #[] #[.pointer (some ⟨w.heap.size, 0, none⟩)]) ∧ w' = w.alloc (.cells #[.slice A m c] 22) := by
  refine callsIn_of_wp Try.func78 rfl hf ?_ hro
  simp only [Try.ntmps78, List.size_toArray, List.length_cons, List.length_nil, Nat.reduceAdd, Nat.reduceSub, Array.replicate_succ, Array.replicate_zero, List.push_toArray, List.append_toArray, List.nil_append, List.cons_append]
  gi_wp2
  go_ret
  exact ⟨rfl, rfl⟩
end Go.Proofs.Ytefjmcljkmppoaa.K
/- By hand: profile.Check: its two predicates, the iterator staves, and the function itself. -/
namespace Go.Proofs.Ytefjmcljkmppoaa.K
open Go Go.RowKit Go.Shelf Go.Proofs.YtefjmcljkmppoaaW.PrintWords Go.Proofs.YtefjmcljkmppoaaW.PrintLast Go.Proofs.YtefjmcljkmppoaaW.PrintMore Go.Proofs.Ytefjmcljkmppoaa.GW
set_option linter.unusedVariables false
set_option linter.unusedSimpArgs false
attribute [local go_sem] Oper.semAt_some
def KpS (n₀ Bm : Nat) (W W' : World) : Prop := Below n₀ W W' ∧ W'.heap[Bm]? = W.heap[Bm]?
theorem KpS.trans {n₀ Bm : Nat} {A B C : World} (h : KpS n₀ Bm A B) (h' : KpS n₀ Bm B C) : KpS n₀ Bm A C := ⟨h.1.trans h'.1, h'.2.trans h.2⟩
theorem KpS.cell {n₀ Bm : Nat} {W W' : World} (h : KpS n₀ Bm W W') : W'.cell? ⟨Bm, 0, none⟩ = W.cell? ⟨Bm, 0, none⟩ := by simp [World.cell?, h.2]
theorem KpS.refl (n₀ Bm : Nat) (W : World) : KpS n₀ Bm W W := ⟨Below.refl _ _, rfl⟩
theorem kpS_b {n₀ Bm B : Nat} (hn : n₀ ≤ B) (hB : Bm < B) : ∀ (W : World) (l : Nat) (o o' : Obj), B ≤ l → W.heap[l]? = some o → o.isCells = false → o.isWalk = false → KpS n₀ Bm W (W.putObj l o') := fun W l o o' hl ho hc hw =>
  ⟨belowK_b (w := ⟨Array.replicate B default, default, default, default, default⟩) (by simpa using hn) W l o o' (by simpa using hl) ho hc hw, (grownBy_putObj' W l o').block Bm (Nat.lt_of_lt_of_le hB (Nat.le_trans hl (Nat.le_of_lt (Array.getElem?_eq_some_iff.1 ho).1))) (by intro e; cases e; omega)⟩
theorem ar_pairs {i m L : Nat} (h : i < m) (e : m = L - 1) : i + 1 < L := by omega
theorem ar_pairs' {i m L : Nat} (h : ¬ i < m) (e : m = L - 1) : ¬ ((i : Int) + 1 < (L : Int)) := by omega
set_option maxRecDepth 100000 in
set_option maxHeartbeats 4000000 in
theorem staves1 (F : Fence) (n : Nat) (hf : F.fn 95) (hro : F.round = none) (hn : 1 ≤ n) (l Bm n₀ : Nat) (A : Option Addr) (c : Nat) (xs : List S39) (hxl : xs.length < 1000000000) (J Jx : List (S39 × S39) → World → Prop)
    (hY : ∀ pre x W, x ∈ pairs xs → J pre W → pre.length < (pairs xs).length → YieldAt F (n - 1) Try.prog l (encP x) W fun e W' =>
      (e = .returned (.bool true) ∧ J (pre ++ [x]) W' ∧ KpS n₀ Bm W W') ∨ (e = .returned (.bool false) ∧ Jx (pre ++ [x]) W'))
    (hJd : ∀ pre W, J pre W → J pre W.drew) (W : World) (hm : W.cell? ⟨Bm, 0, none⟩ = some (.slice A xs.length c)) (w0 : World) (hw0 : w0.heap.size ≤ n₀) (hr : Kd.C k39 w0 A xs.length xs) (hb0 : Below w0.heap.size w0 W) (h0 : J [] W) :
    CallsIn F n Try.prog 95 #[.func (.yield l) #[] #[], .pointer (some ⟨Bm, 0, none⟩)] W fun e W' => (∃ v, e = .returned v) ∧ ((∃ ys, ys = pairs xs ∧ J ys W') ∨ (∃ pre, pre <+: pairs xs ∧ Jx pre W')) := by
  have hu33 := Try.underlying39
  have hpl := pairs_len xs
  refine callsIn_of_wp Try.func95 rfl hf ?_ hro
  simp only [Try.ntmps95, List.size_toArray, List.length_cons, List.length_nil, Nat.reduceAdd, Nat.reduceSub, Array.replicate_succ, Array.replicate_zero, List.push_toArray, List.append_toArray, List.nil_append, List.cons_append]
  gi_wp2
  gi_loopw [3] (fun v3 wr => ∃ i : Nat, v3 = .int .i64 ((i : Int) + 1) ∧ i ≤ (pairs xs).length ∧ wr.cell? ⟨Bm, 0, none⟩ = some (.slice A xs.length c) ∧ Below w0.heap.size w0 wr ∧ J ((pairs xs).take i) wr)
    (fun v3 wr => match v3 with | .int _ i => (xs.length - i.toNat) | _ => 0)
  case atStart => exact ⟨0, rfl, Nat.zero_le _, hm, hb0, h0⟩
  case round =>
    obtain ⟨i, rfl, hi, hc, hb, hJ⟩ := hrel
    by_cases hlt : i < (pairs xs).length
    · have q0 : i + 1 < xs.length := ar_pairs hlt hpl
      have HLT := Aside0.mk hlt
      clear hlt hi hpl
      have q1 : decide ((i : Int) + 1 < (xs.length : Int)) = true := decide_eq_true (by omega)
      have hw1 : wrap64 ((i : Int) + 1 - 1) = (i : Int) := by unfold wrap64; omega
      have hw2 : wrap64 (i : Int) = (i : Int) := by unfold wrap64; omega
      have hC := Kd.C_below hr hb
      obtain ⟨ad, e1, x0, x1⟩ := at_T39 hC (i : Int) (by omega) (by omega)
      cases e1
      obtain ⟨ad', e2, y0, y1⟩ := at_T39 hC ((i : Int) + 1) (by omega) (by omega)
      obtain rfl : ad = ad' := by injection e2
      clear e2
      have p2 : (0 ≤ (i : Int)) = True := eq_true (by omega)
      have p3 : (0 ≤ (i : Int) + 1) = True := eq_true (by omega)
      have q2 : ((i : Int) < (xs.length : Int)) = True := eq_true (by omega)
      have q3 : ((i : Int) + 1 < (xs.length : Int)) = True := eq_true (by omega)
      have hw : wrap64 ((i : Int) + 1 + 1) = ((i + 1 : Nat) : Int) + 1 := by unfold wrap64; omega
      have hg := pairs_rd xs i q0
      obtain ⟨px, hpx⟩ : ∃ px, rd_T39 xs (i : Int) = px := ⟨_, rfl⟩
      obtain ⟨qx, hqx⟩ : ∃ qx, rd_T39 xs ((i : Int) + 1) = qx := ⟨_, rfl⟩
      rw [hpx] at x0 x1 hg
      rw [hqx] at y0 y1 hg
      obtain ⟨fn, tmps, assign, body, hy, hR⟩ := hY ((pairs xs).take i) (px, qx) _ (List.mem_of_mem_take (i := i + 1) (by rw [hg]; simp)) (hJd _ _ hJ) (by rw [List.length_take, Nat.min_eq_left (Nat.le_of_lt HLT.out)]; exact HLT.out)
      dsimp only [encP] at hy
      simp only [Int.toNat_natCast] at x0 x1
      rw [show ((i : Int) + 1).toNat = i + 1 by omega] at y0 y1
      have hmx : Try.prog.follows .mixedOrders = true := by kernel_rfl
      gi_wp2
      refine GI.start_ (m := 12) (S := fun w' => w' = wr.drew) (ds := [10]) #[false, false, false, false, false, false, false, false, false, false, false, false] (by kernel_rfl) rfl rfl rfl (fun hHeld => ?_)
      refine GI.pu 0 (some 10) ?_
      refine GI.pu 2 (some 12) ?_
      refine GI.pu 3 (some 13) ?_
      refine GI.pu 7 (some 17) ?_
      refine GI.tk 1 (some 11) hHeld ?_
      refine GI.tk 6 (some 16) hHeld ?_
      refine GI.pu 4 (some 14) ?_
      refine GI.pu 8 (some 18) ?_
      refine GI.tk 5 (some 15) hHeld ?_
      refine GI.tk 9 (some 19) hHeld ?_
      refine GI.last_ (i := 10) (N := some 20) #[true, true, true, true, true, true, true, true, true, true, true, false] rfl rfl (by kernel_rfl) (by decide) (by rfl) ?_
      refine GI.round_ (l := l) (f := fn) (tmps := tmps) (assign := assign) (body := body) (fun c h => by cases h) (fun f hf => by cases hf) ?hrun (fun _ => hn) (hR.mono ?_)
      case hrun => go_simp
      rintro e W3 (⟨rfl, hJ3, hk3⟩ | ⟨rfl, hJx3⟩)
      · refine ⟨_, rfl, ?_⟩
        refine GI.pu 11 (some 21) ?_
        refine GI.done_ (by kernel_rfl) ?_ _
        have hc3 : W3.cell? ⟨Bm, 0, none⟩ = some (.slice (some ad) xs.length c) := hk3.cell.trans hc
        gi_wp2
        refine ⟨⟨i + 1, by simp, by have := HLT.out; omega, hc3, (lqD hb).trans (hk3.1.mono hw0), by rw [hg]; exact hJ3⟩, ?_⟩
        show xs.length - ((i : Int) + 1 + 1).toNat < xs.length - ((i : Int) + 1).toNat
        omega
      · refine ⟨_, rfl, ?_⟩
        refine GI.pu 11 (some 21) ?_
        refine GI.done_ (by kernel_rfl) ?_ _
        gi_wp2
        refine bodyPost_ret (results_none rfl _ _ _) rfl ?_
        exact ⟨⟨_, rfl⟩, .inr ⟨_, by rw [← hg]; exact List.take_prefix _ _, hJx3⟩⟩
    · have q1 : decide ((i : Int) + 1 < (xs.length : Int)) = false := decide_eq_false (ar_pairs' hlt hpl)
      have he : (pairs xs).take i = pairs xs := List.take_of_length_le (Nat.le_of_not_lt hlt)
      rw [he] at hJ
      gi_wp2
      go_end0
      exact ⟨⟨_, rfl⟩, .inl ⟨_, rfl, hJ⟩⟩
theorem abides_drew {β : Type} {B : Nat} {J : β → World → Prop} (h : AbidesFrom B J) (s : β) (W : World) (hs : J s W) : J s W.drew :=
  h s W W.drew none hs ⟨rfl, rfl, rfl, Nat.le_refl _, fun _ _ _ => rfl⟩ (fun r e => by cases e)
theorem staves_stops (F : Fence) (n : Nat) (hf : F.fn 95) (hro : F.round = none) (hn : 1 ≤ n) (Bm n₀ : Nat) (A : Option Addr) (c : Nat) (xs : List S39) (hxl : xs.length < 1000000000) (w : World) (hBw : Bm < w.heap.size)
    (hm : w.cell? ⟨Bm, 0, none⟩ = some (.slice A xs.length c)) (w0 : World) (hw0 : w0.heap.size ≤ n₀) (hr : Kd.C k39 w0 A xs.length xs) (hb0 : Below w0.heap.size w0 w) :
    SeqStopsK F n Try.prog 95 #[.pointer (some ⟨Bm, 0, none⟩)] (fun s : { s // s ∈ pairs xs } => encP s.1) (KpS n₀ Bm) (fun ys => ys.map Subtype.val = pairs xs) (fun pre => pre.map Subtype.val <+: pairs xs) (pairs xs).length w := fun l J Jx W hW hJ hJx hY h0 => by
  refine (staves1 F n hf hro hn l Bm n₀ A c xs hxl (fun pre W => ∃ pre', pre'.map Subtype.val = pre ∧ J pre' W) (fun pre W => ∃ pre', pre'.map Subtype.val = pre ∧ Jx pre' W) ?_
    ?_ W ((hW.cell (p := ⟨Bm, 0, none⟩) hBw).trans hm) w0 hw0 hr (hb0.trans (hW.mono hb0.size)) ⟨[], rfl, h0⟩).mono ?_
  · rintro pre x W1 hx ⟨pre', rfl, hj⟩ hlt
    obtain ⟨fn, tmps, assign, body, hy, hR⟩ := hY pre' ⟨x, hx⟩ W1 hj (by simpa using hlt)
    refine ⟨fn, tmps, assign, body, hy, hR.mono ?_⟩
    rintro e W' (⟨h1, h2, h3⟩ | ⟨h1, h2⟩)
    · exact .inl ⟨h1, ⟨pre' ++ [⟨x, hx⟩], by simp, h2⟩, h3⟩
    · exact .inr ⟨h1, ⟨pre' ++ [⟨x, hx⟩], by simp, h2⟩⟩
  · rintro pre W1 ⟨pre', h1, h2⟩
    exact ⟨pre', h1, abides_drew hJ pre' W1 h2⟩
  · rintro e W' ⟨h1, ⟨ys, rfl, pre', h2, h3⟩ | ⟨pre, h2, pre', rfl, h3⟩⟩
    · exact ⟨h1, .inl ⟨pre', h2, h3⟩⟩
    · exact ⟨h1, .inr ⟨pre', h2, h3⟩⟩
theorem eg_stav (args : Array Value) (w : World) : (callFunc 95 args).run Try.prog w = .ok (.enter 95 args) w := enters_ Try.func95 (by kernel_rfl) rfl args w
end Go.Proofs.Ytefjmcljkmppoaa.K
/- By hand: a loop over staves(l). -/
namespace Go.Proofs.Ytefjmcljkmppoaa.K
open Go Go.RowKit Go.Shelf Go.Proofs.YtefjmcljkmppoaaW.PrintWords Go.Proofs.YtefjmcljkmppoaaW.PrintLast Go.Proofs.YtefjmcljkmppoaaW.PrintMore Go.Proofs.Ytefjmcljkmppoaa.GW
set_option linter.unusedVariables false
set_option linter.unusedSimpArgs false
attribute [local go_sem] Oper.semAt_some
theorem cells_own {X Y : World} {row : Option Nat} {B t : Nat} {cs : Array Value} (h : X.heap[B]? = some (.cells cs t (0, 0))) (hg : X.grownBy Y row) (hr : ∀ r, row = some r → ∃ o, X.heap[r]? = some o ∧ o.isCells = false) : Y.heap[B]? = some (.cells cs t (0, 0)) :=
  (hg.block B (Array.getElem?_eq_some_iff.1 h).1 (fun e => by obtain ⟨o, ho, hc⟩ := hr B e.symm; rw [h] at ho; cases ho; cases hc)).trans h
theorem ownFrom_size {β : Type} (B m : Nat) : OwnFrom B (fun (_ : β) W => m ≤ W.heap.size) := fun s X Y row hs hg hr => Nat.le_trans hs hg.size
def axT (t : Array Value) (i j p q : Nat) (x : S39 × S39) (Bp Bq : Nat) : Array Value :=
  (((t.setIfInBounds i (.agg #[.int .i64 x.1.f0, .int .i64 x.1.f1])).setIfInBounds j (.agg #[.int .i64 x.2.f0, .int .i64 x.2.f1])).setIfInBounds p (.pointer (some ⟨Bp, 0, none⟩))).setIfInBounds q (.pointer (some ⟨Bq, 0, none⟩))
def ptO (x : S39) : Obj := .cells #[.int .i64 x.f0, .int .i64 x.f1] 39 (0, 0)
theorem loopP {n : Nat} {g : Operand} {i j : Nat} {assign body : Code} {Q : Exit → Act → World → Prop} {a : Act} {W0 : World} (p q : Nat) (hn : 6 ≤ n) (w : World) (A : Option Addr) (c : Nat) (l0 : List S39) (hr : Kd.C k39 w A l0.length l0) (hxl : l0.length < 1000000000)
    (Bm : Nat) (bM : Boxed W0 Bm 22 (.slice A l0.length c)) (hB0 : Below w.heap.size w W0) (hg : a.eval g = .func (.func 95) #[] #[.pointer (some ⟨Bm, 0, none⟩)])
    (I : List (S39 × S39) → World → Prop) (Ix : Code → List (S39 × S39) → World → Prop) (hI : OwnFrom W0.heap.size I) (hIx : ∀ c, OwnFrom W0.heap.size (Ix c)) (h0 : I [] W0)
    (hassign : ∀ (l : Nat) (x : S39 × S39) (W : World) (K : Act → World → Prop), K { tmps := axT a.tmps i j p q x W.heap.size (W.heap.size + 1), defers := [] } ((W.alloc (ptO x.1)).alloc (ptO x.2)) →
      assign.wpIn (Fence.wide.inRound l) (n - 1 - 1) Try.prog (Exit.then K (fun _ _ _ => False)) { tmps := (a.tmps.setIfInBounds i (.agg #[.int .i64 x.1.f0, .int .i64 x.1.f1])).setIfInBounds j (.agg #[.int .i64 x.2.f0, .int .i64 x.2.f1]), defers := [] } W)
    (hbody : ∀ (l : Nat) (pre : List (S39 × S39)) (x : S39 × S39) (Bp Bq : Nat) (W : World), W0.heap.size ≤ l → I pre W → Boxed W Bm 22 (.slice A l0.length c) → Below w.heap.size w W → W0.heap.size ≤ W.heap.size → W0.heap.size ≤ Bp → W0.heap.size ≤ Bq →
      W.heap[Bp]? = some (ptO x.1) → W.heap[Bq]? = some (ptO x.2) → x ∈ pairs l0 →
      body.wpIn (Fence.wide.inRound l) (n - 1 - 1) Try.prog (ownPostG W0.heap.size (KpS w.heap.size Bm) (fun pre W => (I pre W ∧ Boxed W Bm 22 (.slice A l0.length c)) ∧ (Below w.heap.size w W ∧ W0.heap.size ≤ W.heap.size))
        (fun c pre W => Ix c pre W ∧ Below w.heap.size w W) (pre ++ [x]) W) { tmps := axT a.tmps i j p q x Bp Bq, defers := [] } W)
    (hdone : ∀ (D : Nat) (W : World), W0.heap.size ≤ D → I (pairs l0) W → Below w.heap.size w W → W.heap[D]? = some (.deferred (some [])) → Q .normal { a with defers := { target := .collected D, args := #[] } :: a.defers } W)
    (hstop : ∀ (D : Nat) (c : Code) (pre : List (S39 × S39)) (W : World), W0.heap.size ≤ D → pre <+: pairs l0 → Ix c pre W → Below w.heap.size w W → W.heap[D]? = some (.deferred (some [])) → c.wpIn Fence.wide n Try.prog Q { a with defers := { target := .collected D, args := #[] } :: a.defers } W) :
    (Code.rangeFunc g #[i, j] assign body).wpIn Fence.wide n Try.prog Q a W0 := by
  have h1 : 1 ≤ n := by omega
  refine wpIn_rangeFunc_ownH rfl h1 (gf := 95) (lb := #[.pointer (some ⟨Bm, 0, none⟩)]) hg trivial eg_stav
      (staves_stops Fence.wide (n - 1) trivial rfl (by omega) Bm w.heap.size A c l0 hxl W0 bM.lt bM.cell w (Nat.le_refl _) hr hB0) KpS.trans (kpS_b hB0.size bM.lt) (Below.refl _ _) (fun _ => rfl)
      (fun pre W => (I (pre.map Subtype.val) W ∧ Boxed W Bm 22 (.slice A l0.length c)) ∧ (Below w.heap.size w W ∧ W0.heap.size ≤ W.heap.size))
      (fun c pre W => Ix c (pre.map Subtype.val) W ∧ Below w.heap.size w W)
      (OwnFrom.and (OwnFrom.and (fun s => hI (s.map Subtype.val)) (Own.from (boxed_own _ _ _) _)) (OwnFrom.and (ownFrom_below (Nat.le_refl _) hB0.size) (ownFrom_size _ _)))
      (fun c => OwnFrom.and (fun s => hIx c (s.map Subtype.val)) (ownFrom_below (Nat.le_refl _) hB0.size))
      ⟨⟨h0, bM⟩, hB0, Nat.le_refl _⟩
      (fun (x : { s // s ∈ pairs l0 }) a' W => ∃ Bp Bq, (W0.heap.size ≤ Bp ∧ W0.heap.size ≤ Bq) ∧ W.heap[Bp]? = some (ptO x.1.1) ∧ W.heap[Bq]? = some (ptO x.1.2) ∧ a' = { tmps := axT a.tmps i j p q x.1 Bp Bq, defers := [] })
      (fun x a' _ X Y row hs hg hr => by obtain ⟨Bp, Bq, e1, e2, e3, e4⟩ := hs; exact ⟨Bp, Bq, e1, cells_own e2 hg (fun r e => (hr r e).2), cells_own e3 hg (fun r e => (hr r e).2), e4⟩)
      ?assign ?body ?done ?stop
  case assign =>
    rintro l pre ⟨x, hx⟩ W K ⟨⟨hi, bM1⟩, hB1, hs1⟩ hK
    have hI2 := OwnFrom.and (OwnFrom.and (fun s : List { s // s ∈ pairs l0 } => hI (s.map Subtype.val)) (Own.from (boxed_own Bm 22 (fun _ => .slice A l0.length c)) W0.heap.size)) (OwnFrom.and (ownFrom_below (Nat.le_refl _) hB0.size) (ownFrom_size W0.heap.size W0.heap.size))
    have e : ∀ t : Array Value, ((#[i, j] : Array Tmp).zip (encP x)).foldl (fun t (p, v) => t.setIfInBounds p v) t = (t.setIfInBounds i (.agg #[.int .i64 x.1.f0, .int .i64 x.1.f1])).setIfInBounds j (.agg #[.int .i64 x.2.f0, .int .i64 x.2.f1]) := fun t => by simp [encP]
    rw [e]
    refine hassign l x W K (hK _ _ (((KeepsOthers.alloc _ _).trans (KeepsOthers.alloc _ _)).from _) ⟨((Below.refl _ W).alloc hB1.size _).alloc (by rw [World.size_alloc]; have := hB1.size; omega) _, ?_⟩ (hI2.alloc _ (hI2.alloc (s := pre) _ ⟨⟨hi, bM1⟩, hB1, hs1⟩)) ⟨_, _, ⟨hs1, by omega⟩, ?_, ?_, rfl⟩)
    · exact ((bM1.alloc _).alloc _).trans bM1.symm
    · exact (Below.heap_alloc _ _ _ (by rw [World.size_alloc]; omega)).trans (World.alloc_heap_new W _)
    · have := World.alloc_heap_new (W.alloc (ptO x.1)) (ptO x.2)
      rwa [World.size_alloc] at this
  case body =>
    rintro l pre ⟨x, hx⟩ a' W hl _ ⟨⟨hi, bM1⟩, hB1, hs1⟩ ⟨Bp, Bq, ⟨e1, e2⟩, e3, e4, rfl⟩ hlt
    have := hbody l (pre.map Subtype.val) x Bp Bq W hl hi bM1 hB1 hs1 e1 e2 e3 e4 hx
    refine wpIn_mono this (fun e a2 W2 h => ?_)
    have e5 : (pre ++ [(⟨x, hx⟩ : { s // s ∈ pairs l0 })]).map Subtype.val = pre.map Subtype.val ++ [x] := by simp
    cases e <;> simp only [ownPostG, e5] at h ⊢ <;> exact h
  case done =>
    rintro D zs W hD hz ⟨⟨hi, bM1⟩, hB1, hs1⟩ hK
    rw [hz] at hi
    exact hdone D W hD hi hB1 hK
  case stop =>
    rintro D c pre W hD hpre ⟨hi, hB1⟩ hK
    exact hstop D c _ W hD hpre hi hB1 hK
end Go.Proofs.Ytefjmcljkmppoaa.K
/- By hand: profile.Check. -/
namespace Go.Proofs.Ytefjmcljkmppoaa.K
open Go Go.RowKit Go.Shelf Go.Proofs.YtefjmcljkmppoaaW.PrintWords Go.Proofs.YtefjmcljkmppoaaW.PrintLast Go.Proofs.YtefjmcljkmppoaaW.PrintMore Go.Proofs.Ytefjmcljkmppoaa.GW
set_option linter.unusedVariables false
set_option linter.unusedSimpArgs false
attribute [local go_sem] Oper.semAt_some
def flP (f : Bool) (x : S39 × S39) : Bool := f || decide (x.2.f1 < x.1.f1)
def runF : Bool → List (S39 × S39) → Option Bool
  | f, [] => some f
  | f, x :: r => if (f && decide (x.1.f1 < x.2.f1)) = true then none else runF (flP f x) r
theorem runF_append : ∀ (f : Bool) (a b : List (S39 × S39)), runF f (a ++ b) = (runF f a).bind fun g => runF g b
  | f, [], b => rfl
  | f, x :: r, b => by
    rw [List.cons_append, runF, runF]
    by_cases c : (f && decide (x.1.f1 < x.2.f1)) = true
    · rw [if_pos c, if_pos c]; rfl
    · rw [if_neg c, if_neg c]; exact runF_append _ r b
def profC (l : List S39) : Int :=
  if l.length < 2 then 9 else if 32 < l.length then 8 else if l.any badP = true then 2 else if (rd_T39 l 0).f0 ≠ 0 then 5
  else if (pairs l).any (fun x => decide (x.2.f0 ≤ x.1.f0)) = true then 5 else if l.any zeroP = true then 16 else if runF false (pairs l) = none then 10 else 0
theorem results_cell1 {fn : Func} {p : Tmp} (h : fn.results = #[.cell p 29]) (tmps : Array Value) (w : World) (g : Nat) (v : Value) (hp : tmps[p]?.getD undef = .pointer (some ⟨g, 0, none⟩)) (hg : w.cell? ⟨g, 0, none⟩ = some v) :
    (results fn tmps).run Try.prog w = .ok v w := by
  have hu := Try.underlying29
  simp [results, h, hp, go_sem, hg, loadVar]
theorem leaves0 {F : Fence} {n : Nat} {fn : Func} {tmps : Array Value} {R : Ending → World → Prop} {w : World} {v : Value} (h : (results fn tmps).run Try.prog w = .ok v w) (hR : R (.returned v) w) : LeavesInM F n Try.prog fn tmps R [] .returning w := ⟨v, h, hR⟩
theorem boxed_below {W W' : World} {B t : Nat} {v : Value} (h : Boxed W B t v) (hb : Below W.heap.size W W') : Boxed W' B t v := (hb.block B h.lt).trans h
theorem below_to {n : Nat} {w W W' : World} (h : Below n w W) (hb : Below W.heap.size W W') (hn : n ≤ W.heap.size) : Below n w W' := h.trans (hb.mono hn)
set_option maxRecDepth 100000 in
set_option maxHeartbeats 4000000 in
theorem prof_in (n : Nat) (hn : 6 ≤ n) (A0 : Option Addr) (c0 : Nat) (l0 : List S39) (w : World) (hr : Kd.C k39 w A0 l0.length l0) :
    CallsIn Fence.wide n Try.prog 48 #[.slice A0 l0.length c0] w fun e w' => e = .returned (.int .i64 (profC l0)) ∧ Below w.heap.size w w' := by
  have h1 : 1 ≤ n := by omega
  have hu33 := Try.underlying39
  have HR := Aside0.mk hr
  have HB := Aside0.mk (Below.refl w.heap.size w)
  have HM : Aside0 (l0.length ≤ 9223372036854775807) := ⟨hr.2.1⟩
  clear hr
  unfold profC
  by_cases c1 : l0.length < 2
  · rw [if_pos c1]
    have c1b : decide ((l0.length : Int) < 2) = true := decide_eq_true (by omega)
    clear c1
    refine callsIn_of_wp_marks Try.func48 rfl trivial ?_ rfl
    simp only [Try.ntmps48, List.size_toArray, List.length_cons, List.length_nil, Nat.reduceAdd, Nat.reduceSub, Array.replicate_succ, Array.replicate_zero, List.push_toArray, List.append_toArray, List.nil_append, List.cons_append]
    gi_wp2
    exact leaves0 (results_cell1 rfl _ _ w.heap.size _ rfl (Boxed.new w 29 _).cell) ⟨rfl, below_alloc HB.out _⟩
  rw [if_neg c1]
  have c1b : decide ((l0.length : Int) < 2) = false := decide_eq_false (by omega)
  by_cases c2 : 32 < l0.length
  · rw [if_pos c2]
    have c2b : decide ((32 : Int) < (l0.length : Int)) = true := decide_eq_true (by omega)
    clear c1 c2
    refine callsIn_of_wp_marks Try.func48 rfl trivial ?_ rfl
    simp only [Try.ntmps48, List.size_toArray, List.length_cons, List.length_nil, Nat.reduceAdd, Nat.reduceSub, Array.replicate_succ, Array.replicate_zero, List.push_toArray, List.append_toArray, List.nil_append, List.cons_append]
    gi_wp2
    exact leaves0 (results_cell1 rfl _ _ w.heap.size _ rfl (Boxed.new w 29 _).cell) ⟨rfl, below_alloc HB.out _⟩
  rw [if_neg c2]
  have c2b : decide ((32 : Int) < (l0.length : Int)) = false := decide_eq_false (by omega)
  have HL := Aside0.mk (show 2 ≤ l0.length ∧ l0.length ≤ 32 from ⟨by omega, by omega⟩)
  clear c1 c2
  have HF := fun W => contFP 76 #[] eg_c1 badP A0 c0 l0 W
  cases c3 : l0.any badP with
  | true =>
    rw [if_pos rfl]
    have C3 := Aside0.mk c3
    clear c3
    refine callsIn_of_wp_marks Try.func48 rfl trivial ?_ rfl
    simp only [Try.ntmps48, List.size_toArray, List.length_cons, List.length_nil, Nat.reduceAdd, Nat.reduceSub, Array.replicate_succ, Array.replicate_zero, List.push_toArray, List.append_toArray, List.nil_append, List.cons_append]
    gi_wp2
    refine ⟨trivial, (callsIn_wide.2 (contFP 76 #[] eg_c1 badP A0 c0 l0 _ (GS.rC HR.out) (pred_c1 _))).mono ?_⟩
    rw [C3.out]
    rintro e w3 ⟨rfl, hb⟩
    have BR := Aside0.mk (boxed_below (Boxed.new w 29 (.int .i64 0)) hb)
    have HB3 := Aside0.mk (below_to (below_alloc HB.out (.cells #[.int .i64 0] 29)) hb (by simp))
    clear hb
    have cR := BR.out.cell
    have fR := BR.out.frozen
    gi_wp2
    exact leaves0 (results_cell1 rfl _ _ w.heap.size _ rfl (BR.out.set _).cell) ⟨rfl, HB3.out.setCell (p := ⟨w.heap.size, 0, none⟩) (Nat.le_refl _) _⟩
  | false =>
    rw [if_neg (by simp)]
    have C3 := Aside0.mk c3
    clear c3
    by_cases c4 : (rd_T39 l0 0).f0 ≠ 0
    · rw [if_pos c4]
      have c4b : decide ((rd_T39 l0 0).f0 ≠ 0) = true := decide_eq_true c4
      have c4c : ((rd_T39 l0 0).f0 == 0) = false := beq_eq_false_iff_ne.2 c4
      clear c4
      refine callsIn_of_wp_marks Try.func48 rfl trivial ?_ rfl
      simp only [Try.ntmps48, List.size_toArray, List.length_cons, List.length_nil, Nat.reduceAdd, Nat.reduceSub, Array.replicate_succ, Array.replicate_zero, List.push_toArray, List.append_toArray, List.nil_append, List.cons_append]
      gi_wp2
      refine ⟨trivial, (callsIn_wide.2 (contFP 76 #[] eg_c1 badP A0 c0 l0 _ (GS.rC HR.out) (pred_c1 _))).mono ?_⟩
      rw [C3.out]
      rintro e w3 ⟨rfl, hb⟩
      have BR := Aside0.mk (boxed_below (Boxed.new w 29 (.int .i64 0)) hb)
      have HB3 := Aside0.mk (below_to (below_alloc HB.out (.cells #[.int .i64 0] 29)) hb (by simp))
      clear hb
      have cR := BR.out.cell
      have fR := BR.out.frozen
      obtain ⟨ad, e1, x0, x1⟩ := at_T39 (Kd.C_below (GS.rC HR.out) HB3.out) 0 (by omega) (by have := HL.out; omega)
      cases e1
      rw [show ((0 : Int)).toNat = 0 from rfl, show 0 * 2 = 0 from rfl, Addr.add_zero'] at x0
      have p0 : (0 < l0.length) = True := eq_true (by have := HL.out; omega)
      have p0' : ((0 : Int) < (l0.length : Int)) = True := eq_true (by have := HL.out; omega)
      gi_wp2
      exact leaves0 (results_cell1 rfl _ _ w.heap.size _ rfl (BR.out.set _).cell) ⟨rfl, HB3.out.setCell (p := ⟨w.heap.size, 0, none⟩) (Nat.le_refl _) _⟩
    · rw [if_neg c4]
      have c4b : decide ((rd_T39 l0 0).f0 ≠ 0) = false := decide_eq_false c4
      have c4c : ((rd_T39 l0 0).f0 == 0) = true := beq_iff_eq.2 (Decidable.not_not.1 c4)
      clear c4
      obtain ⟨r5, h5⟩ : ∃ r : Int, (if (pairs l0).any (fun x => decide (x.2.f0 ≤ x.1.f0)) = true then 5 else if l0.any zeroP = true then 16 else if runF false (pairs l0) = none then 10 else 0) = r := ⟨_, rfl⟩
      rw [h5]
      have H5 := Aside0.mk h5
      clear h5
      refine callsIn_of_wp_marks Try.func48 rfl trivial ?_ rfl
      simp only [Try.ntmps48, List.size_toArray, List.length_cons, List.length_nil, Nat.reduceAdd, Nat.reduceSub, Array.replicate_succ, Array.replicate_zero, List.push_toArray, List.append_toArray, List.nil_append, List.cons_append]
      gi_wp2
      refine ⟨trivial, (callsIn_wide.2 (contFP 76 #[] eg_c1 badP A0 c0 l0 _ (GS.rC HR.out) (pred_c1 _))).mono ?_⟩
      rw [C3.out]
      rintro e w3 ⟨rfl, hb⟩
      have BR := Aside0.mk (boxed_below (Boxed.new w 29 (.int .i64 0)) hb)
      have HB3 := Aside0.mk (below_to (below_alloc HB.out (.cells #[.int .i64 0] 29)) hb (by simp))
      clear hb
      have cR := BR.out.cell
      have fR := BR.out.frozen
      obtain ⟨ad, e1, x0, x1⟩ := at_T39 (Kd.C_below (GS.rC HR.out) HB3.out) 0 (by omega) (by have := HL.out; omega)
      cases e1
      rw [show ((0 : Int)).toNat = 0 from rfl, show 0 * 2 = 0 from rfl, Addr.add_zero'] at x0
      have p0 : (0 < l0.length) = True := eq_true (by have := HL.out; omega)
      have p0' : ((0 : Int) < (l0.length : Int)) = True := eq_true (by have := HL.out; omega)
      gi_wp2_with (refine ⟨trivial, ?_⟩; gi_at_call 78; refine (staves_in Fence.wide (n - 1) trivial rfl _ _ _ _).mono ?_; rintro e w' ⟨rfl, rfl⟩)
      have bM := Boxed.new w3 22 (.slice (some ad) l0.length c0)
      have hB0 := HB3.out.alloc HB3.out.size (.cells #[.slice (some ad) l0.length c0] 22)
      have bR0 := BR.out.alloc (.cells #[.slice (some ad) l0.length c0] 22)
      have hlt3 := BR.out.lt
      obtain ⟨Bm, hBm⟩ : ∃ Bm, w3.heap.size = Bm := ⟨_, rfl⟩
      obtain ⟨W0, hW0⟩ : ∃ W0, w3.alloc (.cells #[.slice (some ad) l0.length c0] 22) = W0 := ⟨_, rfl⟩
      have hs0 : w.heap.size < W0.heap.size := by rw [← hW0, World.size_alloc]; omega
      rw [hBm] at bM hlt3 ⊢
      rw [hW0] at bR0 bM hB0 ⊢
      clear hW0 hBm x0 x1 cR fR
      refine loopP 3 4 hn w (some ad) c0 l0 (GS.rC HR.out) (by have := HL.out; omega) Bm bM hB0 rfl
        (fun pre W => (pre.any (fun x => decide (x.2.f0 ≤ x.1.f0)) = false) ∧ Boxed W w.heap.size 29 (.int .i64 0))
        (fun c pre W => (c = .ret ∧ pre.any (fun x => decide (x.2.f0 ≤ x.1.f0)) = true) ∧ Boxed W w.heap.size 29 (.int .i64 5))
        (OwnFrom.and (ownFrom_pure _ _) (Own.from (boxed_own _ _ _) _))
        (fun c => OwnFrom.and (ownFrom_pure _ _) (Own.from (boxed_own _ _ _) _))
        ⟨rfl, bR0⟩ ?assign ?body ?done ?stop
      case assign =>
        intro l x W K hK
        simp only [List.setIfInBounds_toArray, List.set_cons_zero, List.set_cons_succ]
        gi_wp2
        exact hK
      case body =>
        rintro l pre x Bp Bq W hl ⟨hp, bR1⟩ bM1 hB1 hs1 hBp hBq b1 b2 hxm
        have cR := bR1.cell
        have fR := bR1.frozen
        obtain ⟨z0, z1, f0, f1⟩ := GS.c2 b1
        obtain ⟨y0, y1, g0, g1⟩ := GS.c2 b2
        unfold axT
        simp only [List.setIfInBounds_toArray, List.set_cons_zero, List.set_cons_succ]
        cases cx : decide (x.2.f0 ≤ x.1.f0) with
        | true =>
          gi_wp2
          exact ⟨(KeepsOthers.setCell _ _ _).from _, ⟨⟨rfl, by rw [List.any_append, List.any_cons, cx]; simp⟩, bR1.set _⟩, hB1.setCell (p := ⟨w.heap.size, 0, none⟩) (Nat.le_refl _) _⟩
        | false =>
          gi_wp2
          exact ⟨KeepsFrom.refl _ _, KpS.refl _ _ _, ⟨⟨by rw [List.any_append, hp, List.any_cons, cx]; rfl, bR1⟩, bM1⟩, hB1, hs1⟩
      case stop =>
        rintro D c pre W hD hpre ⟨⟨rfl, hq⟩, bR1⟩ hB1 hK
        gi_wp2
        refine ⟨by simp, .inl ⟨_, _, rfl, run_takeDeferred hK, ?_⟩⟩
        have hc5 := cell_kept bR1.cell (grownBy_putObj' _ D (.deferred none)) (fun r e => by cases e; exact ⟨_, hK, rfl⟩)
        refine leaves0 (results_cell1 rfl _ _ w.heap.size _ rfl hc5) ⟨?_, hB1.trans (belowK_b (w := w) (Nat.le_refl _) W D _ _ (by omega) hK rfl rfl)⟩
        have hq2 : (pairs l0).any (fun x => decide (x.2.f0 ≤ x.1.f0)) = true := by
          obtain ⟨y, hy, hz⟩ := List.any_eq_true.1 hq
          exact List.any_eq_true.2 ⟨y, hpre.subset hy, hz⟩
        rw [← H5.out, if_pos hq2]
      case done =>
        rintro D W hD ⟨hp, bR1⟩ hB1 hK
        obtain ⟨r6, h6⟩ : ∃ r : Int, (if l0.any zeroP = true then 16 else if runF false (pairs l0) = none then 10 else 0) = r := ⟨_, rfl⟩
        have e5 := H5.out
        rw [if_neg (by rw [hp]; simp), h6] at e5
        subst e5
        have H6 := Aside0.mk h6
        clear h6 H5
        have cR := bR1.cell
        have fR := bR1.frozen
        have hK0 := Aside0.mk hK
        clear hK
        cases c6 : l0.any zeroP with
        | true =>
          have C6 := Aside0.mk c6
          have e6 := H6.out
          rw [if_pos c6] at e6
          subst e6
          clear c6
          gi_wp2
          refine ⟨trivial, (callsIn_wide.2 (contFP 79 #[] eg_c2 zeroP (some ad) c0 l0 _ (Kd.C_below (GS.rC HR.out) hB1) (pred_c2 _))).mono ?_⟩
          rw [C6.out]
          rintro e w6 ⟨rfl, hb⟩
          have bR6 := boxed_below bR1 hb
          have hB6 := below_to hB1 hb hB1.size
          have hK6 : w6.heap[D]? = _ := (hb.block D (Array.getElem?_eq_some_iff.1 hK0.out).1).trans hK0.out
          clear hb cR fR
          have cR := bR6.cell
          have fR := bR6.frozen
          gi_wp2
          have hK' := (KeepsOthers.setCell w6 ⟨w.heap.size, 0, none⟩ (.int .i64 16)).same D _ hK6 rfl
          refine ⟨by simp, .inl ⟨_, _, rfl, run_takeDeferred hK', ?_⟩⟩
          have hc5 := cell_kept (bR6.set (.int .i64 16)).cell (grownBy_putObj' _ D (.deferred none)) (fun r e => by cases e; exact ⟨_, hK', rfl⟩)
          exact leaves0 (results_cell1 rfl _ _ w.heap.size _ rfl hc5) ⟨rfl, (hB6.setCell (p := ⟨w.heap.size, 0, none⟩) (Nat.le_refl _) _).trans (belowK_b (w := w) (Nat.le_refl _) _ D _ _ (by omega) hK' rfl rfl)⟩
        | false =>
          have C6 := Aside0.mk c6
          have e6 := H6.out
          rw [if_neg (by rw [c6]; simp)] at e6
          have H7 := Aside0.mk e6
          clear c6 e6 H6
          gi_wp2
          refine ⟨trivial, (callsIn_wide.2 (contFP 79 #[] eg_c2 zeroP (some ad) c0 l0 _ (Kd.C_below (GS.rC HR.out) hB1) (pred_c2 _))).mono ?_⟩
          rw [C6.out]
          rintro e w6 ⟨rfl, hb⟩
          have bR6 := boxed_below bR1 hb
          have hB6 := below_to hB1 hb hB1.size
          have hK6 : w6.heap[D]? = _ := (hb.block D (Array.getElem?_eq_some_iff.1 hK0.out).1).trans hK0.out
          clear hb cR fR hK0
          have bR7 := (bR6.alloc (.cells #[.bool false] 4)).alloc (.cells #[.slice (some ad) l0.length c0] 22)
          have bF7 := (Boxed.new w6 4 (.bool false)).alloc (.cells #[.slice (some ad) l0.length c0] 22)
          have bM7 := Boxed.new (w6.alloc (.cells #[.bool false] 4)) 22 (.slice (some ad) l0.length c0)
          have hB7 := (hB6.alloc hB6.size (.cells #[.bool false] 4)).alloc (by rw [World.size_alloc]; have := hB6.size; omega) (.cells #[.slice (some ad) l0.length c0] 22)
          have hDlt := (Array.getElem?_eq_some_iff.1 hK6).1
          have hK7 := ((Below.heap_alloc (w6.alloc (.cells #[.bool false] 4)) (.cells #[.slice (some ad) l0.length c0] 22) D (by rw [World.size_alloc]; omega)).trans (Below.heap_alloc w6 (.cells #[.bool false] 4) D hDlt)).trans hK6
          rw [World.size_alloc] at bM7
          have hRlt := bR6.lt
          gi_wp2_with (refine ⟨trivial, ?_⟩; gi_at_call 78; refine (staves_in Fence.wide (n - 1) trivial rfl _ _ _ _).mono ?_; rintro e w' ⟨rfl, rfl⟩)
          obtain ⟨Bf, hBf⟩ : ∃ Bf, w6.heap.size = Bf := ⟨_, rfl⟩
          obtain ⟨W7, hW7⟩ : ∃ W7, (w6.alloc (.cells #[.bool false] 4)).alloc (.cells #[.slice (some ad) l0.length c0] 22) = W7 := ⟨_, rfl⟩
          have hs7 : W7.heap.size = Bf + 2 := by rw [← hW7, World.size_alloc, World.size_alloc, hBf]
          rw [hBf] at bF7 bM7 hRlt hDlt ⊢
          rw [hW7] at bR7 bF7 bM7 hB7 hK7 ⊢
          clear hW7 hBf bR6 hB6 hK6 bM bR0 hB0 bR1 hB1
          refine loopP 6 7 hn w (some ad) c0 l0 (GS.rC HR.out) (by have := HL.out; omega) (Bf + 1) bM7 hB7 rfl
            (fun pre W => ((∃ f, runF false pre = some f ∧ Boxed W Bf 4 (.bool f)) ∧ Boxed W w.heap.size 29 (.int .i64 0)) ∧ W.heap[D]? = some (.deferred (some [])))
            (fun c pre W => ((c = .ret ∧ runF false pre = none) ∧ Boxed W w.heap.size 29 (.int .i64 10)) ∧ W.heap[D]? = some (.deferred (some [])))
            (fun s X Y row hs hg hr => ⟨⟨hs.1.1.elim fun f hf => ⟨f, hf.1, cells_own hf.2 hg (fun r e => (hr r e).2)⟩, cells_own hs.1.2 hg (fun r e => (hr r e).2)⟩, (hg.block D (Array.getElem?_eq_some_iff.1 hs.2).1 (fun e => by have := (hr D e.symm).1; omega)).trans hs.2⟩)
            (fun c s X Y row hs hg hr => ⟨⟨hs.1.1, cells_own hs.1.2 hg (fun r e => (hr r e).2)⟩, (hg.block D (Array.getElem?_eq_some_iff.1 hs.2).1 (fun e => by have := (hr D e.symm).1; omega)).trans hs.2⟩)
            ⟨⟨⟨false, rfl, bF7⟩, bR7⟩, hK7⟩ ?assign2 ?body2 ?done2 ?stop2
          case assign2 =>
            intro l x W K hK
            simp only [List.setIfInBounds_toArray, List.set_cons_zero, List.set_cons_succ]
            gi_wp2
            exact hK
          case body2 =>
            rintro l pre x Bp Bq W hl ⟨⟨⟨f, hf, bF1⟩, bR1⟩, hK1⟩ bM1 hB1 hs1 hBp hBq b1 b2 hxm
            have cF := bF1.cell
            have fF := bF1.frozen
            have cR := bR1.cell
            have fR := bR1.frozen
            obtain ⟨z0, z1, f0, f1⟩ := GS.c2 b1
            obtain ⟨y0, y1, g0, g1⟩ := GS.c2 b2
            have hfs : Bf ≠ w.heap.size := by omega
            unfold axT
            simp only [List.setIfInBounds_toArray, List.set_cons_zero, List.set_cons_succ]
            have go : ∀ g : Bool, runF false (pre ++ [x]) = some g → KeepsFrom W7.heap.size W (W.setCell ⟨Bf, 0, none⟩ (.bool g)) ∧ KpS w.heap.size (Bf + 1) W (W.setCell ⟨Bf, 0, none⟩ (.bool g)) ∧
                (((((∃ f, runF false (pre ++ [x]) = some f ∧ Boxed (W.setCell ⟨Bf, 0, none⟩ (.bool g)) Bf 4 (.bool f)) ∧ Boxed (W.setCell ⟨Bf, 0, none⟩ (.bool g)) w.heap.size 29 (.int .i64 0)) ∧ (W.setCell ⟨Bf, 0, none⟩ (.bool g)).heap[D]? = some (.deferred (some []))) ∧
                  Boxed (W.setCell ⟨Bf, 0, none⟩ (.bool g)) (Bf + 1) 22 (.slice (some ad) l0.length c0)) ∧ (Below w.heap.size w (W.setCell ⟨Bf, 0, none⟩ (.bool g)) ∧ W7.heap.size ≤ (W.setCell ⟨Bf, 0, none⟩ (.bool g)).heap.size)) := fun g hg =>
              ⟨(KeepsOthers.setCell _ _ _).from _, ⟨(Below.refl _ W).setCell (p := ⟨Bf, 0, none⟩) (Nat.le_of_lt hRlt) _, Below.heap_setCell _ _ _ _ (by simp)⟩,
                ⟨⟨⟨⟨g, hg, bF1.set _⟩, bR1.other (Ne.symm hfs) _⟩, (KeepsOthers.setCell W ⟨Bf, 0, none⟩ (.bool g)).same D _ hK1 rfl⟩, bM1.other (by omega) _⟩, hB1.setCell (p := ⟨Bf, 0, none⟩) (Nat.le_of_lt hRlt) _, by simpa using hs1⟩
            cases f with
            | true =>
              cases cx : decide (x.1.f1 < x.2.f1) with
              | true =>
                gi_wp2
                exact ⟨(KeepsOthers.setCell _ _ _).from _, ⟨⟨⟨rfl, by rw [runF_append, hf]; show runF true [x] = none; rw [runF, if_pos (by rw [cx]; rfl)]⟩, bR1.set _⟩, (KeepsOthers.setCell W ⟨w.heap.size, 0, none⟩ (.int .i64 10)).same D _ hK1 rfl⟩, hB1.setCell (p := ⟨w.heap.size, 0, none⟩) (Nat.le_refl _) _⟩
              | false =>
                have hg := go true (by rw [runF_append, hf]; show runF true [x] = some true; rw [runF, if_neg (by rw [cx]; simp)]; rfl)
                gi_wp2
                exact hg
            | false =>
              cases cx : decide (x.2.f1 < x.1.f1) with
              | true =>
                have hg := go true (by rw [runF_append, hf]; show runF false [x] = some true; rw [runF, if_neg (by simp), flP, cx]; rfl)
                gi_wp2
                exact hg
              | false =>
                have hg := go false (by rw [runF_append, hf]; show runF false [x] = some false; rw [runF, if_neg (by simp), flP, cx]; rfl)
                gi_wp2
                exact hg
          case stop2 =>
            rintro D2 c pre W hD2 hpre ⟨⟨⟨rfl, hq⟩, bR1⟩, hK1⟩ hB1 hK2
            have hq2 : runF false (pairs l0) = none := by
              obtain ⟨t, ht⟩ := hpre
              rw [← ht, runF_append, hq]; rfl
            have e7 := H7.out
            rw [if_pos hq2] at e7
            subst e7
            gi_wp2
            refine ⟨by simp, .inl ⟨_, _, rfl, run_takeDeferred hK2, ?_⟩⟩
            have hK1' := ((grownBy_putObj' W D2 (.deferred none)).block D (Array.getElem?_eq_some_iff.1 hK1).1 (by intro e; cases e; omega)).trans hK1
            refine ⟨by simp, .inl ⟨_, _, rfl, run_takeDeferred hK1', ?_⟩⟩
            have hc5 := ((bR1.kept (grownBy_putObj' W D2 (.deferred none)) (by intro e; cases e; omega)).kept (grownBy_putObj' _ D (.deferred none)) (by intro e; cases e; omega)).cell
            exact leaves0 (results_cell1 rfl _ _ w.heap.size _ rfl hc5) ⟨rfl, (hB1.trans (belowK_b (w := w) (Nat.le_refl _) _ D2 _ _ (by omega) hK2 rfl rfl)).trans (belowK_b (w := w) (Nat.le_refl _) _ D _ _ (by omega) hK1' rfl rfl)⟩
          case done2 =>
            rintro D2 W hD2 ⟨⟨⟨f, hf, bF1⟩, bR1⟩, hK1⟩ hB1 hK2
            have e7 := H7.out
            rw [if_neg (by rw [hf]; simp)] at e7
            subst e7
            have cR := bR1.cell
            have fR := bR1.frozen
            gi_wp2
            have hK2s := (KeepsOthers.setCell W ⟨w.heap.size, 0, none⟩ (.int .i64 0)).same D2 _ hK2 rfl
            refine ⟨by simp, .inl ⟨_, _, rfl, run_takeDeferred hK2s, ?_⟩⟩
            have hK1s := (KeepsOthers.setCell W ⟨w.heap.size, 0, none⟩ (.int .i64 0)).same D _ hK1 rfl
            have hK1' := ((grownBy_putObj' _ D2 (.deferred none)).block D (Array.getElem?_eq_some_iff.1 hK1s).1 (by intro e; cases e; omega)).trans hK1s
            refine ⟨by simp, .inl ⟨_, _, rfl, run_takeDeferred hK1', ?_⟩⟩
            have hc5 := (((bR1.set (.int .i64 0)).kept (grownBy_putObj' _ D2 (.deferred none)) (by intro e; cases e; omega)).kept (grownBy_putObj' _ D (.deferred none)) (by intro e; cases e; omega)).cell
            exact leaves0 (results_cell1 rfl _ _ w.heap.size _ rfl hc5) ⟨rfl, ((hB1.setCell (p := ⟨w.heap.size, 0, none⟩) (Nat.le_refl _) _).trans (belowK_b (w := w) (Nat.le_refl _) _ D2 _ _ (by omega) hK2s rfl rfl)).trans (belowK_b (w := w) (Nat.le_refl _) _ D _ _ (by omega) hK1' rfl rfl)⟩
def check48.f (l : List S39) : Option Int := some (profC l)
theorem check48.calls (A0 : Option Addr) (c0 : Nat) (l0 : List S39) (r : Int) (w : World) (hr0 : Kd.C k39 w A0 l0.length l0) (hc0 : l0.length ≤ c0) (h : check48.f l0 = some r) :
    Calls Try.prog 48 #[.slice A0 l0.length c0] w fun e w' => e = .returned (.int .i64 r) ∧ Below w.heap.size w w' := by
  obtain rfl : profC l0 = r := Option.some.inj h
  exact callsIn_wide.1 (prof_in 6 (Nat.le_refl _) A0 c0 l0 w hr0)
end Go.Proofs.Ytefjmcljkmppoaa.K
/- By hand: profile.at. -/
namespace Go.Proofs.Ytefjmcljkmppoaa.K
open Go Go.RowKit Go.Shelf Go.Proofs.YtefjmcljkmppoaaW.PrintWords Go.Proofs.YtefjmcljkmppoaaW.PrintLast Go.Proofs.YtefjmcljkmppoaaW.PrintMore Go.Proofs.Ytefjmcljkmppoaa.GW
set_option linter.unusedVariables false
set_option linter.unusedSimpArgs false
attribute [local go_sem] Oper.semAt_some
def stv (s : S39 × S39) (x : Int) : Int × Int :=
  (Int.tdiv (s.1.f1 * (s.2.f0 - x) + s.2.f1 * (x - s.1.f0)) (s.2.f0 - s.1.f0),
   Int.tdiv (s.1.f1 * (s.2.f0 - x) + s.2.f1 * (x - s.1.f0) + (s.2.f0 - s.1.f0) - 1) (s.2.f0 - s.1.f0))
def atP (x : Int) : List (S39 × S39) → Int × Int
  | [] => (0, 0)
  | s :: r => if s.2.f0 < x then atP x r else stv s x
theorem atP_skip (x : Int) : ∀ (a b : List (S39 × S39)), (∀ s ∈ a, s.2.f0 < x) → atP x (a ++ b) = atP x b
  | [], b, _ => rfl
  | s :: r, b, h => by
    rw [List.cons_append, atP, if_pos (h s (by simp))]
    exact atP_skip x r b (fun t ht => h t (by simp [ht]))
def len1 (s : S39 × S39) : Prop := (0 ≤ s.1.f0 ∧ s.1.f0 < s.2.f0 ∧ s.2.f0 ≤ 100000) ∧ (0 ≤ s.1.f1 ∧ s.1.f1 ≤ 100000) ∧ (0 ≤ s.2.f1 ∧ s.2.f1 ≤ 100000)
theorem pairs_mem : ∀ (l : List S39) (s : S39 × S39), s ∈ pairs l → s.1 ∈ l ∧ s.2 ∈ l
  | p :: q :: r, s, h => by
    rw [pairs, List.mem_cons] at h
    rcases h with rfl | h
    · simp
    · have := pairs_mem (q :: r) s h
      exact ⟨List.mem_cons_of_mem _ this.1, List.mem_cons_of_mem _ this.2⟩
theorem prof_len1 (l : List S39) (h : profC l = 0) : ∀ s ∈ pairs l, len1 s := by
  unfold profC at h
  split at h
  · exact absurd h (by decide)
  split at h
  · exact absurd h (by decide)
  split at h
  · exact absurd h (by decide)
  rename_i h3
  split at h
  · exact absurd h (by decide)
  split at h
  · exact absurd h (by decide)
  rename_i h5
  intro s hs
  have hb : ∀ p ∈ l, badP p = false := by simpa using h3
  obtain ⟨m1, m2⟩ := pairs_mem l s hs
  have b1 := hb _ m1
  have b2 := hb _ m2
  have hp : ¬ s.2.f0 ≤ s.1.f0 := by
    have := fun hh => h5 (List.any_eq_true.2 ⟨s, hs, hh⟩)
    simpa using this
  simp [badP, measP] at b1 b2
  exact ⟨⟨b1.1.1, by omega, b2.1.2⟩, b1.2, b2.2⟩
theorem prof_short (l : List S39) (h : profC l = 0) : l.length ≤ 32 := by
  unfold profC at h
  split at h
  · exact absurd h (by decide)
  split at h
  · exact absurd h (by decide)
  omega
theorem results_cell2 {fn : Func} {p : Tmp} (h : fn.results = #[.cell p 28]) (tmps : Array Value) (w : World) (g : Nat) (u v : Value) (hp : tmps[p]?.getD undef = .pointer (some ⟨g, 0, none⟩)) (hg : w.heap[g]? = some (.cells #[u, v] 28 (0, 0))) :
    (results fn tmps).run Try.prog w = .ok (.agg #[u, v]) w := by
  have hu := Try.underlying28
  obtain ⟨z0, z1, f0, f1⟩ := GS.c2 hg
  simp [results, h, hp, go_sem, loadVar, z0, z1]
def atEnd (x : Int) (B : Nat) (pre : List (S39 × S39)) (W : World) : Prop := ∃ i s, pre = i ++ [s] ∧ (∀ t ∈ i, t.2.f0 < x) ∧ ¬ s.2.f0 < x ∧ W.heap[B]? = some (.cells #[.int .i64 (stv s x).1, .int .i64 (stv s x).2] 28 (0, 0))
def allLt (x : Int) (pre : List (S39 × S39)) : Prop := ∀ s ∈ pre, s.2.f0 < x
theorem allLt_snoc {x : Int} {pre : List (S39 × S39)} {s : S39 × S39} (h : allLt x pre) (hs : s.2.f0 < x) : allLt x (pre ++ [s]) := fun t ht => (List.mem_append.1 ht).elim (h t) (fun e => by rw [List.mem_singleton] at e; subst e; exact hs)
theorem mul_bd (a b : Int) (ha : 0 ≤ a ∧ a ≤ 100000) (hb : -100000 ≤ b ∧ b ≤ 100000) : -10000000000 ≤ a * b ∧ a * b ≤ 10000000000 := by
  have h1 := Int.mul_le_mul_of_nonneg_left hb.1 ha.1
  have h2 := Int.mul_le_mul_of_nonneg_left hb.2 ha.1
  omega
theorem wrap_id (n : Int) (h : -1000000000000 ≤ n ∧ n ≤ 1000000000000) : wrap64 n = n := by unfold wrap64; omega
theorem wrap_tdiv (n h : Int) (hn : -1000000000000 ≤ n ∧ n ≤ 1000000000000) : wrap64 (Int.tdiv n h) = Int.tdiv n h := by
  have h1 : (Int.tdiv n h).natAbs ≤ n.natAbs := by rw [Int.natAbs_tdiv]; exact Nat.div_le_self _ _
  exact wrap_id _ (by omega)
set_option maxRecDepth 100000 in
set_option maxHeartbeats 4000000 in
theorem at_in (n : Nat) (hn : 6 ≤ n) (A0 : Option Addr) (c0 : Nat) (l0 : List S39) (x : Int) (w : World) (hr : Kd.C k39 w A0 l0.length l0) (hp : profC l0 = 0) (hx : 0 ≤ x ∧ x ≤ 100000) :
    CallsIn Fence.wide n Try.prog 103 #[.slice A0 l0.length c0, .int .i64 x] w fun e w' => e = .returned (.agg #[.int .i64 (atP x (pairs l0)).1, .int .i64 (atP x (pairs l0)).2]) ∧ Below w.heap.size w w' := by
  have h1 : 1 ≤ n := by omega
  have hu33 := Try.underlying39
  have hu40 := Try.underlying28
  have HR := Aside0.mk hr
  have HM := Aside0.mk (prof_len1 l0 hp)
  have HL := Aside0.mk (prof_short l0 hp)
  have HX := Aside0.mk hx
  have HB := Aside0.mk (Below.refl w.heap.size w)
  have hmx : Try.prog.follows .mixedOrders = true := by kernel_rfl
  clear hr hp hx
  obtain ⟨⟨r1, r2⟩, h5⟩ : ∃ r : Int × Int, atP x (pairs l0) = r := ⟨_, rfl⟩
  rw [h5]
  have H5 := Aside0.mk h5
  clear h5
  refine callsIn_of_wp_marks Try.func103 rfl trivial ?_ rfl
  simp only [Try.ntmps103, List.size_toArray, List.length_cons, List.length_nil, Nat.reduceAdd, Nat.reduceSub, Array.replicate_succ, Array.replicate_zero, List.push_toArray, List.append_toArray, List.nil_append, List.cons_append]
  gi_wp2_with (refine ⟨trivial, ?_⟩; gi_at_call 78; refine (staves_in Fence.wide (n - 1) trivial rfl _ _ _ _).mono ?_; rintro e w' ⟨rfl, rfl⟩)
  have hsz : (((w.alloc (.cells #[.int .i64 x] 3)).alloc (.cells #[.int .i64 0, .int .i64 0] 28)).alloc (.cells #[.slice A0 l0.length c0] 22)).heap.size = w.heap.size + 3 := by simp
  have bX := ((Boxed.new w 3 (.int .i64 x)).alloc (.cells #[.int .i64 0, .int .i64 0] 28)).alloc (.cells #[.slice A0 l0.length c0] 22)
  have bO : (((w.alloc (.cells #[.int .i64 x] 3)).alloc (.cells #[.int .i64 0, .int .i64 0] 28)).alloc (.cells #[.slice A0 l0.length c0] 22)).heap[w.heap.size + 1]? = some (.cells #[.int .i64 0, .int .i64 0] 28 (0, 0)) := by
    have := World.alloc_heap_new (w.alloc (.cells #[.int .i64 x] 3)) (.cells #[.int .i64 0, .int .i64 0] 28)
    rw [World.size_alloc] at this
    exact (Below.heap_alloc _ _ _ (by simp)).trans this
  have bM := Boxed.new ((w.alloc (.cells #[.int .i64 x] 3)).alloc (.cells #[.int .i64 0, .int .i64 0] 28)) 22 (.slice A0 l0.length c0)
  rw [World.size_alloc, World.size_alloc] at bM
  have hB0 := below_alloc (below_alloc (below_alloc HB.out (.cells #[.int .i64 x] 3)) (.cells #[.int .i64 0, .int .i64 0] 28)) (.cells #[.slice A0 l0.length c0] 22)
  obtain ⟨W0, hW0⟩ : ∃ W0, ((w.alloc (.cells #[.int .i64 x] 3)).alloc (.cells #[.int .i64 0, .int .i64 0] 28)).alloc (.cells #[.slice A0 l0.length c0] 22) = W0 := ⟨_, rfl⟩
  rw [hW0] at hsz bX bO bM hB0 ⊢
  clear hW0
  refine loopP 5 6 hn w A0 c0 l0 (GS.rC HR.out) (by have := HL.out; omega) (w.heap.size + 1 + 1) bM hB0 rfl
    (fun pre W => (allLt x pre ∧ Boxed W w.heap.size 3 (.int .i64 x)) ∧ W.heap[w.heap.size + 1]? = some (.cells #[.int .i64 0, .int .i64 0] 28 (0, 0)))
    (fun c pre W => c = .ret ∧ atEnd x (w.heap.size + 1) pre W)
    (fun s X Y row hs hg hr => ⟨⟨hs.1.1, cells_own hs.1.2 hg (fun r e => (hr r e).2)⟩, cells_own hs.2 hg (fun r e => (hr r e).2)⟩)
    (fun c s X Y row hs hg hr => by obtain ⟨e1, i, t, e2, e3, e4, e5⟩ := hs; exact ⟨e1, i, t, e2, e3, e4, cells_own e5 hg (fun r e => (hr r e).2)⟩)
    ⟨⟨fun _ h => (by cases h), bX⟩, bO⟩ ?assign ?body ?done ?stop
  case assign =>
    intro l s W K hK
    simp only [List.setIfInBounds_toArray, List.set_cons_zero, List.set_cons_succ]
    gi_wp2
    exact hK
  case stop =>
    rintro D c pre W hD hpre ⟨rfl, i, s, rfl, hi, hs, bO1⟩ hB1 hK
    have hc : atP x (pairs l0) = stv s x := by
      obtain ⟨t, ht⟩ := hpre
      rw [← ht, List.append_assoc, atP_skip x i _ hi]
      show atP x (s :: t) = _
      rw [atP, if_neg hs]
    have e5 := H5.out
    rw [hc] at e5
    gi_wp2
    refine ⟨by simp, .inl ⟨_, _, rfl, run_takeDeferred hK, ?_⟩⟩
    have hc5 := cells_own bO1 (grownBy_putObj' _ D (.deferred none)) (fun r e => by cases e; exact ⟨_, hK, rfl⟩)
    exact leaves0 (results_cell2 rfl _ _ (w.heap.size + 1) _ _ rfl hc5) ⟨by rw [e5], hB1.trans (belowK_b (w := w) (Nat.le_refl _) W D _ _ (by omega) hK rfl rfl)⟩
  case done =>
    rintro D W hD ⟨⟨hp, bX1⟩, bO1⟩ hB1 hK
    have e5 := H5.out
    have hc : atP x (pairs l0) = (0, 0) := by
      have := atP_skip x (pairs l0) [] hp
      rwa [List.append_nil] at this
    rw [hc] at e5
    obtain ⟨rfl, rfl⟩ : 0 = r1 ∧ 0 = r2 := by simpa using e5
    obtain ⟨z0, z1, f0, f1⟩ := GS.c2 bO1
    gi_wp2
    have hK' := ((KeepsOthers.setCell W ⟨w.heap.size + 1, 0, none⟩ (.int .i64 0)).trans (KeepsOthers.setCell _ ⟨w.heap.size + 1, 1, none⟩ (.int .i64 0))).same D _ hK rfl
    refine ⟨by simp, .inl ⟨_, _, rfl, run_takeDeferred hK', ?_⟩⟩
    have hb2 : ((W.setCell ⟨w.heap.size + 1, 0, none⟩ (.int .i64 0)).setCell ⟨w.heap.size + 1, 1, none⟩ (.int .i64 0)).heap[w.heap.size + 1]? = some (.cells #[.int .i64 0, .int .i64 0] 28 (0, 0)) := by
      refine bqP (cs := #[.int .i64 0, .int .i64 0]) ?_ 1 _ rfl
      exact bqP (cs := #[.int .i64 0, .int .i64 0]) bO1 0 _ rfl
    have hc5 := cells_own hb2 (grownBy_putObj' _ D (.deferred none)) (fun r e => by cases e; exact ⟨_, hK', rfl⟩)
    exact leaves0 (results_cell2 rfl _ _ (w.heap.size + 1) _ _ rfl hc5) ⟨rfl, ((hB1.setCell (p := ⟨w.heap.size + 1, 0, none⟩) (Nat.le_succ _) _).setCell (p := ⟨w.heap.size + 1, 1, none⟩) (Nat.le_succ _) _).trans (belowK_b (w := w) (Nat.le_refl _) _ D _ _ (by omega) hK' rfl rfl)⟩
  case body =>
    rintro l pre s Bp Bq W hl ⟨⟨hp, bX1⟩, bO1⟩ bM1 hB1 hs1 hBp hBq b1 b2 hxm
    have cX := bX1.cell
    have fX := bX1.frozen
    obtain ⟨z0, z1, f0, f1⟩ := GS.c2 b1
    obtain ⟨y0, y1, g0, g1⟩ := GS.c2 b2
    obtain ⟨o0, o1, k0, k1⟩ := GS.c2 bO1
    obtain ⟨⟨m1, m2, m3⟩, m4, m5⟩ := HM.out s hxm
    have hX := HX.out
    have a1 := mul_bd s.1.f1 (s.2.f0 - x) m4 (by omega)
    have a2 := mul_bd s.2.f1 (x - s.1.f0) m5 (by omega)
    have w1 : wrap64 (s.2.f0 - s.1.f0) = s.2.f0 - s.1.f0 := wrap_id _ (by omega)
    have w2 : wrap64 (s.2.f0 - x) = s.2.f0 - x := wrap_id _ (by omega)
    have w3 : wrap64 (x - s.1.f0) = x - s.1.f0 := wrap_id _ (by omega)
    have w4 : wrap64 (s.1.f1 * (s.2.f0 - x)) = s.1.f1 * (s.2.f0 - x) := wrap_id _ (by omega)
    have w5 : wrap64 (s.2.f1 * (x - s.1.f0)) = s.2.f1 * (x - s.1.f0) := wrap_id _ (by omega)
    have w6 : wrap64 (s.1.f1 * (s.2.f0 - x) + s.2.f1 * (x - s.1.f0)) = s.1.f1 * (s.2.f0 - x) + s.2.f1 * (x - s.1.f0) := wrap_id _ (by omega)
    obtain ⟨m, hm⟩ : ∃ m, s.1.f1 * (s.2.f0 - x) + s.2.f1 * (x - s.1.f0) = m := ⟨_, rfl⟩
    obtain ⟨h, hh⟩ : ∃ h, s.2.f0 - s.1.f0 = h := ⟨_, rfl⟩
    have hst : stv s x = (Int.tdiv m h, Int.tdiv (m + h - 1) h) := by rw [stv, hm, hh]
    have q7 : wrap64 (m + h) = m + h := wrap_id _ (by omega)
    have q8 : wrap64 (m + h - 1) = m + h - 1 := wrap_id _ (by omega)
    have q9 : wrap64 (Int.tdiv m h) = Int.tdiv m h := wrap_tdiv _ _ (by omega)
    have q10 : wrap64 (Int.tdiv (m + h - 1) h) = Int.tdiv (m + h - 1) h := wrap_tdiv _ _ (by omega)
    have hne : h ≠ 0 := by omega
    have hneb : (h == 0) = false := beq_eq_false_iff_ne.2 hne
    rw [hm] at w6
    rw [hh] at w1
    clear m1 m2 m3 m4 m5 a1 a2 hX b1 b2
    unfold axT
    simp only [List.setIfInBounds_toArray, List.set_cons_zero, List.set_cons_succ]
    by_cases cx : s.2.f0 < x
    · have cxb : decide (s.2.f0 < x) = true := decide_eq_true cx
      gi_wp2
      exact ⟨KeepsFrom.refl _ _, KpS.refl _ _ _, ⟨⟨⟨allLt_snoc hp cx, bX1⟩, bO1⟩, bM1⟩, hB1, by omega⟩
    · have cxb : decide (s.2.f0 < x) = false := decide_eq_false cx
      gi_wp2
      refine GI.start_ (m := 11) (S := fun _ => True) (ds := [10]) #[false, false, false, false, false, false, false, false, false, false, false] (by kernel_rfl) rfl rfl trivial (fun hHeld => ?_)
      refine GI.pu 0 (some 37) ?_
      refine GI.pu 1 (some 38) ?_
      refine GI.pu 3 (some 40) ?_
      refine GI.pu 4 (some 41) ?_
      refine GI.pu 7 (some 44) ?_
      refine GI.pu 2 (some 39) ?_
      refine GI.pu 5 (some 42) ?_
      refine GI.pu 6 (some 43) ?_
      refine GI.pu 8 (some 45) ?_
      refine GI.pu 9 (some 46) ?_
      refine GI.last_ (i := 10) (N := none) #[true, true, true, true, true, true, true, true, true, true, true] rfl rfl (by kernel_rfl) (by decide) (by rfl) ?_
      refine GI.skip_ (w1 := ?w1) (fun c h => by cases h) ?hab rfl ?hrun ?_
      case hab => intro f hf; cases hf
      case hrun => go_simp; rfl
      refine GI.done_ (by kernel_rfl) ?_ _
      gi_wp2
      have hb2 : ((W.setCell ⟨w.heap.size + 1, 0, none⟩ (.int .i64 (m.tdiv h))).setCell ⟨w.heap.size + 1, 1, none⟩ (.int .i64 ((m + h - 1).tdiv h))).heap[w.heap.size + 1]? = some (.cells #[.int .i64 (stv s x).1, .int .i64 (stv s x).2] 28 (0, 0)) := by
        rw [hst]
        refine bqP (cs := #[.int .i64 (m.tdiv h), .int .i64 0]) ?_ 1 _ rfl
        exact bqP (cs := #[.int .i64 0, .int .i64 0]) bO1 0 _ rfl
      exact ⟨(((KeepsOthers.setCell _ _ _).trans (KeepsOthers.setCell _ _ _)).trans (KeepsOthers.drew _)).from _, ⟨rfl, pre, s, rfl, hp, by omega, hb2⟩, below_drew ((hB1.setCell (p := ⟨w.heap.size + 1, 0, none⟩) (Nat.le_succ _) _).setCell (p := ⟨w.heap.size + 1, 1, none⟩) (Nat.le_succ _) _)⟩
def at103.f (l : List S39) (x : Int) : Option (Int × Int) := if profC l = 0 ∧ 0 ≤ x ∧ x ≤ 100000 then some (atP x (pairs l)) else none
theorem at103.calls (A0 : Option Addr) (c0 : Nat) (l0 : List S39) (a1 r1 r2 : Int) (w : World) (hr0 : Kd.C k39 w A0 l0.length l0) (hc0 : l0.length ≤ c0) (h : at103.f l0 a1 = some (r1, r2)) :
    Calls Try.prog 103 #[.slice A0 l0.length c0, .int .i64 a1] w fun e w' => e = .returned (.agg #[.int .i64 r1, .int .i64 r2]) ∧ Below w.heap.size w w' := by
  unfold at103.f at h
  split at h
  · rename_i hc
    have e := Option.some.inj h
    have := callsIn_wide.1 (at_in 6 (Nat.le_refl _) A0 c0 l0 a1 w hr0 hc.1 hc.2)
    rw [e] at this
    exact this
  · cases h
end Go.Proofs.Ytefjmcljkmppoaa.K
