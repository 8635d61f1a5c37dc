/- By hand: maps.Values at a map of standings: its iterator. -/
import Derived.Test.YtfjenooajbdcmaaGDelete
import Derived.Shelf.SlIterI.Collect
import Derived.Test.YtfjenooajbdcmaaGIntact
import Derived.Test.YtfjenooajbdcmaaGCheck
namespace Go.Proofs.Ytfjenooajbdcmaa.GM
open Go Go.RowKit Go.Maps Go.Sort Go.Shelf Go.Proofs.YtfjenooajbdcmaaW.PrintWords Go.Proofs.YtfjenooajbdcmaaW.PrintLast Go.Proofs.YtfjenooajbdcmaaW.PrintMore
set_option linter.unusedVariables false
/-- All entries have come, each once, with their keys. -/
def AllOf (D0 : DataW Unit) (ps : List (Int × St)) : Prop := (ps.map (·.1)).Perm (intKeys D0) ∧ (∀ x, x ∈ ps.map (·.1) ↔ has D0 (.int .i64 x) = true) ∧ ∀ p ∈ ps, ∀ zd, D0.atKey (.int .i64 p.1) zd = stE p.2
set_option maxRecDepth 100000 in
set_option maxHeartbeats 4000000 in
theorem values1 (n : Nat) (hn : 1 ≤ n) (l Bm b nn : Nat) (D0 : DataW Unit) (J : List St → World → Prop)
    (hY : ∀ pre x W, J pre W → pre.length < Maps.size D0 → YieldAt Fence.wide (n - 1) Try.prog l #[.agg #[.int .i64 x.pl, .int .i64 x.fr, .int .i64 x.tt]] W fun e W' => e = .returned (.bool true) ∧ J (pre ++ [x]) W' ∧ KeepsWalks W W')
    (W : World) (hJ : AbidesFrom W.heap.size J) (hm : W.cell? ⟨Bm, 0, none⟩ = some (.map (some b))) (hown : W.ownsMap Try.prog 3 stR b nn D0) (h0 : J [] W) :
    CallsIn Fence.wide n Try.prog 63 #[.func (.yield l) #[] #[], .pointer (some ⟨Bm, 0, none⟩)] W fun e W' => (∃ v, e = .returned v) ∧ ∃ ps : List (Int × St), AllOf D0 ps ∧ J (ps.map (·.2)) W' := by
  refine callsIn_of_wp Try.func63 rfl trivial ?_ rfl
  simp only [Try.ntmps63, List.size_toArray, List.length_cons, List.length_nil, Nat.reduceAdd, Nat.reduceSub, Array.replicate_succ, Array.replicate_zero, List.push_toArray, List.append_toArray, List.nil_append, List.cons_append]
  gi_wp2_with (first
    | (gi_at_range; refine wpListIn_range_own _ rfl _ 56 rfl 3 61 K3 Try.underlying56 _ b nn _ rfl hown ?_; intro w0 hrg0 hg0 hs0)
    | gi_in)
  go_frame
  gi_loopw [4] (fun _ wr => ∃ (left : Lit → Bool) (cnt : Nat) (ps : List (Int × St)), wr.ranges Try.prog 3 stR b W.heap.size nn D0 left cnt ∧ ps.length + cnt ≤ Maps.size D0 ∧ CollectedI D0 left (ps.map (·.1)) ∧ (∀ p ∈ ps, ∀ zd, D0.atKey (.int .i64 p.1) zd = stE p.2) ∧ J (ps.map (·.2)) wr)
    (fun _ wr => wr.rangeLeft b W.heap.size)
  case atStart =>
    exact ⟨_, _, [], hrg0, by simp, CollectedI.start D0, by simp, hJ [] W w0 none h0 hg0 (fun r e => by cases e)⟩
  case round =>
    obtain ⟨left, cnt, ps, hrg, hcs, hC, hV, hJs⟩ := hrel
    gi_wp2_with (first
      | (gi_at_next; refine wpListIn_next_ranges _ rfl _ rfl 3 K3 stR encZ (fun s : St => Value.agg #[.int .i64 s.pl, .int .i64 s.fr, .int .i64 s.tt]) (fun key kl hk => by obtain ⟨x, hx, _⟩ := Maps.keyOf_i64 Try.underlying3 hk; exact ⟨x, hx⟩) (fun v y hv => by obtain ⟨c, rfl, _⟩ := stR_inv hv; exact ⟨c, rfl⟩) b W.heap.size nn _ _ _ rfl hrg ?_ ?_)
      | gi_in)
    · -- nothing is left
      intro hc0 hl0
      gi_wp2
      go_end0
      exact ⟨⟨_, rfl⟩, ps, ⟨hC.perm hown K3 Try.underlying3 hl0, fun x => by rw [hC.2 x, hl0]; simp, hV⟩, hJs⟩
    · -- an entry has come
      intro x c kl yd yp w2 cnt2 hkey hlk hv hat hrg2 hlt hg2 hs2 hen
      obtain ⟨x', ex, rfl, _⟩ := Maps.keyOf_i64 Try.underlying3 hkey
      obtain rfl : x = x' := encZ_inj ex
      obtain ⟨c', ec, ez⟩ := stR_inv hv
      obtain rfl : yd = stE c' := (Prod.mk.inj ez).1
      obtain rfl : c = c' := by
        cases c; cases c'
        simp [stV] at ec
        obtain ⟨rfl, rfl, rfl⟩ := ec
        rfl
      have hJ2 : J (ps.map (·.2)) w2 := hJ _ wr w2 (some W.heap.size) hJs hg2 (fun r e => by cases e; exact ⟨Nat.le_refl _, hrg.iter_walk⟩)
      clear hs2 ec hv ez
      have hg3 : w2.grownBy (w2.alloc (.cells #[.int .i64 c.pl, .int .i64 c.fr, .int .i64 c.tt] 61)) none := World.grownBy_alloc _ _ _
      have hrg3 := hrg2.alloc (.cells #[.int .i64 c.pl, .int .i64 c.fr, .int .i64 c.tt] 61)
      have hJ3 := hJ _ _ _ none hJ2 hg3 (fun r e => by cases e)
      obtain ⟨fn, tmps, assign, body, hy, hR⟩ := hY (ps.map (·.2)) c _ hJ3 (by simp; omega)
      clear hg3
      gi_wp2
      refine hR.mono ?_
      have hC2 : CollectedI D0 (fun z => left z && !z.sameKey (.int .i64 x)) ((ps ++ [(x, c)]).map (·.1)) := by simpa using hC.step hlk hat
      have hV2 : ∀ p ∈ ps ++ [(x, c)], ∀ zd, D0.atKey (.int .i64 p.1) zd = stE p.2 := fun p hp => (List.mem_append.1 hp).elim (hV p) (fun e => by simp at e; subst e; exact hat)
      rintro e W3 ⟨rfl, hJ3, hk3⟩
      gi_wp2
      have hrg4 := hrg3.of_walks hk3
      go_roundw
      case rel => exact ⟨_, cnt2, ps ++ [(x, c)], hrg4, by simp; omega, hC2, hV2, by simpa using hJ3⟩
      case measure => rw [hrg4.left_eq, hrg.left_eq]; exact hlt
set_option maxHeartbeats 1000000 in
/-- maps.Values: the map is boxed; the function value captures the box. -/
theorem values_in (n : Nat) (mb : Option Nat) (w : World) :
    CallsIn Fence.wide n Try.prog 49 #[.map mb] w fun e w' => e = .returned (.func (.func 63) #[] #[.pointer (some ⟨w.heap.size, 0, none⟩)]) ∧ w' = w.alloc (.cells #[.map mb] 56) := by
  refine callsIn_of_wp Try.func49 rfl trivial ?_ rfl
  simp only [Try.ntmps49, List.size_toArray, List.length_cons, List.length_nil, Nat.reduceAdd, Nat.reduceSub, Array.replicate_succ, Array.replicate_zero, List.push_toArray, List.append_toArray, List.nil_append, List.cons_append]
  gi_wp2
  go_ret
  exact ⟨rfl, rfl⟩
/-- It hands back an iterator over the map's values. -/
theorem values_gives (n : Nat) (hn : 1 ≤ n) (Bm b nn : Nat) (D0 : DataW Unit) (w : World) (hBm : Bm < w.heap.size)
    (hm : w.cell? ⟨Bm, 0, none⟩ = some (.map (some b))) (hown : w.ownsMap Try.prog 3 stR b nn D0) :
    SeqGives Fence.wide n Try.prog 63 #[.pointer (some ⟨Bm, 0, none⟩)] (fun s : St => Value.agg #[.int .i64 s.pl, .int .i64 s.fr, .int .i64 s.tt]) (fun ss => ∃ ps, AllOf D0 ps ∧ ss = ps.map (·.2)) (Maps.size D0) w := fun l J W hW hJ hY h0 => by
  have hown' : W.ownsMap Try.prog 3 stR b nn D0 := by
    have hbl := hown.lt
    obtain ⟨es, clock, hb, Ft, hs, hD⟩ := hown
    exact ⟨es, clock, (hW.block b hbl).trans hb, Ft, hs, hD⟩
  refine (values1 n hn l Bm b nn D0 J hY W hJ ((hW.cell (p := ⟨Bm, 0, none⟩) hBm).trans hm) hown' h0).mono ?_
  rintro e W' ⟨h1, ps, h2, h3⟩
  exact ⟨h1, _, ⟨ps, h2, rfl⟩, h3⟩
#print axioms values_gives
end Go.Proofs.Ytfjenooajbdcmaa.GM
namespace Go.Proofs.Ytfjenooajbdcmaa.GM
open Go Go.RowKit Go.Maps Go.Sort Go.Shelf Go.Proofs.YtfjenooajbdcmaaW.PrintWords Go.Proofs.YtfjenooajbdcmaaW.PrintLast Go.Proofs.YtfjenooajbdcmaaW.PrintMore
set_option linter.unusedVariables false
def stC (s : St) : List Value := [.int .i64 s.pl, .int .i64 s.fr, .int .i64 s.tt]
theorem stC_len (ss : List St) : (ss.flatMap stC).length = ss.length * 3 := by
  induction ss with
  | nil => rfl
  | cons s ss ih => simp [List.flatMap_cons, stC, ih]; omega
def apAssign : Code := (Code.region 2 #[{ dst := some 5, op := Op.alloc 61, type := 0, pos := "iter.go:51", after := #[], guard := none }, { dst := none, op := Op.store 61 (Operand.tmp 5) (Operand.tmp 7), type := 0, pos := "iter.go:51", after := #[{ on := 0, ground := Ground.data }, { on := 0, ground := Ground.phase }], guard := none }] false)
def apBody : Code := (Code.block 1 (Code.region 3 #[{ dst := some 8, op := Op.load 69 (Operand.tmp 2), type := 69, pos := "iter.go:52", after := #[], guard := none }, { dst := some 9, op := Op.load 61 (Operand.tmp 5), type := 61, pos := "iter.go:52", after := #[], guard := none }, { dst := some 10, op := Op.buildSlice 69 1 #[(0, Operand.tmp 9)], type := 69, pos := "iter.go:52", after := #[{ on := 1, ground := Ground.data }], guard := none }, { dst := some 11, op := Op.call { callee := Callee.builtin Builtin.append, args := #[Operand.tmp 8, Operand.tmp 10], argTypes := #[69, 69] }, type := 69, pos := "iter.go:52", after := #[{ on := 0, ground := Ground.data }, { on := 2, ground := Ground.data }], guard := none }, { dst := none, op := Op.store 69 (Operand.tmp 2) (Operand.tmp 11), type := 0, pos := "iter.go:52", after := #[{ on := 3, ground := Ground.data }, { on := 3, ground := Ground.chain }, { on := 0, ground := Ground.phase }, { on := 1, ground := Ground.phase }, { on := 2, ground := Ground.phase }, { on := 3, ground := Ground.phase }], guard := none }] false))
/-- The loop's record. -/
def apRec (fn : FuncId) (sv : Value) (Bs D : Nat) (st : LoopState) (pend : Option Code) : Loop :=
  { state := st, pending := pend, fn, tmps := #[.slice none 0 0, sv, .pointer (some ⟨Bs, 0, none⟩), undef, .slice none 0 0, undef, sv, undef, undef, undef, undef, undef, undef], params := #[7], assign := apAssign, body := apBody, defers := D }
/-- Between two rounds. -/
structure ApAt (w0 : World) (fn : FuncId) (sv : Value) (Bs l D : Nat) (ss : List St) (W : World) : Prop where
  box : ∃ v, W.heap[Bs]? = some (.cells #[v] 69 (0, 0)) ∧ W.ownsRow w0.heap.size 61 3 v ss.length (ss.flatMap stC) ∧ (v = .slice none 0 0 ↔ ss = [])
  L : W.heap[l]? = some (.loop (apRec fn sv Bs D .ready none))
  K : W.heap[D]? = some (.deferred (some []))
  below : Below w0.heap.size w0 W
theorem ap_abides (w0 : World) (fn : FuncId) (sv : Value) (Bs l D B : Nat) (hB : w0.heap.size ≤ B) : AbidesFrom B (ApAt w0 fn sv Bs l D) := fun s W W' row h hg hrow => by
  have hrow' : ∀ r, row = some r → ∃ o : Obj, W.heap[r]? = some o ∧ o.isWalk = true := fun r e => (hrow r e).2
  obtain ⟨v, hv, hr, hn⟩ := h.box
  exact ⟨⟨v, (grownBy_keeps hg hrow' hv rfl).trans hv, ownsRow_abides_a hr hg hrow', hn⟩, (grownBy_keeps hg hrow' h.L rfl).trans h.L, (grownBy_keeps hg hrow' h.K rfl).trans h.K,
    h.below.grown hg h.below.size (fun k e => Nat.le_trans hB (hrow k e).1)⟩
theorem cell_three (w : World) (x : St) : ∀ j u, (stC x)[j]? = some u → (w.alloc (.cells #[.int .i64 x.pl, .int .i64 x.fr, .int .i64 x.tt] 61)).cell? ((⟨w.heap.size, 0, none⟩ : Addr).add j) = some u := by
  intro j u h
  have hn := World.alloc_heap_new w (.cells #[.int .i64 x.pl, .int .i64 x.fr, .int .i64 x.tt] 61)
  generalize w.alloc (.cells #[.int .i64 x.pl, .int .i64 x.fr, .int .i64 x.tt] 61) = W at hn ⊢
  match j, h with
  | 0, h => simp [stC] at h; subst h; simp [World.cell?, Addr.add, hn]
  | 1, h => simp [stC] at h; subst h; simp [World.cell?, Addr.add, hn]
  | 2, h => simp [stC] at h; subst h; simp [World.cell?, Addr.add, hn]
  | (k + 3), h => simp [stC] at h
theorem info61 : ∃ i0 : TypeInfo, Try.prog.info? 61 = some i0 ∧ i0.zero = some (.agg #[.int .i64 0, .int .i64 0, .int .i64 0]) ∧ i0.size = 3 ∧ i0.bytes = 24 :=
  info_parts (by kernel_rfl)
set_option maxRecDepth 100000 in
set_option maxHeartbeats 4000000 in
theorem apYield (m : Nat) (w0 : World) (fn : FuncId) (sv : Value) (Bs l D : Nat) (hBl : Bs ≠ l) (hDl : D ≠ l) (hDB : D ≠ Bs) (h0B : w0.heap.size ≤ Bs) (h0l : w0.heap.size ≤ l)
    (N : Nat) (hN : N ≤ maxLen) (hNb : N * 24 ≤ 140737488355328) (ss : List St) (x : St) (W : World) (h : ApAt w0 fn sv Bs l D ss W) (hlen : ss.length < N) :
    YieldAt Fence.wide m Try.prog l #[.agg #[.int .i64 x.pl, .int .i64 x.fr, .int .i64 x.tt]] W fun e W' => e = .returned (.bool true) ∧ ApAt w0 fn sv Bs l D (ss ++ [x]) W' ∧ KeepsWalks W W' := by
  have hne : (69 : TypeId) ≠ 61 := by decide
  obtain ⟨i0, hi, hz0, hz1, hz2⟩ := info61
  obtain ⟨v, hv, hrow, _⟩ := h.box
  refine ⟨fn, #[.slice none 0 0, sv, .pointer (some ⟨Bs, 0, none⟩), undef, .slice none 0 0, undef, sv, .agg #[.int .i64 x.pl, .int .i64 x.fr, .int .i64 x.tt], undef, undef, undef, undef, undef], apAssign, apBody, by simpa [apRec] using run_yield (P := Try.prog) (args := #[.agg #[.int .i64 x.pl, .int .i64 x.fr, .int .i64 x.tt]]) h.L rfl, roundIn_of_wpIn trivial ?_⟩
  unfold apAssign
  gi_wp2_with gi_round_op_a
  -- the loop's variable has its block
  obtain ⟨Wa, hWa⟩ : ∃ Wa, W.alloc (.cells #[.int .i64 x.pl, .int .i64 x.fr, .int .i64 x.tt] 61) = Wa := ⟨_, rfl⟩
  obtain ⟨Xb, hXb⟩ : ∃ Xb, W.heap.size = Xb := ⟨_, rfl⟩
  have hga : W.grownBy Wa none := by rw [← hWa]; exact World.grownBy_alloc _ _ _
  have ha : ApAt w0 fn sv Bs l D ss Wa := ap_abides w0 fn sv Bs l D w0.heap.size (Nat.le_refl _) ss W Wa none h hga (fun r e => by cases e)
  have hka : KeepsWalks W Wa := by rw [← hWa]; exact KeepsWalks.alloc _ _
  have hxa : Wa.heap[Xb]? = some (.cells #[.int .i64 x.pl, .int .i64 x.fr, .int .i64 x.tt] 61 (0, 0)) := by rw [← hWa, ← hXb]; exact World.alloc_heap_new _ _
  have hBX : Bs ≠ Xb := by have := (Array.getElem?_eq_some_iff.1 hv).1; omega
  have hlX : l ≠ Xb := by have := (Array.getElem?_eq_some_iff.1 h.L).1; omega
  have hDX : D ≠ Xb := by have := (Array.getElem?_eq_some_iff.1 h.K).1; omega
  have hva : Wa.heap[Bs]? = some (.cells #[v] 69 (0, 0)) := (grownBy_keeps hga (fun r e => by cases e) hv rfl).trans hv
  have hrowa : Wa.ownsRow w0.heap.size 61 3 v ss.length (ss.flatMap stC) := ownsRow_abides_a hrow hga (fun r e => by cases e)
  rw [hWa, hXb]
  clear hWa hXb hrow hv
  have hl : l < Wa.heap.size := (Array.getElem?_eq_some_iff.1 ha.L).1
  have hbr := run_beginRound (P := Try.prog) ha.L rfl
  obtain ⟨W2, hW2⟩ : ∃ W2, Wa.putObj l (.loop { apRec fn sv Bs D .ready none with state := .busy }) = W2 := ⟨_, rfl⟩
  rw [hW2] at hbr
  have hg2 : Wa.grownBy W2 (some l) := by rw [← hW2]; exact grownBy_putObj_a _ _ _
  have hk2 : KeepsWalks Wa W2 := by rw [← hW2]; exact KeepsWalks.putObj _ ha.L rfl
  have hv2 : W2.heap[Bs]? = some (.cells #[v] 69 (0, 0)) := by rw [← hW2]; exact (World.putObj_heap_other hBl).trans hva
  have hx2 : W2.heap[Xb]? = some (.cells #[.int .i64 x.pl, .int .i64 x.fr, .int .i64 x.tt] 61 (0, 0)) := by rw [← hW2]; exact (World.putObj_heap_other (Ne.symm hlX)).trans hxa
  have hK2 : W2.heap[D]? = some (.deferred (some [])) := by rw [← hW2]; exact (World.putObj_heap_other hDl).trans ha.K
  have hL2 : W2.heap[l]? = some (.loop { apRec fn sv Bs D .ready none with state := .busy }) := by rw [← hW2]; exact World.putObj_heap_same hl
  have hrow2 : W2.ownsRow w0.heap.size 61 3 v ss.length (ss.flatMap stC) := hrowa.kept hg2 (ownsRow_ne_a hrowa ha.L (fun cur e => by first | cases e | exact hne (Obj.cells.inj e).2.1))
  have hb2 : Below w0.heap.size w0 W2 := ha.below.grown hg2 ha.below.size (fun k e => by cases e; exact h0l)
  obtain ⟨hc2, hf2⟩ := cell_of_box_a hv2
  have hx20 : W2.cell? ⟨Xb, 0, none⟩ = some (.int .i64 x.pl) := by simp [World.cell?, hx2]
  have hx21 : W2.cell? ⟨Xb, 1, none⟩ = some (.int .i64 x.fr) := by simp [World.cell?, hx2]
  have hx22 : W2.cell? ⟨Xb, 2, none⟩ = some (.int .i64 x.tt) := by simp [World.cell?, hx2]
  have hBlt : Bs < W2.heap.size := (Array.getElem?_eq_some_iff.1 hv2).1
  have hl2 : l < W2.heap.size := (Array.getElem?_eq_some_iff.1 hL2).1
  have hDlt : D < W2.heap.size := (Array.getElem?_eq_some_iff.1 hK2).1
  have ne_of : ∀ {j : Nat} {o : Obj}, W2.heap[j]? = some o → (∀ cur, o ≠ .cells cur 61 (0, 0)) → some j ≠ v.ownBlock := fun hj hno => by
    rcases ownsRow_ne_a hrow2 hj hno with e | e
    · rw [e]; simp
    · exact fun e' => e e'.symm
  clear hW2
  refine ⟨W2, hbr, ?_⟩
  unfold apBody
  gi_wp2_with (first
    | (gi_at_builtin; refine wpListIn_append_own _ rfl _ _ 69 rfl w0.heap.size 61 i0 (.agg #[.int .i64 0, .int .i64 0, .int .i64 0]) 3 24 Try.underlying69 hi hz0 hz1 hz2 rfl (by decide) _ _ _ rfl (hrow2.alloc _) ⟨W2.heap.size, 0, none⟩ 1 1 (stC x) rfl rfl (cell_three _ _) (by simp [Value.oneCell', stC]) (by omega) (by omega) (by have := hb2.size; simp; omega) ?_; intro v' w3 hown' hg3 hnil3
       have hv3 : w3.heap[Bs]? = some (.cells #[v] 69 (0, 0)) := (hg3.block Bs (by simp; omega) (ne_of hv2 (fun cur e => by first | cases e | exact hne (Obj.cells.inj e).2.1))).trans ((Below.heap_alloc _ _ Bs hBlt).trans hv2)
       obtain ⟨hc3, hf3⟩ := cell_of_box_a hv3
       obtain ⟨g', cap', cur', rfl, hbase', hgb', hr1, hr2, hr3, hr4⟩ : ∃ g' cap' cur', v' = .slice (some ⟨g', 0, none⟩) (ss.length + 1) cap' ∧ w0.heap.size ≤ g' ∧ w3.heap[g']? = some (.cells cur' 61 (0, 0)) ∧ ss.length + 1 ≤ cap' ∧ cap' ≤ maxLen ∧ cur'.size = cap' * 3 ∧ cur'.toList.take ((ss.length + 1) * 3) = ss.flatMap stC ++ stC x := by
         rcases hown'.2 with ⟨_, h0⟩ | h'
         · exact absurd h0 (by omega)
         · exact h'
       go_frame)
    | gi_round_op_a)
  have hg3' : (W2.alloc (.cells #[.int .i64 x.pl, .int .i64 x.fr, .int .i64 x.tt] 61)).grownBy w3 v.ownBlock := hg3
  have hL3 : w3.heap[l]? = some (.loop { apRec fn sv Bs D .ready none with state := .busy }) := (hg3'.block l (by simp; omega) (ne_of hL2 (fun cur e => by first | cases e | exact hne (Obj.cells.inj e).2.1))).trans ((Below.heap_alloc _ _ l hl2).trans hL2)
  have hK3 : w3.heap[D]? = some (.deferred (some [])) := (hg3'.block D (by simp; omega) (ne_of hK2 (fun cur e => by first | cases e | exact hne (Obj.cells.inj e).2.1))).trans ((Below.heap_alloc _ _ D hDlt).trans hK2)
  obtain ⟨w4, hw4⟩ : ∃ w4, w3.setCell ⟨Bs, 0, none⟩ (.slice (some ⟨g', 0, none⟩) (ss.length + 1) cap') = w4 := ⟨_, rfl⟩
  rw [hw4]
  have hg4 : w3.grownBy w4 (some Bs) := by rw [← hw4]; exact grownBy_setCell0_a _ _ _
  have hv4 : w4.heap[Bs]? = some (.cells #[.slice (some ⟨g', 0, none⟩) (ss.length + 1) cap'] 69 (0, 0)) := by rw [← hw4]; exact heap_setCell_box_a _ hv3
  have hL4 : w4.heap[l]? = some (.loop { apRec fn sv Bs D .ready none with state := .busy }) := (hg4.block l (Array.getElem?_eq_some_iff.1 hL3).1 (fun e => hBl (by cases e; rfl))).trans hL3
  have hK4 : w4.heap[D]? = some (.deferred (some [])) := (hg4.block D (Array.getElem?_eq_some_iff.1 hK3).1 (fun e => hDB (by cases e; rfl))).trans hK3
  have hrow4 := hown'.kept hg4 (ownsRow_ne_a hown' hv3 (fun cur e => by first | cases e | exact hne (Obj.cells.inj e).2.1))
  have hl4 : l < w4.heap.size := (Array.getElem?_eq_some_iff.1 hL4).1
  have hb3 : Below w0.heap.size w0 w3 := (hb2.alloc hb2.size _).grown hg3' (by have := hb2.size; simp; omega) (fun k e => (hrow2.lt k e).1)
  have hb4 : Below w0.heap.size w0 w4 := hb3.grown hg4 hb3.size (fun k e => by cases e; exact h0B)
  have hk4 : KeepsWalks W w4 := ((((hka.trans hk2).trans (KeepsWalks.alloc _ _)).trans (KeepsWalks.of_grownBy hg3' (ownsRow_not_walk_a (hrow2.alloc _))))).trans (by rw [← hw4]; exact KeepsWalks.setCell _ _ _)
  clear hw4
  refine ⟨_, _, run_endRound none hL4, rfl, ⟨⟨_, (World.putObj_heap_other hBl).trans hv4, ?_, by simp⟩, World.putObj_heap_same hl4, (World.putObj_heap_other hDl).trans hK4, hb4.grown (grownBy_putObj_a _ _ _) hb4.size (fun k e => by cases e; exact h0l)⟩, hk4.trans (KeepsWalks.putObj _ hL4 rfl)⟩
  have := hrow4.kept (grownBy_putObj_a w4 l (.loop { { apRec fn sv Bs D .ready none with state := .busy } with state := if (none : Option Code).isNone then .ready else .done, pending := none })) (ownsRow_ne_a hrow4 hL4 (fun cur e => by first | cases e | exact hne (Obj.cells.inj e).2.1))
  simpa [List.flatMap_append, List.flatMap_cons] using this
set_option maxRecDepth 100000 in
set_option maxHeartbeats 4000000 in
theorem appendSeq_in (n : Nat) (hn : 2 ≤ n) (g : Nat) (lb : Array Value) (eg : ∀ args w, (callFunc g args).run Try.prog w = .ok (.enter g args) w)
    (S : List St → Prop) (N : Nat) (hN : N ≤ maxLen) (hNb : N * 24 ≤ 140737488355328) (w : World) (hseq : SeqGives Fence.wide (n - 1) Try.prog g lb (fun s : St => Value.agg #[.int .i64 s.pl, .int .i64 s.fr, .int .i64 s.tt]) S N w) :
    CallsIn Fence.wide n Try.prog 62 #[.slice none 0 0, .func (.func g) #[] lb] w fun e w' => ∃ (v : Value) (ss : List St), e = .returned v ∧ S ss ∧ w'.ownsRow w.heap.size 61 3 v ss.length (ss.flatMap stC) ∧ (v = .slice none 0 0 ↔ ss = []) ∧ Below w.heap.size w w' := by
  have h1 : 1 ≤ n := by omega
  have hne : (69 : TypeId) ≠ 61 := by decide
  refine callsIn_of_wp_marks Try.func62 rfl trivial ?_ rfl
  simp only [Try.ntmps62, List.size_toArray, List.length_cons, List.length_nil, Nat.reduceAdd, Nat.reduceSub, Array.replicate_succ, Array.replicate_zero, List.push_toArray, List.append_toArray, List.nil_append, List.cons_append]
  gi_wp2
  refine wpIn_rangeFunc ?_
  intro fn hfn
  rw [show Fence.wide.round = none from rfl]
  obtain ⟨W0, hW0⟩ : ∃ W0, w.alloc (.cells #[.slice none 0 0] 69) = W0 := ⟨_, rfl⟩
  have hs0 : W0.heap.size = w.heap.size + 1 := by rw [← hW0]; simp
  have hv0 : W0.heap[w.heap.size]? = some (.cells #[.slice none 0 0] 69 (0, 0)) := by rw [← hW0]; exact World.alloc_heap_new w _
  have hb0 : Below w.heap.size w W0 := by rw [← hW0]; exact (Below.refl _ w).alloc (Nat.le_refl _) _
  rw [hW0]
  obtain ⟨W1, hW1⟩ : ∃ W1, (W0.alloc (.deferred (some []))).alloc (.loop (apRec fn (.func (.func g) #[] lb) w.heap.size W0.heap.size .ready none)) = W1 := ⟨_, rfl⟩
  have hold : ∀ k, k < W0.heap.size → W1.heap[k]? = W0.heap[k]? := fun k hk => by
    rw [← hW1]; exact (Below.heap_alloc _ _ k (by simp; omega)).trans (Below.heap_alloc _ _ k hk)
  have hb1 : Below w.heap.size w W1 := by rw [← hW1]; exact (hb0.alloc hb0.size _).alloc (by have := hb0.size; simp; omega) _
  have hs1 : W1.heap.size = W0.heap.size + 2 := by rw [← hW1]; simp
  have hM : ApAt w fn (.func (.func g) #[] lb) w.heap.size (W0.heap.size + 1) W0.heap.size [] W1 :=
    ⟨⟨_, (hold w.heap.size (by omega)).trans hv0, ⟨rfl, .inl ⟨rfl, rfl⟩⟩, by simp⟩,
     by rw [← hW1]; have := World.alloc_heap_new (W0.alloc (.deferred (some []))) (.loop (apRec fn (.func (.func g) #[] lb) w.heap.size W0.heap.size .ready none)); rwa [World.size_alloc] at this,
     by rw [← hW1]; exact (Below.heap_alloc _ _ _ (by simp)).trans (World.alloc_heap_new W0 _), hb1⟩
  refine ⟨W0.heap.size + 1, [{ target := .collected W0.heap.size, args := #[] }], W1, { target := .fn (.func g) lb, args := #[.func (.yield (W0.heap.size + 1)) #[] #[]] }, W1, g,
    #[.func (.yield (W0.heap.size + 1)) #[] #[]] ++ lb, W1, ?_, ?_, ?_, ?_, fun _ => h1, ?_⟩
  · rw [← hW1]; exact run_enterLoop_outer _ _ _ _ _
  · simp [resolve, go_sem]
  · intro f' hf'; trivial
  · simp [invoke, go_sem, eg]
  · refine (hseq (W0.heap.size + 1) (ApAt w fn (.func (.func g) #[] lb) w.heap.size (W0.heap.size + 1) W0.heap.size) W1 hb1 (ap_abides _ _ _ _ _ _ _ hb1.size)
      (fun pre x W hJ hl => apYield (n - 1 - 1) w fn _ w.heap.size (W0.heap.size + 1) W0.heap.size (by omega) (by omega) (by omega) (Nat.le_refl _) (by omega) N hN hNb pre x W hJ hl) hM).mono ?_
    rintro e W2 ⟨⟨v0, rfl⟩, ss, hS, h2⟩
    obtain ⟨v, hv, hrow, hnil⟩ := h2.box
    have hend := run_endLoop (P := Try.prog) h2.L (by simp [apRec])
    obtain ⟨W3, hW3⟩ : ∃ W3, W2.putObj (W0.heap.size + 1) (.loop { apRec fn (.func (.func g) #[] lb) w.heap.size W0.heap.size .ready none with state := .exhausted }) = W3 := ⟨_, rfl⟩
    rw [hW3] at hend
    have hg3 : W2.grownBy W3 (some (W0.heap.size + 1)) := by rw [← hW3]; exact grownBy_putObj_a _ _ _
    have hv3 : W3.heap[w.heap.size]? = some (.cells #[v] 69 (0, 0)) := by rw [← hW3]; exact (World.putObj_heap_other (by omega)).trans hv
    have hK3 : W3.heap[W0.heap.size]? = some (.deferred (some [])) := by rw [← hW3]; exact (World.putObj_heap_other (by omega)).trans h2.K
    have hrow3 := hrow.kept hg3 (ownsRow_ne_a hrow h2.L (fun cur e => by first | cases e | exact hne (Obj.cells.inj e).2.1))
    have hb3 : Below w.heap.size w W3 := h2.below.grown hg3 h2.below.size (fun k e => by cases e; omega)
    obtain ⟨hc3, hf3⟩ := cell_of_box_a hv3
    clear hW3
    refine ⟨none, W3, hend, ?_⟩
    gi_wp2
    rw [← hs0]
    refine ⟨by simp, .inl ⟨_, _, rfl, run_takeDeferred hK3, ?_⟩⟩
    exact ⟨_, results_tmp rfl _ _ _, v, ss, rfl, hS, hrow3.kept (grownBy_putObj_a _ _ _) (ownsRow_ne_a hrow3 hK3 (fun cur e => by first | cases e | exact hne (Obj.cells.inj e).2.1)), hnil, hb3.grown (grownBy_putObj_a _ _ _) hb3.size (fun k e => by cases e; omega)⟩
set_option maxHeartbeats 1000000 in
/-- slices.Collect of whatever iterator. -/
theorem collect_in (n : Nat) (hn : 3 ≤ n) (g : Nat) (lb : Array Value) (eg : ∀ args w, (callFunc g args).run Try.prog w = .ok (.enter g args) w)
    (S : List St → Prop) (N : Nat) (hN : N ≤ maxLen) (hNb : N * 24 ≤ 140737488355328) (w : World) (hseq : SeqGives Fence.wide (n - 1 - 1) Try.prog g lb (fun s : St => Value.agg #[.int .i64 s.pl, .int .i64 s.fr, .int .i64 s.tt]) S N w) :
    CallsIn Fence.wide n Try.prog 48 #[.func (.func g) #[] lb] w fun e w' => ∃ (v : Value) (ss : List St), e = .returned v ∧ S ss ∧ w'.ownsRow w.heap.size 61 3 v ss.length (ss.flatMap stC) ∧ (v = .slice none 0 0 ↔ ss = []) ∧ Below w.heap.size w w' := by
  have h62 : Fence.wide.fn 62 := trivial
  have h1 : 1 ≤ n := by omega
  refine callsIn_of_wp Try.func48 rfl trivial ?_ rfl
  simp only [Try.ntmps48, List.size_toArray, List.length_cons, List.length_nil, Nat.reduceAdd, Nat.reduceSub, Array.replicate_succ, Array.replicate_zero, List.push_toArray, List.append_toArray, List.nil_append, List.cons_append]
  gi_wp2_with (gi_at_call 62; refine (appendSeq_in (n - 1) (by omega) g lb eg S N hN hNb _ hseq).mono ?_; rintro e w' ⟨v, ss, rfl, hS, hrow, hnil, hb⟩)
  go_ret
  exact ⟨v, ss, rfl, hS, hrow, hnil, hb⟩
/-- maps.Values and slices.Collect of it, as calls. -/
theorem values_calls (mb : Option Nat) (w : World) : Calls Try.prog 49 #[.map mb] w fun e w' => e = .returned (.func (.func 63) #[] #[.pointer (some ⟨w.heap.size, 0, none⟩)]) ∧ w' = w.alloc (.cells #[.map mb] 56) :=
  callsIn_wide.1 (values_in 0 mb w)
theorem intKeys_len (D : DataW Unit) : (intKeys D).length ≤ Maps.size D := by
  cases D <;> simp [intKeys, Maps.size]
theorem HM.collect {w : World} {gm n : Nat} {M : Int → Option St} (h : HM w gm n M) {Bm : Nat} (hn : n ≤ 5864062014805) (hBm : Bm < w.heap.size) (hm : w.cell? ⟨Bm, 0, none⟩ = some (.map (some gm))) :
    Calls Try.prog 48 #[.func (.func 63) #[] #[.pointer (some ⟨Bm, 0, none⟩)]] w fun e w' => ∃ (v : Value) (ss : List St), e = .returned v ∧ (∀ s, s ∈ ss ↔ ∃ x, M x = some s) ∧ w'.ownsRow w.heap.size 61 3 v ss.length (ss.flatMap stC) ∧ (v = .slice none 0 0 ↔ ss = []) ∧ ss.length ≤ n ∧ Below w.heap.size w w' := by
  obtain ⟨D, h1, h2⟩ := h.out
  have hs := h1.size_le
  have hml : (5864062014805 : Nat) ≤ maxLen := by decide
  refine (callsIn_wide.1 (collect_in 9 (by omega) 63 _ (fun args w => Try.call63 args w) _ (Maps.size D) (by omega) (by omega) w (values_gives 7 (by omega) Bm gm n D w hBm hm h1))).mono ?_
  rintro e w' ⟨v, ss, rfl, ⟨ps, hA, rfl⟩, hrow, hnil, hb⟩
  refine ⟨v, _, rfl, fun s => ?_, hrow, hnil, ?_, hb⟩
  · have look : ∀ p ∈ ps, M p.1 = some p.2 := fun p hp => by
      have e1 := (hA.2.1 p.1).1 (List.mem_map_of_mem hp)
      rw [h2.1] at e1
      have e2 := hA.2.2 p hp (stE ⟨0, 0, 0⟩)
      rw [h2.2] at e2
      cases hM : M p.1 with
      | none => rw [hM] at e1; cases e1
      | some t =>
        rw [hM] at e2
        rw [stE_inj e2]
    constructor
    · intro hs
      obtain ⟨p, hp, rfl⟩ := List.mem_map.1 hs
      exact ⟨p.1, look p hp⟩
    · rintro ⟨x, hx⟩
      have e1 : x ∈ ps.map (·.1) := (hA.2.1 x).2 (by rw [h2.1, hx]; rfl)
      obtain ⟨p, hp, rfl⟩ := List.mem_map.1 e1
      have := look p hp
      rw [hx] at this
      injection this with this
      subst this
      exact List.mem_map_of_mem hp
  · have := hA.1.length_eq
    have h3 := intKeys_len D
    simp at this ⊢
    omega
#print axioms HM.collect
end Go.Proofs.Ytfjenooajbdcmaa.GM
namespace Go.Proofs.Ytfjenooajbdcmaa.K
open Go Go.RowKit Go.Maps Go.Sort Go.Proofs.YtfjenooajbdcmaaW.PrintWords Go.Proofs.YtfjenooajbdcmaaW.PrintLast Go.Proofs.YtfjenooajbdcmaaW.PrintMore Go.Proofs.Ytfjenooajbdcmaa.GM Go.Proofs.Ytfjenooajbdcmaa.GW
set_option linter.unusedVariables false
def ubS (fr tt : Int) (s : St) : Bool := decide (s.fr ≤ fr) && decide (s.tt > tt)
def ubM (l : List S34) (place fr tt : Int) : Bool := (sids l).any fun z => (ownP l place z).any (ubS fr tt)
theorem ubM_true {l : List S34} {place fr tt z : Int} {s : St} (h : ownP l place z = some s) (hs : ubS fr tt s = true) : ubM l place fr tt = true := by
  refine List.any_eq_true.2 ⟨z, fol_mem l z ?_, by rw [h]; exact hs⟩
  have : (ownP l place z).isSome = true := by rw [h]; rfl
  exact filter_some this
theorem ubM_false {l : List S34} {place fr tt : Int} (h : ∀ z s, ownP l place z = some s → ubS fr tt s = false) : ubM l place fr tt = false := by
  refine List.any_eq_false.2 (fun z _ => ?_)
  cases hz : ownP l place z with
  | none => simp
  | some s =>
    have := h z s hz
    simp [this]
theorem ub_step {M : Int → Option St} {left : Lit → Bool} {p : St → Bool} (h : ∀ x s, M x = some s → left (.int .i64 x) = false → p s = false) {x0 : Int} {s0 : St} (hM : M x0 = some s0) (hp : p s0 = false) :
    ∀ x s, M x = some s → (left (.int .i64 x) && !(Lit.int .i64 x).sameKey (.int .i64 x0)) = false → p s = false := by
  intro x s hx hl
  rw [same_int] at hl
  by_cases e : x = x0
  · subst e
    rw [hM] at hx
    injection hx with hx
    rw [← hx]
    exact hp
  · rw [decide_eq_false e] at hl
    exact h x s hx (by simpa using hl)
def seal_Unbroken.f (l : List S34) (place fr tt : Int) : Option (Bool × Int) :=
  if (l.all wf34) = true then (if askE l place [fr, tt] = 0 then (if fr > tt then some (false, 5) else some (ubM l place fr tt, 0)) else some (false, askE l place [fr, tt])) else none
set_option maxHeartbeats 2000000 in
set_option maxRecDepth 100000 in
theorem seal_Unbroken.calls (A0 : Option Addr) (c0 : Nat) (l0 : List S34) (a1 a2 a3 : Int) (r1 : Bool) (r2 : Int) (w : World) (hr0 : Kd.C k34 w A0 l0.length l0) (hc0 : l0.length ≤ c0) (h : seal_Unbroken.f l0 a1 a2 a3 = some (r1, r2)) :
    Calls Try.prog 16 #[.slice A0 l0.length c0, .int .i64 a1, .int .i64 a2, .int .i64 a3] w fun e w' => e = .returned (.tuple #[.bool r1, .int .i64 r2]) ∧ Below w.heap.size w w' := by
  unfold seal_Unbroken.f at h
  have hu61 := Try.underlying61
  by_cases hwf : (l0.all wf34) = true
  · rw [if_pos hwf] at h
    have HR0 := Aside0.mk hr0
    have HC0 := Aside0.mk hc0
    have HW := Aside0.mk (all_wf hwf)
    have HB := Aside0.mk (Below.refl w.heap.size w)
    clear hr0 hc0 hwf
    by_cases ha : askE l0 a1 [a2, a3] = 0
    · rw [if_pos ha] at h
      have HA := Aside0.mk ha
      clear ha
      by_cases hft : a2 > a3
      · rw [if_pos hft] at h
        have cf : decide (a2 > a3) = true := decide_eq_true hft
        simp only [Option.some.injEq, Prod.mk.injEq] at h
        obtain ⟨rfl, rfl⟩ := h
        clear hft
        go_enter Try.func16, Try.ntmps16
        go_wp2_with (first
          | ((with_reducible show Calls Try.prog 37 _ _ _); refine (asked_calls A0 c0 l0 a1 _ _ [a2, a3] _ (GS.rC (Kd.C_below HR0.out HB.out)) HC0.out HW.out (C_new _ [a2, a3] (by simp) (by unfold maxLen; simp))).mono ?_; rintro e w3 ⟨hae, hb⟩; obtain ⟨gm, hge, rfl, hm⟩ := hae.good HA.out; have GM_ : Aside0 (w.heap.size ≤ gm) := ⟨Nat.le_trans (lqZ (GS.lB HB.out)) hge⟩; have n0_ := Aside0.mk (lqT (GS.lB HB.out) hb); have HM_ := Aside0.mk hm; clear HB hae hb hge hm; have HB := n0_; clear n0_))
        go_ret2
        exact ⟨rfl, GS.lB HB.out⟩
      · rw [if_neg hft] at h
        have cf : decide (a2 > a3) = false := decide_eq_false hft
        simp only [Option.some.injEq, Prod.mk.injEq] at h
        obtain ⟨rfl, rfl⟩ := h
        clear hft
        go_enter Try.func16, Try.ntmps16
        go_wp2_with (first
          | ((with_reducible show Calls Try.prog 37 _ _ _); refine (asked_calls A0 c0 l0 a1 _ _ [a2, a3] _ (GS.rC (Kd.C_below HR0.out HB.out)) HC0.out HW.out (C_new _ [a2, a3] (by simp) (by unfold maxLen; simp))).mono ?_; rintro e w3 ⟨hae, hb⟩; obtain ⟨gm, hge, rfl, hm⟩ := hae.good HA.out; have GM_ : Aside0 (w.heap.size ≤ gm) := ⟨Nat.le_trans (lqZ (GS.lB HB.out)) hge⟩; have n0_ := Aside0.mk (lqT (GS.lB HB.out) hb); have HM_ := Aside0.mk hm; clear HB hae hb hge hm; have HB := n0_; clear n0_)
          | (at_range; refine wp_range (gm := gm) (n := l0.length) (M := ownP l0 a1) _ rfl rfl rfl HM_.out ?_; intro w4 left0 cnt0 hr0 hl0 hg0 hs0))
        have HZ : Aside0 (w.heap.size ≤ w3.heap.size) := ⟨HB.out.size⟩
        have HB4 := Aside0.mk (below_past HB.out (hg0.but (some w3.heap.size)) HZ.out)
        go_frame
        go_loopg [] cnt0 (fun kq w' => ∃ left cnt, Aside0 (cnt ≤ kq) ∧ Aside0 (HR w' gm w3.heap.size l0.length (ownP l0 a1) left cnt) ∧ Aside0 (∀ x s, ownP l0 a1 x = some s → left (.int .i64 x) = false → ubS a2 a3 s = false) ∧ Aside0 (Below w.heap.size w w'))
        case atStart => exact ⟨left0, cnt0, ⟨Nat.le_refl _⟩, ⟨hr0⟩, ⟨fun x s h1 h2 => by rw [hl0 x, h1] at h2; cases h2⟩, HB4⟩
        case round =>
          clear HB HB4 HM_
          obtain ⟨left, cnt, HK, HR_, HP, HB⟩ := hrel
          go_wp2_with (first | (at_next; refine wp_next (r := w3.heap.size) (gm := gm) (n := l0.length) _ rfl rfl rfl HR_.out ?_ ?_))
          · intro hle
            have HE : Aside0 (ubM l0 a1 a2 a3 = false) := ⟨ubM_false (fun z s hz => HP.out z s hz (hle _))⟩
            go_wp2
            go_ret2
            exact ⟨by rw [HE.out]; rfl, GS.lB HB.out⟩
          · intro x s w5 cnt5 hwx hlx hMx hr5 hlt5 hg5 hs5 hen
            have HB5 := Aside0.mk (below_past HB.out hg5 HZ.out)
            cases hu : ubS a2 a3 s with
            | true =>
              have HE : Aside0 (ubM l0 a1 a2 a3 = true) := ⟨ubM_true hMx hu⟩
              unfold ubS at hu
              simp only [Bool.and_eq_true] at hu
              obtain ⟨hu1, hu2⟩ := hu
              go_wp2
              go_ret2
              exact ⟨by rw [HE.out]; rfl, GS.lB HB5.out⟩
            | false =>
              have HU := Aside0.mk hu
              unfold ubS at hu
              cases gk with
              | zero => exact absurd HK.out (by omega)
              | succ gk =>
                cases hu1 : decide (s.fr ≤ a2) with
                | true =>
                  rw [hu1, Bool.true_and] at hu
                  go_wp2
                  go_roundg gk
                  case measure => omega
                  case rel => exact ⟨_, cnt5, ⟨by have := HK.out; omega⟩, ⟨hr5.kept (World.grownBy_alloc _ _ none) (by simp) (by simp)⟩, ⟨ub_step HP.out hMx HU.out⟩, ⟨GS.lB HB5.out⟩⟩
                | false =>
                  clear hu
                  go_wp2
                  go_roundg gk
                  case measure => omega
                  case rel => exact ⟨_, cnt5, ⟨by have := HK.out; omega⟩, ⟨hr5.kept (World.grownBy_alloc _ _ none) (by simp) (by simp)⟩, ⟨ub_step HP.out hMx HU.out⟩, ⟨GS.lB HB5.out⟩⟩
    · rw [if_neg ha] at h
      simp only [Option.some.injEq, Prod.mk.injEq] at h
      obtain ⟨rfl, rfl⟩ := h
      have HA := Aside0.mk ha
      have cn : (askE l0 a1 [a2, a3] != 0) = true := bne_iff_ne.mpr ha
      clear ha
      go_enter Try.func16, Try.ntmps16
      go_wp2_with (first
        | ((with_reducible show Calls Try.prog 37 _ _ _); refine (asked_calls A0 c0 l0 a1 _ _ [a2, a3] _ (GS.rC (Kd.C_below HR0.out HB.out)) HC0.out HW.out (C_new _ [a2, a3] (by simp) (by unfold maxLen; simp))).mono ?_; rintro e w3 ⟨hae, hb⟩; obtain rfl := hae.bad HA.out; have n0_ := Aside0.mk (lqT (GS.lB HB.out) hb); clear HB hae hb; have HB := n0_; clear n0_))
      go_ret2
      exact ⟨rfl, GS.lB HB.out⟩
  · rw [if_neg hwf] at h
    cases h
end Go.Proofs.Ytfjenooajbdcmaa.K
namespace Go.Proofs.Ytfjenooajbdcmaa.K
open Go Go.RowKit Go.Maps Go.Sort Go.Proofs.YtfjenooajbdcmaaW.PrintWords Go.Proofs.YtfjenooajbdcmaaW.PrintLast Go.Proofs.YtfjenooajbdcmaaW.PrintMore Go.Proofs.Ytfjenooajbdcmaa.GM Go.Proofs.Ytfjenooajbdcmaa.GW
set_option linter.unusedVariables false
def k61 : Kd St := Kd.iso (Kd.pair (Kd.int .i64) (Kd.pair (Kd.int .i64) (Kd.int .i64))) (fun x : St => (x.pl, x.fr, x.tt))
theorem k61_open {w : World} {x : St} {cs : List Value} (h : k61.K w x cs) : cs = [.int .i64 x.pl, .int .i64 x.fr, .int .i64 x.tt] := by
  obtain ⟨_, _, rfl, rfl, ⟨_, _, rfl, rfl, rfl⟩⟩ := h
  exact rfl
theorem k61_mkM (w : World) (base : Nat) (ok : Nat → Prop) (x : St) : k61.M w base ok x [.int .i64 x.pl, .int .i64 x.fr, .int .i64 x.tt] := ⟨[.int .i64 x.pl], [.int .i64 x.fr, .int .i64 x.tt], rfl, rfl, ⟨[.int .i64 x.fr], [.int .i64 x.tt], rfl, rfl, rfl⟩⟩
theorem at_T61 {w : World} {A : Option Addr} {n : Nat} {xs : List St} (h : Kd.C k61 w A n xs) (i : Nat) (h1 : i < xs.length) : ∃ ad , A = some ad ∧ w.cell? (ad.add (i * 3)) = some (.int .i64 xs[i].pl) ∧ w.cell? ⟨(ad.add (i * 3)).block, (ad.add (i * 3)).off + 1, none⟩ = some (.int .i64 xs[i].fr) ∧ w.cell? ⟨(ad.add (i * 3)).block, (ad.add (i * 3)).off + 2, none⟩ = some (.int .i64 xs[i].tt) := by
  obtain ⟨ad, c, e, _, hK, hc0⟩ := Kd.C_get h ⟨0, 0, 0⟩ (i : Int) (by omega) (by have := h.1; omega)
  have hc : ∀ j u, c[j]? = some u → w.cell? (ad.add (i * 3 + j)) = some u := hc0
  obtain rfl := k61_open hK
  have e1 : (xs.getD ((i : Int)).toNat ⟨0, 0, 0⟩) = xs[i] := by simp [h1]
  rw [e1] at hc
  exact ⟨ad, e, hc 0 _ rfl, by rw [← add_field _ _ 1 (by omega)]; exact hc 1 _ rfl, by rw [← add_field _ _ 2 (by omega)]; exact hc 2 _ rfl⟩
theorem take_sts : ∀ (ss : List St) (j : Nat) (p : St), ss[j]? = some p → ((ss.flatMap stC).drop (j * 3)).take 3 = stC p
  | s :: ss, 0, p, h => by simp at h; subst h; simp [List.flatMap_cons, stC]
  | s :: ss, j + 1, p, h => by
    have := take_sts ss j p (by simpa using h)
    rw [List.flatMap_cons, show (j + 1) * 3 = 3 + j * 3 by omega, ← List.drop_drop]
    simpa [stC] using this
theorem R_sts {w : World} {base : Nat} {v : Value} {ss : List St} (ho : w.ownsRow base 61 3 v ss.length (ss.flatMap stC)) : k61.R 61 w base (fun _ => True) v ss := by
  refine ⟨fun _ _ => trivial, ss.flatMap stC, ho, ?_, fun j p hj => ?_⟩
  · rw [stC_len]
    rfl
  · have := take_sts ss j p hj
    show k61.M _ _ _ p (((ss.flatMap stC).drop (j * 3)).take 3)
    rw [this]
    exact k61_mkM _ _ _ _
/-- The number of the k days from d on that p tells nothing of. -/
def opn (p : Int → Bool) : Int → Nat → Int
  | _, 0 => 0
  | d, k + 1 => (if p d = true then 0 else 1) + opn p (d + 1) k
theorem opn_le (p : Int → Bool) : ∀ (k : Nat) (d : Int), 0 ≤ opn p d k ∧ opn p d k ≤ k
  | 0, d => by simp [opn]
  | k + 1, d => by
    have := opn_le p k (d + 1)
    unfold opn
    split <;> omega
def seal_Open.f (l : List S34) (place fr tt : Int) : Option (Int × Int) :=
  if (l.all wf34) = true then (if askE l place [fr, tt] = 0 then (if fr > tt then some (0, 5) else some (opn (fun d => ubM l place d d) fr (tt + 1 - fr).toNat, 0)) else some (0, askE l place [fr, tt])) else none
theorem any_cov {l : List S34} {place d : Int} {ss : List St} (h : ∀ s, s ∈ ss ↔ ∃ x, ownP l place x = some s) : ss.any (ubS d d) = ubM l place d d := by
  cases hc : ss.any (ubS d d) with
  | true =>
    obtain ⟨s, hs, hu⟩ := List.any_eq_true.1 hc
    obtain ⟨x, hx⟩ := (h s).1 hs
    exact (ubM_true hx hu).symm
  | false =>
    refine (ubM_false fun z s hz => ?_).symm
    have := List.any_eq_false.1 hc s ((h s).2 ⟨z, hz⟩)
    simpa using this
theorem ask_days {l : List S34} {place fr tt : Int} (h : askE l place [fr, tt] = 0) : 0 ≤ fr ∧ fr ≤ 100000 ∧ 0 ≤ tt ∧ tt ≤ 100000 := by
  unfold askE at h
  by_cases c : (fol l).2.2 ≠ 0
  · rw [if_pos c] at h
    cases h
  · rw [if_neg c] at h
    by_cases c2 : (decide (place < 1) || (decide (place > 1073741824) || [fr, tt].any badD)) = true
    · rw [if_pos c2] at h
      cases h
    · simp [badD] at c2
      omega
theorem any_take {ss : List St} {p : St → Bool} {i : Nat} (hi : i < ss.length) : (ss.take (i + 1)).any p = ((ss.take i).any p || p ss[i]) := by
  rw [← List.take_append_getElem hi, List.any_append]
  simp
set_option maxHeartbeats 4000000 in
set_option maxRecDepth 100000 in
theorem seal_Open.calls (A0 : Option Addr) (c0 : Nat) (l0 : List S34) (a1 a2 a3 : Int) (r1 r2 : Int) (w : World) (hr0 : Kd.C k34 w A0 l0.length l0) (hc0 : l0.length ≤ c0) (h : seal_Open.f l0 a1 a2 a3 = some (r1, r2)) :
    Calls Try.prog 18 #[.slice A0 l0.length c0, .int .i64 a1, .int .i64 a2, .int .i64 a3] w fun e w' => e = .returned (.tuple #[.int .i64 r1, .int .i64 r2]) ∧ Below w.heap.size w w' := by
  unfold seal_Open.f at h
  have hu61 := Try.underlying61
  have hu69 := Try.underlying69
  by_cases hwf : (l0.all wf34) = true
  · rw [if_pos hwf] at h
    have HR0 := Aside0.mk hr0
    have HC0 := Aside0.mk hc0
    have HW := Aside0.mk (all_wf hwf)
    have HB := Aside0.mk (Below.refl w.heap.size w)
    clear hr0 hc0 hwf
    by_cases ha : askE l0 a1 [a2, a3] = 0
    · rw [if_pos ha] at h
      have HA := Aside0.mk ha
      have HN := Aside0.mk (ask_len ha)
      have HD := Aside0.mk (ask_days ha)
      clear ha
      by_cases hft : a2 > a3
      · rw [if_pos hft] at h
        have cf : decide (a2 > a3) = true := decide_eq_true hft
        simp only [Option.some.injEq, Prod.mk.injEq] at h
        obtain ⟨rfl, rfl⟩ := h
        clear hft
        go_enter Try.func18, Try.ntmps18
        go_wp2_with (first
          | ((with_reducible show Calls Try.prog 37 _ _ _); refine (asked_calls A0 c0 l0 a1 _ _ [a2, a3] _ (GS.rC (Kd.C_below HR0.out HB.out)) HC0.out HW.out (C_new _ [a2, a3] (by simp) (by unfold maxLen; simp))).mono ?_; rintro e w3 ⟨hae, hb⟩; obtain ⟨gm, hge, rfl, hm⟩ := hae.good HA.out; have GM_ : Aside0 (w.heap.size ≤ gm) := ⟨Nat.le_trans (lqZ (GS.lB HB.out)) hge⟩; have n0_ := Aside0.mk (lqT (GS.lB HB.out) hb); have HM_ := Aside0.mk hm; clear HB hae hb hge hm; have HB := n0_; clear n0_))
        go_ret2
        exact ⟨rfl, GS.lB HB.out⟩
      · rw [if_neg hft] at h
        have cf : decide (a2 > a3) = false := decide_eq_false hft
        simp only [Option.some.injEq, Prod.mk.injEq] at h
        obtain ⟨rfl, rfl⟩ := h
        have HFT := Aside0.mk hft
        clear hft
        go_enter Try.func18, Try.ntmps18
        go_wp2_with (first
          | ((with_reducible show Calls Try.prog 37 _ _ _); refine (asked_calls A0 c0 l0 a1 _ _ [a2, a3] _ (GS.rC (Kd.C_below HR0.out HB.out)) HC0.out HW.out (C_new _ [a2, a3] (by simp) (by unfold maxLen; simp))).mono ?_; rintro e w3 ⟨hae, hb⟩; obtain ⟨gm, hge, rfl, hm⟩ := hae.good HA.out; have GM_ : Aside0 (w.heap.size ≤ gm) := ⟨Nat.le_trans (lqZ (GS.lB HB.out)) hge⟩; have n0_ := Aside0.mk (lqT (GS.lB HB.out) hb); have HM_ := Aside0.mk hm; clear HB hae hb hge hm; have HB := n0_; clear n0_)
          | ((with_reducible show Calls Try.prog 49 _ _ _); refine (values_calls _ _).mono ?_; rintro e w4 ⟨rfl, hw4⟩; have HM4 : Aside0 (HM w4 gm l0.length (ownP l0 a1)) := ⟨by rw [hw4]; exact HM_.out.kept (World.grownBy_alloc _ _ none) (by simp)⟩; have HC4 : Aside0 (w4.cell? ⟨w3.heap.size, 0, none⟩ = some (.map (some gm))) := ⟨by rw [hw4]; exact (cell_of_box_a (World.alloc_heap_new w3 _)).1⟩; have HL4 : Aside0 (w3.heap.size < w4.heap.size) := ⟨by rw [hw4]; simp⟩; have n0_ : Aside0 (Below w.heap.size w w4) := ⟨by rw [hw4]; exact GS.lB HB.out⟩; clear HB HM_ hw4; have HB := n0_; clear n0_)
          | ((with_reducible show Calls Try.prog 48 _ _ _); refine (HM4.out.collect (by have := HN.out; omega) HL4.out HC4.out).mono ?_; rintro e w5 ⟨v5, ss, rfl, hmem, hrow, hnil, hlen, hb⟩; have HCV : Aside0 (∀ d, ss.any (ubS d d) = ubM l0 a1 d d) := ⟨fun d => any_cov hmem⟩; have HLN := Aside0.mk hlen; have HO := Aside0.mk (R_sts hrow); have n0_ := Aside0.mk (lqT (HB.out) hb); clear HB HM4 HC4 HL4 hmem hlen hb hrow hnil; have HB := n0_; clear n0_; obtain ⟨Ao, co, eo⟩ := Kd.R_slice HO.out; subst eo; have HCS := Aside0.mk (Kd.R_reads' HO.out).2.2; clear HO))
        clear HC0 HR0 HW
        go_loopg [12, 14] (a3 + 1 - a2).toNat (fun kq v12 v14 w' => ∃ n d : Int, v12 = .int .i64 n ∧ v14 = .int .i64 d ∧ Aside0 ((d + kq : Int) = a3 + 1) ∧ Aside0 (a2 ≤ d) ∧ Aside0 (0 ≤ n ∧ n ≤ d - a2) ∧ Aside0 (opn (fun d => ubM l0 a1 d d) a2 (a3 + 1 - a2).toNat = n + opn (fun d => ubM l0 a1 d d) d kq) ∧ Aside0 (Kd.C k61 w' Ao ss.length ss) ∧ Aside0 (Below w.heap.size w w'))
        case atStart => exact ⟨0, a2, rfl, rfl, ⟨by have := HFT.out; omega⟩, ⟨Int.le_refl _⟩, ⟨by omega⟩, ⟨by simp⟩, HCS, HB⟩
        case round =>
          clear HCS HB
          obtain ⟨n, d, rfl, rfl, HK, HAD, HNN, HT, HCS, HB⟩ := hrel
          cases gk with
          | zero =>
            have cz : decide (d ≤ a3) = false := decide_eq_false (by have := HK.out; omega)
            go_wp2
            go_ret2
            exact ⟨by rw [HT.out]; simp [opn], GS.lB HB.out⟩
          | succ ko =>
            have cz : decide (d ≤ a3) = true := decide_eq_true (by have := HK.out; omega)
            go_wp2
            go_loopg [15, 46] ss.length (fun kq v15 v46 w' => ∃ i : Nat, v46 = .int .i64 (i : Int) ∧ Aside0 (i + kq = ss.length) ∧ v15 = .bool ((ss.take i).any (ubS d d)) ∧ Aside0 (Kd.C k61 w' Ao ss.length ss) ∧ Aside0 (Below w.heap.size w w'))
            case atStart => exact ⟨0, rfl, ⟨by omega⟩, by simp, HCS, HB⟩
            case round =>
              clear HCS HB
              obtain ⟨i, rfl, HI, rfl, HCS, HB⟩ := hrel
              cases gk with
              | zero =>
                have ei : i = ss.length := by have := HI.out; omega
                subst ei
                have cz : decide ((ss.length : Int) < (ss.length : Int)) = false := decide_eq_false (by omega)
                have ht : (ss.take ss.length).any (ubS d d) = ubM l0 a1 d d := by rw [List.take_length]; exact HCV.out d
                have hT := HT.out
                rw [opn] at hT
                have hNN := HNN.out
                have hK := HK.out
                have hDD := HD.out
                have hAD := HAD.out
                have hw : wrap64 (d + 1) = d + 1 := by unfold wrap64; omega
                have HWD := Aside0.mk hw
                cases hcv : ubM l0 a1 d d with
                | true =>
                  rw [hcv] at ht hT
                  rw [ht]
                  have n0_ : Aside0 (opn (fun d => ubM l0 a1 d d) a2 (a3 + 1 - a2).toNat = n + opn (fun d => ubM l0 a1 d d) (d + 1) ko) := ⟨by rw [hT]; simp⟩
                  have n1_ : Aside0 (((d + 1) + ko : Int) = a3 + 1) := ⟨by omega⟩
                  have n2_ : Aside0 (a2 ≤ d + 1) := ⟨by omega⟩
                  have n3_ : Aside0 (0 ≤ n ∧ n ≤ (d + 1) - a2) := ⟨by omega⟩
                  clear ht hT hcv hNN hK hDD hAD hw
                  go_wp2
                  rw [HWD.out]
                  go_roundg ko
                  case measure => omega
                  case rel => exact ⟨n, d + 1, rfl, rfl, n1_, n2_, n3_, n0_, HCS, HB⟩
                | false =>
                  rw [hcv] at ht hT
                  rw [ht]
                  have HWN : Aside0 (wrap64 (n + 1) = n + 1) := ⟨by unfold wrap64; omega⟩
                  have n0_ : Aside0 (opn (fun d => ubM l0 a1 d d) a2 (a3 + 1 - a2).toNat = (n + 1) + opn (fun d => ubM l0 a1 d d) (d + 1) ko) := ⟨by rw [hT]; simp; omega⟩
                  have n1_ : Aside0 (((d + 1) + ko : Int) = a3 + 1) := ⟨by omega⟩
                  have n2_ : Aside0 (a2 ≤ d + 1) := ⟨by omega⟩
                  have n3_ : Aside0 (0 ≤ n + 1 ∧ n + 1 ≤ (d + 1) - a2) := ⟨by omega⟩
                  clear ht hT hcv hNN hK hDD hAD hw
                  go_wp2
                  rw [HWD.out, HWN.out]
                  go_roundg ko
                  case measure => omega
                  case rel => exact ⟨n + 1, d + 1, rfl, rfl, n1_, n2_, n3_, n0_, HCS, HB⟩
              | succ ki =>
                have hi : i < ss.length := by have := HI.out; omega
                have cb2 : decide ((i : Int) < (ss.length : Int)) = true := decide_eq_true (by omega)
                have HW2 : Aside0 (wrap64 ((i : Int) + 1) = ((i + 1 : Nat) : Int)) := ⟨by unfold wrap64; have := HLN.out; have := HN.out; omega⟩
                obtain ⟨ad, eA, x0, x1, x2⟩ := at_T61 HCS.out i hi
                cases eA
                have pj : (0 ≤ (i : Int)) = True := eq_true (by omega)
                have qj : ((i : Int) < (ss.length : Int)) = True := eq_true (by omega)
                obtain ⟨s, hs⟩ : ∃ s, s = ss[i] := ⟨_, rfl⟩
                rw [← hs] at x0 x1 x2
                have HTK : Aside0 ((ss.take (i + 1)).any (ubS d d) = ((ss.take i).any (ubS d d) || (decide (s.fr ≤ d) && decide (s.tt > d)))) := ⟨by rw [any_take hi, ← hs]; rfl⟩
                clear hs
                generalize (ss.take i).any (ubS d d) = cv at HTK ⊢
                have HIN : Aside0 (i + 1 + ki = ss.length) := ⟨by have := HI.out; omega⟩
                clear HI
                cases cv with
                | true =>
                  have HTT : Aside0 ((ss.take (i + 1)).any (ubS d d) = true) := ⟨by rw [HTK.out]; rfl⟩
                  go_wp2
                  rw [HW2.out]
                  go_roundg ki
                  case measure => omega
                  case rel => exact ⟨i + 1, rfl, HIN, by rw [HTT.out], ⟨Kd.C_alloc HCS.out _⟩, ⟨GS.lB HB.out⟩⟩
                | false =>
                  cases hu1 : decide (s.fr ≤ d) with
                  | false =>
                    have HTT : Aside0 ((ss.take (i + 1)).any (ubS d d) = false) := ⟨by rw [HTK.out, hu1]; rfl⟩
                    go_wp2
                    rw [HW2.out]
                    go_roundg ki
                    case measure => omega
                    case rel => exact ⟨i + 1, rfl, HIN, by rw [HTT.out], ⟨Kd.C_alloc HCS.out _⟩, ⟨GS.lB HB.out⟩⟩
                  | true =>
                    cases hu2 : decide (s.tt > d) with
                    | false =>
                      have HTT : Aside0 ((ss.take (i + 1)).any (ubS d d) = false) := ⟨by rw [HTK.out, hu1, hu2]; rfl⟩
                      go_wp2
                      rw [HW2.out]
                      go_roundg ki
                      case measure => omega
                      case rel => exact ⟨i + 1, rfl, HIN, by rw [HTT.out], ⟨Kd.C_alloc HCS.out _⟩, ⟨GS.lB HB.out⟩⟩
                    | true =>
                      have HTT : Aside0 ((ss.take (i + 1)).any (ubS d d) = true) := ⟨by rw [HTK.out, hu1, hu2]; rfl⟩
                      go_wp2
                      rw [HW2.out]
                      go_roundg ki
                      case measure => omega
                      case rel => exact ⟨i + 1, rfl, HIN, by rw [HTT.out], ⟨Kd.C_alloc HCS.out _⟩, ⟨GS.lB HB.out⟩⟩
    · rw [if_neg ha] at h
      simp only [Option.some.injEq, Prod.mk.injEq] at h
      obtain ⟨rfl, rfl⟩ := h
      have HA := Aside0.mk ha
      have cn : (askE l0 a1 [a2, a3] != 0) = true := bne_iff_ne.mpr ha
      clear ha
      go_enter Try.func18, Try.ntmps18
      go_wp2_with (first
        | ((with_reducible show Calls Try.prog 37 _ _ _); refine (asked_calls A0 c0 l0 a1 _ _ [a2, a3] _ (GS.rC (Kd.C_below HR0.out HB.out)) HC0.out HW.out (C_new _ [a2, a3] (by simp) (by unfold maxLen; simp))).mono ?_; rintro e w3 ⟨hae, hb⟩; obtain rfl := hae.bad HA.out; have n0_ := Aside0.mk (lqT (GS.lB HB.out) hb); clear HB hae hb; have HB := n0_; clear n0_))
      go_ret2
      exact ⟨rfl, GS.lB HB.out⟩
  · rw [if_neg hwf] at h
    cases h
#print axioms seal_Open.calls
end Go.Proofs.Ytfjenooajbdcmaa.K
