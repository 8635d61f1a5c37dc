/- Words for walks by hand: a map that the call makes, as an event of a walk. -/
import Derived.Test.YtefjmcljkmppoaaWMore
import Derived.Maps.OwnOps
import Derived.WalkSpells
namespace Go.Proofs.Ytefjmcljkmppoaa.GW
open Go.RowKit Go.Proofs.YtefjmcljkmppoaaW.PrintWords Go.Proofs.YtefjmcljkmppoaaW.PrintLast Go.Proofs.YtefjmcljkmppoaaW.PrintMore
set_option linter.unusedVariables false

/-- The world with block b's object replaced. -/
def mset (w : World) (b : Nat) (o : Obj) : World := { heap := w.heap.setIfInBounds b o, tape := w.tape, drawn := w.drawn, os := w.os, output := w.output }
theorem mset_heap_ne {w : World} {b : Nat} {o : Obj} {k : Nat} (h : k ≠ b) : (mset w b o).heap[k]? = w.heap[k]? := by
  unfold mset
  simp [Ne.symm h]
theorem mset_heap_eq {w : World} {b : Nat} {o : Obj} (h : b < w.heap.size) : (mset w b o).heap[b]? = some o := by
  unfold mset
  simp [h]
theorem mset_size (w : World) (b : Nat) (o : Obj) : (mset w b o).heap.size = w.heap.size := by simp [mset]
theorem below_mset {B : Nat} {w W : World} (h : Below B w W) {b : Nat} (hb : B ≤ b) (o : Obj) : Below B w (mset W b o) :=
  ⟨h.os, h.tape, h.output, by rw [mset_size]; exact h.size, fun i hi => by rw [mset_heap_ne (by omega)]; exact h.block i hi⟩

theorem grown_drew (w : World) (row : Option Nat) : w.grownBy w.drew row := ⟨rfl, rfl, rfl, Nat.le_refl _, fun _ _ _ => rfl⟩
theorem grown_drewN (w : World) (n : Nat) (row : Option Nat) : w.grownBy (w.drewN n) row := ⟨rfl, rfl, rfl, Nat.le_refl _, fun _ _ _ => rfl⟩
theorem drawn_trans {w w1 w2 : World} (h : Drawn0 w w1) (h2 : Drawn0 w1 w2) : Drawn0 w w2 := by
  obtain ⟨n, rfl⟩ := h2
  exact h.step n
section
variable {P : Program} {ops : Array Oper} {rest : List Oper} {o : Oper} {a : Act} {Q : Exit → Act → World → Prop} {W : World}
theorem gate_op {N : Option Tmp} {op : Op} (_hN : o.dst = N) (_ho : o.op = op) (h : wpList P ops Q (o :: rest) a W) : wpList P ops Q (o :: rest) a W := h
theorem map_event (hgd : o.guard = none) {t : TypeId} (ho : o.op = .makeMap t none)
    (h : ∀ b, b = W.heap.size → ∀ w1, w1.heap[b]? = some (.map #[] 0) → Below W.heap.size W w1 → wpList P ops Q rest (a.put o.dst (.map (some b))) w1) : wpList P ops Q (o :: rest) a W := by
  refine Kd.event_run hgd (v := .map (some W.heap.size)) (w1 := W.alloc (.map #[] 0)) ?_ (h _ rfl _ (blk_new W _) (below_alloc (Below.refl _ _) _))
  unfold execOp
  simp [ho, run_makeMap, Result.andThen]
theorem run_lookup0 {t k e : TypeId} {z : Value} {b clock : Nat} {key : Value} (ht : P.underlying t = some (.map k e)) (hb : W.heap[b]? = some (.map #[] clock)) (hck : (Instr.checkKey true 10000 k key).run P W = .ok () W) {d : TypeDesc} (hk : P.underlying k = some d)
    (hz : (zeroValue e).run P W = .ok z W) : (Instr.lookup t (.map (some b)) key false).run P W = .ok z W := by
  simp [Instr.lookup, run_underlying ht, MapKept.run_getObj_map hb, hck, Instr.findKey, run_underlying hk, Instr.findNow, hz, Result.andThen]
theorem run_update0 {t k e : TypeId} {b clock : Nat} {key val : Value} (ht : P.underlying t = some (.map k e)) (hb : W.heap[b]? = some (.map #[] clock)) (hck : (Instr.checkKey false 10000 k key).run P W = .ok () W) {d : TypeDesc} (hk : P.underlying k = some d) :
    (Instr.mapUpdate t (.map (some b)) key val).run P W = .ok () (mset W b (.map #[⟨key, val, clock⟩] (clock + 1))) := by
  simp [Instr.mapUpdate, run_underlying ht, MapKept.run_getObj_map hb, hck, Instr.findKey, run_underlying hk, Instr.findNow, MapKept.run_setObj_map _ hb, Result.andThen, mset]
theorem lookup_event (hgd : o.guard = none) {t : TypeId} {m x : Operand} {c : Bool} (ho : o.op = .lookup t m x c) {v : Value} {mv key : Value} (hm : a.eval m = mv) (hx : a.eval x = key)
    (hrun : (Instr.lookup t mv key c).run P W = .ok v W) (h : wpList P ops Q rest (a.put o.dst v) W) : wpList P ops Q (o :: rest) a W := by
  refine wpList_plain hgd fun K' hK' => ?_
  unfold Oper.wp
  simp [execOp, ho, hm, hx, hrun, Result.andThen]
  exact hK' _ _ h
theorem update_event (hgd : o.guard = none) {t : TypeId} {m x v : Operand} (ho : o.op = .mapUpdate t m x v) {mv key val : Value} (hm : a.eval m = mv) (hx : a.eval x = key) (hv : a.eval v = val) {w1 : World}
    (hrun : (Instr.mapUpdate t mv key val).run P W = .ok () w1) (h : wpList P ops Q rest (a.put o.dst undef) w1) : wpList P ops Q (o :: rest) a W := by
  refine wpList_plain hgd fun K' hK' => ?_
  unfold Oper.wp
  simp [execOp, ho, hm, hx, hv, hrun, Result.andThen]
  exact hK' _ _ h
end
/-! slicing, all indexes natural numbers -/
section
variable {P : Program} {t e sz : Nat} (ht : P.underlying t = some (.slice e)) (hs : ∀ W, (sizeOf e).run P W = .ok sz W) (A : Option Addr) (n c : Nat)
include ht hs
theorem sl_lhm (l h m : Nat) (h1 : l ≤ h) (h2 : h ≤ m) (h3 : m ≤ c) (W : World) : (Instr.slice t (.slice A n c) (some (.int .i64 (l : Int))) (some (.int .i64 (h : Int))) (some (.int .i64 (m : Int)))).run P W = .ok (.slice (if m = l then A else A.map (·.add (l * sz))) (h - l) (m - l)) W := by
  have hel : P.elem t = e := by simp [Program.elem, ht]
  have hu : P.underlying t = some (.slice (P.elem t)) := by rw [hel]; exact ht
  rw [run_slice_lhm W t _ _ _ hu .i64 .i64 .i64 _ _ _ (by omega) (by omega) (by omega) (by omega), hel]
  simp [hs, sliced, Result.andThen]
theorem sl_lh (l h : Nat) (h1 : l ≤ h) (h2 : h ≤ c) (W : World) : (Instr.slice t (.slice A n c) (some (.int .i64 (l : Int))) (some (.int .i64 (h : Int))) none).run P W = .ok (.slice (if c = l then A else A.map (·.add (l * sz))) (h - l) (c - l)) W := by
  have hel : P.elem t = e := by simp [Program.elem, ht]
  have hu : P.underlying t = some (.slice (P.elem t)) := by rw [hel]; exact ht
  rw [run_slice_lh W t _ _ _ hu .i64 .i64 _ _ (by omega) (by omega) (by omega), hel]
  simp [hs, sliced, Result.andThen]
theorem sl_l (l : Nat) (h1 : l ≤ n) (W : World) : (Instr.slice t (.slice A n c) (some (.int .i64 (l : Int))) none none).run P W = .ok (.slice (if c = l then A else A.map (·.add (l * sz))) (n - l) (c - l)) W := by
  have hel : P.elem t = e := by simp [Program.elem, ht]
  have hu : P.underlying t = some (.slice (P.elem t)) := by rw [hel]; exact ht
  rw [run_slice_l W t _ _ _ hu .i64 _ (by omega) (by omega), hel]
  simp [hs, sliced, Result.andThen]
theorem sl_h (h : Nat) (h2 : h ≤ c) (W : World) : (Instr.slice t (.slice A n c) none (some (.int .i64 (h : Int))) none).run P W = .ok (.slice A h c) W := by
  have hel : P.elem t = e := by simp [Program.elem, ht]
  have hu : P.underlying t = some (.slice (P.elem t)) := by rw [hel]; exact ht
  rw [run_slice_h W t _ _ _ hu .i64 _ (by omega) (by omega), hel]
  simp only [hs, sliced, Result.andThen, Int.toNat_natCast, Nat.zero_mul, Nat.sub_zero]
  cases A with
  | none => simp
  | some a => simp [Addr.add]
end
theorem size_of_info {P : Program} {e : Nat} {z : Value} {sz b : Nat} (hinfo : (P.info? e).map (fun i => (i.zero, i.size, i.bytes)) = some (some z, sz, b)) (W : World) : (sizeOf e).run P W = .ok sz W := by
  obtain ⟨i0, hi, hzz⟩ := Option.map_eq_some_iff.1 hinfo
  simp only [Prod.mk.injEq] at hzz
  simp [sizeOf, typeInfo, hi, hzz.2.1]

/-! clear(s[n:n+m]) behind the n elements of a row of one's own -/
theorem zeroCells_length (cs : Array Value) (n : Nat) : (Builtin.zeroCells cs n).toList.length = n * cs.size := by simp [Builtin.zeroCells]
theorem zeroCells_one (cs : Array Value) (n : Nat) (h : ∀ u ∈ cs.toList, u.oneCell' = true) : ∀ u ∈ (Builtin.zeroCells cs n).toList, u.oneCell' = true := by
  intro u hu
  obtain ⟨i, hi, rfl⟩ := List.mem_iff_getElem.1 hu
  rw [zeroCells_length] at hi
  have hs : 0 < cs.size := by
    rcases Nat.eq_zero_or_pos cs.size with h0 | h0
    · rw [h0, Nat.mul_zero] at hi; omega
    · exact h0
  have : (Builtin.zeroCells cs n).toList[i]'(by rw [zeroCells_length]; exact hi) = cs[i % cs.size]'(Nat.mod_lt _ hs) := by
    simp [Builtin.zeroCells]
    exact getElem!_pos cs _ (Nat.mod_lt _ hs)
  rw [this]
  exact h _ (by simp)
theorem clear_run {P : Program} {α : Type} (d : Kd α) {W : World} {base : Nat} {t e : TypeId} {z : Value} (ht : P.underlying t = some (.slice e)) (hz : ∀ w, (zeroValue e).run P w = .ok z w) (hzs : z.cells.size = d.sz) (hz1 : ∀ u ∈ z.cells.toList, u.oneCell' = true)
    {g n c m : Nat} {xs : List α} {ok : Nat → Prop} (HO : d.R e W base ok (.slice (some ⟨g, 0, none⟩) n c) xs) (hm : 0 < m) (hnm : n + m ≤ c) :
    ∃ w1, (∀ ty c2, (Builtin.clear_ #[t] ty #[.slice (some ⟨g, 0 + n * d.sz, none⟩) m c2]).run P W = .ok (.tuple #[]) w1) ∧ d.R e w1 base ok (.slice (some ⟨g, 0, none⟩) n c) xs ∧ W.grownBy w1 (some g) := by
  obtain ⟨hn, hnc, _⟩ := Kd.R_reads' HO
  obtain ⟨hok, inner, hown, hr⟩ := HO
  rcases hown.2 with ⟨hv, _⟩ | ⟨g', cap', cur, hv, hb, hh, _, hcm, hcs, htake⟩
  · cases hv
  injection hv with ha _ hc
  injection ha with ha
  injection ha with hg
  subst hg; subst hc
  rw [← hn] at htake
  obtain ⟨L, hL⟩ : ∃ L, L = (Builtin.zeroCells z.cells m).toList := ⟨_, rfl⟩
  have hLl : L.length = m * d.sz := by rw [hL, zeroCells_length, hzs]
  have hL1 : ∀ u ∈ L, u.oneCell' = true := by rw [hL]; exact zeroCells_one _ _ hz1
  have hmul : n * d.sz + m * d.sz ≤ c * d.sz := by rw [← Nat.add_mul]; exact Nat.mul_le_mul_right _ hnm
  have hst := run_storeCells_cells (P := P) g (0 + n * d.sz) L 0 W (fun j hj => by rw [cell_of_row W g _ cur e (0, 0) hh]; simp; omega) (fun j _ => blk_frozen hh _) hL1
  simp only [Nat.add_zero] at hst
  have hrun : ∀ ty c2, (Builtin.clear_ #[t] ty #[.slice (some ⟨g, 0 + n * d.sz, none⟩) m c2]).run P W = .ok (.tuple #[]) (W.setCells g (0 + n * d.sz) L) := by
    intro ty c2
    obtain ⟨m', rfl⟩ : ∃ m', m = m' + 1 := ⟨m - 1, by omega⟩
    simp only [Nat.zero_add] at hst ⊢
    simp [Builtin.clear_, run_underlying ht, hz, ← hL, hst]
  obtain ⟨cur', h3, h4, h5⟩ := setCells_row L (0 + n * d.sz) W cur hh (by omega)
  obtain ⟨s1, s2, s3, s4⟩ := setCells_same g L (0 + n * d.sz) W
  have hfar : ∀ k', k' ≠ g → (W.setCells g (0 + n * d.sz) L).heap[k']? = W.heap[k']? := fun k' hk' => setCells_far L _ k' hk'
  have hgo : some g = (Value.slice (some ⟨g, 0, none⟩) n c).ownBlock := by simp [Value.ownBlock]
  refine ⟨_, hrun, ⟨hok, inner, ⟨hown.1, .inr ⟨g, c, cur', by rw [← hn], hb, h3, by rw [← hn]; exact hnc, hcm, by rw [h4, hcs], ?_⟩⟩, ?_⟩, ⟨s1, s2, s3, by rw [s4]; exact Nat.le_refl _, fun k' _ hk' => hfar k' (fun he => hk' (by rw [he]))⟩⟩
  · rw [← hn, h5, Nat.zero_add, ← htake]
    rw [List.append_assoc]
    exact List.take_left' (by rw [List.length_take]; simp; omega)
  · exact hr.imp_ (fun p q hp => d.M_mono (fun _ hk' => hk') (d.M_move (fun k' hk' => hfar k' (fun he => hk'.2 (by rw [← hgo, he]))) hp))

/-! a block of one's own is written: what else there is stays -/
theorem put1 {W : World} {g t : Nat} {cs : Array Value} (h : W.heap[g]? = some (.cells cs t (0, 0))) (i : Nat) (x : Value) :
    (W.setCell ⟨g, i, none⟩ x).heap[g]? = some (.cells (cs.setIfInBounds i x) t (0, 0)) ∧ W.grownBy (W.setCell ⟨g, i, none⟩ x) (some g) :=
  ⟨blk_set h i x, ⟨rfl, rfl, rfl, by simp [World.setCell], fun k _ hk => Below.heap_setCell W ⟨g, i, none⟩ x k (fun e => hk (by rw [e]))⟩⟩
theorem put3 {W : World} {g t : Nat} {c0 c1 c2 : Value} (h : W.heap[g]? = some (.cells #[c0, c1, c2] t (0, 0))) (x y z : Value) :
    (((W.setCell ⟨g, 0, none⟩ x).setCell ⟨g, 1, none⟩ y).setCell ⟨g, 2, none⟩ z).heap[g]? = some (.cells #[x, y, z] t (0, 0)) ∧ W.grownBy (((W.setCell ⟨g, 0, none⟩ x).setCell ⟨g, 1, none⟩ y).setCell ⟨g, 2, none⟩ z) (some g) := by
  obtain ⟨h1, g1⟩ := put1 h 0 x
  obtain ⟨h2, g2⟩ := put1 h1 1 y
  obtain ⟨h3, g3⟩ := put1 h2 2 z
  exact ⟨h3, World.grownBy.trans (World.grownBy.trans g1 g2) g3⟩
theorem R_past {α : Type} {d : Kd α} {e base g t : Nat} {ok : Nat → Prop} {W W' : World} {v : Value} {xs : List α} {cs : Array Value} (h : d.R e W base ok v xs) (hb : W.heap[g]? = some (.cells cs t (0, 0))) (ht : ∀ q, q ∈ e :: d.E → q ≠ t) (hg : W.grownBy W' (some g)) : d.R e W' base ok v xs :=
  Kd.R_mono (Kd.R_grown (Kd.R_types h hb ht) hg (fun k hk he => hk.2 (by injection he))) (fun _ h => h.1)
theorem blk_past {W W' : World} {a g : Nat} {o : Obj} (h : W.heap[a]? = some o) (hg : W.grownBy W' (some g)) (hn : a ≠ g) : W'.heap[a]? = some o := blk_grown h hg (fun e => hn (by injection e))
theorem below_past {w W W' : World} {g : Nat} (h : Below w.heap.size w W) (hg : W.grownBy W' (some g)) (hn : w.heap.size ≤ g) : Below w.heap.size w W' := h.grown hg h.size (fun k hk => by injection hk with hk; omega)
theorem R_blk {α : Type} {d : Kd α} {e base g n c : Nat} {ok : Nat → Prop} {W : World} {xs : List α} (h : d.R e W base ok (.slice (some ⟨g, 0, none⟩) n c) xs) : ∃ cells, W.heap[g]? = some (.cells cells e (0, 0)) := by
  obtain ⟨inner, ho⟩ := Kd.R_own h
  exact own_typed ho g (by simp [Value.ownBlock])
/-- A row's block is none of another type's. -/
theorem R_other {α : Type} {d : Kd α} {e base g t : Nat} {ok : Nat → Prop} {W : World} {v : Value} {xs : List α} {cs : Array Value} (h : d.R e W base ok v xs) (hb : W.heap[g]? = some (.cells cs t (0, 0))) (ht : e ≠ t) (k : Nat) (hk : v.ownBlock = some k) : g ≠ k := fun he => Kd.R_ne h hb ht (by rw [he, hk])
end Go.Proofs.Ytefjmcljkmppoaa.GW
