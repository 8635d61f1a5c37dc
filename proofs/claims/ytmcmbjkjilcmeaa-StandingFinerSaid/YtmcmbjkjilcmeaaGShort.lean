/- PRINTED by gen_short.py: what a block holds, past what has happened since, in one word (the printed proofs say it very often). -/
import Derived.Test.YtmcmbjkjilcmeaaWWords
import Derived.Test.YtmcmbjkjilcmeaaWLast
import Derived.WalkKit
import Derived.KernelRfl
namespace Go.Proofs.Ytmcmbjkjilcmeaa.GS
open Go.RowKit Go.Proofs.YtmcmbjkjilcmeaaW.PrintWords Go.Proofs.YtmcmbjkjilcmeaaW.PrintLast
/-- Where block g of w holds o, it holds o' in W. -/
structure Turns (g : Nat) (w : World) (o : Obj) (W : World) (o' : Obj) : Prop where
  out : w.heap[g]? = some o → W.heap[g]? = some o'
section
variable {g : Nat} {w W : World} {o o' : Obj} {t : TypeId} {u : Value}
theorem Turns.refl : Turns g w o w o := ⟨fun h => h⟩
theorem Turns.alloc {c : Obj} (h : Turns g w o W o') : Turns g w o (W.alloc c) o' := ⟨fun h0 => blk_alloc (h.out h0) c⟩
theorem Turns.drew (h : Turns g w o W o') : Turns g w o W.drew o' := ⟨fun h0 => h.out h0⟩
theorem Turns.drewN {n : Nat} (h : Turns g w o W o') : Turns g w o (W.drewN n) o' := ⟨fun h0 => h.out h0⟩
theorem Turns.far {g' j : Nat} {cs : Array Value} (hn : Aside0 (g ≠ g')) (h : Turns g w o W (.cells cs t (0, 0))) : Turns g w o (W.setCell ⟨g', j, none⟩ u) (.cells cs t (0, 0)) := ⟨fun h0 => blk_far (h.out h0) hn.out u⟩
theorem put1_0 {a0 : Value} (h : Turns g w o W (.cells #[a0] t (0, 0))) : Turns g w o (W.setCell ⟨g, 0, none⟩ u) (.cells #[u] t (0, 0)) := ⟨fun h0 => blk_put (h.out h0) 0 u rfl⟩
theorem put2_0 {a0 a1 : Value} (h : Turns g w o W (.cells #[a0, a1] t (0, 0))) : Turns g w o (W.setCell ⟨g, 0, none⟩ u) (.cells #[u, a1] t (0, 0)) := ⟨fun h0 => blk_put (h.out h0) 0 u rfl⟩
theorem put2_1 {a0 a1 : Value} (h : Turns g w o W (.cells #[a0, a1] t (0, 0))) : Turns g w o (W.setCell ⟨g, 1, none⟩ u) (.cells #[a0, u] t (0, 0)) := ⟨fun h0 => blk_put (h.out h0) 1 u rfl⟩
theorem put3_0 {a0 a1 a2 : Value} (h : Turns g w o W (.cells #[a0, a1, a2] t (0, 0))) : Turns g w o (W.setCell ⟨g, 0, none⟩ u) (.cells #[u, a1, a2] t (0, 0)) := ⟨fun h0 => blk_put (h.out h0) 0 u rfl⟩
theorem put3_1 {a0 a1 a2 : Value} (h : Turns g w o W (.cells #[a0, a1, a2] t (0, 0))) : Turns g w o (W.setCell ⟨g, 1, none⟩ u) (.cells #[a0, u, a2] t (0, 0)) := ⟨fun h0 => blk_put (h.out h0) 1 u rfl⟩
theorem put3_2 {a0 a1 a2 : Value} (h : Turns g w o W (.cells #[a0, a1, a2] t (0, 0))) : Turns g w o (W.setCell ⟨g, 2, none⟩ u) (.cells #[a0, a1, u] t (0, 0)) := ⟨fun h0 => blk_put (h.out h0) 2 u rfl⟩
theorem put4_0 {a0 a1 a2 a3 : Value} (h : Turns g w o W (.cells #[a0, a1, a2, a3] t (0, 0))) : Turns g w o (W.setCell ⟨g, 0, none⟩ u) (.cells #[u, a1, a2, a3] t (0, 0)) := ⟨fun h0 => blk_put (h.out h0) 0 u rfl⟩
theorem put4_1 {a0 a1 a2 a3 : Value} (h : Turns g w o W (.cells #[a0, a1, a2, a3] t (0, 0))) : Turns g w o (W.setCell ⟨g, 1, none⟩ u) (.cells #[a0, u, a2, a3] t (0, 0)) := ⟨fun h0 => blk_put (h.out h0) 1 u rfl⟩
theorem put4_2 {a0 a1 a2 a3 : Value} (h : Turns g w o W (.cells #[a0, a1, a2, a3] t (0, 0))) : Turns g w o (W.setCell ⟨g, 2, none⟩ u) (.cells #[a0, a1, u, a3] t (0, 0)) := ⟨fun h0 => blk_put (h.out h0) 2 u rfl⟩
theorem put4_3 {a0 a1 a2 a3 : Value} (h : Turns g w o W (.cells #[a0, a1, a2, a3] t (0, 0))) : Turns g w o (W.setCell ⟨g, 3, none⟩ u) (.cells #[a0, a1, a2, u] t (0, 0)) := ⟨fun h0 => blk_put (h.out h0) 3 u rfl⟩
theorem put5_0 {a0 a1 a2 a3 a4 : Value} (h : Turns g w o W (.cells #[a0, a1, a2, a3, a4] t (0, 0))) : Turns g w o (W.setCell ⟨g, 0, none⟩ u) (.cells #[u, a1, a2, a3, a4] t (0, 0)) := ⟨fun h0 => blk_put (h.out h0) 0 u rfl⟩
theorem put5_1 {a0 a1 a2 a3 a4 : Value} (h : Turns g w o W (.cells #[a0, a1, a2, a3, a4] t (0, 0))) : Turns g w o (W.setCell ⟨g, 1, none⟩ u) (.cells #[a0, u, a2, a3, a4] t (0, 0)) := ⟨fun h0 => blk_put (h.out h0) 1 u rfl⟩
theorem put5_2 {a0 a1 a2 a3 a4 : Value} (h : Turns g w o W (.cells #[a0, a1, a2, a3, a4] t (0, 0))) : Turns g w o (W.setCell ⟨g, 2, none⟩ u) (.cells #[a0, a1, u, a3, a4] t (0, 0)) := ⟨fun h0 => blk_put (h.out h0) 2 u rfl⟩
theorem put5_3 {a0 a1 a2 a3 a4 : Value} (h : Turns g w o W (.cells #[a0, a1, a2, a3, a4] t (0, 0))) : Turns g w o (W.setCell ⟨g, 3, none⟩ u) (.cells #[a0, a1, a2, u, a4] t (0, 0)) := ⟨fun h0 => blk_put (h.out h0) 3 u rfl⟩
theorem put5_4 {a0 a1 a2 a3 a4 : Value} (h : Turns g w o W (.cells #[a0, a1, a2, a3, a4] t (0, 0))) : Turns g w o (W.setCell ⟨g, 4, none⟩ u) (.cells #[a0, a1, a2, a3, u] t (0, 0)) := ⟨fun h0 => blk_put (h.out h0) 4 u rfl⟩
theorem bqX (h : w.heap[g]? = some o) (hs : Turns g w o W o := by with_reducible ((repeat (first | apply Go.Proofs.Ytmcmbjkjilcmeaa.GS.Turns.drewN | apply Go.Proofs.Ytmcmbjkjilcmeaa.GS.Turns.drew | apply Go.Proofs.Ytmcmbjkjilcmeaa.GS.Turns.alloc | (apply Go.Proofs.Ytmcmbjkjilcmeaa.GS.Turns.far; assumption))); exact Go.Proofs.Ytmcmbjkjilcmeaa.GS.Turns.refl)) : W.heap[g]? = some o := hs.out h
theorem bqZ (h : w.heap[g]? = some o) (hs : Turns g w o W o' := by with_reducible ((repeat (first | apply Go.Proofs.Ytmcmbjkjilcmeaa.GS.Turns.drewN | apply Go.Proofs.Ytmcmbjkjilcmeaa.GS.Turns.drew | apply Go.Proofs.Ytmcmbjkjilcmeaa.GS.Turns.alloc | (apply Go.Proofs.Ytmcmbjkjilcmeaa.GS.Turns.far; assumption) | apply Go.Proofs.Ytmcmbjkjilcmeaa.GS.put1_0 | apply Go.Proofs.Ytmcmbjkjilcmeaa.GS.put2_0 | apply Go.Proofs.Ytmcmbjkjilcmeaa.GS.put2_1 | apply Go.Proofs.Ytmcmbjkjilcmeaa.GS.put3_0 | apply Go.Proofs.Ytmcmbjkjilcmeaa.GS.put3_1 | apply Go.Proofs.Ytmcmbjkjilcmeaa.GS.put3_2 | apply Go.Proofs.Ytmcmbjkjilcmeaa.GS.put4_0 | apply Go.Proofs.Ytmcmbjkjilcmeaa.GS.put4_1 | apply Go.Proofs.Ytmcmbjkjilcmeaa.GS.put4_2 | apply Go.Proofs.Ytmcmbjkjilcmeaa.GS.put4_3 | apply Go.Proofs.Ytmcmbjkjilcmeaa.GS.put5_0 | apply Go.Proofs.Ytmcmbjkjilcmeaa.GS.put5_1 | apply Go.Proofs.Ytmcmbjkjilcmeaa.GS.put5_2 | apply Go.Proofs.Ytmcmbjkjilcmeaa.GS.put5_3 | apply Go.Proofs.Ytmcmbjkjilcmeaa.GS.put5_4)); exact Go.Proofs.Ytmcmbjkjilcmeaa.GS.Turns.refl)) : W.heap[g]? = some o' := hs.out h
end
theorem c1 {w : World} {g : Nat} {t : TypeId} {a0 : Value} (h : w.heap[g]? = some (.cells #[a0] t (0, 0))) : w.cell? ⟨g, 0, none⟩ = some a0 ∧ w.frozen? ⟨g, 0, none⟩ = false := ⟨(blk_cell h 0).trans rfl, blk_frozen h 0⟩
theorem c2 {w : World} {g : Nat} {t : TypeId} {a0 a1 : Value} (h : w.heap[g]? = some (.cells #[a0, a1] t (0, 0))) : w.cell? ⟨g, 0, none⟩ = some a0 ∧ w.cell? ⟨g, 1, none⟩ = some a1 ∧ w.frozen? ⟨g, 0, none⟩ = false ∧ w.frozen? ⟨g, 1, none⟩ = false := ⟨(blk_cell h 0).trans rfl, (blk_cell h 1).trans rfl, blk_frozen h 0, blk_frozen h 1⟩
theorem c3 {w : World} {g : Nat} {t : TypeId} {a0 a1 a2 : Value} (h : w.heap[g]? = some (.cells #[a0, a1, a2] t (0, 0))) : w.cell? ⟨g, 0, none⟩ = some a0 ∧ w.cell? ⟨g, 1, none⟩ = some a1 ∧ w.cell? ⟨g, 2, none⟩ = some a2 ∧ w.frozen? ⟨g, 0, none⟩ = false ∧ w.frozen? ⟨g, 1, none⟩ = false ∧ w.frozen? ⟨g, 2, none⟩ = false := ⟨(blk_cell h 0).trans rfl, (blk_cell h 1).trans rfl, (blk_cell h 2).trans rfl, blk_frozen h 0, blk_frozen h 1, blk_frozen h 2⟩
theorem c4 {w : World} {g : Nat} {t : TypeId} {a0 a1 a2 a3 : Value} (h : w.heap[g]? = some (.cells #[a0, a1, a2, a3] t (0, 0))) : w.cell? ⟨g, 0, none⟩ = some a0 ∧ w.cell? ⟨g, 1, none⟩ = some a1 ∧ w.cell? ⟨g, 2, none⟩ = some a2 ∧ w.cell? ⟨g, 3, none⟩ = some a3 ∧ w.frozen? ⟨g, 0, none⟩ = false ∧ w.frozen? ⟨g, 1, none⟩ = false ∧ w.frozen? ⟨g, 2, none⟩ = false ∧ w.frozen? ⟨g, 3, none⟩ = false := ⟨(blk_cell h 0).trans rfl, (blk_cell h 1).trans rfl, (blk_cell h 2).trans rfl, (blk_cell h 3).trans rfl, blk_frozen h 0, blk_frozen h 1, blk_frozen h 2, blk_frozen h 3⟩
theorem c5 {w : World} {g : Nat} {t : TypeId} {a0 a1 a2 a3 a4 : Value} (h : w.heap[g]? = some (.cells #[a0, a1, a2, a3, a4] t (0, 0))) : w.cell? ⟨g, 0, none⟩ = some a0 ∧ w.cell? ⟨g, 1, none⟩ = some a1 ∧ w.cell? ⟨g, 2, none⟩ = some a2 ∧ w.cell? ⟨g, 3, none⟩ = some a3 ∧ w.cell? ⟨g, 4, none⟩ = some a4 ∧ w.frozen? ⟨g, 0, none⟩ = false ∧ w.frozen? ⟨g, 1, none⟩ = false ∧ w.frozen? ⟨g, 2, none⟩ = false ∧ w.frozen? ⟨g, 3, none⟩ = false ∧ w.frozen? ⟨g, 4, none⟩ = false := ⟨(blk_cell h 0).trans rfl, (blk_cell h 1).trans rfl, (blk_cell h 2).trans rfl, (blk_cell h 3).trans rfl, (blk_cell h 4).trans rfl, blk_frozen h 0, blk_frozen h 1, blk_frozen h 2, blk_frozen h 3, blk_frozen h 4⟩
/-- Below, past what has happened since. -/
structure Grows (b w W : World) : Prop where
  out : Below b.heap.size b w → Below b.heap.size b W
theorem Grows.refl {b w : World} : Grows b w w := ⟨fun h => h⟩
theorem Grows.alloc {b w W : World} {c : Obj} (h : Grows b w W) : Grows b w (W.alloc c) := ⟨fun h0 => below_alloc (h.out h0) c⟩
theorem Grows.drew {b w W : World} (h : Grows b w W) : Grows b w W.drew := ⟨fun h0 => below_drew1 (h.out h0)⟩
theorem Grows.drewN {b w W : World} {n : Nat} (h : Grows b w W) : Grows b w (W.drewN n) := ⟨fun h0 => pw_below_drewN (h.out h0) n⟩
theorem Grows.set {b w W : World} {g j : Nat} {v : Value} (hg : Aside0 (b.heap.size ≤ g)) (h : Grows b w W) : Grows b w (W.setCell ⟨g, j, none⟩ v) := ⟨fun h0 => below_set (h.out h0) hg.out⟩
theorem lB {b w W : World} (h : Below b.heap.size b w) (hs : Grows b w W := by with_reducible (repeat (first | exact Go.Proofs.Ytmcmbjkjilcmeaa.GS.Grows.refl | apply Go.Proofs.Ytmcmbjkjilcmeaa.GS.Grows.drewN | apply Go.Proofs.Ytmcmbjkjilcmeaa.GS.Grows.drew | apply Go.Proofs.Ytmcmbjkjilcmeaa.GS.Grows.alloc | (apply Go.Proofs.Ytmcmbjkjilcmeaa.GS.Grows.set; assumption)))) : Below b.heap.size b W := hs.out h
/-- A row of the call's own, past what was only made since. -/
structure Made (w W : World) : Prop where
  out : Below w.heap.size w W
theorem Made.refl {w : World} : Made w w := ⟨Below.refl _ _⟩
theorem Made.alloc {w W : World} {c : Obj} (h : Made w W) : Made w (W.alloc c) := ⟨below_alloc h.out c⟩
theorem Made.drew {w W : World} (h : Made w W) : Made w W.drew := ⟨below_drew1 h.out⟩
theorem Made.drewN {w W : World} {n : Nat} (h : Made w W) : Made w (W.drewN n) := ⟨pw_below_drewN h.out n⟩
theorem rR {α : Type} {d : Kd α} {e : Nat} {w W : World} {base : Nat} {ok : Nat → Prop} {v : Value} {xs : List α} (h : d.R e w base ok v xs) (hs : Made w W := by with_reducible (repeat (first | exact Go.Proofs.Ytmcmbjkjilcmeaa.GS.Made.refl | apply Go.Proofs.Ytmcmbjkjilcmeaa.GS.Made.drewN | apply Go.Proofs.Ytmcmbjkjilcmeaa.GS.Made.drew | apply Go.Proofs.Ytmcmbjkjilcmeaa.GS.Made.alloc))) : d.R e W base ok v xs := Kd.R_below h hs.out
theorem rC {α : Type} {d : Kd α} {w W : World} {A : Option Addr} {n : Nat} {xs : List α} (h : d.C w A n xs) (hs : Made w W := by with_reducible (repeat (first | exact Go.Proofs.Ytmcmbjkjilcmeaa.GS.Made.refl | apply Go.Proofs.Ytmcmbjkjilcmeaa.GS.Made.drewN | apply Go.Proofs.Ytmcmbjkjilcmeaa.GS.Made.drew | apply Go.Proofs.Ytmcmbjkjilcmeaa.GS.Made.alloc))) : d.C W A n xs := Kd.C_below h hs.out
/-- A cell beside those that were written. -/
structure Far (a : Addr) (w W : World) : Prop where
  out : W.cell? a = w.cell? a
theorem Far.refl {a : Addr} {w : World} : Far a w w := ⟨rfl⟩
theorem Far.far {g j g' j' : Nat} {w W : World} {u : Value} (hn : Aside0 (g ≠ g')) (h : Far ⟨g, j, none⟩ w W) : Far ⟨g, j, none⟩ w (W.setCell ⟨g', j', none⟩ u) := ⟨(cell_far (p := ⟨g', j', none⟩) hn.out u).trans h.out⟩
theorem cf {a : Addr} {w W : World} {v : Option Value} (h : w.cell? a = v) (hs : Far a w W := by with_reducible (repeat (first | exact Go.Proofs.Ytmcmbjkjilcmeaa.GS.Far.refl | (apply Go.Proofs.Ytmcmbjkjilcmeaa.GS.Far.far; assumption)))) : W.cell? a = v := hs.out.trans h
section
variable {P : Program} {ops : Array Oper} {Q : Exit → Act → World → Prop} {o : Oper} {rest : List Oper} {a : Act} {W : World}
theorem bx {N : Tmp} {cs : Array Value} {t : TypeId}
    (h : ∀ g, g = W.heap.size → ∀ w1, w1.heap[g]? = some (.cells cs t (0, 0)) → Below W.heap.size W w1 → wpList P ops Q rest (a.put o.dst (.pointer (some ⟨g, 0, none⟩))) w1)
    (hgd : o.guard = none := by rfl) (hd : o.dst = some N := by rfl)
    (hrun : (execOp a.eval o).run P W = .ok (.value (.pointer (some ⟨W.heap.size, 0, none⟩))) (W.alloc (.cells cs t (0, 0))) := by first | (go_simp; done) | (go_simp; rfl)) : wpList P ops Q (o :: rest) a W := box_event hgd hd hrun h
theorem gL (N : Option Tmp) {f : FuncId} {fn : Func} (hf : P.funcs[f]? = some fn) (args : Array Value) {as : Array Operand} {ts : Array TypeId}
    (h : Calls P f args W fun e w' => ∃ v, e = .returned v ∧ wpList P ops Q rest (a.put N v) w') (hop : o.op = .call { callee := .value (.func f), args := as, argTypes := ts } := by rfl) (hd : o.dst = N := by rfl) (hg : o.guard = none := by rfl) (hname : (fn.name == "runtime.NumGoroutine") = false := by kernel_rfl) (hb : fn.body.isSome = true := by rfl)
    (hargs : as.map a.eval = args := by (try simp only [List.map_toArray, List.map_cons, List.map_nil]); first | done | rfl | (simp only [List.length_drop, List.length_take]; rfl)) : wpList P ops Q (o :: rest) a W := goesL_ N hd hg hf hname hb args hop hargs h
end
/-- What a conjunction tells, in another shape. -/
theorem cj {p q : Prop} (h : p) (e : p → q := by intro hk; (repeat' (with_reducible refine And.intro ?_ ?_)); all_goals (first | with_reducible exact hk | with_reducible exact hk.1 | with_reducible exact hk.2 | with_reducible exact hk.1.1 | with_reducible exact hk.2.1 | with_reducible exact hk.1.2 | with_reducible exact hk.2.2 | with_reducible exact hk.1.1.1 | with_reducible exact hk.2.1.1 | with_reducible exact hk.1.2.1 | with_reducible exact hk.2.2.1 | with_reducible exact hk.1.1.2 | with_reducible exact hk.2.1.2 | with_reducible exact hk.1.2.2 | with_reducible exact hk.2.2.2 | with_reducible exact hk.1.1.1.1 | with_reducible exact hk.2.1.1.1 | with_reducible exact hk.1.2.1.1 | with_reducible exact hk.2.2.1.1 | with_reducible exact hk.1.1.2.1 | with_reducible exact hk.2.1.2.1 | with_reducible exact hk.1.2.2.1 | with_reducible exact hk.2.2.2.1 | with_reducible exact hk.1.1.1.2 | with_reducible exact hk.2.1.1.2 | with_reducible exact hk.1.2.1.2 | with_reducible exact hk.2.2.1.2 | with_reducible exact hk.1.1.2.2 | with_reducible exact hk.2.1.2.2 | with_reducible exact hk.1.2.2.2 | with_reducible exact hk.2.2.2.2 | trivial)) : q := e h
end Go.Proofs.Ytmcmbjkjilcmeaa.GS
