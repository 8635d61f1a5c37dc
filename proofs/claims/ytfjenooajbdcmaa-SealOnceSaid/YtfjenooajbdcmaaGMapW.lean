/- By hand: a map from whole numbers to structs of three whole numbers, as a function; its operations' runs. -/
import Derived.Test.YtfjenooajbdcmaaWMore
import Derived.Test.YtfjenooajbdcmaaProg
import Derived.Maps.Own
import Derived.Maps.OwnSet
import Derived.Maps.Range
import Derived.Maps.RangeWalk
import Derived.WalkSpells
import Derived.WalkKit
namespace Go.Proofs.Ytfjenooajbdcmaa.GM
open Go Go.RowKit Go.Maps Go.Proofs.YtfjenooajbdcmaaW.PrintWords
set_option linter.unusedVariables false
/-- Where a seal stands. -/
structure St where
  pl : Int
  fr : Int
  tt : Int
def stV (s : St) : Value := .agg #[.int .i64 s.pl, .int .i64 s.fr, .int .i64 s.tt]
def stE (s : St) : DataW Unit := .agg [.lit (.int .i64 s.pl), .lit (.int .i64 s.fr), .lit (.int .i64 s.tt)]
def stR : Value → Option (DataW Unit × List MemPlace)
  | .agg a => match a.toList with
    | [.int .i64 x, .int .i64 y, .int .i64 z] => some (stE ⟨x, y, z⟩, [])
    | _ => none
  | _ => none
theorem stR_mk (s : St) : stR (stV s) = some (stE s, []) := rfl
theorem stR_inv {v : Value} {y : DataW Unit × List MemPlace} (h : stR v = some y) : ∃ s, v = stV s ∧ y = (stE s, []) := by
  unfold stR at h
  split at h
  · rename_i a
    split at h
    · rename_i x y z he
      refine ⟨⟨x, y, z⟩, ?_, by injection h with h; exact h.symm⟩
      show Value.agg a = Value.agg #[.int .i64 x, .int .i64 y, .int .i64 z]
      congr 1
      exact Array.toList_inj.1 he
    · cases h
  · cases h
theorem stE_inj {s t : St} (h : stE s = stE t) : s = t := by
  cases s; cases t
  simp [stE] at h
  obtain ⟨rfl, rfl, rfl⟩ := h
  rfl
/-- D reads as the function M. -/
def Reads (D : DataW Unit) (M : Int → Option St) : Prop :=
  (∀ x, has D (.int .i64 x) = (M x).isSome) ∧ ∀ x z, D.atKey (.int .i64 x) z = match M x with | none => z | some s => stE s
def mput (M : Int → Option St) (x : Int) (s : St) : Int → Option St := fun y => if y = x then some s else M y
def mdel (M : Int → Option St) (x : Int) : Int → Option St := fun y => if y = x then none else M y
theorem Reads.nil : Reads (.map []) (fun _ => none) := ⟨fun x => by simp [has], fun x z => rfl⟩
theorem Reads.put {D : DataW Unit} {M : Int → Option St} (h : Reads D M) (hD : IsMap D) (x : Int) (s : St) : Reads (D.put (.int .i64 x) (stE s)) (mput M x s) := by
  refine ⟨fun y => ?_, fun y z => ?_⟩
  · unfold mput
    by_cases e : y = x
    · subst e
      rw [has_put_same hD (by trivial), if_pos rfl]
      rfl
    · rw [has_put_other (fun e' => e (by injection e')), if_neg e]
      exact h.1 y
  · unfold mput
    by_cases e : y = x
    · subst e
      rw [atKey_put_same hD (by trivial), if_pos rfl]
    · rw [atKey_put_other (fun e' => e (by injection e')), if_neg e]
      exact h.2 y z
theorem Reads.del {D : DataW Unit} {M : Int → Option St} (h : Reads D M) (x : Int) : Reads (D.del (.int .i64 x)) (mdel M x) := by
  refine ⟨fun y => ?_, fun y z => ?_⟩
  · unfold mdel
    by_cases e : y = x
    · subst e
      rw [has_del_same, if_pos rfl]
      rfl
    · rw [has_del_other (fun e' => e (by injection e')), if_neg e]
      exact h.1 y
  · unfold mdel
    by_cases e : y = x
    · subst e
      rw [atKey_del_same, if_pos rfl]
    · rw [atKey_del_other (fun e' => e (by injection e')), if_neg e]
      exact h.2 y z
theorem Reads.congr {D : DataW Unit} {M M' : Int → Option St} (h : Reads D M) (e : ∀ x, M x = M' x) : Reads D M' := by
  have : M = M' := funext e
  subst this
  exact h
/-- Block gm of w is a map of at most n entries that reads as M. -/
structure HM (w : World) (gm n : Nat) (M : Int → Option St) : Prop where
  out : ∃ D : DataW Unit, w.ownsMap Try.prog 3 stR gm n D ∧ Reads D M
section
variable {w w' : World} {gm n : Nat} {M : Int → Option St}
theorem K3 : Keyed Try.prog 3 := int_keyed Try.underlying3
theorem key3 {x : Int} (h : (Lit.int .i64 x).wf = true) : keyOf Try.prog 3 (.int .i64 x) = some (.int .i64 x) := keyOf_int_mk Try.underlying3 h
theorem zero61 (w : World) : (zeroValue 61).run Try.prog w = .ok (stV ⟨0, 0, 0⟩) w := Try.zeroValue61 w
theorem HM.new (h : w.heap[gm]? = some (.map #[] 0)) : HM w gm 0 (fun _ => none) := by
  refine ⟨.map [], ?_, Reads.nil⟩
  obtain ⟨es, clock, hb, F, hs, hD⟩ := World.ownsMap_made w Try.prog 3 stR
  have e : (w.alloc (.map #[] 0)).heap[w.heap.size]? = some (.map #[] 0) := blk_new w _
  rw [e] at hb
  injection hb with hb
  injection hb with h1 h2
  subst h1
  subst h2
  exact ⟨_, _, h, F, hs, hD⟩
theorem HM.kept {row : Option Nat} (h : HM w gm n M) (hg : w.grownBy w' row) (hne : some gm ≠ row) : HM w' gm n M := by
  obtain ⟨D, h1, h2⟩ := h.out
  exact ⟨D, h1.kept hg hne, h2⟩
theorem HM.set (h : HM w gm n M) {a : Addr} (ha : gm ≠ a.block) (u : Value) : HM (w.setCell a u) gm n M := by
  obtain ⟨D, h1, h2⟩ := h.out
  exact ⟨D, h1.setCell ha u, h2⟩
theorem HM.lt (h : HM w gm n M) : gm < w.heap.size := by
  obtain ⟨D, h1, h2⟩ := h.out
  exact h1.lt
theorem HM.mono (h : HM w gm n M) {n' : Nat} (hn : n ≤ n') : HM w gm n' M := by
  obtain ⟨D, h1, h2⟩ := h.out
  exact ⟨D, h1.mono hn, h2⟩
theorem HM.look (h : HM w gm n M) {x : Int} (hx : (Lit.int .i64 x).wf = true) : (Instr.lookup 56 (.map (some gm)) (.int .i64 x) false).run Try.prog w = .ok (stV ((M x).getD ⟨0, 0, 0⟩)) w := by
  obtain ⟨D, h1, h2⟩ := h.out
  obtain ⟨v, ps, hrun, hv⟩ := h1.lookup K3 Try.underlying56 (zero61 w) (stR_mk ⟨0, 0, 0⟩) (key3 hx)
  obtain ⟨s, rfl, hs⟩ := stR_inv hv
  rw [hrun]
  have e : D.atKey (.int .i64 x) (stE ⟨0, 0, 0⟩) = stE s := (Prod.mk.inj hs).1
  rw [h2.2] at e
  cases hM : M x with
  | none =>
    rw [hM] at e
    rw [stE_inj e]
    rfl
  | some t =>
    rw [hM] at e
    rw [stE_inj e]
    rfl
theorem HM.look_ok (h : HM w gm n M) {x : Int} (hx : (Lit.int .i64 x).wf = true) : (Instr.lookup 56 (.map (some gm)) (.int .i64 x) true).run Try.prog w = .ok (.tuple #[stV ((M x).getD ⟨0, 0, 0⟩), .bool (M x).isSome]) w := by
  obtain ⟨D, h1, h2⟩ := h.out
  obtain ⟨v, ps, hrun, hv⟩ := h1.look_ok K3 Try.underlying56 (zero61 w) (stR_mk ⟨0, 0, 0⟩) (key3 hx)
  obtain ⟨s, rfl, hs⟩ := stR_inv hv
  rw [hrun, h2.1]
  have e : D.atKey (.int .i64 x) (stE ⟨0, 0, 0⟩) = stE s := (Prod.mk.inj hs).1
  rw [h2.2] at e
  cases hM : M x with
  | none =>
    rw [hM] at e
    rw [stE_inj e]
    rfl
  | some t =>
    rw [hM] at e
    rw [stE_inj e]
    rfl
theorem HM.update (h : HM w gm n M) (hn : n < maxLen) {x : Int} (hx : (Lit.int .i64 x).wf = true) (s : St) : ∃ w', (Instr.mapUpdate 56 (.map (some gm)) (.int .i64 x) (stV s)).run Try.prog w = .ok () w' ∧ HM w' gm (n + 1) (mput M x s) ∧ w.grownBy w' (some gm) := by
  obtain ⟨D, h1, h2⟩ := h.out
  obtain ⟨w', hrun, h3, h4⟩ := h1.update K3 Try.underlying56 hn (key3 hx) (stR_mk s)
  exact ⟨w', hrun, ⟨_, h3, h2.put h1.isMap x s⟩, h4⟩
/-- A range over it is under way: left tells what is still to come. -/
structure HR (w : World) (gm r n : Nat) (M : Int → Option St) (left : Lit → Bool) (cnt : Nat) : Prop where
  out : ∃ D : DataW Unit, w.ranges Try.prog 3 stR gm r n D left cnt ∧ Reads D M
theorem HR.owns {r cnt : Nat} {left : Lit → Bool} (h : HR w gm r n M left cnt) : HM w gm n M := by
  obtain ⟨D, h1, h2⟩ := h.out
  exact ⟨D, h1.owns, h2⟩
theorem HR.kept {r cnt : Nat} {left : Lit → Bool} {row : Option Nat} (h : HR w gm r n M left cnt) (hg : w.grownBy w' row) (hb : some gm ≠ row) (hr : some r ≠ row) : HR w' gm r n M left cnt := by
  obtain ⟨D, h1, h2⟩ := h.out
  exact ⟨D, h1.kept hg hb hr, h2⟩
theorem HM.range (h : HM w gm n M) : ∃ w' left cnt, (Instr.range 56 (.map (some gm))).run Try.prog w = .ok (.pointer (some ⟨w.heap.size, 0, none⟩)) w' ∧ HR w' gm w.heap.size n M left cnt ∧ (∀ x, left (.int .i64 x) = (M x).isSome) ∧ w.grownBy w' none ∧ w'.heap.size = w.heap.size + 1 := by
  obtain ⟨D, h1, h2⟩ := h.out
  obtain ⟨w', hrun, h3, h4, h5⟩ := h1.range K3 Try.underlying56
  exact ⟨w', _, _, hrun, ⟨D, h3, h2⟩, h2.1, h4, h5⟩
theorem HR.next {r cnt : Nat} {left : Lit → Bool} (h : HR w gm r n M left cnt) (ty : TypeId) :
    ((∀ kl, left kl = false) ∧ (Instr.next (.pointer (some ⟨r, 0, none⟩)) false ty).run Try.prog w = .ok (.tuple #[.bool false]) w) ∨
    ∃ x s w' cnt', (Lit.int .i64 x).wf = true ∧ left (.int .i64 x) = true ∧ M x = some s ∧ (Instr.next (.pointer (some ⟨r, 0, none⟩)) false ty).run Try.prog w = .ok (.tuple #[.bool true, .int .i64 x, stV s]) w' ∧
      HR w' gm r n M (fun z => left z && !z.sameKey (.int .i64 x)) cnt' ∧ cnt' < cnt ∧ w.grownBy w' (some r) ∧ w'.heap.size = w.heap.size ∧ (Instr.entry (.pointer (some ⟨r, 0, none⟩))).run Try.prog w' = .ok (.tuple #[.int .i64 x, stV s]) w' := by
  obtain ⟨D, h1, h2⟩ := h.out
  rcases h1.next K3 ty with ⟨_, hl, hrun⟩ | ⟨key, v, kl, y, w', cnt', hk, hl, hv, ha, hrun, h3, h4, h5, h6, h7⟩
  · exact .inl ⟨hl, hrun⟩
  · obtain ⟨x, rfl, rfl, hx⟩ := Maps.keyOf_int_inv Try.underlying3 hk
    obtain ⟨s, rfl, rfl⟩ := stR_inv hv
    refine .inr ⟨x, s, w', cnt', hx, hl, ?_, hrun, ⟨D, h3, h2⟩, h4, h5, h6, h7⟩
    have e := ha (stE ⟨s.pl + 1, 0, 0⟩)
    rw [h2.2] at e
    cases hM : M x with
    | none =>
      rw [hM] at e
      have := stE_inj e
      rw [← this] at e
      exact absurd (congrArg St.pl this) (by simp; omega)
    | some t =>
      rw [hM] at e
      rw [stE_inj e]
theorem HR.drop {r cnt : Nat} {left : Lit → Bool} (h : HR w gm r n M left cnt) {x : Int} (hx : (Lit.int .i64 x).wf = true) (ty : TypeId) :
    ∃ w' cnt', (Builtin.delete_ #[56, 3] ty #[.map (some gm), .int .i64 x]).run Try.prog w = .ok (.tuple #[]) w' ∧ HR w' gm r n (mdel M x) (fun z => left z && !z.sameKey (.int .i64 x)) cnt' ∧ cnt' ≤ cnt ∧ w.grownBy w' (some gm) := by
  obtain ⟨D, h1, h2⟩ := h.out
  obtain ⟨w', cnt', hrun, h3, h4, h5⟩ := h1.drop K3 Try.underlying56 (key3 hx) ty
  exact ⟨w', cnt', hrun, ⟨_, h3, h2.del x⟩, h4, h5.grown⟩
end
end Go.Proofs.Ytfjenooajbdcmaa.GM
namespace Go.Proofs.Ytfjenooajbdcmaa.GM
open Go Go.RowKit Go.Maps Go.Proofs.YtfjenooajbdcmaaW.PrintWords
set_option linter.unusedVariables false
section
variable {w : World} {ops : Array Oper} {rest : List Oper} {o : Oper} {a : Act} {Q : Exit → Act → World → Prop} {gm n : Nat} {M : Int → Option St}
theorem wp_range (m : Operand) (hg : o.guard = none) (hop : o.op = Op.range 56 m) (hm : a.eval m = .map (some gm)) (h : HM w gm n M)
    (hK : ∀ w' left cnt, HR w' gm w.heap.size n M left cnt → (∀ x, left (.int .i64 x) = (M x).isSome) → w.grownBy w' none → w'.heap.size = w.heap.size + 1 → wpList Try.prog ops Q rest (a.put o.dst (.pointer (some ⟨w.heap.size, 0, none⟩))) w') :
    wpList Try.prog ops Q (o :: rest) a w := by
  refine wpList_plain hg fun K' hK' => ?_
  obtain ⟨w', left, cnt, hrun, r1, r2, r3, r4⟩ := h.range
  unfold Oper.wp
  simp [execOp, hop, hm, hrun, Result.andThen]
  exact hK' _ _ (hK w' left cnt r1 r2 r3 r4)
theorem wp_next {r cnt : Nat} {left : Lit → Bool} (it : Operand) (hg : o.guard = none) (hop : o.op = Op.next it false) (hit : a.eval it = .pointer (some ⟨r, 0, none⟩)) (h : HR w gm r n M left cnt)
    (hDone : (∀ kl, left kl = false) → wpList Try.prog ops Q rest (a.put o.dst (.tuple #[.bool false])) w)
    (hMore : ∀ x s w' cnt', (Lit.int .i64 x).wf = true → left (.int .i64 x) = true → M x = some s → HR w' gm r n M (fun z => left z && !z.sameKey (.int .i64 x)) cnt' → cnt' < cnt → w.grownBy w' (some r) → w'.heap.size = w.heap.size →
      (Instr.entry (.pointer (some ⟨r, 0, none⟩))).run Try.prog w' = .ok (.tuple #[.int .i64 x, (.agg #[.int .i64 s.pl, .int .i64 s.fr, .int .i64 s.tt])]) w' → wpList Try.prog ops Q rest (a.put o.dst (.tuple #[.bool true, .int .i64 x, (.agg #[.int .i64 s.pl, .int .i64 s.fr, .int .i64 s.tt])])) w') :
    wpList Try.prog ops Q (o :: rest) a w := by
  refine wpList_plain hg fun K' hK' => ?_
  unfold Oper.wp
  rcases h.next o.type with ⟨hl, hrun⟩ | ⟨x, s, w', cnt', h1, h2, h3, hrun, h4, h5, h6, h7, h8⟩
  · simp [execOp, hop, hit, hrun, Result.andThen]
    exact hK' _ _ (hDone hl)
  · simp [execOp, hop, hit, hrun, Result.andThen]
    exact hK' _ _ (hMore x s w' cnt' h1 h2 h3 h4 h5 h6 h7 h8)
theorem wp_delete {r cnt : Nat} {left : Lit → Bool} (m x : Operand) (hg : o.guard = none) (hop : o.op = Op.call { callee := Callee.builtin Builtin.delete, args := #[m, x], argTypes := #[56, 3] })
    (hm : a.eval m = .map (some gm)) (k : Int) (hx : a.eval x = .int .i64 k) (h : HR w gm r n M left cnt) (hk : (Lit.int .i64 k).wf = true)
    (hK : ∀ w' cnt', HR w' gm r n (mdel M k) (fun z => left z && !z.sameKey (.int .i64 k)) cnt' → cnt' ≤ cnt → w.grownBy w' (some gm) → wpList Try.prog ops Q rest (a.put o.dst (.tuple #[])) w') :
    wpList Try.prog ops Q (o :: rest) a w := by
  refine wpList_plain hg fun K' hK' => ?_
  obtain ⟨w', cnt', hrun, r1, r2, r3⟩ := h.drop hk o.type
  unfold Oper.wp
  simp [execOp, hop, resolve, invoke, builtin, hm, hx, hrun, Result.andThen]
  exact hK' _ _ (hK w' cnt' r1 r2 r3)
theorem wp_update (m x v : Operand) (hg : o.guard = none) (hop : o.op = Op.mapUpdate 56 m x v) (hm : a.eval m = .map (some gm)) (k : Int) (s : St) (hx : a.eval x = .int .i64 k) (hv : a.eval v = stV s)
    (h : HM w gm n M) (hn : n < maxLen) (hk : (Lit.int .i64 k).wf = true)
    (hK : ∀ w', HM w' gm (n + 1) (mput M k s) → w.grownBy w' (some gm) → wpList Try.prog ops Q rest (a.put o.dst undef) w') :
    wpList Try.prog ops Q (o :: rest) a w := by
  refine wpList_plain hg fun K' hK' => ?_
  obtain ⟨w', hrun, r1, r2⟩ := h.update hn hk s
  unfold Oper.wp
  simp [execOp, hop, hm, hx, hv, hrun, Result.andThen]
  exact hK' _ _ (hK w' r1 r2)
end
theorem same_int (x y : Int) : (Lit.int .i64 y).sameKey (.int .i64 x) = decide (y = x) := by
  simp [Lit.sameKey]
/-- What a predicate leaves of M, where left tells what is still to come. -/
def mleft (M : Int → Option St) (p : Int → St → Bool) (left : Lit → Bool) : Int → Option St := fun x => if left (.int .i64 x) = true then M x else (M x).filter fun s => !p x s
theorem mleft_start {M : Int → Option St} {p : Int → St → Bool} {left : Lit → Bool} (h : ∀ x, left (.int .i64 x) = (M x).isSome) (x : Int) : M x = mleft M p left x := by
  unfold mleft
  rw [h]
  cases M x <;> rfl
theorem mleft_at {M : Int → Option St} {p : Int → St → Bool} {left : Lit → Bool} {x : Int} {s : St} (hl : left (.int .i64 x) = true) (h : mleft M p left x = some s) : M x = some s := by
  unfold mleft at h
  rwa [if_pos hl] at h
theorem mleft_keep {M : Int → Option St} {p : Int → St → Bool} {left : Lit → Bool} {x : Int} {s : St} (hl : left (.int .i64 x) = true) (hM : M x = some s) (hp : p x s = false) (y : Int) :
    mleft M p left y = mleft M p (fun z => left z && !z.sameKey (.int .i64 x)) y := by
  unfold mleft
  show _ = if (left (.int .i64 y) && !(Lit.int .i64 y).sameKey (.int .i64 x)) = true then M y else _
  rw [same_int]
  by_cases e : y = x
  · subst e
    rw [if_pos hl, hl, decide_eq_true rfl, if_neg (by decide), hM]
    simp [Option.filter, hp]
  · rw [decide_eq_false e]
    cases left (.int .i64 y) <;> rfl
theorem mleft_del {M : Int → Option St} {p : Int → St → Bool} {left : Lit → Bool} {x : Int} {s : St} (hl : left (.int .i64 x) = true) (hM : M x = some s) (hp : p x s = true) (y : Int) :
    mdel (mleft M p left) x y = mleft M p (fun z => left z && !z.sameKey (.int .i64 x)) y := by
  unfold mleft mdel
  show _ = if (left (.int .i64 y) && !(Lit.int .i64 y).sameKey (.int .i64 x)) = true then M y else _
  rw [same_int]
  by_cases e : y = x
  · subst e
    rw [if_pos rfl, hl, decide_eq_true rfl, if_neg (by decide), hM]
    simp [Option.filter, hp]
  · rw [if_neg e, decide_eq_false e]
    cases h : left (.int .i64 y) <;> simp [h]
theorem HR.congr {w : World} {gm r n cnt : Nat} {M M' : Int → Option St} {left : Lit → Bool} (h : HR w gm r n M left cnt) (e : ∀ x, M x = M' x) : HR w gm r n M' left cnt := by
  obtain ⟨D, h1, h2⟩ := h.out
  exact ⟨D, h1, h2.congr e⟩
theorem HM.congr {w : World} {gm n : Nat} {M M' : Int → Option St} (h : HM w gm n M) (e : ∀ x, M x = M' x) : HM w gm n M' := by
  obtain ⟨D, h1, h2⟩ := h.out
  exact ⟨D, h1, h2.congr e⟩
theorem HR.left_congr {w : World} {gm r n cnt : Nat} {M : Int → Option St} {left left' : Lit → Bool} (h : HR w gm r n M left cnt) (e : ∀ z, left z = left' z) : HR w gm r n M left' cnt := by
  have : left = left' := funext e
  subst this
  exact h
end Go.Proofs.Ytfjenooajbdcmaa.GM
