/- By hand: a map from pairs of whole numbers to whole numbers, as a function; its operations' runs. -/
import Derived.Test.YtfhmjleimampeaaWMore
import Derived.Test.YtfhmjleimampeaaProg
import Derived.Maps.Own
import Derived.Maps.OwnSet
import Derived.Maps.Range
import Derived.Maps.RangeWalk
import Derived.WideKeyEntry
import Derived.DeepKeys4
import Derived.WalkSpells
import Derived.KernelRfl
namespace Go.Proofs.Ytfhmjleimampeaa.KM
open Go Go.RowKit Go.Maps Go.Proofs.YtfhmjleimampeaaW.PrintWords
set_option linter.unusedVariables false
set_option linter.unusedSimpArgs false
/-- A key: how many places, and their sum. -/
structure Ky where
  pl : Int
  sm : Int
def kyV (k : Ky) : Value := .agg #[.int .i64 k.pl, .int .i64 k.sm]
def kyL (k : Ky) : Lit := .string (keyBytes [.int .i64 k.pl, .int .i64 k.sm])
def Ky.ok (k : Ky) : Prop := (Lit.int .i64 k.pl).wf = true ∧ (Lit.int .i64 k.sm).wf = true
theorem laidOut_ : laidOutB Try.prog = true := by kernel_rfl
theorem row_ : (80 : TypeId) < Try.prog.types.size := of_decide_eq_true (by kernel_rfl)
theorem wide_ : (match Try.prog.underlying 80 with | some (.array _ _) | some (.struct _) => true | _ => false) = true := by rw [Try.underlying80]
set_option maxRecDepth 100000 in
theorem lawK : WideMaps.KeyLaw Try.prog 80 := deep_law_laid laidOut_ (m := 2) (by omega) row_ (by kernel_rfl) wide_
theorem KK : Keyed Try.prog 80 := Keyed.of_law lawK
theorem cellsK : Try.prog.cellsOf 80 = 2 := by kernel_rfl
theorem cellsI : Try.prog.cellsOf 3 = 1 := by kernel_rfl
theorem typeK : Try.prog.keyType 80 = true := by kernel_rfl
theorem lits_mk {k : Ky} (h : k.ok) (d : Nat) : Try.prog.keyLits (d + 2) 80 [.int .i64 k.pl, .int .i64 k.sm] = some [.int .i64 k.pl, .int .i64 k.sm] := by
  obtain ⟨h1, h2⟩ := h
  unfold Program.keyLits
  rw [Try.underlying80]
  simp only
  rw [if_pos ⟨by rw [cellsK]; rfl, by kernel_rfl⟩]
  simp [List.mapM_cons, cellsI, Program.keyLits, Try.underlying3, h1, h2]
theorem types_sz : ∃ d, Try.prog.types.size + 1 = d + 2 := ⟨Try.prog.types.size - 1, by have h : 0 < Try.prog.types.size := Nat.lt_of_le_of_lt (Nat.zero_le _) row_; omega⟩
set_option maxRecDepth 100000 in
theorem keyK {k : Ky} (h : k.ok) : keyOf Try.prog 80 (kyV k) = some (kyL k) := by
  obtain ⟨d, hd⟩ := types_sz
  have hf : (kyV k).formed Try.prog 80 = true := by
    simp [kyV, Value.formed, Try.underlying80, cellsK]
  unfold keyOf
  rw [Try.underlying80]
  simp only
  rw [typeK, hf, hd]
  simp only [Bool.and_self, if_true]
  have := lits_mk h d
  rw [show (kyV k).cells.toList = [.int .i64 k.pl, .int .i64 k.sm] from rfl, this]
  rfl
set_option maxRecDepth 100000 in
theorem keyK_inv {v : Value} {l : Lit} (h : keyOf Try.prog 80 v = some l) : ∃ k : Ky, k.ok ∧ v = kyV k ∧ l = kyL k := by
  obtain ⟨d, hd⟩ := types_sz
  have h0 := h
  unfold keyOf at h
  rw [Try.underlying80] at h
  simp only at h
  rw [typeK, hd] at h
  split at h
  · rename_i hf
    rw [Bool.true_and] at hf
    cases v with
    | agg cs =>
      have hs : cs.size = 2 := by
        simpa [Value.formed, Try.underlying80, cellsK] using hf
      obtain ⟨x, y, rfl⟩ : ∃ x y, cs = #[x, y] := by
        obtain ⟨l⟩ := cs
        match l, hs with
        | [x, y], _ => exact ⟨x, y, rfl⟩
      rw [show (Value.agg #[x, y]).cells.toList = [x, y] from rfl] at h
      unfold Program.keyLits at h
      rw [Try.underlying80] at h
      simp only at h
      rw [if_pos ⟨by rw [cellsK]; rfl, by kernel_rfl⟩] at h
      simp only [List.mapM_cons, cellsI, Program.keyLits, Try.underlying3, List.mapM_nil, List.drop_zero, List.drop_succ_cons, List.take_succ_cons, List.take_zero] at h
      cases x with
      | int q a =>
        cases y with
        | int q' b =>
          by_cases c1 : q = .i64 ∧ (Lit.int .i64 a).wf = true
          · by_cases c2 : q' = .i64 ∧ (Lit.int .i64 b).wf = true
            · obtain ⟨rfl, c1⟩ := c1
              obtain ⟨rfl, c2⟩ := c2
              refine ⟨⟨a, b⟩, ⟨c1, c2⟩, rfl, ?_⟩
              have h1 := keyK (k := ⟨a, b⟩) ⟨c1, c2⟩
              have h2 : keyOf Try.prog 80 (kyV ⟨a, b⟩) = some l := h0
              rw [h1] at h2
              injection h2 with h2
              exact h2.symm
            · simp [c1, c2] at h
          · simp [c1] at h
        | _ => simp at h
      | _ => simp at h
    | _ =>
      exfalso
      simp [Value.formed, Try.underlying80] at hf
  · cases h
theorem kyL_inj {k k' : Ky} (h : k.ok) (h' : k'.ok) (e : kyL k = kyL k') : k = k' := by
  have := KK.inj (keyK h) (e ▸ keyK h')
  cases k; cases k'
  simp [kyV] at this
  simp [this]
theorem same_ky {k k' : Ky} (h : k.ok) (h' : k'.ok) : (kyL k).sameKey (kyL k') = true ↔ k = k' := by
  constructor
  · intro hs
    have : kyL k = kyL k' := by
      unfold kyL at hs ⊢
      simp only [Lit.sameKey, beq_iff_eq] at hs
      rw [hs]
    exact kyL_inj h h' this
  · rintro rfl
    simp [kyL, Lit.sameKey]
def iE (n : Int) : DataW Unit := .lit (.int .i64 n)
def iR : Value → Option (DataW Unit × List MemPlace)
  | .int .i64 n => some (iE n, [])
  | _ => none
theorem iR_mk (n : Int) : iR (.int .i64 n) = some (iE n, []) := rfl
theorem iR_inv {v : Value} {y : DataW Unit × List MemPlace} (h : iR v = some y) : ∃ n, v = .int .i64 n ∧ y = (iE n, []) := by
  unfold iR at h
  split at h
  · rename_i n
    exact ⟨n, rfl, by injection h with h; exact h.symm⟩
  · cases h
theorem iE_inj {m n : Int} (h : iE m = iE n) : m = n := by
  simp [iE] at h
  exact h
/-- D reads as the function M. -/
def Reads (D : DataW Unit) (M : Ky → Option Int) : Prop :=
  (∀ k : Ky, k.ok → has D (kyL k) = (M k).isSome) ∧ ∀ k : Ky, k.ok → ∀ z, D.atKey (kyL k) z = match M k with | none => z | some n => iE n
open Classical in
noncomputable def mput (M : Ky → Option Int) (k : Ky) (n : Int) : Ky → Option Int := fun y => if y = k then some n else M y
theorem Reads.nil : Reads (.map []) (fun _ => none) := ⟨fun k _ => by simp [has], fun k _ z => rfl⟩
theorem Reads.put {D : DataW Unit} {M : Ky → Option Int} (h : Reads D M) (hD : IsMap D) {k : Ky} (hk : k.ok) (n : Int) : Reads (D.put (kyL k) (iE n)) (mput M k n) := by
  refine ⟨fun y hy => ?_, fun y hy z => ?_⟩
  · unfold mput
    by_cases e : y = k
    · subst e
      rw [has_put_same hD (by trivial), if_pos rfl]
      rfl
    · rw [has_put_other (fun e' => e (kyL_inj hy hk e')), if_neg e]
      exact h.1 y hy
  · unfold mput
    by_cases e : y = k
    · subst e
      rw [atKey_put_same hD (by trivial), if_pos rfl]
    · rw [atKey_put_other (fun e' => e (kyL_inj hy hk e')), if_neg e]
      exact h.2 y hy z
/-- Block gm of w is a map of at most n entries that reads as M. -/
structure HM (w : World) (gm n : Nat) (M : Ky → Option Int) : Prop where
  out : ∃ D : DataW Unit, w.ownsMap Try.prog 80 iR gm n D ∧ Reads D M
/-- A range over it is under way: left tells what is still to come, at most cnt entries. -/
structure HR (w : World) (gm r n : Nat) (M : Ky → Option Int) (left : Lit → Bool) (cnt : Nat) : Prop where
  out : ∃ D : DataW Unit, w.ranges Try.prog 80 iR gm r n D left cnt ∧ Reads D M
section
variable {w w' : World} {gm n : Nat} {M : Ky → Option Int}
theorem zero3 (w : World) : (zeroValue 3).run Try.prog w = .ok (.int .i64 0) w := Try.zeroValue3 w
theorem HM.new (h : w.heap[gm]? = some (.map #[] 0)) : HM w gm 0 (fun _ => none) := by
  refine ⟨.map [], ?_, Reads.nil⟩
  obtain ⟨es, clock, hb, F, hs, hD⟩ := World.ownsMap_made w Try.prog 80 iR
  have e : (w.alloc (.map #[] 0)).heap[w.heap.size]? = some (.map #[] 0) := blk_new w _
  rw [e] at hb
  injection hb with hb
  injection hb with h1 h2
  subst h1
  subst h2
  exact ⟨_, _, h, F, hs, hD⟩
theorem HM.kept {row : Option Nat} (h : HM w gm n M) (hg : w.grownBy w' row) (hne : some gm ≠ row) : HM w' gm n M := by
  obtain ⟨D, h1, h2⟩ := h.out
  exact ⟨D, h1.kept hg hne, h2⟩
theorem HM.set (h : HM w gm n M) {a : Addr} (ha : gm ≠ a.block) (u : Value) : HM (w.setCell a u) gm n M := by
  obtain ⟨D, h1, h2⟩ := h.out
  exact ⟨D, h1.setCell ha u, h2⟩
theorem HM.drew (h : HM w gm n M) : HM w.drew gm n M := by
  obtain ⟨D, h1, h2⟩ := h.out
  exact ⟨D, h1.drew, h2⟩
theorem HM.lt (h : HM w gm n M) : gm < w.heap.size := by
  obtain ⟨D, h1, h2⟩ := h.out
  exact h1.lt
theorem HM.mono (h : HM w gm n M) {n' : Nat} (hn : n ≤ n') : HM w gm n' M := by
  obtain ⟨D, h1, h2⟩ := h.out
  exact ⟨D, h1.mono hn, h2⟩
theorem HM.congr {M' : Ky → Option Int} (h : HM w gm n M) (e : ∀ k : Ky, k.ok → M k = M' k) : HM w gm n M' := by
  obtain ⟨D, h1, h2⟩ := h.out
  exact ⟨D, h1, ⟨fun k hk => by rw [← e k hk]; exact h2.1 k hk, fun k hk z => by rw [← e k hk]; exact h2.2 k hk z⟩⟩
theorem HM.look (h : HM w gm n M) {k : Ky} (hk : k.ok) : (Instr.lookup 81 (.map (some gm)) (kyV k) false).run Try.prog w = .ok (.int .i64 ((M k).getD 0)) w := by
  obtain ⟨D, h1, h2⟩ := h.out
  obtain ⟨v, ps, hrun, hv⟩ := h1.lookup KK Try.underlying81 (zero3 w) (iR_mk 0) (keyK hk)
  obtain ⟨s, rfl, hs⟩ := iR_inv hv
  rw [hrun]
  have e : D.atKey (kyL k) (iE 0) = iE s := (Prod.mk.inj hs).1
  rw [h2.2 k hk] at e
  cases hM : M k with
  | none =>
    rw [hM] at e
    rw [← iE_inj e]
    rfl
  | some t =>
    rw [hM] at e
    rw [← iE_inj e]
    rfl
theorem HM.update (h : HM w gm n M) (hn : n < maxLen) {k : Ky} (hk : k.ok) (x : Int) : ∃ w', (Instr.mapUpdate 81 (.map (some gm)) (kyV k) (.int .i64 x)).run Try.prog w = .ok () w' ∧ HM w' gm (n + 1) (mput M k x) ∧ w.grownBy w' (some gm) := by
  obtain ⟨D, h1, h2⟩ := h.out
  obtain ⟨w', hrun, h3, h4⟩ := h1.update KK Try.underlying81 hn (keyK hk) (iR_mk x)
  exact ⟨w', hrun, ⟨_, h3, h2.put h1.isMap hk x⟩, h4⟩
theorem entry2 {b clock : Nat} {es : Array MapEntry} {key : Value} {kl : Lit} (hb : w.heap[b]? = some (.map es clock)) (F : WideElems.Fit Try.prog 80 iR es clock) (hkey : keyOf Try.prog 80 key = some kl) :
    ∃ (v0 : Value) (st : Nat) (es1 : Array MapEntry) (clock1 : Nat), (Instr.mapEntry 81 (.map (some b)) key).run Try.prog w = .ok (.tuple #[v0, goInt st]) (ChangeMaps.setBlock w b (.map es1 clock1)) ∧
      (Instr.lookup 81 (.map (some b)) key false).run Try.prog w = .ok v0 w ∧ (Instr.mapUpdate 81 (.map (some b)) key v0).run Try.prog w = .ok () (ChangeMaps.setBlock w b (.map es1 clock1)) := by
  obtain ⟨s1, s2, _⟩ := F.stamped
  have ht := Try.underlying81
  rcases lawK.find w hkey es.toList F.keys with ⟨h1, h2⟩ | ⟨j, e0, h1, h2, h3⟩
  · refine ⟨.int .i64 0, clock, es.push ⟨key, .int .i64 0, clock⟩, clock + 1, ?_, ?_, ?_⟩
    · simp [Instr.mapEntry, run_underlying ht, MapKept.run_getObj_map hb, lawK.check w false hkey, h1, zero3, MapKept.run_setObj_map _ hb, Result.andThen, ChangeMaps.setBlock]
    · simp [Instr.lookup, run_underlying ht, MapKept.run_getObj_map hb, lawK.check w _ hkey, h1, zero3, Result.andThen]
    · simp [Instr.mapUpdate, run_underlying ht, MapKept.run_getObj_map hb, lawK.check w false hkey, h1, MapKept.run_setObj_map _ hb, Result.andThen, ChangeMaps.setBlock]
  · have hj : es[j]? = some e0 := by simpa using h2
    have hsame : es.modify j (fun e => { e with key := key }) = es := by
      apply Array.ext'
      rw [Array.toList_modify, ChangeMaps.modify_eq_set _ _ _ _ h2]
      have : ({ e0 with key := key } : MapEntry) = e0 := by rw [← h3]
      rw [this]
      exact WideElems.set_self _ _ _ h2
    have hsame2 : es.modify j (fun e => { e with key := key, val := e0.val }) = es := by
      apply Array.ext'
      rw [Array.toList_modify, ChangeMaps.modify_eq_set _ _ _ _ h2]
      have : ({ e0 with key := key, val := e0.val } : MapEntry) = e0 := by rw [← h3]
      rw [this]
      exact WideElems.set_self _ _ _ h2
    refine ⟨e0.val, e0.born, es, clock, ?_, ?_, ?_⟩
    · simp [Instr.mapEntry, run_underlying ht, MapKept.run_getObj_map hb, lawK.check w false hkey, h1, hj, h3, lawK.stays w hkey, hsame, MapKept.run_setObj_map _ hb, Result.andThen, ChangeMaps.setBlock]
    · simp [Instr.lookup, run_underlying ht, MapKept.run_getObj_map hb, lawK.check w _ hkey, h1, Result.andThen]
    · simp [Instr.mapUpdate, run_underlying ht, MapKept.run_getObj_map hb, lawK.check w false hkey, h1, hj, h3, lawK.stays w hkey, hsame2, MapKept.run_setObj_map _ hb, Result.andThen, ChangeMaps.setBlock]
set_option maxRecDepth 100000 in
/-- The entry of a key is made ready: looking the key up tells what it told, and what is stored in it is as if the map were updated. -/
theorem HM.entry (h : HM w gm n M) (hn : n < maxLen) {k : Ky} (hk : k.ok) : ∃ (v0 : Value) (st : Nat) (w1 : World), (Instr.mapEntry 81 (.map (some gm)) (kyV k)).run Try.prog w = .ok (.tuple #[v0, goInt st]) w1 ∧ w.grownBy w1 (some gm) ∧
    (Instr.lookup 81 (.map (some gm)) (kyV k) false).run Try.prog w1 = .ok (.int .i64 ((M k).getD 0)) w1 ∧
    ∀ (w2 : World) (x : Int), w1.heap[gm]? = w2.heap[gm]? → ∃ w3, (Instr.entryStore 81 (.map (some gm)) (goInt st) (.int .i64 x)).run Try.prog w2 = .ok () w3 ∧ HM w3 gm (n + 1) (mput M k x) ∧ w2.grownBy w3 (some gm) := by
  obtain ⟨D, h1, h2⟩ := h.out
  obtain ⟨es, clock, hb, F, hs, hD⟩ := h1
  obtain ⟨v0, st, es1, clock1, hrun, hv, hst⟩ := WideElems.entry_then_store lawK Try.underlying81 zero3 hb F (keyK hk)
  obtain ⟨v0', st', es1', clock1', hrun', hlk, hup⟩ := entry2 hb F (keyK hk)
  have e1 := hrun'.symm.trans hrun
  injection e1 with e1 e2
  have hv0 : v0 = .int .i64 ((M k).getD 0) := by
    have h3 : HM w gm n M := ⟨_, ⟨es, clock, hb, F, hs, hD⟩, h2⟩
    have h4 := hlk.symm.trans (h3.look hk)
    injection h4 with h4
    injection e1 with e1
    have e3 : #[v0', goInt st'][0]? = #[v0, goInt st][0]? := by rw [e1]
    simp at e3
    rw [← e3, h4]
  have hup2 : (Instr.mapUpdate 81 (.map (some gm)) (kyV k) v0').run Try.prog w = .ok () (ChangeMaps.setBlock w gm (.map es1 clock1)) := by rw [hup, e2]
  have hv0' : v0' = .int .i64 ((M k).getD 0) := by
    have h3 : HM w gm n M := ⟨_, ⟨es, clock, hb, F, hs, hD⟩, h2⟩
    have h4 := hlk.symm.trans (h3.look hk)
    injection h4
  have h3 : HM w gm n M := ⟨_, ⟨es, clock, hb, F, hs, hD⟩, h2⟩
  obtain ⟨w', hr', hm', hg'⟩ := h3.update hn hk ((M k).getD 0)
  rw [hv0'] at hup2
  have e3 := hr'.symm.trans hup2
  injection e3 with _ e3
  subst e3
  have hlook := hm'.look hk
  have hb1 : (ChangeMaps.setBlock w gm (.map es1 clock1)).heap[gm]? = some (.map es1 clock1) := ChangeMaps.heap_setBlock_same hb _
  refine ⟨v0, st, _, hrun, hg', ?_, fun w2 x hw2 => ?_⟩
  · rw [hlook]
    simp [mput]
  · obtain ⟨es', clock', hst', hup'⟩ := hst w2 (.int .i64 x) (by rw [← hw2]; exact hb1)
    have hb2 : w2.heap[gm]? = some (.map es1 clock1) := by rw [← hw2]; exact hb1
    refine ⟨_, hst', ?_, ⟨rfl, rfl, rfl, by simp [ChangeMaps.setBlock], fun i _ hi => ChangeMaps.heap_setBlock_other hb2 _ (fun e => hi (by rw [e]))⟩⟩
    obtain ⟨w4, hr4, hm4, _⟩ := h3.update hn hk x
    have e4 := hr4.symm.trans hup'
    injection e4 with _ e4
    subst e4
    obtain ⟨D4, ⟨es4, clock4, hb4, F4, hs4, hD4⟩, h5⟩ := hm4.out
    have hb5 : (ChangeMaps.setBlock w gm (.map es' clock')).heap[gm]? = some (.map es' clock') := ChangeMaps.heap_setBlock_same hb _
    rw [hb5] at hb4
    injection hb4 with hb4
    injection hb4 with e5 e6
    subst e5
    subst e6
    exact ⟨D4, ⟨_, _, ChangeMaps.heap_setBlock_same hb2 _, F4, hs4, hD4⟩, h5⟩
theorem HR.owns {r cnt : Nat} {left : Lit → Bool} (h : HR w gm r n M left cnt) : HM w gm n M := by
  obtain ⟨D, h1, h2⟩ := h.out
  exact ⟨D, h1.owns, h2⟩
theorem HR.rlt {r cnt : Nat} {left : Lit → Bool} (h : HR w gm r n M left cnt) : r < w.heap.size := by
  obtain ⟨D, h1, h2⟩ := h.out
  exact h1.lt
theorem HR.kept {r cnt : Nat} {left : Lit → Bool} {row : Option Nat} (h : HR w gm r n M left cnt) (hg : w.grownBy w' row) (hb : some gm ≠ row) (hr : some r ≠ row) : HR w' gm r n M left cnt := by
  obtain ⟨D, h1, h2⟩ := h.out
  exact ⟨D, h1.kept hg hb hr, h2⟩
theorem HM.range (h : HM w gm n M) : ∃ w' left cnt, (Instr.range 81 (.map (some gm))).run Try.prog w = .ok (.pointer (some ⟨w.heap.size, 0, none⟩)) w' ∧ HR w' gm w.heap.size n M left cnt ∧ cnt ≤ n ∧ (∀ k : Ky, k.ok → left (kyL k) = (M k).isSome) ∧ w.grownBy w' none ∧ w'.heap.size = w.heap.size + 1 := by
  obtain ⟨D, h1, h2⟩ := h.out
  obtain ⟨w', hrun, h3, h4, h5⟩ := h1.range KK Try.underlying81
  exact ⟨w', _, _, hrun, ⟨D, h3, h2⟩, h1.size_le, h2.1, h4, h5⟩
theorem HR.next {r cnt : Nat} {left : Lit → Bool} (h : HR w gm r n M left cnt) (ty : TypeId) :
    ((∀ kl, left kl = false) ∧ (Instr.next (.pointer (some ⟨r, 0, none⟩)) false ty).run Try.prog w = .ok (.tuple #[.bool false]) w) ∨
    ∃ (k : Ky) (x : Int) (w' : World) (cnt' : Nat), k.ok ∧ left (kyL k) = true ∧ M k = some x ∧ (Instr.next (.pointer (some ⟨r, 0, none⟩)) false ty).run Try.prog w = .ok (.tuple #[.bool true, kyV k, .int .i64 x]) w' ∧
      HR w' gm r n M (fun z => left z && !z.sameKey (kyL k)) cnt' ∧ cnt' < cnt ∧ w.grownBy w' (some r) ∧ w'.heap.size = w.heap.size ∧ (Instr.entry (.pointer (some ⟨r, 0, none⟩))).run Try.prog w' = .ok (.tuple #[kyV k, .int .i64 x]) w' := by
  obtain ⟨D, h1, h2⟩ := h.out
  rcases h1.next KK ty with ⟨_, hl, hrun⟩ | ⟨key, v, kl, y, w', cnt', hk, hl, hv, ha, hrun, h3, h4, h5, h6, h7⟩
  · exact .inl ⟨hl, hrun⟩
  · obtain ⟨k, hok, rfl, rfl⟩ := keyK_inv hk
    obtain ⟨x, rfl, rfl⟩ := iR_inv hv
    refine .inr ⟨k, x, w', cnt', hok, hl, ?_, hrun, ⟨D, h3, h2⟩, h4, h5, h6, h7⟩
    have e := ha (iE (x + 1))
    rw [h2.2 k hok] at e
    cases hM : M k with
    | none =>
      rw [hM] at e
      have := iE_inj e
      omega
    | some t =>
      rw [hM] at e
      rw [iE_inj e]
end
section
variable {w : World} {ops : Array Oper} {rest : List Oper} {o : Oper} {a : Act} {Q : Exit → Act → World → Prop} {gm n : Nat} {M : Ky → Option Int}
theorem wp_range (m : Operand) (hg : o.guard = none) (hop : o.op = Op.range 81 m) (hm : a.eval m = .map (some gm)) (h : HM w gm n M)
    (hK : ∀ w' left cnt, HR w' gm w.heap.size n M left cnt → cnt ≤ n → (∀ k : Ky, k.ok → left (kyL k) = (M k).isSome) → w.grownBy w' none → w'.heap.size = w.heap.size + 1 → wpList Try.prog ops Q rest (a.put o.dst (.pointer (some ⟨w.heap.size, 0, none⟩))) w') :
    wpList Try.prog ops Q (o :: rest) a w := by
  refine wpList_plain hg fun K' hK' => ?_
  obtain ⟨w', left, cnt, hrun, r1, r2, r3, r4, r5⟩ := h.range
  unfold Oper.wp
  simp [execOp, hop, hm, hrun, Result.andThen]
  exact hK' _ _ (hK w' left cnt r1 r2 r3 r4 r5)
theorem wp_next {r cnt : Nat} {left : Lit → Bool} (it : Operand) (hg : o.guard = none) (hop : o.op = Op.next it false) (hit : a.eval it = .pointer (some ⟨r, 0, none⟩)) (h : HR w gm r n M left cnt)
    (hDone : (∀ kl, left kl = false) → wpList Try.prog ops Q rest (a.put o.dst (.tuple #[.bool false])) w)
    (hMore : ∀ (k : Ky) (x : Int) (w' : World) (cnt' : Nat), k.ok → left (kyL k) = true → M k = some x → HR w' gm r n M (fun z => left z && !z.sameKey (kyL k)) cnt' → cnt' < cnt → w.grownBy w' (some r) → w'.heap.size = w.heap.size →
      (Instr.entry (.pointer (some ⟨r, 0, none⟩))).run Try.prog w' = .ok (.tuple #[.agg #[.int .i64 k.pl, .int .i64 k.sm], .int .i64 x]) w' → wpList Try.prog ops Q rest (a.put o.dst (.tuple #[.bool true, .agg #[.int .i64 k.pl, .int .i64 k.sm], .int .i64 x])) w') :
    wpList Try.prog ops Q (o :: rest) a w := by
  refine wpList_plain hg fun K' hK' => ?_
  unfold Oper.wp
  rcases h.next o.type with ⟨hl, hrun⟩ | ⟨k, x, w', cnt', h1, h2, h3, hrun, h4, h5, h6, h7, h8⟩
  · simp [execOp, hop, hit, hrun, Result.andThen]
    exact hK' _ _ (hDone hl)
  · simp [execOp, hop, hit, hrun, Result.andThen]
    exact hK' _ _ (hMore k x w' cnt' h1 h2 h3 h4 h5 h6 h7 h8)
theorem wp_insert (m x v : Operand) (hg : o.guard = none) (hop : o.op = Op.insert 81 m x v) (hm : a.eval m = .map (some gm)) (k : Ky) (s : Int) (hx : a.eval x = .agg #[.int .i64 k.pl, .int .i64 k.sm]) (hv : a.eval v = .int .i64 s)
    (h : HM w gm n M) (hn : n < maxLen) (hk : k.ok)
    (hK : ∀ w', HM w' gm (n + 1) (mput M k s) → w.grownBy w' (some gm) → wpList Try.prog ops Q rest (a.put o.dst undef) w') :
    wpList Try.prog ops Q (o :: rest) a w := by
  refine wpList_plain hg fun K' hK' => ?_
  obtain ⟨w', hrun, r1, r2⟩ := h.update hn hk s
  have hrun' : (Instr.mapUpdate 81 (.map (some gm)) (.agg #[.int .i64 k.pl, .int .i64 k.sm]) (.int .i64 s)).run Try.prog w = .ok () w' := hrun
  unfold Oper.wp
  simp [execOp, hop, hm, hx, hv, hrun', Result.andThen]
  exact hK' _ _ (hK w' r1 r2)
end
theorem grown_set (w : World) (a : Addr) (u : Value) : w.grownBy (w.setCell a u) (some a.block) :=
  ⟨rfl, rfl, rfl, by simp, fun k _ hk => Below.heap_setCell w a u k (fun e => hk (by rw [e]))⟩
theorem grown_set2 (w : World) (g i j : Nat) (u v : Value) : w.grownBy ((w.setCell ⟨g, i, none⟩ u).setCell ⟨g, j, none⟩ v) (some g) := (grown_set w ⟨g, i, none⟩ u).trans (grown_set _ ⟨g, j, none⟩ v)
theorem entry_run {P : Program} {oi : Oper} {a : Act} {w w1 : World} {t : TypeId} {m x : Operand} {mv key v : Value} (ho : oi.op = .mapEntry t m x) (hm : a.eval m = mv) (hx : a.eval x = key)
    (hrun : (Instr.mapEntry t mv key).run P w = .ok v w1) : (execOp a.eval oi).run P w = .ok (.value v) w1 := by
  unfold execOp
  simp [ho, hm, hx, hrun, Result.andThen]
theorem entryStore_run {P : Program} {oi : Oper} {a : Act} {w w1 : World} {t : TypeId} {m x v : Operand} {mv key val : Value} (ho : oi.op = .entryStore t m x v) (hm : a.eval m = mv) (hx : a.eval x = key) (hv : a.eval v = val)
    (hrun : (Instr.entryStore t mv key val).run P w = .ok () w1) : (execOp a.eval oi).run P w = .ok .skip w1 := by
  unfold execOp
  simp [ho, hm, hx, hv, hrun, Result.andThen]
end Go.Proofs.Ytfhmjleimampeaa.KM
