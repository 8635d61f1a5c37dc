/- By hand: liability.Bonds: the sums of the greatest liabilities, by bonds in ascending order. -/
import Derived.Test.YthboaobgipodiaaPCheck
import Derived.Test.YthboaobgipodiaaK7
import Derived.Test.YthboaobgipodiaaGSort
import Derived.Test.YthboaobgipodiaaGShort
import Derived.Maps.Own
import Derived.Maps.OwnSet
import Derived.WalkSpells
namespace Go.Proofs.Ythboaobgipodiaa.K
open Go.RowKit Go.Maps Go.Sort Go.Proofs.YthboaobgipodiaaW.PrintWords Go.Proofs.YthboaobgipodiaaW.PrintLast Go.Proofs.YthboaobgipodiaaW.PrintMore Go.Proofs.Ythboaobgipodiaa.GW
set_option linter.unusedVariables false
set_option linter.unusedSimpArgs false

/-! ### plain -/
def insU (x : Int) : List Int → List Int
  | [] => [x]
  | y :: l => if x < y then x :: y :: l else if x = y then y :: l else y :: insU x l
theorem mem_insU (x z : Int) : ∀ l, z ∈ insU x l ↔ z = x ∨ z ∈ l
  | [] => by simp [insU]
  | y :: l => by
    unfold insU
    have ih := mem_insU x z l
    split
    · simp
    · split
      · rename_i h
        subst h
        simp
      · rw [List.mem_cons, ih, List.mem_cons]
        constructor
        · rintro (h | h | h)
          · exact .inr (.inl h)
          · exact .inl h
          · exact .inr (.inr h)
        · rintro (h | h | h)
          · exact .inr (.inl h)
          · exact .inl h
          · exact .inr (.inr h)
theorem asc_insU (x : Int) : ∀ l : List Int, l.Pairwise (· < ·) → (insU x l).Pairwise (· < ·)
  | [], _ => by simp [insU]
  | y :: l, h => by
    obtain ⟨h1, h2⟩ := List.pairwise_cons.1 h
    unfold insU
    split
    · rename_i hx
      refine List.pairwise_cons.2 ⟨fun z hz => ?_, h⟩
      rcases List.mem_cons.1 hz with rfl | hz
      · exact hx
      · have := h1 z hz
        omega
    · split
      · exact h
      · rename_i hx hne
        refine List.pairwise_cons.2 ⟨fun z hz => ?_, asc_insU x l h2⟩
        rcases (mem_insU x z l).1 hz with rfl | hz
        · omega
        · exact h1 z hz
theorem asc_ext : ∀ a b : List Int, a.Pairwise (· < ·) → b.Pairwise (· < ·) → (∀ x, x ∈ a ↔ x ∈ b) → a = b
  | [], [], _, _, _ => rfl
  | [], y :: b, _, _, h => by have := (h y).2 (by simp); simp at this
  | x :: a, [], _, _, h => by have := (h x).1 (by simp); simp at this
  | x :: a, y :: b, ha, hb, h => by
    obtain ⟨a1, a2⟩ := List.pairwise_cons.1 ha
    obtain ⟨b1, b2⟩ := List.pairwise_cons.1 hb
    have e : x = y := by
      rcases List.mem_cons.1 ((h x).1 (by simp)) with e | hx
      · exact e
      · rcases List.mem_cons.1 ((h y).2 (by simp)) with e | hy
        · exact e.symm
        · have := a1 y hy
          have := b1 x hx
          omega
    subst e
    congr 1
    refine asc_ext a b a2 b2 (fun z => ⟨fun hz => ?_, fun hz => ?_⟩)
    · rcases List.mem_cons.1 ((h z).1 (List.mem_cons_of_mem _ hz)) with e | hz'
      · have := a1 z hz
        omega
      · exact hz'
    · rcases List.mem_cons.1 ((h z).2 (List.mem_cons_of_mem _ hz)) with e | hz'
      · have := b1 z hz
        omega
      · exact hz'
/-- The sum of the amounts of a bond. -/
def bsum (ps : List (Int × Int)) (x : Int) : Int := ps.foldl (fun s p => if p.1 = x then wrap64 (s + p.2) else s) 0
/-- The bonds, in ascending order, each once. -/
def bkeys (ps : List (Int × Int)) : List Int := ps.foldr (fun p ks => insU p.1 ks) []
def bonds (ps : List (Int × Int)) : List S42 := (bkeys ps).map fun x => ⟨x, 0, bsum ps x⟩
theorem mem_bkeys (z : Int) : ∀ ps : List (Int × Int), z ∈ bkeys ps ↔ z ∈ ps.map (·.1)
  | [] => by simp [bkeys]
  | p :: ps => by
    show z ∈ insU p.1 (bkeys ps) ↔ _
    rw [mem_insU, mem_bkeys z ps, List.map_cons, List.mem_cons]
theorem asc_bkeys : ∀ ps : List (Int × Int), (bkeys ps).Pairwise (· < ·)
  | [] => by simp [bkeys]
  | p :: ps => asc_insU _ _ (asc_bkeys ps)
theorem bsum_step (ps : List (Int × Int)) (i : Nat) (hi : i < ps.length) (x : Int) : bsum (ps.take (i + 1)) x = if ps[i].1 = x then wrap64 (bsum (ps.take i) x + ps[i].2) else bsum (ps.take i) x := by
  unfold bsum
  rw [List.take_succ_eq_append_getElem hi, List.foldl_append]
  rfl
theorem wrap_wf (n : Int) : (Lit.int .i64 (wrap64 n)).wf = true := WalkArith.wf_i64 (by unfold wrap64; omega)
theorem bsum_wf (ps : List (Int × Int)) (x : Int) : (Lit.int .i64 (bsum ps x)).wf = true := by
  unfold bsum
  suffices h : ∀ (l : List (Int × Int)) (s : Int), (Lit.int .i64 s).wf = true → (Lit.int .i64 (l.foldl (fun s p => if p.1 = x then wrap64 (s + p.2) else s) s)).wf = true from h ps 0 (by decide)
  intro l
  induction l with
  | nil => exact fun s h => h
  | cons p l ih =>
    intro s h
    rw [List.foldl_cons]
    refine ih _ ?_
    split
    · exact wrap_wf _
    · exact h
def bamts (k : Nat) (a : Int) (rs : List S60) (day : Int) : List S35 → Option (List (Int × Int))
  | [] => some []
  | x :: l => (liability_greatest.f k a rs x.f0 x.f1 x.f2 x.f3 x.f4 day).bind fun n => (bamts k a rs day l).bind fun ps => some ((x.f1, n) :: ps)
theorem bamts_mono (k : Nat) (a : Int) (rs : List S60) (day : Int) : ∀ l, LeO (bamts k a rs day l) (bamts (k + 1) a rs day l)
  | [] => LeO.refl _
  | x :: l => by
    unfold bamts
    refine LeO.bind (liability_greatest.mono _ _ _ _ _ _ _ _ _) (fun n => ?_)
    exact LeO.bind (bamts_mono k a rs day l) (fun _ => LeO.refl _)
theorem bamts_at {k : Nat} {a : Int} {rs : List S60} {day : Int} : ∀ {l : List S35} {ps : List (Int × Int)}, bamts k a rs day l = some ps → ps.length = l.length ∧ ∀ (i : Nat) (h : i < l.length) (h' : i < ps.length), ps[i].1 = l[i].f1 ∧ liability_greatest.f k a rs l[i].f0 l[i].f1 l[i].f2 l[i].f3 l[i].f4 day = some ps[i].2
  | [], ps, h => by
    obtain rfl := Option.some.inj h
    exact ⟨rfl, fun i h => by simp at h⟩
  | x :: l, ps, h => by
    unfold bamts at h
    obtain ⟨n, h1, h⟩ := Option.bind_eq_some_iff.mp h
    obtain ⟨qs, h2, h⟩ := Option.bind_eq_some_iff.mp h
    obtain rfl := Option.some.inj h
    obtain ⟨e1, e2⟩ := bamts_at h2
    refine ⟨by simp [e1], fun i hi hi' => ?_⟩
    cases i with
    | zero => exact ⟨rfl, h1⟩
    | succ i => exact e2 i (by simpa using hi) (by simpa using hi')
def liability_Bonds.f (k : Nat) (a0_0 : Int) (l0_1 : List S60) (l1 : List S35) (a2 : Int) : Option (List S42 × Int) :=
  (liability_asks.f k a0_0 l0_1 l1 a2).bind fun t => if t = 0 then (bamts k a0_0 l0_1 a2 l1).bind fun ps => some (bonds ps, 0) else some ([], t)
theorem liability_Bonds.mono : ∀ a0 a1 a2 a3 k, LeO (liability_Bonds.f k a0 a1 a2 a3) (liability_Bonds.f (k + 1) a0 a1 a2 a3) := by
  intro a0 a1 a2 a3 k
  unfold liability_Bonds.f
  repeat' first
  | (with_reducible exact liability_asks.mono _ _ _ _ _)
  | (with_reducible exact bamts_mono _ _ _ _ _)
  | (with_reducible exact LeO.refl _)
  | (with_reducible refine LeO.ite ?_ ?_)
  | (with_reducible refine LeO.bind ?_ (fun _ => ?_))
/-! ### the map -/
theorem ownsMap_new {H : Type} {P : Program} {k b : Nat} {R : Value → Option (DataW H × List MemPlace)} {w : World} (h : w.heap[b]? = some (.map #[] 0)) : w.ownsMap P k R b 0 (.map []) := by
  obtain ⟨es, clock, hb, F, hs, hD⟩ := World.ownsMap_made w P k R
  have e : (w.alloc (.map #[] 0)).heap[w.heap.size]? = some (.map #[] 0) := blk_new w _
  rw [e] at hb
  injection hb with hb
  injection hb with h1 h2
  subst h1
  subst h2
  exact ⟨_, _, h, F, hs, hD⟩
theorem R_ints {e : Nat} {w : World} {base : Nat} {v : Value} {xs : List Int} (ho : w.ownsRow base e 1 v xs.length (xs.map (Value.int .i64))) : (Kd.int .i64).R e w base (fun _ => True) v xs := by
  refine ⟨fun _ _ => trivial, xs.map (Value.int .i64), ho, by simp [Kd.int, Kd.scalar], fun j p hj => ?_⟩
  obtain ⟨hl, hp⟩ := List.getElem?_eq_some_iff.1 hj
  have hl' : j < (xs.map (Value.int .i64)).length := by simpa using hl
  show ((xs.map (Value.int .i64)).drop (j * 1)).take 1 = [Value.int .i64 p]
  rw [Nat.mul_one, List.drop_eq_getElem_cons hl']
  simp [hp]
theorem own_low {e n : Nat} {w : World} {b base : Nat} {v : Value} {xs : List Value} (h : w.ownsRow b e 1 v n xs) (hle : base ≤ b) : w.ownsRow base e 1 v n xs :=
  ⟨h.1, h.2.imp id (fun ⟨g, cap, cur, h1, h2, r⟩ => ⟨g, cap, cur, h1, Nat.le_trans hle h2, r⟩)⟩
theorem plain_int {n : Int} (h : (Lit.int .i64 n).wf = true) : plainElem (H := Unit) Try.prog 3 (.int .i64 n) = some (.lit (.int .i64 n), []) := plainElem_int Try.underlying3 h
theorem key_int {n : Int} (h : (Lit.int .i64 n).wf = true) : keyOf Try.prog 3 (.int .i64 n) = some (.int .i64 n) := keyOf_int_mk Try.underlying3 h
theorem zero3 (w : World) : (zeroValue 3).run Try.prog w = .ok (.int .i64 0) w := Try.zeroValue3 w
theorem look_run {w : World} {gm i : Nat} {D : DataW Unit} {ps : List (Int × Int)} {x : Int} (h : w.ownsMap Try.prog 3 (plainElem Try.prog 3) gm i D) (hk : keyOf Try.prog 3 (.int .i64 x) = some (.int .i64 x)) (ha : ∀ y, D.atKey (.int .i64 y) (.lit (.int .i64 0)) = .lit (.int .i64 (bsum ps y))) :
    (Instr.lookup 68 (.map (some gm)) (.int .i64 x) false).run Try.prog w = .ok (.int .i64 (bsum ps x)) w := by
  obtain ⟨c, hrun, hat, _⟩ := h.lookup_int (int_keyed Try.underlying3) Try.underlying68 Try.underlying3 (zero3 w) hk
  rw [ha x] at hat
  simp only [DataW.lit.injEq, Lit.int.injEq, true_and] at hat
  rw [hrun, hat]
theorem update_run {P : Program} {oi : Oper} {a : Act} {w w1 : World} {t : TypeId} {m x v : Operand} {mv key val : Value} (ho : oi.op = .mapUpdate t m x v) (hm : a.eval m = mv) (hx : a.eval x = key) (hv : a.eval v = val)
    (hrun : (Instr.mapUpdate t mv key val).run P w = .ok () w1) : (execOp a.eval oi).run P w = .ok .skip w1 := by
  unfold execOp
  simp [ho, hm, hx, hv, hrun, Result.andThen]
theorem has_step {D : DataW Unit} (hD : IsMap D) (l : List S35) (i : Nat) (hi : i < l.length) (d : DataW Unit) (h : ∀ x, has D (.int .i64 x) = true ↔ x ∈ (l.take i).map (·.f1)) :
    ∀ x, has (D.put (.int .i64 (l[i]).f1) d) (.int .i64 x) = true ↔ x ∈ (l.take (i + 1)).map (·.f1) := by
  intro x
  rw [List.take_succ_eq_append_getElem hi, List.map_append, List.mem_append, ← h x]
  by_cases e : x = (l[i]).f1
  · subst e
    rw [has_put_same hD (by trivial) d]
    simp
  · rw [has_put_other (fun e' => e (by injection e')) d]
    simp [e]
theorem at_step {D : DataW Unit} (hD : IsMap D) (ps : List (Int × Int)) (i : Nat) (hi : i < ps.length) (h : ∀ y, D.atKey (.int .i64 y) (.lit (.int .i64 0)) = .lit (.int .i64 (bsum (ps.take i) y))) :
    ∀ y, (D.put (.int .i64 ps[i].1) (.lit (.int .i64 (wrap64 (bsum (ps.take i) ps[i].1 + ps[i].2))))).atKey (.int .i64 y) (.lit (.int .i64 0)) = .lit (.int .i64 (bsum (ps.take (i + 1)) y)) := by
  intro y
  rw [bsum_step ps i hi]
  by_cases e : ps[i].1 = y
  · subst e
    rw [if_pos rfl, atKey_put_same hD (by trivial)]
  · rw [if_neg e, atKey_put_other (fun e' => e (by injection e' with _ e'; exact e'.symm)), h y]
theorem keys_row {W w9 : World} {base : Nat} {v : Value} {ss : List Int} {D : DataW Unit} {ps : List (Int × Int)} (hS : ss.Perm (intKeys D)) (hP : (bkeys ps).Perm (intKeys D)) (hrow : w9.ownsRow W.heap.size 3 1 v ss.length ((ss.mergeSort (fun x y => decide (x ≤ y))).map encZ)) (hb : base ≤ W.heap.size) : Kd.R (Kd.int .i64) 3 w9 base (fun _ => True) v (bkeys ps) := by
  have hsort : ss.mergeSort (fun x y => decide (x ≤ y)) = bkeys ps := by
    have e1 := mergeSort_of_perm_i (hS.trans hP.symm)
    have e2 : (bkeys ps).mergeSort leI = bkeys ps := List.mergeSort_of_pairwise ((asc_bkeys ps).imp (fun h => decide_eq_true (Int.le_of_lt h)))
    exact e1.trans e2
  have hlen : ss.length = (bkeys ps).length := (hS.trans hP.symm).length_eq
  rw [hsort, hlen] at hrow
  exact R_ints (own_low hrow hb)
theorem keys_perm {w : World} {gm n : Nat} {D : DataW Unit} {ps : List (Int × Int)} {l : List S35} (hm : w.ownsMap Try.prog 3 (plainElem Try.prog 3) gm n D) (hh : ∀ x, has D (.int .i64 x) = true ↔ x ∈ (l.take l.length).map (·.f1)) (hp : ps.map (·.1) = l.map (·.f1)) : (bkeys ps).Perm (intKeys D) := by
  refine CollectedI.perm (left := fun _ => false) ⟨?_, fun x => ?_⟩ hm (int_keyed Try.underlying3) Try.underlying3 (fun _ => rfl)
  · exact (asc_bkeys ps).imp (fun h => Int.ne_of_lt h)
  · rw [mem_bkeys, hh x, List.take_length, hp]
    simp
theorem bonds_take (ps : List (Int × Int)) (j : Nat) (hj : j < (bkeys ps).length) : (bonds ps).take (j + 1) = (bonds ps).take j ++ [(⟨(bkeys ps)[j], 0, bsum ps (bkeys ps)[j]⟩ : S42)] := by
  have h : j < (bonds ps).length := by simpa [bonds] using hj
  rw [List.take_succ_eq_append_getElem h]
  simp [bonds]
theorem rdI_get (xs : List Int) (i : Nat) (h : i < xs.length) : Go.Proofs.YthboaobgipodiaaW.PrintWords.rd xs (i : Int) = xs[i] := by
  unfold Go.Proofs.YthboaobgipodiaaW.PrintWords.rd
  simp [List.getD_eq_getElem?_getD, h]
theorem bkeys_len : ∀ ps : List (Int × Int), (bkeys ps).length ≤ ps.length
  | [] => by simp [bkeys]
  | p :: ps => by
    have ih := bkeys_len ps
    have : ∀ l : List Int, (insU p.1 l).length ≤ l.length + 1 := by
      intro l
      induction l with
      | nil => simp [insU]
      | cons y l ih =>
        unfold insU
        split
        · simp
        · split
          · simp
          · simp
            exact ih
    show (insU p.1 (bkeys ps)).length ≤ _
    have h2 := this (bkeys ps)
    simp
    omega
/-! ### the walk -/
set_option maxHeartbeats 8000000 in
set_option maxRecDepth 100000 in
theorem liability_Bonds.calls (k : Nat) (a0_0 : Int) (A0_1 : Option Addr) (c0_1 : Nat) (l0_1 : List (S60)) (A1 : Option Addr) (c1 : Nat) (l1 : List (S35)) (a2 : Int) (r1 : List (S42)) (r2 : Int) (w : World) (hr0_1 : Kd.C k60 w A0_1 l0_1.length l0_1) (hc0_1 : l0_1.length ≤ c0_1) (hr1 : Kd.C k35 w A1 l1.length l1) (hc1 : l1.length ≤ c1) (h : liability_Bonds.f k a0_0 l0_1 l1 a2 = some (r1, r2)) :
    Calls Try.prog 15 #[.agg #[.int .i64 a0_0, .slice A0_1 l0_1.length c0_1], .slice A1 l1.length c1, .int .i64 a2] w fun e w' => ∃ v0_ : Value, e = .returned (.tuple #[v0_, .int .i64 r2]) ∧ Kd.R k42 42 w' w.heap.size (fun _ => True) v0_ r1 ∧ Below w.heap.size w w' := by
  have hu24 := Try.underlying24
  have hu35 := Try.underlying35
  have hu42 := Try.underlying42
  have HR0 := Aside0.mk hr0_1
  have HC0 := Aside0.mk hc0_1
  have HR1 := Aside0.mk hr1
  have HC1 := Aside0.mk hc1
  have HB := Aside0.mk (Below.refl w.heap.size w)
  clear hr0_1 hc0_1 hr1 hc1
  obtain ⟨t, A20, H⟩ := Option.bind_eq_some_iff.mp h
  clear h
  have A2 := Aside0.mk A20
  clear A20
  by_cases c1_ : t = 0
  · rw [if_pos c1_] at H
    subst c1_
    obtain ⟨ps, AP0, H⟩ := Option.bind_eq_some_iff.mp H
    simp only [Option.some.injEq, Prod.mk.injEq] at H
    obtain ⟨rfl, rfl⟩ := H
    have HTO := Aside0.mk (lchk_to (asks_zero (Ev.det (g := fun k => liability_asks.f k a0_0 l0_1 l1 a2) (fun k => liability_asks.mono _ _ _ _ _) (asks_ev a0_0 l0_1 l1 a2) A2.out).symm).2.1)
    have HPS := Aside0.mk (bamts_at AP0)
    have HPM : Aside0 (ps.map (·.1) = l1.map (·.f1)) := ⟨List.ext_getElem (by simp [HPS.out.1]) (fun i h1 h2 => by simpa using (HPS.out.2 i (by simpa using h2) (by simpa using h1)).1)⟩
    clear AP0
    go_enter Try.func15, Try.ntmps15
    go_wp2_with (first | ((with_reducible refine gqD (N := 3) rfl ?_); refine GS.bx (N := 3) (cs := #[.int .i64 a0_0, .slice A0_1 l0_1.length c0_1]) (t := 24) ?_; intro g3 hg w2 hbox hb; have n0_ := Aside0.mk (lqT (GS.lB HB.out) hb); have n1_ := Aside0.mk (hbox); have n2_ : Aside0 (w.heap.size ≤ g3) := ⟨by rw [hg]; exact (lqZ (GS.lB HB.out))⟩; clear HB; have HB := n0_; have Bg3 := n1_; have Gg3 := n2_; clear n0_ n1_ n2_; clear hb hbox hg; obtain ⟨hz0, hz1, hf0, hf1⟩ := GS.c2 Bg3.out) | ((with_reducible refine gqC (f := 30) rfl ?_); refine GS.gL (some 18) Try.func30 #[.agg #[.int .i64 a0_0, .slice A0_1 l0_1.length c0_1], .slice A1 l1.length c1, .int .i64 a2] ?_; (with_reducible refine (liability_asks.calls k a0_0 _ _ l0_1 _ _ l1 a2 0 _ ?side1 ?side2 ?side3 ?side4 A2.out).mono ?_); (case side1 => exact GS.rC (Kd.C_below HR0.out HB.out)); (case side2 => exact HC0.out); (case side3 => exact GS.rC (Kd.C_below HR1.out HB.out)); (case side4 => exact HC1.out); rintro e w3 ⟨rfl, hb⟩; refine ⟨_, rfl, ?_⟩; clear hz0 hz1 hf0 hf1; have n1_ := Aside0.mk (bqB (GS.bqX Bg3.out) hb); have n0_ := Aside0.mk (lqT (GS.lB HB.out) hb); clear HB Bg3; have HB := n0_; have Bg3 := n1_; clear n0_ n1_ hb) | ((with_reducible refine gate_dst (N := 22) rfl ?_); refine map_event ?hg (t := 68) ?ho ?_; (case hg => rfl); (case ho => rfl); intro gm hgm_ w6 hmap_ hb; have HMB : Aside0 (w.heap.size ≤ gm) := ⟨by rw [hgm_]; exact (lqZ (GS.lB HB.out))⟩; have NM3 : Aside0 (g3 ≠ gm) := ⟨by rw [hgm_]; exact Nat.ne_of_lt (blk_lt (GS.bqX Bg3.out))⟩; have HM0 := Aside0.mk (ownsMap_new (P := Try.prog) (k := 3) (R := plainElem (H := Unit) Try.prog 3) hmap_); clear hmap_ hgm_; have n1_ := Aside0.mk (bqB (GS.bqX Bg3.out) hb); have n0_ := Aside0.mk (lqT (GS.lB HB.out) hb); clear HB Bg3; have HB := n0_; have Bg3 := n1_; clear n0_ n1_ hb))
    go_loopg [25] l1.length (fun kq v25 w' => ∃ (i : Nat) (D : DataW Unit), v25 = .int .i64 (i : Int) ∧ Aside0 (i + kq = l1.length) ∧ Aside0 (w'.ownsMap Try.prog 3 (plainElem Try.prog 3) gm i D) ∧ Aside0 (∀ x, has D (.int .i64 x) = true ↔ x ∈ (l1.take i).map (·.f1)) ∧ Aside0 (∀ y, D.atKey (.int .i64 y) (.lit (.int .i64 0)) = .lit (.int .i64 (bsum (ps.take i) y))) ∧ Aside0 (w'.heap[g3]? = some (.cells #[.int .i64 a0_0, .slice A0_1 l0_1.length c0_1] 24 (0, 0))) ∧ Aside0 (Below w.heap.size w w'))
    case atStart => exact ⟨0, .map [], rfl, ⟨by omega⟩, HM0, ⟨fun x => by simp [has]⟩, ⟨fun y => rfl⟩, ⟨GS.bqX Bg3.out⟩, ⟨GS.lB HB.out⟩⟩
    case round =>
      clear HM0 HB Bg3
      obtain ⟨i, D, rfl, HJ, HMP, HH, HA, Bg3, HB⟩ := hrel
      cases gk with
      | zero =>
        have ei : i = l1.length := by have := HJ.out; omega
        subst ei
        have cz : decide ((l1.length : Int) < (l1.length : Int)) = false := decide_eq_false (by omega)
        have hle := HMP.out.size_le
        have hl := HTO.out.1
        have HS := Aside0.mk (Nat.le_trans hle hl)
        have HP := Aside0.mk (keys_perm HMP.out HH.out HPM.out)
        have hat : ∀ y, D.atKey (.int .i64 y) (.lit (.int .i64 0)) = .lit (.int .i64 (bsum ps y)) := by
          have := HA.out
          rwa [List.take_of_length_le (by rw [HPS.out.1]; exact Nat.le_refl _)] at this
        have HA2 := Aside0.mk hat
        have hkl := Nat.le_trans (bkeys_len ps) (Nat.le_trans (Nat.le_of_eq HPS.out.1) hl)
        have HKL := Aside0.mk hkl
        have hkw : ∀ j, (h : j < (bkeys ps).length) → keyOf Try.prog 3 (.int .i64 (bkeys ps)[j]) = some (.int .i64 (bkeys ps)[j]) := by
          intro j hj
          have hm := (mem_bkeys _ _).1 (List.getElem_mem hj)
          rw [HPM.out] at hm
          obtain ⟨x, hx, hxe⟩ := List.mem_map.1 hm
          have hk := (xok_iff.1 (HTO.out.2 x hx)).2.1
          rw [hxe] at hk
          exact key_int (WalkArith.wf_i64 (by omega))
        have HKW := Aside0.mk hkw
        clear hle hl hat hkl hkw HA
        go_wp2_with (first | (go_at_call 36; refine (Try.keys36 _ _).mono ?_; rintro e W' ⟨rfl, rfl⟩) | (go_at_call 35; refine (Try.sorted35 gm _ D _ _ HMP.out (by have := HS.out; unfold maxLen; omega) (by have := HS.out; omega)).mono ?_; rintro e w9 ⟨v, ss, rfl, hS_, hrow_, hb⟩; have HK9 : Aside0 (Kd.R (Kd.int .i64) 3 w9 w.heap.size (fun _ => True) v (bkeys ps)) := ⟨keys_row hS_ HP.out hrow_ (lqZ (GS.lB HB.out))⟩; have nm_ := Aside0.mk (HMP.out.kept (grown_of_below hb none) (by simp)); clear HMP; have HMP := nm_; clear nm_ hS_ hrow_; have n0_ := Aside0.mk (lqT (GS.lB HB.out) hb); clear HB Bg3; have HB := n0_; clear n0_ hb; obtain ⟨Ao, co, eo⟩ := Kd.R_slice HK9.out; subst eo))
        have HSZ := Aside0.mk HB.out.size
        go_loopg [12, 43] (bkeys ps).length (fun kq v12 v43 w' => ∃ (j : Nat), v43 = .int .i64 (j : Int) ∧ Aside0 (j + kq = (bkeys ps).length) ∧ Aside0 (Kd.R k42 42 w' w9.heap.size (fun _ => True) v12 ((bonds ps).take j)) ∧ Aside0 (Below w9.heap.size w9 w'))
        case atStart => exact ⟨0, rfl, ⟨by omega⟩, ⟨Kd.R_nil _ _ _ _ _⟩, ⟨GS.lB (Below.refl _ _)⟩⟩
        case round =>
          obtain ⟨j, rfl, HJ2, HO, HB2⟩ := hrel
          cases gk with
          | zero =>
            have ej : j = (bkeys ps).length := by have := HJ2.out; omega
            subst ej
            have cz2 : decide (((bkeys ps).length : Int) < ((bkeys ps).length : Int)) = false := decide_eq_false (by omega)
            go_wp2
            go_ret2
            refine ⟨_, rfl, ?_, GS.lB (below_step HB.out HB2.out)⟩
            have hO := HO.out
            rw [List.take_of_length_le (by simp [bonds])] at hO
            exact GS.rR (Kd.R_lower hO HSZ.out)
          | succ gk =>
            have q2 : (j : Int) < ((bkeys ps).length : Int) := by have := HJ2.out; omega
            have hj : j < (bkeys ps).length := by omega
            have cb2 : decide ((j : Int) < ((bkeys ps).length : Int)) = true := decide_eq_true q2
            have hw2 : wrap64 ((j : Int) + 1) = ((j + 1 : Nat) : Int) := by unfold wrap64; have := HKL.out; omega
            have HW2 := Aside0.mk hw2
            obtain ⟨ad, e1, x0⟩ := Kd.at_int (Kd.C_below (Kd.R_reads' HK9.out).2.2 HB2.out) (j : Int) (by omega) q2
            cases e1
            obtain ⟨KX, hKX⟩ : ∃ KX, KX = Go.Proofs.YthboaobgipodiaaW.PrintWords.rd (bkeys ps) (j : Int) := ⟨_, rfl⟩
            have hKX2 : KX = (bkeys ps)[j] := by rw [hKX, rdI_get _ j hj]
            rw [← hKX] at x0
            simp only [Int.toNat_natCast] at x0
            have hkk := HKW.out j hj
            rw [← hKX2] at hkk
            have hbt := bonds_take ps j hj
            rw [← hKX2] at hbt
            have HX := Aside0.mk hbt
            have hlk := fun (W : World) (hm : W.ownsMap Try.prog 3 (plainElem Try.prog 3) gm l1.length D) => look_run hm hkk HA2.out
            have HLK := Aside0.mk hlk
            have hl2 : ((bonds ps).take j).length + 1 < 5864062014805 := by have := HKL.out; simp [bonds]; omega
            have HL2 := Aside0.mk hl2
            have hmw := HMP.out.kept (grown_of_below HB2.out none) (by simp)
            have HMW := Aside0.mk hmw
            have pj : (0 ≤ (j : Int)) = True := eq_true (by omega)
            have qj : ((j : Int) < ((bkeys ps).length : Int)) = True := eq_true q2
            clear hw2 hKX hKX2 hkk hbt hlk hl2 hmw q2 hj
            have hlook := HLK.out _ HMW.out
            go_wp2_with (first | ((with_reducible refine gate_builtin (b := .append) (xs := #[.tmp 47, .tmp 53]) rfl ?_); at_builtin; refine Kd.R_append k42 (w0 := w9) w9.heap.size rfl (.tmp 47) (.tmp 53) 36 42 (.agg #[(.int .i64 0), (.int .i64 0), (.int .i64 0)]) 24 rfl Try.underlying36 info42 rfl (by decide) (by omega) _ ((bonds ps).take j) (⟨KX, 0, bsum ps KX⟩ : S42) [.int .i64 KX, .int .i64 0, .int .i64 (bsum ps KX)] (fun _ => True) (fun _ => False) rfl rfl ?aP (fun _ hk => hk.elim) ?aF ?aO ?aB ?aS ?aL ?_; (case aP => exact k42_mkM _ _ _ (⟨KX, 0, bsum ps KX⟩ : S42)); (case aB => exact (GS.lB HB2.out)); (case aF => exact (fun _ _ => trivial)); (case aO => exact (GS.rR HO.out)); (case aS => exact (lqZ (GS.lB HB2.out))); (case aL => have := HL2.out; omega); intro v332 w19 ho hb hg hat; rw [← HX.out] at ho; have n2_ := Aside0.mk (hb); have n3_ := Aside0.mk (ho); clear HB2 HO; have HB2 := n2_; have HO2 := n3_; clear n2_ n3_; clear ho hb hg hat))
            go_roundg gk
            case measure => omega
            case rel => exact ⟨j + 1, by first | rw [HW2.out] | (simp; done), ⟨by have := HJ2.out; omega⟩, ⟨GS.rR HO2.out⟩, ⟨GS.lB HB2.out⟩⟩
      | succ gk =>
        have q1 : (i : Int) < (l1.length : Int) := by have := HJ.out; omega
        have hi : i < l1.length := by omega
        have cb1 : decide ((i : Int) < (l1.length : Int)) = true := decide_eq_true q1
        have hw : wrap64 ((i : Int) + 1) = ((i + 1 : Nat) : Int) := by unfold wrap64; have := HTO.out.1; omega
        have HW := Aside0.mk hw
        have HI := Aside0.mk hi
        have HIP : Aside0 (i < ps.length) := ⟨by rw [HPS.out.1]; exact hi⟩
        have hrd := rd_get l1 i HI.out
        have hps := HPS.out.2 i HI.out HIP.out
        rw [← hrd] at hps
        have AG := Aside0.mk hps.2
        have HPE := Aside0.mk hps.1
        have hkr := (xok_iff.1 (HTO.out.2 (l1[i]'HI.out) (List.getElem_mem HI.out))).2.1
        rw [← hrd] at hkr
        have HK := Aside0.mk (key_int (n := (rd_T35 l1 (i : Int)).f1) (WalkArith.wf_i64 (by omega)))
        have HW2 := Aside0.mk (wrap_wf ((bsum (ps.take i) (rd_T35 l1 (i : Int)).f1) + (ps[i]'HIP.out).2))
        have hn : i < maxLen := by have := HTO.out.1; unfold maxLen; omega
        have HN := Aside0.mk hn
        have HRD := Aside0.mk hrd
        have HISM := Aside0.mk HMP.out.isMap
        clear hw hps hkr hn hrd
        obtain ⟨ad, e1, x0, x1, x2, x3, x4⟩ := at_T35 (Kd.C_below HR1.out HB.out) (i : Int) (by omega) q1
        cases e1
        simp only [Int.toNat_natCast] at x0 x1 x2 x3 x4
        have pj : (0 ≤ (i : Int)) = True := eq_true (by omega)
        have qj : ((i : Int) < (l1.length : Int)) = True := eq_true q1
        have cb2 : decide (i < l1.length) = true := decide_eq_true hi
        clear q1 hi
        go_upto_region 8 with (first | ((with_reducible refine gqD (N := 11) rfl ?_); refine GS.bx (N := 11) (cs := #[.int .i64 0, .int .i64 0, .int .i64 0, .int .i64 0, .int .i64 0]) (t := 35) ?_; intro g11 hg w7 hbox hb; have NGM : Aside0 (gm ≠ g11) := ⟨by rw [hg]; exact Nat.ne_of_lt HMP.out.lt⟩; have NG3 : Aside0 (g3 ≠ g11) := ⟨by rw [hg]; exact Nat.ne_of_lt (blk_lt (GS.bqX Bg3.out))⟩; have GE11 : Aside0 (w.heap.size ≤ g11) := ⟨by rw [hg]; exact (lqZ (GS.lB HB.out))⟩; have nm_ := Aside0.mk (HMP.out.kept (grown_of_below hb none) (by simp)); clear HMP; have HMP := nm_; have Bg11 := Aside0.mk hbox; clear nm_ hbox hg; have n1_ := Aside0.mk (bqB (GS.bqX Bg3.out) hb); have n0_ := Aside0.mk (lqT (GS.lB HB.out) hb); clear HB Bg3; have HB := n0_; have Bg3 := n1_; clear n0_ n1_ hb; obtain ⟨hy0, hy1, hy2, hy3, hy4, hv0, hv1, hv2, hv3, hv4⟩ := GS.c5 Bg11.out))
        have n0_ : Aside0 (((((((w7.setCell ⟨g11, 0, none⟩ (.int .i64 (rd_T35 l1 (i : Int)).f0)).setCell ⟨g11, 1, none⟩ (.int .i64 (rd_T35 l1 (i : Int)).f1)).setCell ⟨g11, 2, none⟩ (.int .i64 (rd_T35 l1 (i : Int)).f2)).setCell ⟨g11, 3, none⟩ (.int .i64 (rd_T35 l1 (i : Int)).f3)).setCell ⟨g11, 4, none⟩ (.int .i64 (rd_T35 l1 (i : Int)).f4))).heap[g11]? = some (.cells #[.int .i64 (rd_T35 l1 (i : Int)).f0, .int .i64 (rd_T35 l1 (i : Int)).f1, .int .i64 (rd_T35 l1 (i : Int)).f2, .int .i64 (rd_T35 l1 (i : Int)).f3, .int .i64 (rd_T35 l1 (i : Int)).f4] 35 (0, 0))) := ⟨GS.bqZ Bg11.out⟩
        have n1_ : Aside0 (Below w.heap.size w (((((w7.setCell ⟨g11, 0, none⟩ (.int .i64 (rd_T35 l1 (i : Int)).f0)).setCell ⟨g11, 1, none⟩ (.int .i64 (rd_T35 l1 (i : Int)).f1)).setCell ⟨g11, 2, none⟩ (.int .i64 (rd_T35 l1 (i : Int)).f2)).setCell ⟨g11, 3, none⟩ (.int .i64 (rd_T35 l1 (i : Int)).f3)).setCell ⟨g11, 4, none⟩ (.int .i64 (rd_T35 l1 (i : Int)).f4))) := ⟨GS.lB HB.out⟩
        have n2_ : Aside0 (World.ownsMap (((((w7.setCell ⟨g11, 0, none⟩ (.int .i64 (rd_T35 l1 (i : Int)).f0)).setCell ⟨g11, 1, none⟩ (.int .i64 (rd_T35 l1 (i : Int)).f1)).setCell ⟨g11, 2, none⟩ (.int .i64 (rd_T35 l1 (i : Int)).f2)).setCell ⟨g11, 3, none⟩ (.int .i64 (rd_T35 l1 (i : Int)).f3)).setCell ⟨g11, 4, none⟩ (.int .i64 (rd_T35 l1 (i : Int)).f4)) Try.prog 3 (plainElem Try.prog 3) gm i D) := ⟨(((((HMP.out.setCell (a := ⟨g11, 0, none⟩) NGM.out _).setCell (a := ⟨g11, 1, none⟩) NGM.out _).setCell (a := ⟨g11, 2, none⟩) NGM.out _).setCell (a := ⟨g11, 3, none⟩) NGM.out _).setCell (a := ⟨g11, 4, none⟩) NGM.out _)⟩
        have n3_ : Aside0 (((((((w7.setCell ⟨g11, 0, none⟩ (.int .i64 (rd_T35 l1 (i : Int)).f0)).setCell ⟨g11, 1, none⟩ (.int .i64 (rd_T35 l1 (i : Int)).f1)).setCell ⟨g11, 2, none⟩ (.int .i64 (rd_T35 l1 (i : Int)).f2)).setCell ⟨g11, 3, none⟩ (.int .i64 (rd_T35 l1 (i : Int)).f3)).setCell ⟨g11, 4, none⟩ (.int .i64 (rd_T35 l1 (i : Int)).f4))).heap[g3]? = some (.cells #[.int .i64 a0_0, .slice A0_1 l0_1.length c0_1] 24 (0, 0))) := ⟨GS.bqX Bg3.out⟩
        clear Bg11 HB HMP Bg3
        generalize (((((w7.setCell ⟨g11, 0, none⟩ (.int .i64 (rd_T35 l1 (i : Int)).f0)).setCell ⟨g11, 1, none⟩ (.int .i64 (rd_T35 l1 (i : Int)).f1)).setCell ⟨g11, 2, none⟩ (.int .i64 (rd_T35 l1 (i : Int)).f2)).setCell ⟨g11, 3, none⟩ (.int .i64 (rd_T35 l1 (i : Int)).f3)).setCell ⟨g11, 4, none⟩ (.int .i64 (rd_T35 l1 (i : Int)).f4)) = w8 at n0_ n1_ n2_ n3_ ⊢
        have Bg11 := n0_
        have HB := n1_
        have HMP := n2_
        have Bg3 := n3_
        clear n0_ n1_ n2_ n3_
        refine start_ (n := 10) (S := fun w' => w'.heap[g3]? = some (.cells #[.int .i64 a0_0, .slice A0_1 l0_1.length c0_1] 24 (0, 0)) ∧ w'.heap[g11]? = some (.cells #[.int .i64 (rd_T35 l1 (i : Int)).f0, .int .i64 (rd_T35 l1 (i : Int)).f1, .int .i64 (rd_T35 l1 (i : Int)).f2, .int .i64 (rd_T35 l1 (i : Int)).f3, .int .i64 (rd_T35 l1 (i : Int)).f4] 35 (0, 0)) ∧ w'.ownsMap Try.prog 3 (plainElem (H := Unit) Try.prog 3) gm i D) (ds := [9]) #[false, false, false, false, false, false, false, false, false, false] (by kernel_rfl) rfl rfl ⟨bqD Bg3.out, bqD Bg11.out, HMP.out.drew⟩ (fun hHeld => ?_)
        refine pure_ (i := 0) (N := some 29) (v := ?_) (a' := ?_) #[true, false, false, false, false, false, false, false, false, false] rfl rfl (by kernel_rfl) (fun _ _ _ h => h) (Or.inl ⟨by rfl, ?_⟩) ?_ ?_
        rotate_left
        · intro w'
          go_simp
          with_reducible rfl
        rotate_left
        · simp only [Act.put, List.setIfInBounds_toArray, List.set_cons_zero, List.set_cons_succ, i64_w, i32_w]
          rfl
        refine pure_ (i := 1) (N := some 30) (v := ?_) (a' := ?_) #[true, true, false, false, false, false, false, false, false, false] rfl rfl (by kernel_rfl) (fun _ _ _ h => h) (Or.inl ⟨by rfl, ?_⟩) ?_ ?_
        rotate_left
        · intro w'
          go_simp
          with_reducible rfl
        rotate_left
        · simp only [Act.put, List.setIfInBounds_toArray, List.set_cons_zero, List.set_cons_succ, i64_w, i32_w]
          rfl
        refine pure_ (i := 6) (N := some 35) (v := ?_) (a' := ?_) #[true, true, false, false, false, false, true, false, false, false] rfl rfl (by kernel_rfl) (fun _ _ _ h => h) (Or.inl ⟨by rfl, ?_⟩) ?_ ?_
        rotate_left
        · intro w'
          go_simp
          with_reducible rfl
        rotate_left
        · simp only [Act.put, List.setIfInBounds_toArray, List.set_cons_zero, List.set_cons_succ, i64_w, i32_w]
          rfl
        refine take_ (i := 2) (N := some 31) (v := ?_) (a' := ?_) #[true, true, true, false, false, false, true, false, false, false] rfl rfl (by kernel_rfl) (fun _ _ _ h => h) (Or.inl ⟨by rfl, ?_⟩) hHeld ?_ ?_
        rotate_left
        · rintro w' ⟨s0, s1, s2⟩
          obtain ⟨z0, z1, z2, z3, z4, _, _, _, _, _⟩ := GS.c5 s1
          go_simp
          with_reducible rfl
        rotate_left
        · simp only [Act.put, List.setIfInBounds_toArray, List.set_cons_zero, List.set_cons_succ, i64_w, i32_w]
          rfl
        refine take_ (i := 3) (N := some 32) (v := ?_) (a' := ?_) #[true, true, true, true, false, false, true, false, false, false] rfl rfl (by kernel_rfl) (fun _ _ _ h => h) (Or.inl ⟨by rfl, ?_⟩) hHeld ?_ ?_
        rotate_left
        · rintro w' ⟨s0, s1, s2⟩
          have hlk := look_run s2 HK.out HA.out
          go_simp
          with_reducible rfl
        rotate_left
        · simp only [Act.put, List.setIfInBounds_toArray, List.set_cons_zero, List.set_cons_succ, i64_w, i32_w]
          rfl
        refine take_ (i := 4) (N := some 33) (v := ?_) (a' := ?_) #[true, true, true, true, true, false, true, false, false, false] rfl rfl (by kernel_rfl) (fun _ _ _ h => h) (Or.inl ⟨by rfl, ?_⟩) hHeld ?_ ?_
        rotate_left
        · rintro w' ⟨s0, s1, s2⟩
          obtain ⟨z0, z1, _, _⟩ := GS.c2 s0
          go_simp
          with_reducible rfl
        rotate_left
        · simp only [Act.put, List.setIfInBounds_toArray, List.set_cons_zero, List.set_cons_succ, i64_w, i32_w]
          rfl
        refine take_ (i := 5) (N := some 34) (v := ?_) (a' := ?_) #[true, true, true, true, true, true, true, false, false, false] rfl rfl (by kernel_rfl) (fun _ _ _ h => h) (Or.inl ⟨by rfl, ?_⟩) hHeld ?_ ?_
        rotate_left
        · rintro w' ⟨s0, s1, s2⟩
          obtain ⟨z0, z1, z2, z3, z4, _, _, _, _, _⟩ := GS.c5 s1
          go_simp
          with_reducible rfl
        rotate_left
        · simp only [Act.put, List.setIfInBounds_toArray, List.set_cons_zero, List.set_cons_succ, i64_w, i32_w]
          rfl
        refine one_ (i := 7) (N := some 36) #[true, true, true, true, true, true, true, true, false, false] rfl rfl (by kernel_rfl) (by decide) (fun K hK => ?_)
        refine goes_ Try.func31 (by kernel_rfl) rfl #[.agg #[.int .i64 a0_0, .slice A0_1 l0_1.length c0_1], .agg #[.int .i64 (rd_T35 l1 (i : Int)).f0, .int .i64 (rd_T35 l1 (i : Int)).f1, .int .i64 (rd_T35 l1 (i : Int)).f2, .int .i64 (rd_T35 l1 (i : Int)).f3, .int .i64 (rd_T35 l1 (i : Int)).f4], .int .i64 a2] (by rfl) rfl rfl (by (try simp only [List.map_toArray, List.map_cons, List.map_nil]); first | done | rfl) ?_
        with_reducible refine (liability_greatest.calls k a0_0 _ _ l0_1 (rd_T35 l1 (i : Int)).f0 (rd_T35 l1 (i : Int)).f1 (rd_T35 l1 (i : Int)).f2 (rd_T35 l1 (i : Int)).f3 (rd_T35 l1 (i : Int)).f4 a2 (ps[i]'HIP.out).2 _ ?side1 ?side2 AG.out).mono ?_
        (case side1 => exact GS.rC (Kd.C_below HR0.out HB.out))
        (case side2 => exact HC0.out)
        rintro e w10 ⟨rfl, hb⟩
        refine ⟨_, rfl, ?_⟩
        have nm_ := Aside0.mk (HMP.out.drew.kept (grown_of_below hb none) (by simp))
        clear HMP
        have HMP := nm_
        clear nm_
        have n1_ := Aside0.mk (bqB (GS.bqX Bg3.out) hb)
        have n2_ := Aside0.mk (bqB (GS.bqX Bg11.out) hb)
        have n0_ := Aside0.mk (lqT (GS.lB HB.out) hb)
        clear HB Bg3 Bg11
        have HB := n0_
        have Bg3 := n1_
        have Bg11 := n2_
        clear n0_ n1_ n2_ hb
        refine hK.out _ _ ⟨Bg3.out, Bg11.out, HMP.out⟩ (fun hHeld => ?_)
        clear hK K
        refine norm_ (a' := ?_) ?_ ?_
        rotate_left
        · show Act.put _ (some 36) _ = _
          simp only [Act.put, List.setIfInBounds_toArray, List.set_cons_zero, List.set_cons_succ, i64_w, i32_w]
          rfl
        refine pure_ (i := 8) (N := some 37) (v := ?_) (a' := ?_) #[true, true, true, true, true, true, true, true, true, false] rfl rfl (by kernel_rfl) (fun _ _ _ h => h) (Or.inl ⟨by rfl, ?_⟩) ?_ ?_
        rotate_left
        · intro w'
          go_simp
          with_reducible rfl
        rotate_left
        · simp only [Act.put, List.setIfInBounds_toArray, List.set_cons_zero, List.set_cons_succ, i64_w, i32_w]
          rfl
        obtain ⟨w11, hrun, hown, hgrow⟩ := HMP.out.update (int_keyed Try.underlying3) Try.underlying68 HN.out HK.out (plain_int (HW2.out))
        have nb_ := Aside0.mk (HB.out.grown hgrow HB.out.size (fun j hj => by cases hj; exact HMB.out))
        have n3_ := Aside0.mk (blk_grown Bg3.out hgrow (fun e => NM3.out (by injection e)))
        have no_ := Aside0.mk hown
        refine last_ (i := 9) (N := none) #[true, true, true, true, true, true, true, true, true, true] rfl rfl (by kernel_rfl) (by decide) (fun K hK => ?_)
        refine skip_ (w1 := w11) (by rfl) rfl ?_ ?_
        · exact update_run rfl rfl rfl rfl hrun
        refine hK.out _ _ ?_
        clear hK K Bg3 Bg11 HB HMP hrun hown hgrow
        have Bg3 := n3_
        have HB := nb_
        have HMP := no_
        clear n3_ nb_ no_
        refine done_ (by kernel_rfl) ?_
        go_wp2
        go_roundg gk
        case measure => omega
        case rel => exact ⟨i + 1, _, by first | rw [HW.out] | (simp; done), ⟨by have := HJ.out; omega⟩, HMP, ⟨by have h_ := has_step HISM.out l1 i HI.out (.lit (.int .i64 (wrap64 ((bsum (ps.take i) (rd_T35 l1 (i : Int)).f1) + (ps[i]'HIP.out).2)))) HH.out; rw [← HRD.out] at h_; exact h_⟩, ⟨by have h_ := at_step HISM.out ps i HIP.out HA.out; rw [HPE.out] at h_; exact h_⟩, Bg3, HB⟩
  · rw [if_neg c1_] at H
    simp only [Option.some.injEq, Prod.mk.injEq] at H
    obtain ⟨rfl, rfl⟩ := H
    have c1b : (t == 0) = false := beq_eq_false_iff_ne.mpr c1_
    have c1c : (t != 0) = true := bne_iff_ne.mpr c1_
    clear c1_
    go_enter Try.func15, Try.ntmps15
    go_wp2_with (first | ((with_reducible refine gqD (N := 3) rfl ?_); refine GS.bx (N := 3) (cs := #[.int .i64 a0_0, .slice A0_1 l0_1.length c0_1]) (t := 24) ?_; intro g3 hg w2 hbox hb; have n0_ := Aside0.mk (lqT (GS.lB HB.out) hb); have n1_ := Aside0.mk (hbox); have n2_ : Aside0 (w.heap.size ≤ g3) := ⟨by rw [hg]; exact (lqZ (GS.lB HB.out))⟩; clear HB; have HB := n0_; have Bg3 := n1_; have Gg3 := n2_; clear n0_ n1_ n2_; clear hb hbox hg; obtain ⟨hz0, hz1, hf0, hf1⟩ := GS.c2 Bg3.out) | ((with_reducible refine gqC (f := 30) rfl ?_); refine GS.gL (some 18) Try.func30 #[.agg #[.int .i64 a0_0, .slice A0_1 l0_1.length c0_1], .slice A1 l1.length c1, .int .i64 a2] ?_; (with_reducible refine (liability_asks.calls k a0_0 _ _ l0_1 _ _ l1 a2 t _ ?side1 ?side2 ?side3 ?side4 A2.out).mono ?_); (case side1 => exact GS.rC (Kd.C_below HR0.out HB.out)); (case side2 => exact HC0.out); (case side3 => exact GS.rC (Kd.C_below HR1.out HB.out)); (case side4 => exact HC1.out); rintro e w3 ⟨rfl, hb⟩; refine ⟨_, rfl, ?_⟩; clear hz0 hz1 hf0 hf1; have n1_ := Aside0.mk (bqB (GS.bqX Bg3.out) hb); have n0_ := Aside0.mk (lqT (GS.lB HB.out) hb); clear HB Bg3; have HB := n0_; have Bg3 := n1_; clear n0_ n1_ hb))
    go_ret2
    exact ⟨_, rfl, Kd.R_nil _ _ _ _ _, GS.lB HB.out⟩
end Go.Proofs.Ythboaobgipodiaa.K
