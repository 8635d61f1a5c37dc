import Derived.Shelf.SlIterI.Nil
import Derived.Shelf.SortM.Plain
import Derived.Shelf.SortM.SortNone
import Derived.Test.YtfafeeobjlkjnaaProg
import Derived.Test.YtfafeeobjlkjnaaPHeard
import Derived.Test.YtfafeeobjlkjnaaGClone
import Derived.Test.YtfafeeobjlkjnaaGShort
import Derived.Maps.Own
import Derived.Maps.OwnSet
/- PRINTED by the kit's lay-plain: the shelf's contracts of maps.Keys, slices.Sorted and slices.Sort at this program. -/
namespace Go.Proofs
open Go.Shelf
def Try.keysA_ren : Go.Shelf.Ren := ⟨fun | 7 => 54 | 10 => 60 | n => n, fun | 23 => 76 | 26 => 3 | 3 => 4 | 28 => 79 | 0 => 0 | 27 => 78 | 33 => 66 | 4 => 4 | n => n, fun | n => n⟩
theorem Try.keysA : Go.Proofs.SlLaysZI.n7 Try.prog Try.keysA_ren := {
  mixed := by kernel_rfl
  f7 := ⟨Try.f54.name, by decide, Try.func54.trans (congrArg some (by kernel_rfl))⟩
  f10 := ⟨Try.f60.name, by decide, Try.func60.trans (congrArg some (by kernel_rfl))⟩
  t0 := Try.underlying0
  a0 := Try.isAgg0
  z0 := Try.sizeOf0
  v0 := Try.zeroValue0
  t4 := Try.underlying4
  a4 := Try.isAgg4
  z4 := Try.sizeOf4
  v4 := Try.zeroValue4
  t23 := Try.underlying76
  a23 := Try.isAgg76
  z23 := Try.sizeOf76
  v23 := Try.zeroValue76
  t26 := Try.underlying3
  a26 := Try.isAgg3
  z26 := Try.sizeOf3
  v26 := Try.zeroValue3
  t27 := Try.underlying78
  a27 := Try.isAgg78
  z27 := Try.sizeOf78
  v27 := Try.zeroValue78
  t28 := Try.underlying79
  a28 := Try.isAgg79
  z28 := Try.sizeOf79
  v28 := Try.zeroValue79
  t33 := Try.underlying66
  a33 := Try.isAgg66
  z33 := Try.sizeOf66
  v33 := Try.zeroValue66 }
def Try.sortedA_ren : Go.Shelf.Ren := ⟨fun | 6 => 53 | 8 => 58 | 9 => 59 | 11 => 61 | 13 => 63 | 12 => 62 | 23 => 73 | 24 => 74 | 14 => 64 | 15 => 65 | 16 => 66 | 17 => 67 | 18 => 68 | 19 => 69 | 20 => 70 | 21 => 71 | 22 => 72 | 25 => 75 | 26 => 76 | 27 => 77 | 28 => 78 | 29 => 79 | 30 => 80 | 31 => 81 | n => n, fun | 26 => 3 | 28 => 79 | 24 => 51 | 0 => 0 | 3 => 3 | 37 => 86 | 48 => 100 | 50 => 102 | 4 => 4 | 40 => 92 | 39 => 91 | 45 => 97 | 5 => 5 | 9 => 9 | 51 => 103 | 55 => 107 | 57 => 109 | 58 => 110 | 33 => 66 | n => n, fun | n => n⟩
theorem Try.sortedA : Go.Proofs.SlLaysZI.n6 Try.prog Try.sortedA_ren := {
  mixed := by kernel_rfl
  f6 := ⟨Try.f53.name, by decide, Try.func53.trans (congrArg some (by kernel_rfl))⟩
  f8 := ⟨Try.f58.name, by decide, Try.func58.trans (congrArg some (by kernel_rfl))⟩
  f11 := ⟨Try.f61.name, by decide, Try.func61.trans (congrArg some (by kernel_rfl))⟩
  t0 := Try.underlying0
  a0 := Try.isAgg0
  z0 := Try.sizeOf0
  v0 := Try.zeroValue0
  t24 := Try.underlying51
  a24 := Try.isAgg51
  z24 := Try.sizeOf51
  v24 := Try.zeroValue51
  t26 := Try.underlying3
  a26 := Try.isAgg3
  z26 := Try.sizeOf3
  v26 := Try.zeroValue3
  t28 := Try.underlying79
  a28 := Try.isAgg79
  z28 := Try.sizeOf79
  v28 := Try.zeroValue79
  i26 := by kernel_rfl }
def Try.sortA_ren : Go.Shelf.Ren := ⟨fun | 5 => 59 | 8 => 63 | 7 => 62 | 19 => 73 | 20 => 74 | 10 => 64 | 11 => 65 | 12 => 66 | 13 => 67 | 14 => 68 | 15 => 69 | 16 => 70 | 17 => 71 | 18 => 72 | 30 => 75 | 31 => 76 | 32 => 77 | 33 => 78 | 34 => 79 | 35 => 80 | 40 => 81 | n => n, fun | 23 => 51 | 25 => 3 | 3 => 3 | 32 => 86 | 22 => 51 | 0 => 0 | 44 => 100 | 46 => 102 | 4 => 4 | 36 => 92 | 35 => 91 | 41 => 97 | 5 => 5 | 9 => 9 | 53 => 103 | 57 => 107 | 63 => 109 | 64 => 110 | n => n, fun | n => n⟩
theorem Try.sortA : Go.Proofs.SlLaysM.n5 Try.prog Try.sortA_ren := {
  mixed := by kernel_rfl
  f5 := ⟨Try.f59.name, by decide, Try.func59.trans (congrArg some (by kernel_rfl))⟩
  f7 := ⟨Try.f62.name, by decide, Try.func62.trans (congrArg some (by kernel_rfl))⟩
  f8 := Try.func63.trans (congrArg some (by kernel_rfl))
  f10 := ⟨Try.f64.name, by decide, Try.func64.trans (congrArg some (by kernel_rfl))⟩
  f11 := ⟨Try.f65.name, by decide, Try.func65.trans (congrArg some (by kernel_rfl))⟩
  f12 := ⟨Try.f66.name, by decide, Try.func66.trans (congrArg some (by kernel_rfl))⟩
  f13 := ⟨Try.f67.name, by decide, Try.func67.trans (congrArg some (by kernel_rfl))⟩
  f14 := ⟨Try.f68.name, by decide, Try.func68.trans (congrArg some (by kernel_rfl))⟩
  f15 := ⟨Try.f69.name, by decide, Try.func69.trans (congrArg some (by kernel_rfl))⟩
  f16 := ⟨Try.f70.name, by decide, Try.func70.trans (congrArg some (by kernel_rfl))⟩
  f17 := ⟨Try.f71.name, by decide, Try.func71.trans (congrArg some (by kernel_rfl))⟩
  f18 := ⟨Try.f72.name, by decide, Try.func72.trans (congrArg some (by kernel_rfl))⟩
  f19 := Try.func73.trans (congrArg some (by kernel_rfl))
  f20 := Try.func74.trans (congrArg some (by kernel_rfl))
  f30 := ⟨Try.f75.name, by decide, Try.func75.trans (congrArg some (by kernel_rfl))⟩
  f31 := Try.func76.trans (congrArg some (by kernel_rfl))
  f32 := Try.func77.trans (congrArg some (by kernel_rfl))
  f33 := ⟨Try.f78.name, by decide, Try.func78.trans (congrArg some (by kernel_rfl))⟩
  f34 := ⟨Try.f79.name, by decide, Try.func79.trans (congrArg some (by kernel_rfl))⟩
  f35 := ⟨Try.f80.name, by decide, Try.func80.trans (congrArg some (by kernel_rfl))⟩
  f40 := ⟨Try.f81.name, by decide, Try.func81.trans (congrArg some (by kernel_rfl))⟩
  t0 := Try.underlying0
  a0 := Try.isAgg0
  z0 := Try.sizeOf0
  v0 := Try.zeroValue0
  t3 := Try.underlying3
  a3 := Try.isAgg3
  z3 := Try.sizeOf3
  v3 := Try.zeroValue3
  t4 := Try.underlying4
  a4 := Try.isAgg4
  z4 := Try.sizeOf4
  v4 := Try.zeroValue4
  t5 := Try.underlying5
  a5 := Try.isAgg5
  z5 := Try.sizeOf5
  v5 := Try.zeroValue5
  t9 := Try.underlying9
  a9 := Try.isAgg9
  z9 := Try.sizeOf9
  v9 := Try.zeroValue9
  t22 := Try.underlying51
  a22 := Try.isAgg51
  z22 := Try.sizeOf51
  v22 := Try.zeroValue51
  t23 := Try.underlying51
  a23 := Try.isAgg51
  z23 := Try.sizeOf51
  v23 := Try.zeroValue51
  t25 := Try.underlying3
  a25 := Try.isAgg3
  z25 := Try.sizeOf3
  v25 := Try.zeroValue3
  t32 := Try.underlying86
  a32 := Try.isAgg86
  z32 := Try.sizeOf86
  v32 := Try.zeroValue86
  t35 := Try.underlying91
  a35 := Try.isAgg91
  z35 := Try.sizeOf91
  v35 := Try.zeroValue91
  t36 := Try.underlying92
  a36 := Try.isAgg92
  z36 := Try.sizeOf92
  v36 := Try.zeroValue92
  t41 := Try.underlying97
  a41 := Try.isAgg97
  z41 := Try.sizeOf97
  v41 := Try.zeroValue97
  t44 := Try.underlying100
  a44 := Try.isAgg100
  z44 := Try.sizeOf100
  v44 := Try.zeroValue100
  t46 := Try.underlying102
  a46 := Try.isAgg102
  z46 := Try.sizeOf102
  v46 := Try.zeroValue102
  t53 := Try.underlying103
  a53 := Try.isAgg103
  z53 := Try.sizeOf103
  v53 := Try.zeroValue103
  t57 := Try.underlying107
  a57 := Try.isAgg107
  z57 := Try.sizeOf107
  v57 := Try.zeroValue107
  t63 := Try.underlying109
  a63 := Try.isAgg109
  z63 := Try.sizeOf109
  v63 := Try.zeroValue109
  t64 := Try.underlying110
  a64 := Try.isAgg110
  z64 := Try.sizeOf110
  v64 := Try.zeroValue110 }
end Go.Proofs
/- By hand: slices.Sorted over maps.Keys of a map[int]bool, by the shelf's contracts. -/
namespace Go.Proofs
open Go.RowKit Go.Maps Go.Sort Go.Shelf
set_option linter.unusedVariables false

theorem Try.sortsA (m : Nat) : AnyZI.SortsIn Try.prog Try.sortedA_ren Fence.wide m :=
  ⟨fun blk off cap ss W hH hblk hsz => callsIn_wide.2 (AnyM.slices_Sort_int Try.sortA blk off cap ss W hH hblk hsz),
   fun p cap W => callsIn_wide.2 (AnyM.slices_Sort_int_none Try.sortA p cap W)⟩
/-- maps.Keys hands back its own closure over a box of the map. -/
theorem Try.keys54 (mb : Option Nat) (W : World) : Calls Try.prog 54 #[.map mb] W fun e w' => e = .returned (.func (.func 60) #[] #[.pointer (some ⟨W.heap.size, 0, none⟩)]) ∧ w' = W.alloc (.cells #[.map mb] 76) :=
  (callsIn_wide (n := 5)).1 (AnyZI.keys_in Try.keysA Fence.wide 5 trivial rfl mb W)
set_option maxHeartbeats 1000000 in
/-- slices.Sorted over it: the map's keys, in ascending order. -/
theorem Try.sorted53 {H : Type} (b nn : Nat) (D0 : DataW H) (R : Value → Option (DataW H × List MemPlace)) (w : World) (hown : w.ownsMap Try.prog 3 R b nn D0) (hmax : Maps.size D0 ≤ maxLen) (hbytes : Maps.size D0 * 8 ≤ 140737488355328) :
    Calls Try.prog 53 #[.func (.func 60) #[] #[.pointer (some ⟨w.heap.size, 0, none⟩)]] (w.alloc (.cells #[.map (some b)] 76)) fun e w' => ∃ (v : Value) (ss : List Int), e = .returned v ∧ ss.Perm (intKeys D0) ∧
      w'.ownsRow w.heap.size 3 1 v ss.length ((ss.mergeSort (fun x y => decide (x ≤ y))).map encZ) ∧ Below w.heap.size w w' := by
  have hbl := hown.lt
  have hseq : SeqGives Fence.wide 2 Try.prog 60 #[.pointer (some ⟨w.heap.size, 0, none⟩)] encZ (fun ss => ss.Perm (intKeys D0)) (Maps.size D0) (w.alloc (.cells #[.map (some b)] 76)) :=
    AnyZI.keys_gives (ρ := Try.keysA_ren) { Try.keysA with } Fence.wide _ trivial rfl (by omega) w.heap.size b nn D0 _ (by simp) (by simp) (by
      obtain ⟨es, clock, hb, Ft, hs, hD⟩ := hown
      exact ⟨es, clock, (Below.heap_alloc _ _ b hbl).trans hb, Ft, hs, hD⟩)
  have cS := AnyZI.sorted_in Try.sortedA Fence.wide 5 trivial trivial trivial trivial rfl (by omega) (Try.sortsA _) (enters_of Try.func59 (by kernel_rfl) rfl) 60 #[.pointer (some ⟨w.heap.size, 0, none⟩)] trivial (enters_of Try.func60 (by kernel_rfl) rfl) _ _ hmax hbytes _ hseq
  change CallsIn _ _ Try.prog 53 _ _ _ at cS
  refine ((callsIn_wide (n := 5)).1 cS).mono ?_
  rintro e w' ⟨v, ss, rfl, hS, hrow, hnil, hb⟩
  exact ⟨v, ss, rfl, hS, ownsRow_base_a hrow (by simp), ((Below.refl _ w).alloc (Nat.le_refl _) _).trans (hb.mono (by simp))⟩
end Go.Proofs
/- By hand: sender.Waits: the nodes for which something is pending, in ascending order, each once. -/
namespace Go.Proofs.Ytfafeeobjlkjnaa.K
open Go.RowKit Go.Maps Go.Sort Go.Proofs.YtfafeeobjlkjnaaW.PrintWords Go.Proofs.YtfafeeobjlkjnaaW.PrintLast Go.Proofs.YtfafeeobjlkjnaaW.PrintMore Go.Proofs.Ytfafeeobjlkjnaa.GW
set_option linter.unusedVariables false
set_option linter.unusedSimpArgs false

/-! ### plain -/
def insU (x : Int) : List Int → List Int
  | [] => [x]
  | y :: l => if x < y then x :: y :: l else if x = y then y :: l else y :: insU x l
theorem mem_insU (x z : Int) : ∀ l, z ∈ insU x l ↔ z = x ∨ z ∈ l
  | [] => by simp [insU]
  | y :: l => by
    unfold insU
    have ih := mem_insU x z l
    split
    · simp
    · split
      · rename_i h
        subst h
        simp
      · rw [List.mem_cons, ih, List.mem_cons]
        constructor
        · rintro (h | h | h)
          · exact .inr (.inl h)
          · exact .inl h
          · exact .inr (.inr h)
        · rintro (h | h | h)
          · exact .inr (.inl h)
          · exact .inl h
          · exact .inr (.inr h)
theorem asc_insU (x : Int) : ∀ l : List Int, l.Pairwise (· < ·) → (insU x l).Pairwise (· < ·)
  | [], _ => by simp [insU]
  | y :: l, h => by
    obtain ⟨h1, h2⟩ := List.pairwise_cons.1 h
    unfold insU
    split
    · rename_i hx
      refine List.pairwise_cons.2 ⟨fun z hz => ?_, h⟩
      rcases List.mem_cons.1 hz with rfl | hz
      · exact hx
      · have := h1 z hz
        omega
    · split
      · exact h
      · rename_i hx hne
        refine List.pairwise_cons.2 ⟨fun z hz => ?_, asc_insU x l h2⟩
        rcases (mem_insU x z l).1 hz with rfl | hz
        · omega
        · exact h1 z hz
def waitsL (l : List S33) : List Int := l.foldr (fun x ks => insU x.f1 ks) []
theorem mem_waitsL (z : Int) : ∀ l : List S33, z ∈ waitsL l ↔ z ∈ l.map (·.f1)
  | [] => by simp [waitsL]
  | x :: l => by
    show z ∈ insU x.f1 (waitsL l) ↔ _
    rw [mem_insU, mem_waitsL z l, List.map_cons, List.mem_cons]
theorem asc_waitsL : ∀ l : List S33, (waitsL l).Pairwise (· < ·)
  | [] => by simp [waitsL]
  | x :: l => asc_insU _ _ (asc_waitsL l)
theorem asc_ext : ∀ a b : List Int, a.Pairwise (· < ·) → b.Pairwise (· < ·) → (∀ x, x ∈ a ↔ x ∈ b) → a = b
  | [], [], _, _, _ => rfl
  | [], y :: b, _, _, h => by have := (h y).2 (by simp); simp at this
  | x :: a, [], _, _, h => by have := (h x).1 (by simp); simp at this
  | x :: a, y :: b, ha, hb, h => by
    obtain ⟨a1, a2⟩ := List.pairwise_cons.1 ha
    obtain ⟨b1, b2⟩ := List.pairwise_cons.1 hb
    have e : x = y := by
      rcases List.mem_cons.1 ((h x).1 (by simp)) with e | hx
      · exact e
      · rcases List.mem_cons.1 ((h y).2 (by simp)) with e | hy
        · exact e.symm
        · have := a1 y hy
          have := b1 x hx
          omega
    subst e
    congr 1
    refine asc_ext a b a2 b2 (fun z => ⟨fun hz => ?_, fun hz => ?_⟩)
    · rcases List.mem_cons.1 ((h z).1 (List.mem_cons_of_mem _ hz)) with e | hz'
      · have := a1 z hz
        omega
      · exact hz'
    · rcases List.mem_cons.1 ((h z).2 (List.mem_cons_of_mem _ hz)) with e | hz'
      · have := b1 z hz
        omega
      · exact hz'
theorem Ev.det {α : Type} {g : Nat → Option α} {r t : α} (hm : ∀ k, LeO (g k) (g (k + 1))) (h : Ev g r) {k : Nat} (hk : g k = some t) : t = r := by
  obtain ⟨K, hK⟩ := h
  obtain ⟨J, hJ⟩ := Ev.of_mono hm hk
  have h1 := hK (K + J) (by omega)
  have h2 := hJ (K + J) (by omega)
  rw [h1] at h2
  exact (Option.some.inj h2).symm
theorem goC_to {node next : Int} : ∀ (l : List S33) (prev : Option Int), goC node next prev l = 0 → ∀ x ∈ l, 1 ≤ x.f1 ∧ x.f1 ≤ 99
  | [], _, _, x, hx => by simp at hx
  | y :: l, prev, h, x, hx => by
    obtain ⟨he, hf, h1, h2, h3⟩ := goC_cons h
    rcases List.mem_cons.1 hx with rfl | hx
    · unfold echk at he
      split at he
      · cases he
      split at he
      · cases he
      split at he
      · cases he
      split at he
      · cases he
      · omega
    · exact goC_to l _ h3 x hx
theorem check_to {k : Nat} {a b : Int} {l : List S33} (h : sender_Check.f k a b l = some 0) : l.length ≤ 64 ∧ ∀ x ∈ l, 1 ≤ x.f1 ∧ x.f1 ≤ 99 := by
  have e := Ev.det (g := fun k => sender_Check.f k a b l) (fun k => sender_Check.mono _ _ _ _) (check_ev a b l) h
  obtain ⟨_, _, _, h3, h4⟩ := chk_zero e.symm
  exact ⟨h3, goC_to l _ h4⟩

/-! ### the walk -/
def sender_Waits.f (k : Nat) (a0_0 a0_1 : Int) (l0_2 : List S33) : Option (List Int × Int) :=
  (sender_Check.f k a0_0 a0_1 l0_2).bind fun t => if t = 0 then some (waitsL l0_2, 0) else some ([], 1)
theorem sender_Waits.mono : ∀ a0 a1 a2 k, LeO (sender_Waits.f k a0 a1 a2) (sender_Waits.f (k + 1) a0 a1 a2) := by
  intro a0 a1 a2 k
  unfold sender_Waits.f
  repeat' first
  | (with_reducible exact sender_Check.mono _ _ _ _)
  | (with_reducible exact LeO.refl _)
  | (with_reducible refine LeO.ite ?_ ?_)
  | (with_reducible refine LeO.bind ?_ (fun _ => ?_))
theorem ownsMap_new {H : Type} {P : Program} {k b : Nat} {R : Value → Option (DataW H × List MemPlace)} {w : World} (h : w.heap[b]? = some (.map #[] 0)) : w.ownsMap P k R b 0 (.map []) := by
  obtain ⟨es, clock, hb, F, hs, hD⟩ := World.ownsMap_made w P k R
  have e : (w.alloc (.map #[] 0)).heap[w.heap.size]? = some (.map #[] 0) := blk_new w _
  rw [e] at hb
  injection hb with hb
  injection hb with h1 h2
  subst h1
  subst h2
  exact ⟨_, _, h, F, hs, hD⟩
theorem R_ints {e : Nat} {w : World} {base : Nat} {v : Value} {xs : List Int} (ho : w.ownsRow base e 1 v xs.length (xs.map (Value.int .i64))) : (Kd.int .i64).R e w base (fun _ => True) v xs := by
  refine ⟨fun _ _ => trivial, xs.map (Value.int .i64), ho, by simp [Kd.int, Kd.scalar], fun j p hj => ?_⟩
  obtain ⟨hl, hp⟩ := List.getElem?_eq_some_iff.1 hj
  have hl' : j < (xs.map (Value.int .i64)).length := by simpa using hl
  show ((xs.map (Value.int .i64)).drop (j * 1)).take 1 = [Value.int .i64 p]
  rw [Nat.mul_one, List.drop_eq_getElem_cons hl']
  simp [hp]
theorem own_low {e n : Nat} {w : World} {b base : Nat} {v : Value} {xs : List Value} (h : w.ownsRow b e 1 v n xs) (hle : base ≤ b) : w.ownsRow base e 1 v n xs :=
  ⟨h.1, h.2.imp id (fun ⟨g, cap, cur, h1, h2, r⟩ => ⟨g, cap, cur, h1, Nat.le_trans hle h2, r⟩)⟩
theorem plain_true : plainElem (H := Unit) Try.prog 4 (.bool true) = some (.lit (.bool true), []) := by simp [plainElem, Try.underlying4]
theorem wf_small {n : Int} (h : 1 ≤ n ∧ n ≤ 99) : (Lit.int .i64 n).wf = true := WalkArith.wf_i64 (by omega)
theorem has_step {H : Type} {D : DataW H} (hD : IsMap D) (l : List S33) (i : Nat) (hi : i < l.length) (d : DataW H) (h : ∀ x, has D (.int .i64 x) = true ↔ x ∈ (l.take i).map (·.f1)) :
    ∀ x, has (D.put (.int .i64 (l[i]).f1) d) (.int .i64 x) = true ↔ x ∈ (l.take (i + 1)).map (·.f1) := by
  intro x
  rw [List.take_succ_eq_append_getElem hi, List.map_append, List.mem_append, ← h x]
  by_cases e : x = (l[i]).f1
  · subst e
    rw [has_put_same hD (by trivial) d]
    simp
  · rw [has_put_other (fun e' => e (by injection e')) d]
    simp [e]
set_option maxHeartbeats 8000000 in
set_option maxRecDepth 100000 in
theorem sender_Waits.calls (k : Nat) (a0_0 : Int) (a0_1 : Int) (A0_2 : Option Addr) (c0_2 : Nat) (l0_2 : List S33) (r1 : List Int) (r2 : Int) (w : World) (hr0_2 : Kd.C k33 w A0_2 l0_2.length l0_2) (hc0_2 : l0_2.length ≤ c0_2) (h : sender_Waits.f k a0_0 a0_1 l0_2 = some (r1, r2)) :
    Calls Try.prog 32 #[.agg #[.int .i64 a0_0, .int .i64 a0_1, .slice A0_2 l0_2.length c0_2]] w fun e w' => ∃ v1_ : Value, e = .returned (.tuple #[v1_, .int .i64 r2]) ∧ Kd.R (Kd.int .i64) 3 w' w.heap.size (fun _ => True) v1_ r1 ∧ Below w.heap.size w w' := by
  have hu24 := Try.underlying24
  have hu33 := Try.underlying33
  have hu26 := Try.underlying26
  have HR := Aside0.mk hr0_2
  have HC := Aside0.mk hc0_2
  have HB := Aside0.mk (Below.refl w.heap.size w)
  clear hr0_2 hc0_2
  obtain ⟨t, A20, H⟩ := Option.bind_eq_some_iff.mp h
  clear h
  have A2 := Aside0.mk A20
  clear A20
  by_cases c1 : t = 0
  · rw [if_pos c1] at H
    subst c1
    simp only [Option.some.injEq, Prod.mk.injEq] at H
    obtain ⟨rfl, rfl⟩ := H
    have HTO := Aside0.mk (check_to A2.out)
    go_enter Try.func32, Try.ntmps32
    go_wp2_with (first | ((with_reducible refine gate_dst (N := 1) rfl ?_); refine GS.bx (N := 1) (cs := #[.int .i64 a0_0, .int .i64 a0_1, .slice A0_2 l0_2.length c0_2]) (t := 24) ?_; intro g2 hg_ w2 hbox_ hb_; have n0_ := Aside0.mk (below_step (GS.lB HB.out) hb_); have n1_ := Aside0.mk hbox_; have n2_ : Aside0 (w.heap.size ≤ g2) := ⟨by rw [hg_]; exact below_size (GS.lB HB.out)⟩; clear HB; have HB := n0_; have Bg2 := n1_; have Gg2 := n2_; clear n0_ n1_ n2_ hb_ hbox_ hg_; obtain ⟨za0, za1, za2, qa0, qa1, qa2⟩ := GS.c3 (w := w2) Bg2.out) | (go_at_call 17; refine (sender_Check.calls k a0_0 a0_1 _ _ l0_2 0 _ (Kd.C_below HR.out HB.out) HC.out A2.out).mono ?_; rintro e w5 ⟨rfl, hb_⟩; have n0_ := Aside0.mk (below_step HB.out hb_); clear HB; have HB := n0_; clear n0_; have m0_ := Aside0.mk (blk_below Bg2.out hb_); clear Bg2; have Bg2 := m0_; clear m0_; clear za0 za1 za2 qa0 qa1 qa2; clear hb_; obtain ⟨za0, za1, za2, qa0, qa1, qa2⟩ := GS.c3 (w := w5) Bg2.out) | ((with_reducible refine gate_dst (N := 10) rfl ?_); refine map_event ?hg (t := 76) ?ho ?_; (case hg => rfl); (case ho => rfl); intro gm hgm_ w6 hmap_ hb_; have HMB : Aside0 (w.heap.size ≤ gm) := ⟨by rw [hgm_]; exact HB.out.size⟩; have HM0 := Aside0.mk (ownsMap_new (P := Try.prog) (k := 3) (R := plainElem (H := Unit) Try.prog 4) hmap_); clear hmap_; have n0_ := Aside0.mk (below_step HB.out hb_); clear HB; have HB := n0_; clear n0_; have m0_ := Aside0.mk (blk_below Bg2.out hb_); clear Bg2; have Bg2 := m0_; clear m0_; clear za0 za1 za2 qa0 qa1 qa2; clear hb_ hgm_; obtain ⟨za0, za1, za2, qa0, qa1, qa2⟩ := GS.c3 (w := w6) Bg2.out))
    go_loopg [14] l0_2.length (fun kq v14 w' => ∃ (i : Nat) (D : DataW Unit), v14 = .int .i64 (i : Int) ∧ Aside0 (i + kq = l0_2.length) ∧ Aside0 (w'.ownsMap Try.prog 3 (plainElem Try.prog 4) gm i D) ∧ Aside0 (∀ x, has D (.int .i64 x) = true ↔ x ∈ (l0_2.take i).map (·.f1)) ∧ Aside0 (Below w.heap.size w w'))
    case atStart => exact ⟨0, .map [], rfl, ⟨by omega⟩, HM0, ⟨fun x => by simp [has]⟩, HB⟩
    case round =>
      clear HM0 HB Bg2
      obtain ⟨i, D, rfl, HJ, HMP, HH, HB⟩ := hrel
      cases gk with
      | zero =>
        have ei : i = l0_2.length := by have := HJ.out; omega
        subst ei
        have cz : decide ((l0_2.length : Int) < (l0_2.length : Int)) = false := decide_eq_false (by omega)
        have hle := HMP.out.size_le
        have hl := HTO.out.1
        have HS := Aside0.mk (Nat.le_trans hle hl)
        clear hle hl
        go_wp2_with (first | (go_at_call 54; refine (Try.keys54 _ _).mono ?_; rintro e W' ⟨rfl, rfl⟩) | (go_at_call 53; refine (Try.sorted53 gm _ D _ _ HMP.out (by have := HS.out; unfold maxLen; omega) (by have := HS.out; omega)).mono ?_; rintro e w9 ⟨v, ss, rfl, hS_, hrow_, hb_⟩; have H9 := Aside0.mk hrow_; have HP := Aside0.mk hS_; have HB9 := Aside0.mk (below_step HB.out hb_); have HSZ := Aside0.mk HB.out.size; clear hrow_ hS_ hb_))
        go_ret2
        refine ⟨_, rfl, ?_, HB9.out⟩
        have hperm : (waitsL l0_2).Perm (intKeys D) := by
          refine CollectedI.perm (left := fun _ => false) ⟨?_, fun x => ?_⟩ HMP.out (int_keyed Try.underlying3) Try.underlying3 (fun _ => rfl)
          · exact (asc_waitsL l0_2).imp (fun h => Int.ne_of_lt h)
          · rw [mem_waitsL, HH.out x, List.take_length]
            simp
        have hsort : ss.mergeSort (fun x y => decide (x ≤ y)) = waitsL l0_2 := by
          have e1 := mergeSort_of_perm_i (HP.out.trans hperm.symm)
          have e2 : (waitsL l0_2).mergeSort leI = waitsL l0_2 := List.mergeSort_of_pairwise ((asc_waitsL l0_2).imp (fun h => decide_eq_true (Int.le_of_lt h)))
          exact e1.trans e2
        have hrow := H9.out
        rw [hsort] at hrow
        have hlen : ss.length = (waitsL l0_2).length := (HP.out.trans hperm.symm).length_eq
        rw [hlen] at hrow
        exact R_ints (own_low hrow HSZ.out)
      | succ gk =>
        have q1 : (i : Int) < (l0_2.length : Int) := by have := HJ.out; omega
        have hi : i < l0_2.length := by omega
        have cb1 : decide ((i : Int) < (l0_2.length : Int)) = true := decide_eq_true q1
        have cb2 : decide (i < l0_2.length) = true := decide_eq_true hi
        have hw : wrap64 ((i : Int) + 1) = ((i + 1 : Nat) : Int) := by unfold wrap64; have := HTO.out.1; omega
        have HW := Aside0.mk hw
        have Q := Aside0.mk q1
        have HI := Aside0.mk hi
        clear hw hi
        obtain ⟨ad, e1, x0, x1, x2, x3, x4, x5, x6, x7, x8, x9⟩ := at_T33 (Kd.C_below HR.out HB.out) (i : Int) (by omega) q1
        cases e1
        simp only [Int.toNat_natCast] at x0 x1 x2 x3 x4 x5 x6 x7 x8 x9
        have pj : (0 ≤ (i : Int)) = True := eq_true (by omega)
        have qj : ((i : Int) < (l0_2.length : Int)) = True := eq_true q1
        clear q1
        go_upto_region 7 with (first | ((with_reducible refine gate_dst (N := 6) rfl ?_); refine GS.bx (N := 6) (cs := #[.int .i64 0, .int .i64 0, .int .i64 0, .int .i64 0, .int .i64 0, .int .i64 0, .int .i64 0, .int .i64 0, .int .i64 0, .int .i64 0]) (t := 33) ?_; intro g6 hg_ w7 hbox_ hb_; have NGM : Aside0 (gm ≠ g6) := ⟨by rw [hg_]; exact Nat.ne_of_lt HMP.out.lt⟩; have GE6 : Aside0 (w.heap.size ≤ g6) := ⟨by rw [hg_]; exact HB.out.size⟩; have n0_ := Aside0.mk (below_step HB.out hb_); have n1_ := Aside0.mk (HMP.out.kept (grown_of_below hb_ none) (by simp)); clear HB HMP; have HB := n0_; have HMP := n1_; have Bg6 := Aside0.mk hbox_; clear n0_ n1_ hbox_ hb_ hg_; obtain ⟨zc0, zc1, zc2, zc3, zc4, zc5, zc6, zc7, zc8, zc9, qc0, qc1, qc2, qc3, qc4, qc5, qc6, qc7, qc8, qc9⟩ := GS.c10 (w := w7) Bg6.out))
        have n0_ : Aside0 ((((((((((((w7.setCell ⟨g6, 0, none⟩ (.int .i64 (rd_T33 l0_2 (i : Int)).f0)).setCell ⟨g6, 1, none⟩ (.int .i64 (rd_T33 l0_2 (i : Int)).f1)).setCell ⟨g6, 2, none⟩ (.int .i64 (rd_T33 l0_2 (i : Int)).f2)).setCell ⟨g6, 3, none⟩ (.int .i64 (rd_T33 l0_2 (i : Int)).f3.f0)).setCell ⟨g6, 4, none⟩ (.int .i64 (rd_T33 l0_2 (i : Int)).f3.f1)).setCell ⟨g6, 5, none⟩ (.int .i64 (rd_T33 l0_2 (i : Int)).f3.f2)).setCell ⟨g6, 6, none⟩ (.int .i64 (rd_T33 l0_2 (i : Int)).f3.f3)).setCell ⟨g6, 7, none⟩ (.int .i64 (rd_T33 l0_2 (i : Int)).f3.f4)).setCell ⟨g6, 8, none⟩ (.int .i64 (rd_T33 l0_2 (i : Int)).f3.f5)).setCell ⟨g6, 9, none⟩ (.int .i64 (rd_T33 l0_2 (i : Int)).f3.f6))).heap[g6]? = some (.cells #[.int .i64 (rd_T33 l0_2 (i : Int)).f0, .int .i64 (rd_T33 l0_2 (i : Int)).f1, .int .i64 (rd_T33 l0_2 (i : Int)).f2, .int .i64 (rd_T33 l0_2 (i : Int)).f3.f0, .int .i64 (rd_T33 l0_2 (i : Int)).f3.f1, .int .i64 (rd_T33 l0_2 (i : Int)).f3.f2, .int .i64 (rd_T33 l0_2 (i : Int)).f3.f3, .int .i64 (rd_T33 l0_2 (i : Int)).f3.f4, .int .i64 (rd_T33 l0_2 (i : Int)).f3.f5, .int .i64 (rd_T33 l0_2 (i : Int)).f3.f6] 33 (0, 0))) := ⟨GS.bqZ Bg6.out⟩
        have n1_ : Aside0 (Below w.heap.size w ((((((((((w7.setCell ⟨g6, 0, none⟩ (.int .i64 (rd_T33 l0_2 (i : Int)).f0)).setCell ⟨g6, 1, none⟩ (.int .i64 (rd_T33 l0_2 (i : Int)).f1)).setCell ⟨g6, 2, none⟩ (.int .i64 (rd_T33 l0_2 (i : Int)).f2)).setCell ⟨g6, 3, none⟩ (.int .i64 (rd_T33 l0_2 (i : Int)).f3.f0)).setCell ⟨g6, 4, none⟩ (.int .i64 (rd_T33 l0_2 (i : Int)).f3.f1)).setCell ⟨g6, 5, none⟩ (.int .i64 (rd_T33 l0_2 (i : Int)).f3.f2)).setCell ⟨g6, 6, none⟩ (.int .i64 (rd_T33 l0_2 (i : Int)).f3.f3)).setCell ⟨g6, 7, none⟩ (.int .i64 (rd_T33 l0_2 (i : Int)).f3.f4)).setCell ⟨g6, 8, none⟩ (.int .i64 (rd_T33 l0_2 (i : Int)).f3.f5)).setCell ⟨g6, 9, none⟩ (.int .i64 (rd_T33 l0_2 (i : Int)).f3.f6))) := ⟨GS.lB HB.out⟩
        have n2_ : Aside0 (World.ownsMap ((((((((((w7.setCell ⟨g6, 0, none⟩ (.int .i64 (rd_T33 l0_2 (i : Int)).f0)).setCell ⟨g6, 1, none⟩ (.int .i64 (rd_T33 l0_2 (i : Int)).f1)).setCell ⟨g6, 2, none⟩ (.int .i64 (rd_T33 l0_2 (i : Int)).f2)).setCell ⟨g6, 3, none⟩ (.int .i64 (rd_T33 l0_2 (i : Int)).f3.f0)).setCell ⟨g6, 4, none⟩ (.int .i64 (rd_T33 l0_2 (i : Int)).f3.f1)).setCell ⟨g6, 5, none⟩ (.int .i64 (rd_T33 l0_2 (i : Int)).f3.f2)).setCell ⟨g6, 6, none⟩ (.int .i64 (rd_T33 l0_2 (i : Int)).f3.f3)).setCell ⟨g6, 7, none⟩ (.int .i64 (rd_T33 l0_2 (i : Int)).f3.f4)).setCell ⟨g6, 8, none⟩ (.int .i64 (rd_T33 l0_2 (i : Int)).f3.f5)).setCell ⟨g6, 9, none⟩ (.int .i64 (rd_T33 l0_2 (i : Int)).f3.f6)) Try.prog 3 (plainElem Try.prog 4) gm i D) := ⟨((((((((((HMP.out.setCell (a := ⟨g6, 0, none⟩) NGM.out _).setCell (a := ⟨g6, 1, none⟩) NGM.out _).setCell (a := ⟨g6, 2, none⟩) NGM.out _).setCell (a := ⟨g6, 3, none⟩) NGM.out _).setCell (a := ⟨g6, 4, none⟩) NGM.out _).setCell (a := ⟨g6, 5, none⟩) NGM.out _).setCell (a := ⟨g6, 6, none⟩) NGM.out _).setCell (a := ⟨g6, 7, none⟩) NGM.out _).setCell (a := ⟨g6, 8, none⟩) NGM.out _).setCell (a := ⟨g6, 9, none⟩) NGM.out _)⟩
        clear Bg6 HB HMP
        generalize ((((((((((w7.setCell ⟨g6, 0, none⟩ (.int .i64 (rd_T33 l0_2 (i : Int)).f0)).setCell ⟨g6, 1, none⟩ (.int .i64 (rd_T33 l0_2 (i : Int)).f1)).setCell ⟨g6, 2, none⟩ (.int .i64 (rd_T33 l0_2 (i : Int)).f2)).setCell ⟨g6, 3, none⟩ (.int .i64 (rd_T33 l0_2 (i : Int)).f3.f0)).setCell ⟨g6, 4, none⟩ (.int .i64 (rd_T33 l0_2 (i : Int)).f3.f1)).setCell ⟨g6, 5, none⟩ (.int .i64 (rd_T33 l0_2 (i : Int)).f3.f2)).setCell ⟨g6, 6, none⟩ (.int .i64 (rd_T33 l0_2 (i : Int)).f3.f3)).setCell ⟨g6, 7, none⟩ (.int .i64 (rd_T33 l0_2 (i : Int)).f3.f4)).setCell ⟨g6, 8, none⟩ (.int .i64 (rd_T33 l0_2 (i : Int)).f3.f5)).setCell ⟨g6, 9, none⟩ (.int .i64 (rd_T33 l0_2 (i : Int)).f3.f6)) = w8 at n0_ n1_ n2_ ⊢
        have Bg6 := n0_
        have HB := n1_
        have HMP := n2_
        clear n0_ n1_ n2_
        have zd1 := (blk_cell (w := w8) Bg6.out 1).trans rfl
        have hrdi : rd_T33 l0_2 (i : Int) = l0_2[i]'HI.out := rd_get l0_2 i HI.out
        have hto := HTO.out.2 (l0_2[i]'HI.out) (List.getElem_mem HI.out)
        have hkey : keyOf Try.prog 3 (.int .i64 (rd_T33 l0_2 (i : Int)).f1) = some (.int .i64 (l0_2[i]'HI.out).f1) := by
          rw [hrdi]
          exact keyOf_int_mk Try.underlying3 (wf_small hto)
        have HK := Aside0.mk hkey
        have hn : i < maxLen := by have := HTO.out.1; have := HI.out; unfold maxLen; omega
        have HN := Aside0.mk hn
        clear hkey hrdi hto hn
        go_wp2_with (first | (at_mapUpdate; refine wpList_mapUpdate_own _ rfl _ _ _ 76 rfl 3 4 (int_keyed Try.underlying3) Try.underlying76 _ gm i D rfl HMP.out HN.out _ _ _ rfl rfl HK.out (.lit (.bool true)) [] plain_true ?_; intro w9 hown9 hgrow9; have HMP9 := Aside0.mk hown9; have HB9 := Aside0.mk (HB.out.grown hgrow9 HB.out.size (fun j hj => by cases hj; exact HMB.out)); clear hown9 hgrow9))
        go_roundg gk
        case measure => omega
        case rel => exact ⟨i + 1, _, by first | rw [HW.out] | (simp; done), ⟨by have := HJ.out; omega⟩, HMP9, ⟨has_step HMP.out.isMap l0_2 i HI.out _ HH.out⟩, HB9⟩
  · rw [if_neg c1] at H
    simp only [Option.some.injEq, Prod.mk.injEq] at H
    obtain ⟨rfl, rfl⟩ := H
    have c1b : (t == 0) = false := beq_eq_false_iff_ne.mpr c1
    have c1c : (t != 0) = true := bne_iff_ne.mpr c1
    clear c1
    go_enter Try.func32, Try.ntmps32
    go_wp2_with (first | ((with_reducible refine gate_dst (N := 1) rfl ?_); refine GS.bx (N := 1) (cs := #[.int .i64 a0_0, .int .i64 a0_1, .slice A0_2 l0_2.length c0_2]) (t := 24) ?_; intro g2 hg_ w2 hbox_ hb_; have n0_ := Aside0.mk (below_step (GS.lB HB.out) hb_); have n1_ := Aside0.mk hbox_; have n2_ : Aside0 (w.heap.size ≤ g2) := ⟨by rw [hg_]; exact below_size (GS.lB HB.out)⟩; clear HB; have HB := n0_; have Bg2 := n1_; have Gg2 := n2_; clear n0_ n1_ n2_ hb_ hbox_ hg_; obtain ⟨za0, za1, za2, qa0, qa1, qa2⟩ := GS.c3 (w := w2) Bg2.out) | (go_at_call 17; refine (sender_Check.calls k a0_0 a0_1 _ _ l0_2 t _ (Kd.C_below HR.out HB.out) HC.out A2.out).mono ?_; rintro e w5 ⟨rfl, hb_⟩; have n0_ := Aside0.mk (below_step HB.out hb_); clear HB; have HB := n0_; clear n0_; have m0_ := Aside0.mk (blk_below Bg2.out hb_); clear Bg2; have Bg2 := m0_; clear m0_; clear za0 za1 za2 qa0 qa1 qa2; clear hb_; obtain ⟨za0, za1, za2, qa0, qa1, qa2⟩ := GS.c3 (w := w5) Bg2.out))
    (go_ret2; exact ⟨_, rfl, Kd.R_nil _ _ _ _ _, HB.out⟩)
end Go.Proofs.Ytfafeeobjlkjnaa.K
