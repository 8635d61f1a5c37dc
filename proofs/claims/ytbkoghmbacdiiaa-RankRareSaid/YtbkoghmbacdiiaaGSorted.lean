/- By hand: slices.Sorted(slices.Values(l)): the numbers of a list, in ascending order, in memory of their own. -/
import Derived.Test.YtbkoghmbacdiiaaGSort
import Derived.Test.YtbkoghmbacdiiaaK0
import Derived.Test.YtbkoghmbacdiiaaGShort
import Derived.Test.YtbkoghmbacdiiaaGConcat
namespace Go.Proofs.Ytbkoghmbacdiiaa.K
open Go Go.RowKit Go.Maps Go.Sort Go.Shelf Go.Proofs.YtbkoghmbacdiiaaW.PrintWords Go.Proofs.YtbkoghmbacdiiaaW.PrintLast Go.Proofs.YtbkoghmbacdiiaaW.PrintMore
set_option linter.unusedVariables false
set_option linter.unusedSimpArgs false
/-- An iterator that gives the numbers xs, in whatever world that leaves what lay there before. -/
def SeqFrom (n : Nat) (g : Nat) (lb : Array Value) (xs : List Int) (w : World) : Prop :=
  ∀ (l : Nat) (J : List Int → World → Prop) (W : World), Below w.heap.size w W →
    (∀ pre x W1, J pre W1 → pre.length < xs.length → YieldAt Fence.wide (n - 1) Try.prog l #[encZ x] W1 fun e W' => e = .returned (.bool true) ∧ J (pre ++ [x]) W' ∧ KeepsWalks W1 W') →
    (∀ pre W1, J pre W1 → Below w.heap.size w W1) → J [] W →
    CallsIn Fence.wide n Try.prog g (#[.func (.yield l) #[] #[]] ++ lb) W fun e W' => (∃ v, e = .returned v) ∧ J xs W'
set_option maxHeartbeats 1000000 in
/-- slices.Values: the slice is boxed; the function value captures the box. -/
theorem values_in (n : Nat) (A : Option Addr) (m c : Nat) (w : World) :
    CallsIn Fence.wide n Try.prog 39 #[.slice A m c] w fun e w' => e = .returned (.func (.func 55) #[] #[.pointer (some ⟨w.heap.size, 0, none⟩)]) ∧ w' = w.alloc (.cells #[.slice A m c] 27) := by
  refine callsIn_of_wp Try.func39 rfl trivial ?_ rfl
  simp only [Try.ntmps39, List.size_toArray, List.length_cons, List.length_nil, Nat.reduceAdd, Nat.reduceSub, Array.replicate_succ, Array.replicate_zero, List.push_toArray, List.append_toArray, List.nil_append, List.cons_append]
  gi_wp2
  go_ret
  exact ⟨rfl, rfl⟩
set_option maxRecDepth 100000 in
set_option maxHeartbeats 4000000 in
theorem values1 (n : Nat) (hn : 1 ≤ n) (l Bm : Nat) (A : Option Addr) (c : Nat) (xs : List Int) (hxl : xs.length < 1000000000) (J : List Int → World → Prop)
    (hY : ∀ pre x W, J pre W → pre.length < xs.length → YieldAt Fence.wide (n - 1) Try.prog l #[encZ x] W fun e W' => e = .returned (.bool true) ∧ J (pre ++ [x]) W' ∧ KeepsWalks W W')
    (hC : ∀ pre W, J pre W → Kd.C (Kd.int .i64) W A xs.length xs) (W : World) (hm : W.cell? ⟨Bm, 0, none⟩ = some (.slice A xs.length c)) (h0 : J [] W) :
    CallsIn Fence.wide n Try.prog 55 #[.func (.yield l) #[] #[], .pointer (some ⟨Bm, 0, none⟩)] W fun e W' => (∃ v, e = .returned v) ∧ J xs W' := by
  refine callsIn_of_wp Try.func55 rfl trivial ?_ rfl
  simp only [Try.ntmps55, List.size_toArray, List.length_cons, List.length_nil, Nat.reduceAdd, Nat.reduceSub, Array.replicate_succ, Array.replicate_zero, List.push_toArray, List.append_toArray, List.nil_append, List.cons_append]
  gi_wp2
  gi_loopw [4, 7] (fun _ v7 wr => ∃ i : Nat, v7 = .int .i64 (i : Int) ∧ i ≤ xs.length ∧ J (xs.take i) wr)
    (fun _ v7 wr => match v7 with | .int _ i => (xs.length - i.toNat) | _ => 0)
  case atStart => exact ⟨0, rfl, Nat.zero_le _, h0⟩
  case round =>
    obtain ⟨i, rfl, hi, hJ⟩ := hrel
    by_cases hlt : i < xs.length
    · have q1 : decide ((i : Int) < (xs.length : Int)) = true := decide_eq_true (by omega)
      obtain ⟨ad, e1, x0⟩ := Kd.at_int (hC _ _ hJ) (i : Int) (by omega) (by omega)
      cases e1
      have p2 : (0 ≤ (i : Int)) = True := eq_true (by omega)
      have q2 : ((i : Int) < (xs.length : Int)) = True := eq_true (by omega)
      have hw : wrap64 ((i : Int) + 1) = ((i + 1 : Nat) : Int) := by unfold wrap64; omega
      have hrd : Go.Proofs.YtbkoghmbacdiiaaW.PrintWords.rd xs (i : Int) = xs[i] := by
        unfold Go.Proofs.YtbkoghmbacdiiaaW.PrintWords.rd
        simp [List.getD_eq_getElem?_getD, hlt]
      rw [hrd] at x0
      simp only [Int.toNat_natCast] at x0
      obtain ⟨fn, tmps, assign, body, hy, hR⟩ := hY (xs.take i) xs[i] _ hJ (by simp; omega)
      gi_wp2
      refine hR.mono ?_
      rintro e W3 ⟨rfl, hJ3, hk3⟩
      gi_wp2
      go_roundw
      case rel => exact ⟨i + 1, rfl, by omega, by rw [← List.take_append_getElem hlt]; exact hJ3⟩
      case measure => simp; omega
    · have q1 : decide ((i : Int) < (xs.length : Int)) = false := decide_eq_false (by omega)
      have he : xs.take i = xs := List.take_of_length_le (by omega)
      rw [he] at hJ
      gi_wp2
      go_end0
      exact ⟨⟨_, rfl⟩, hJ⟩
theorem values_gives (n : Nat) (hn : 1 ≤ n) (Bm : Nat) (A : Option Addr) (c : Nat) (xs : List Int) (hxl : xs.length < 1000000000) (w : World) (hBm : Bm < w.heap.size)
    (hm : w.cell? ⟨Bm, 0, none⟩ = some (.slice A xs.length c)) (hr : Kd.C (Kd.int .i64) w A xs.length xs) :
    SeqFrom n 55 #[.pointer (some ⟨Bm, 0, none⟩)] xs w := fun l J W hW hY hB h0 =>
  values1 n hn l Bm A c xs hxl J hY (fun pre W1 hJ => Kd.C_below hr (hB pre W1 hJ)) W ((hW.cell (p := ⟨Bm, 0, none⟩) hBm).trans hm) h0
abbrev rn := Try.sortedA_ren
set_option maxRecDepth 100000 in
set_option maxHeartbeats 4000000 in
/-- slices.AppendSeq(nil, ..) of an iterator that gives xs. -/
theorem appendSeqB (n : Nat) (hn : 2 ≤ n) (g : Nat) (lb : Array Value) (eg : ∀ args w, (callFunc g args).run Try.prog w = .ok (.enter g args) w)
    (xs : List Int) (hN : xs.length < 1000000000) (w : World) (hseq : SeqFrom (n - 1) g lb xs w) :
    CallsIn Fence.wide n Try.prog 58 #[.slice none 0 0, .func (.func g) #[] lb] w fun e w' => ∃ (v : Value), e = .returned v ∧ w'.ownsRow w.heap.size 3 1 v xs.length (xs.map encZ) ∧ (v = .slice none 0 0 ↔ xs = []) ∧ Below w.heap.size w w' := by
  have h1 : 1 ≤ n := by omega
  have hne : (27 : TypeId) ≠ 3 := by decide
  refine callsIn_of_wp_marks Try.func58 rfl trivial ?_ rfl
  simp only [Try.ntmps58, List.size_toArray, List.length_cons, List.length_nil, Nat.reduceAdd, Nat.reduceSub, Array.replicate_succ, Array.replicate_zero, List.push_toArray, List.append_toArray, List.nil_append, List.cons_append]
  gi_wp2
  refine wpIn_rangeFunc ?_
  intro fn hfn
  rw [show Fence.wide.round = none from rfl]
  obtain ⟨W0, hW0⟩ : ∃ W0, w.alloc (.cells #[.slice none 0 0] 27) = W0 := ⟨_, rfl⟩
  have hs0 : W0.heap.size = w.heap.size + 1 := by rw [← hW0]; simp
  have hv0 : W0.heap[w.heap.size]? = some (.cells #[.slice none 0 0] 27 (0, 0)) := by rw [← hW0]; exact World.alloc_heap_new w _
  have hb0 : Below w.heap.size w W0 := by rw [← hW0]; exact (Below.refl _ w).alloc (Nat.le_refl _) _
  rw [hW0]
  obtain ⟨W1, hW1⟩ : ∃ W1, (W0.alloc (.deferred (some []))).alloc (.loop (AnyZI.apRec rn fn (.func (.func g) #[] lb) w.heap.size W0.heap.size .ready none)) = W1 := ⟨_, rfl⟩
  have hold : ∀ k, k < W0.heap.size → W1.heap[k]? = W0.heap[k]? := fun k hk => by
    rw [← hW1]; exact (Below.heap_alloc _ _ k (by simp; omega)).trans (Below.heap_alloc _ _ k hk)
  have hb1 : Below w.heap.size w W1 := by rw [← hW1]; exact (hb0.alloc hb0.size _).alloc (by have := hb0.size; simp; omega) _
  have hs1 : W1.heap.size = W0.heap.size + 2 := by rw [← hW1]; simp
  have hM : AnyZI.ApAt rn w fn (.func (.func g) #[] lb) w.heap.size (W0.heap.size + 1) W0.heap.size [] W1 :=
    ⟨⟨_, (hold w.heap.size (by omega)).trans hv0, ⟨rfl, .inl ⟨rfl, rfl⟩⟩, by simp⟩,
     by rw [← hW1]; have := World.alloc_heap_new (W0.alloc (.deferred (some []))) (.loop (AnyZI.apRec rn fn (.func (.func g) #[] lb) w.heap.size W0.heap.size .ready none)); rwa [World.size_alloc] at this,
     by rw [← hW1]; exact (Below.heap_alloc _ _ _ (by simp)).trans (World.alloc_heap_new W0 _), hb1⟩
  refine ⟨W0.heap.size + 1, [{ target := .collected W0.heap.size, args := #[] }], W1, { target := .fn (.func g) lb, args := #[.func (.yield (W0.heap.size + 1)) #[] #[]] }, W1, g,
    #[.func (.yield (W0.heap.size + 1)) #[] #[]] ++ lb, W1, ?_, ?_, ?_, ?_, fun _ => h1, ?_⟩
  · rw [← hW1]; exact run_enterLoop_outer _ _ _ _ _
  · simp [resolve, go_sem]
  · intro f' hf'; trivial
  · simp [invoke, go_sem, eg]
  · refine (hseq (W0.heap.size + 1) (AnyZI.ApAt rn w fn (.func (.func g) #[] lb) w.heap.size (W0.heap.size + 1) W0.heap.size) W1 hb1
      (fun pre x W hJ hl => AnyZI.apYield { Try.sortedA with } Fence.wide (n - 1 - 1) w fn trivial _ w.heap.size (W0.heap.size + 1) W0.heap.size (by omega) (by omega) (by omega) (Nat.le_refl _) (by omega) xs.length (by unfold maxLen; omega) (by omega) pre x W hJ hl) (fun _ _ hJ => hJ.below) hM).mono ?_
    rintro e W2 ⟨⟨v0, rfl⟩, h2⟩
    obtain ⟨v, hv, hrow, hnil⟩ := h2.box
    have hend := run_endLoop (P := Try.prog) h2.L (by simp [AnyZI.apRec])
    obtain ⟨W3, hW3⟩ : ∃ W3, W2.putObj (W0.heap.size + 1) (.loop { AnyZI.apRec rn fn (.func (.func g) #[] lb) w.heap.size W0.heap.size .ready none with state := .exhausted }) = W3 := ⟨_, rfl⟩
    rw [hW3] at hend
    have hg3 : W2.grownBy W3 (some (W0.heap.size + 1)) := by rw [← hW3]; exact grownBy_putObj_a _ _ _
    have hv3 : W3.heap[w.heap.size]? = some (.cells #[v] 27 (0, 0)) := by rw [← hW3]; exact (World.putObj_heap_other (by omega)).trans hv
    have hK3 : W3.heap[W0.heap.size]? = some (.deferred (some [])) := by rw [← hW3]; exact (World.putObj_heap_other (by omega)).trans h2.K
    have hrow3 := hrow.kept hg3 (ownsRow_ne_a hrow h2.L (fun cur e => by first | cases e | exact hne (Obj.cells.inj e).2.1))
    have hb3 : Below w.heap.size w W3 := h2.below.grown hg3 h2.below.size (fun k e => by cases e; omega)
    obtain ⟨hc3, hf3⟩ := cell_of_box_a hv3
    clear hW3
    refine ⟨none, W3, hend, ?_⟩
    gi_wp2
    rw [← hs0]
    refine ⟨by simp, .inl ⟨_, _, rfl, run_takeDeferred hK3, ?_⟩⟩
    exact ⟨_, results_tmp rfl _ _ _, v, rfl, hrow3.kept (grownBy_putObj_a _ _ _) (ownsRow_ne_a hrow3 hK3 (fun cur e => by first | cases e | exact hne (Obj.cells.inj e).2.1)), hnil, hb3.grown (grownBy_putObj_a _ _ _) hb3.size (fun k e => by cases e; omega)⟩
set_option maxHeartbeats 1000000 in
theorem collectB (n : Nat) (hn : 3 ≤ n) (g : Nat) (lb : Array Value) (eg : ∀ args w, (callFunc g args).run Try.prog w = .ok (.enter g args) w)
    (xs : List Int) (hN : xs.length < 1000000000) (w : World) (hseq : SeqFrom (n - 1 - 1) g lb xs w) :
    CallsIn Fence.wide n Try.prog 53 #[.func (.func g) #[] lb] w fun e w' => ∃ (v : Value), e = .returned v ∧ w'.ownsRow w.heap.size 3 1 v xs.length (xs.map encZ) ∧ (v = .slice none 0 0 ↔ xs = []) ∧ Below w.heap.size w w' := by
  have h62 : Fence.wide.fn 58 := trivial
  have h1 : 1 ≤ n := by omega
  refine callsIn_of_wp Try.func53 rfl trivial ?_ rfl
  simp only [Try.ntmps53, List.size_toArray, List.length_cons, List.length_nil, Nat.reduceAdd, Nat.reduceSub, Array.replicate_succ, Array.replicate_zero, List.push_toArray, List.append_toArray, List.nil_append, List.cons_append]
  gi_wp2_with (gi_at_call 58; refine (appendSeqB (n - 1) (by omega) g lb eg xs hN _ hseq).mono ?_; rintro e w' ⟨v, rfl, hrow, hnil, hb⟩)
  go_ret
  exact ⟨v, rfl, hrow, hnil, hb⟩
theorem eg_val (args : Array Value) (w : World) : (callFunc 55 args).run Try.prog w = .ok (.enter 55 args) w := enters_ Try.func55 (by kernel_rfl) rfl args w
/-- The numbers of a list in ascending order. -/
def srt (xs : List Int) : List Int := xs.mergeSort (fun x y => decide (x ≤ y))
theorem R_ints {e : Nat} {w : World} {base : Nat} {v : Value} {xs : List Int} (ho : w.ownsRow base e 1 v xs.length (xs.map (Value.int .i64))) : (Kd.int .i64).R e w base (fun _ => True) v xs := by
  refine ⟨fun _ _ => trivial, xs.map (Value.int .i64), ho, by simp [Kd.int, Kd.scalar], fun j p hj => ?_⟩
  obtain ⟨hl, hp⟩ := List.getElem?_eq_some_iff.1 hj
  have hl' : j < (xs.map (Value.int .i64)).length := by simpa using hl
  show ((xs.map (Value.int .i64)).drop (j * 1)).take 1 = [Value.int .i64 p]
  rw [Nat.mul_one, List.drop_eq_getElem_cons hl']
  simp [hp]
set_option maxHeartbeats 2000000 in
set_option maxRecDepth 100000 in
/-- slices.Sorted(slices.Values(l)). -/
theorem sorted_vals (A : Option Addr) (c : Nat) (xs : List Int) (hN : xs.length < 1000000000) (w : World) (hr : Kd.C (Kd.int .i64) w A xs.length xs) :
    Calls Try.prog 38 #[.func (.func 55) #[] #[.pointer (some ⟨w.heap.size, 0, none⟩)]] (w.alloc (.cells #[.slice A xs.length c] 27)) fun e w' => ∃ v : Value, e = .returned v ∧ Kd.R (Kd.int .i64) 3 w' w.heap.size (fun _ => True) v (srt xs) ∧ Below w.heap.size w w' := by
  refine (callsIn_wide (n := 5)).1 ?_
  have h53 : Fence.wide.fn 53 := trivial
  have h54 : Fence.wide.fn 54 := trivial
  have hseq : SeqFrom 2 55 #[.pointer (some ⟨w.heap.size, 0, none⟩)] xs (w.alloc (.cells #[.slice A xs.length c] 27)) :=
    values_gives 2 (by omega) w.heap.size A c xs hN _ (by simp) (by simp) (Kd.C_alloc hr _)
  have hsort := Try.sortsA 4
  have hwb : Below w.heap.size w (w.alloc (.cells #[.slice A xs.length c] 27)) := (Below.refl _ w).alloc (Nat.le_refl _) _
  refine callsIn_of_wp Try.func38 rfl trivial ?_ rfl
  simp only [Try.ntmps38, List.size_toArray, List.length_cons, List.length_nil, Nat.reduceAdd, Nat.reduceSub, Array.replicate_succ, Array.replicate_zero, List.push_toArray, List.append_toArray, List.nil_append, List.cons_append]
  gi_wp2_with (gi_at_call 53; refine (collectB 4 (by omega) 55 _ eg_val xs hN _ hseq).mono ?_; rintro e W ⟨v, rfl, hrow, hnil, hb⟩)
  have hb2 : Below w.heap.size w W := hwb.trans (hb.mono (by simp))
  have hlen : (srt xs).length = xs.length := List.length_mergeSort _
  rcases hrow.2 with ⟨rfl, hz⟩ | ⟨gb, cap, cur, rfl, hbase, hgb, r1, r2, r3, r4⟩
  · have hss : xs = [] := List.eq_nil_of_length_eq_zero hz
    subst hss
    gi_wp2_with (gi_at_call 54; refine (hsort.2 none 0 W).mono ?_; rintro e w' ⟨rfl, rfl⟩)
    go_ret
    rw [show srt [] = [] by simp [srt]]
    exact ⟨_, rfl, Kd.R_nil _ _ _ _ _, hb2⟩
  · have hH : Holds encZ W gb 0 xs.toArray := holds_of_block_i hgb (by simpa using r4)
    have hgl : gb < W.heap.size := (Array.getElem?_eq_some_iff.1 hgb).1
    have cS := hsort.1 gb 0 cap xs W hH hgl (by omega)
    have hbw : w.heap.size ≤ gb := by simp at hbase; omega
    gi_wp2_with (gi_at_call 54; refine cS.mono ?_; rintro e w' ⟨rfl, nn, os, rfl⟩)
    go_ret
    refine ⟨_, rfl, R_ints ?_, hb2.grown (grownBy_sorted_i _) hb2.size (fun j hj => by cases hj; exact hbw)⟩
    rw [hlen]
    exact ownsRow_base_a (ownsRow_sorted_i (by simp) hbase hgb r1 r2 r3) (by simp)
end Go.Proofs.Ytbkoghmbacdiiaa.K
