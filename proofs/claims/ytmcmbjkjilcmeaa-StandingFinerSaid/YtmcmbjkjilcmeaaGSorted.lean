/- By hand: standing.sorted: a copy of numbers, sorted, each number once. -/
import Derived.Test.YtmcmbjkjilcmeaaGSort
import Derived.Test.YtmcmbjkjilcmeaaGClone
import Derived.Lib.OwnBridge
import Derived.Lib.SlKeysI
import Derived.Shelf.SlIter.Collect
namespace Go.Proofs.Ytmcmbjkjilcmeaa.K
open Go Go.RowKit Go.Maps Go.Sort Go.Shelf Go.Proofs.YtmcmbjkjilcmeaaW.PrintWords Go.Proofs.YtmcmbjkjilcmeaaW.PrintLast Go.Proofs.YtmcmbjkjilcmeaaW.PrintMore
set_option linter.unusedVariables false
set_option linter.unusedSimpArgs false
/-- The numbers of a list in ascending order. -/
def srt (xs : List Int) : List Int := xs.mergeSort (fun x y => decide (x ≤ y))
theorem R_ints {e : Nat} {w : World} {base : Nat} {v : Value} {xs : List Int} (ho : w.ownsRow base e 1 v xs.length (xs.map (Value.int .i64))) : (Kd.int .i64).R e w base (fun _ => True) v xs := by
  refine ⟨fun _ _ => trivial, xs.map (Value.int .i64), ho, by simp [Kd.int, Kd.scalar], fun j p hj => ?_⟩
  obtain ⟨hl, hp⟩ := List.getElem?_eq_some_iff.1 hj
  have hl' : j < (xs.map (Value.int .i64)).length := by simpa using hl
  show ((xs.map (Value.int .i64)).drop (j * 1)).take 1 = [Value.int .i64 p]
  rw [Nat.mul_one, List.drop_eq_getElem_cons hl']
  simp [hp]
/-- A row of numbers in memory of its own, opened. -/
theorem open_ints {e : Nat} {w : World} {base : Nat} {v : Value} {xs : List Int} (HO : (Kd.int .i64).R e w base (fun _ => True) v xs) :
    (v = .slice none 0 0 ∧ xs = []) ∨ ∃ gb cap cur, v = .slice (some ⟨gb, 0, none⟩) xs.length cap ∧ base ≤ gb ∧ w.heap[gb]? = some (.cells cur e (0, 0)) ∧ xs.length ≤ cap ∧ cap ≤ maxLen ∧ cur.size = cap * 1 ∧ cur.toList.take xs.length = xs.map encZ := by
  obtain ⟨hok, inner, hown, hlen, hr⟩ := HO
  rcases hown.2 with ⟨rfl, hz⟩ | ⟨gb, cap, cur, rfl, hbase, hgb, r1, r2, r3, r4⟩
  · exact .inl ⟨rfl, List.eq_nil_of_length_eq_zero hz⟩
  · have hl1 : inner.length = xs.length := by simpa [Kd.int, Kd.scalar] using hlen
    have hin : inner = xs.map (Value.int .i64) := by
      apply List.ext_getElem (by simpa using hl1)
      intro j h1 h2
      have h3 : j < xs.length := by simpa using h2
      have h4 : (inner.drop (j * 1)).take 1 = [Value.int .i64 xs[j]] := hr j xs[j] (List.getElem?_eq_getElem h3)
      rw [Nat.mul_one, List.drop_eq_getElem_cons h1] at h4
      rw [List.getElem_map]
      exact (List.cons.inj h4).1
    have r4' : cur.toList.take (xs.length * 1) = inner := r4
    rw [Nat.mul_one] at r4'
    exact .inr ⟨gb, cap, cur, rfl, hbase, hgb, r1, r2, r3, r4'.trans hin⟩
theorem compact_le (zs : List Int) : (Lib.compact zs).length ≤ zs.length := by
  have := List.length_filter_le (Lib.keeps zs.toArray) (List.range zs.length)
  simpa [Lib.compact, Lib.compactUpTo] using this
set_option maxHeartbeats 1000000 in
set_option maxRecDepth 100000 in
theorem sort56 (xs : List Int) (v : Value) (base : Nat) (w : World) (hN : xs.length < 1000000000) (HO : (Kd.int .i64).R 3 w base (fun _ => True) v xs) (hbw : base ≤ w.heap.size) :
    Calls Try.prog 56 #[v] w fun e w' => (∃ u, e = .returned u) ∧ (Kd.int .i64).R 3 w' base (fun _ => True) v (srt xs) ∧ Below base w w' := by
  have hlen : (srt xs).length = xs.length := List.length_mergeSort _
  rcases open_ints HO with ⟨rfl, rfl⟩ | ⟨gb, cap, cur, rfl, hbase, hgb, r1, r2, r3, r4⟩
  · refine (AnyM.slices_Sort_int_none Try.sortA none 0 w).mono ?_
    rintro e w' ⟨rfl, rfl⟩
    refine ⟨⟨_, rfl⟩, ?_, Below.refl _ _⟩
    rw [show srt [] = [] by simp [srt]]
    exact Kd.R_nil _ _ _ _ _
  · have hH : Holds encZ w gb 0 xs.toArray := holds_of_block_i hgb r4
    have hgl : gb < w.heap.size := (Array.getElem?_eq_some_iff.1 hgb).1
    refine (AnyM.slices_Sort_int Try.sortA gb 0 cap xs w hH hgl (by omega)).mono ?_
    rintro e w' ⟨rfl, nn, os, rfl⟩
    refine ⟨⟨_, rfl⟩, R_ints ?_, (Below.refl base w).grown (grownBy_sorted_i _) hbw (fun j hj => by cases hj; exact hbase)⟩
    rw [hlen]
    exact ownsRow_sorted_i hlen hbase hgb r1 r2 r3
theorem owns_less {w : World} {g cap n m : Nat} {base e : Nat} {xs ys : List Int} (h : w.ownsRow base e 1 (.slice (some ⟨g, 0, none⟩) n cap) n ((xs ++ ys).map encZ)) (hm : xs.length = m) (hmn : m ≤ n) : w.ownsRow base e 1 (.slice (some ⟨g, 0, none⟩) m cap) m (xs.map encZ) := by
  rcases h.2 with ⟨h0, _⟩ | ⟨gb, cap', cur, h0, hbase, hgb, r1, r2, r3, r4⟩
  · cases h0
  · injection h0 with e1 e2 e3
    cases e1
    subst e3
    refine ⟨by simp [hm], .inr ⟨g, cap, cur, rfl, hbase, hgb, by omega, r2, r3, ?_⟩⟩
    have := congrArg (List.take m) r4
    rw [List.take_take, Nat.mul_one, Nat.min_eq_left hmn] at this
    rw [Nat.mul_one, this, List.map_append, List.take_append_of_le_length (by simp [hm])]
    exact List.take_of_length_le (by simp [hm])
set_option maxHeartbeats 1000000 in
set_option maxRecDepth 100000 in
theorem comp57 (xs : List Int) (v : Value) (base : Nat) (w : World) (hN : xs.length < 1000000000) (HO : (Kd.int .i64).R 3 w base (fun _ => True) v xs) (hbw : base ≤ w.heap.size) :
    Calls Try.prog 57 #[v] w fun e w' => ∃ u, e = .returned u ∧ (Kd.int .i64).R 3 w' base (fun _ => True) u (Lib.compact xs) ∧ Below base w w' := by
  rcases open_ints HO with ⟨rfl, rfl⟩ | ⟨gb, cap, cur, rfl, hbase, hgb, r1, r2, r3, r4⟩
  · refine (AnyG.slices_Compact_int_empty Try.compA none 0 w).mono ?_
    rintro e w' ⟨rfl, rfl⟩
    refine ⟨_, rfl, ?_, Below.refl _ _⟩
    rw [show Lib.compact ([] : List Int) = [] from rfl]
    exact Kd.R_nil _ _ _ _ _
  · have hH : Holds (Value.int .i64) w gb 0 xs.toArray := holds_of_block_i hgb r4
    have hle := compact_le xs
    refine (AnyG.slices_Compact_int Try.compA gb 0 cap xs w hH (by omega) r1).mono ?_
    rintro e w' ⟨rfl, q, rfl⟩
    have h1 := ownsRow_sorted_i (n := q) (os := #[]) (ss := xs) (ts := Lib.compact xs ++ List.replicate (xs.length - (Lib.compact xs).length) 0) (by simp; omega) hbase hgb r1 r2 r3
    rw [grow_empty] at h1
    exact ⟨_, rfl, R_ints (owns_less h1 rfl hle), Lib.below_putRow (Below.refl _ _) hbase⟩
def sorted35.f (l : List Int) : Option (List Int) := if l.length < 100000000 then some (Lib.compact (srt l)) else none
set_option maxHeartbeats 2000000 in
set_option maxRecDepth 100000 in
theorem sorted35.calls (A0 : Option Addr) (c0 : Nat) (l0 : List Int) (r : List Int) (w : World) (hr0 : Kd.C (Kd.int .i64) w A0 l0.length l0) (hc0 : l0.length ≤ c0) (h : sorted35.f l0 = some r) :
    Calls Try.prog 35 #[.slice A0 l0.length c0] w fun e w' => ∃ v1 : Value, e = .returned v1 ∧ Kd.R (Kd.int .i64) 3 w' w.heap.size (fun _ => True) v1 r ∧ Below w.heap.size w w' := by
  unfold sorted35.f at h
  by_cases hl : l0.length < 100000000
  · rw [if_pos hl] at h
    obtain rfl := Option.some.inj h
    have hc : clone18.f l0 = some l0 := by unfold clone18.f; rw [if_pos (by omega)]
    have HL := Aside0.mk (show l0.length < 1000000000 by omega)
    have HLS : Aside0 ((srt l0).length < 1000000000) := ⟨by rw [show (srt l0).length = l0.length from List.length_mergeSort _]; exact HL.out⟩
    have HR := Aside0.mk hr0
    have HC := Aside0.mk hc0
    have HE := Aside0.mk hc
    clear hr0 hc0 hl hc h
    go_enter Try.func35, Try.ntmps35
    go_wp2_with (first
      | ((with_reducible show Calls Try.prog 18 _ _ _); refine (clone18.calls A0 c0 l0 l0 _ HR.out HC.out HE.out).mono ?_; rintro e w1 ⟨v1, rfl, ho, hb⟩; have HO := Aside0.mk ho; have HB := Aside0.mk hb; clear ho hb)
      | ((with_reducible show Calls Try.prog 56 _ _ _); refine (sort56 l0 v1 w.heap.size _ HL.out HO.out HB.out.size).mono ?_; rintro e w2 ⟨⟨u, rfl⟩, ho, hb⟩; have HO2 := Aside0.mk ho; have HB2 := Aside0.mk (HB.out.trans hb); clear ho hb HO HB)
      | ((with_reducible show Calls Try.prog 57 _ _ _); refine (comp57 (srt l0) v1 w.heap.size _ HLS.out HO2.out HB2.out.size).mono ?_; rintro e w3 ⟨v3, rfl, ho, hb⟩; have HO3 := Aside0.mk ho; have HB3 := Aside0.mk (HB2.out.trans hb); clear ho hb HO2 HB2))
    go_ret
    exact ⟨_, rfl, HO3.out, HB3.out⟩
  · rw [if_neg hl] at h
    cases h
end Go.Proofs.Ytmcmbjkjilcmeaa.K
