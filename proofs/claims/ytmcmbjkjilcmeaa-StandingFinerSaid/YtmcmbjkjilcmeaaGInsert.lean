/- By hand: slices.Insert of one number into a list in memory of its own. -/
import Derived.Test.YtmcmbjkjilcmeaaGIns
import Derived.Test.YtmcmbjkjilcmeaaGSorted
import Derived.Test.YtmcmbjkjilcmeaaGShort
namespace Go.Proofs.Ytmcmbjkjilcmeaa.K
open Go Go.RowKit Go.Maps Go.Sort Go.Shelf Go.Proofs.YtmcmbjkjilcmeaaW.PrintWords Go.Proofs.YtmcmbjkjilcmeaaW.PrintLast Go.Proofs.YtmcmbjkjilcmeaaW.PrintMore
set_option linter.unusedVariables false
set_option linter.unusedSimpArgs false
def putA (cur : Array Value) : Nat → List Value → Array Value
  | _, [] => cur
  | o, v :: r => putA (cur.setIfInBounds o v) (o + 1) r
theorem setCells_blk (g e : Nat) : ∀ (vs : List Value) (o : Nat) (w : World) (cur : Array Value), w.heap[g]? = some (.cells cur e (0, 0)) → (w.setCells g o vs).heap[g]? = some (.cells (putA cur o vs) e (0, 0))
  | [], o, w, cur, h => h
  | v :: r, o, w, cur, h => setCells_blk g e r (o + 1) _ _ (bqP h o v rfl)
theorem setCells_oth (g k : Nat) (hk : k ≠ g) : ∀ (vs : List Value) (o : Nat) (w : World), (w.setCells g o vs).heap[k]? = w.heap[k]?
  | [], o, w => rfl
  | v :: r, o, w => (setCells_oth g k hk r (o + 1) _).trans (Below.heap_setCell w ⟨g, o, none⟩ v k hk)
theorem setCells_size (g : Nat) : ∀ (vs : List Value) (o : Nat) (w : World), (w.setCells g o vs).heap.size = w.heap.size
  | [], o, w => rfl
  | v :: r, o, w => by rw [World.setCells, setCells_size g r (o + 1)]; simp
theorem grown_setCells (g : Nat) : ∀ (vs : List Value) (o : Nat) (w : World), w.grownBy (w.setCells g o vs) (some g)
  | [], o, w => ⟨rfl, rfl, rfl, Nat.le_refl _, fun _ _ _ => rfl⟩
  | v :: r, o, w => by
    have h := grown_setCells g r (o + 1) (w.setCell ⟨g, o, none⟩ v)
    exact ⟨h.os, h.tape, h.output, by have := h.size; simp only [World.setCells]; simpa using this, fun k hk hne => (h.block k (by simpa using hk) hne).trans (Below.heap_setCell w ⟨g, o, none⟩ v k (fun e => hne (by rw [e])))⟩
theorem putA_size : ∀ (vs : List Value) (o : Nat) (cur : Array Value), (putA cur o vs).size = cur.size
  | [], o, cur => rfl
  | v :: r, o, cur => by rw [putA, putA_size r (o + 1)]; simp
theorem putA_get : ∀ (vs : List Value) (o : Nat) (cur : Array Value) (j : Nat), o + vs.length ≤ cur.size → (putA cur o vs)[j]? = if o ≤ j ∧ j < o + vs.length then vs[j - o]? else cur[j]?
  | [], o, cur, j, h => by rw [putA, if_neg (by simp)]
  | v :: r, o, cur, j, h => by
    simp only [List.length_cons] at h
    rw [putA, putA_get r (o + 1) _ j (by simp; omega)]
    by_cases c1 : o + 1 ≤ j ∧ j < o + 1 + r.length
    · rw [if_pos c1, if_pos (by simp; omega), show j - o = (j - (o + 1)) + 1 by omega]
      simp
    · rw [if_neg c1]
      by_cases c2 : j = o
      · subst c2
        rw [if_pos (by simp)]
        simp [show j < cur.size by omega]
      · rw [if_neg (by simp; omega)]
        simp [Array.getElem?_setIfInBounds, Ne.symm c2]
theorem zsize (n : Nat) : (Builtin.zeroCells (Value.int .i64 0).cells n).size = n := by simp [Builtin.zeroCells, Value.cells]
def insI (xs : List Int) (i : Nat) (y : Int) : List Int := xs.take i ++ y :: xs.drop i
theorem insI_len (xs : List Int) (i : Nat) (y : Int) (h : i ≤ xs.length) : (insI xs i y).length = xs.length + 1 := by simp [insI]; omega
/-- A row that holds the cells of the list with one more. -/
theorem ins_row {w : World} {g cap base : Nat} {cur : Array Value} {xs : List Int} {i : Nat} {y : Int} (hi : i ≤ xs.length) (hb : base ≤ g) (hg : w.heap[g]? = some (.cells cur 3 (0, 0))) (h1 : xs.length + 1 ≤ cap) (h2 : cap ≤ maxLen) (h3 : cur.size = cap)
    (hc : ∀ j, j < xs.length + 1 → cur[j]? = ((insI xs i y)[j]?).map (Value.int .i64)) : (Kd.int .i64).R 3 w base (fun _ => True) (.slice (some ⟨g, 0, none⟩) (xs.length + 1) cap) (insI xs i y) := by
  have hl := insI_len xs i y hi
  refine R_ints ?_
  rw [hl]
  refine ⟨by simp [hl], .inr ⟨g, cap, cur, rfl, hb, hg, h1, h2, by omega, ?_⟩⟩
  apply List.ext_getElem?
  intro j
  rw [Nat.mul_one]
  by_cases c : j < xs.length + 1
  · rw [List.getElem?_take_of_lt c, List.getElem?_map, ← hc j c, Array.getElem?_toList]
  · rw [List.getElem?_eq_none (by simp; omega), List.getElem?_eq_none (by simp [hl]; omega)]
theorem ins_get (xs : List Int) (i : Nat) (y : Int) (h : i ≤ xs.length) (j : Nat) : (insI xs i y)[j]? = if j < i then xs[j]? else if j = i then some y else xs[j - 1]? := by
  unfold insI
  by_cases c1 : j < i
  · rw [if_pos c1, List.getElem?_append_left (by simp; omega), List.getElem?_take_of_lt c1]
  · rw [if_neg c1, List.getElem?_append_right (by simp; omega)]
    have e : (xs.take i).length = i := by simp; omega
    rw [e]
    by_cases c2 : j = i
    · subst c2; simp
    · rw [if_neg c2, show j - i = (j - i - 1) + 1 by omega, List.getElem?_cons_succ, List.getElem?_drop, show i + (j - i - 1) = j - 1 by omega]
def insert31.f (xs : List Int) (i : Int) (ys : List Int) : Option (List Int) := match ys with | [y] => if 0 ≤ i ∧ i ≤ xs.length ∧ xs.length < 1000000 then some (insI xs i.toNat y) else none | _ => none
set_option maxHeartbeats 2000000 in
set_option maxRecDepth 100000 in
theorem insert31.calls (v : Value) (base : Nat) (xs : List Int) (i : Int) (v2 : Value) (base2 : Nat) (ys r : List Int) (w : World) (HO : (Kd.int .i64).R 3 w base (fun _ => True) v xs) (HO2 : (Kd.int .i64).R 3 w base2 (fun _ => True) v2 ys) (hne : v2.ownBlock ≠ v.ownBlock ∨ v.ownBlock = none) (hbase : base ≤ w.heap.size) (h : insert31.f xs i ys = some r) :
    Calls Try.prog 31 #[v, .int .i64 i, v2] w fun e w' => ∃ v', e = .returned v' ∧ (Kd.int .i64).R 3 w' base (fun _ => True) v' r ∧ w.grownBy w' v.ownBlock := by
  unfold insert31.f at h
  split at h
  rotate_left
  · cases h
  rename_i ys y
  split at h
  rotate_left
  · cases h
  rename_i hc
  obtain rfl := Option.some.inj h
  obtain ⟨n, rfl⟩ := Int.eq_ofNat_of_zero_le hc.1
  rw [Int.toNat_natCast]
  have hn : n ≤ xs.length := by omega
  have hL : xs.length < 1000000 := hc.2.2
  -- the list of one number
  rcases open_ints HO2 with ⟨rfl, h0⟩ | ⟨gb2, cap2, cur2, rfl, hbase2, hgb2, s1, s2, s3, s4⟩
  · cases h0
  have hH2 : Holds encZ w gb2 0 [y].toArray := holds_of_block_i hgb2 s4
  have hvs : ∀ j u, ([Value.int .i64 y] : List Value)[j]? = some u → w.cell? ⟨gb2, 0 + j, none⟩ = some u := fun j u hj => by
    cases j with
    | zero =>
      have := (hH2 0 (by simp)).1
      simp only [List.getElem?_cons_zero, Option.some.injEq] at hj
      subst hj
      simpa [encZ] using this
    | succ j => simp at hj
  have h1v : ∀ u ∈ ([Value.int .i64 y] : List Value), u.oneCell' = true := by simp [Value.oneCell']
  rcases open_ints HO with ⟨rfl, rfl⟩ | ⟨gb, cap, cur, rfl, hb, hgb, r1, r2, r3, r4⟩
  · -- nothing there
    obtain rfl : n = 0 := by simpa using hn
    refine (Any2.slices_Insert_int_end_grow Try.insA none 0 0 gb2 0 1 cap2 [] [.int .i64 y] w (by decide) (by decide) (by decide) (by decide) rfl rfl (fun _ => rfl) (fun a e => by cases e) hvs h1v).mono ?_
    rintro e w' ⟨rfl, rfl⟩
    refine ⟨_, rfl, ?_, World.grownBy_alloc w.drew _ _ |> fun q => ⟨q.os, q.tape, q.output, q.size, q.block⟩⟩
    have hge := grownCap_ge w 1 0 3
    refine ins_row (xs := []) (cap := grownCap w 1 0 3) (Nat.le_refl _) (by exact hbase) (World.alloc_heap_new w.drew _) hge (grownCap_le_maxLen _ _ _ _ (by unfold maxLen; omega)) ?_ ?_
    · have e3 : Try.insA_ren.t 3 = 3 := rfl
      rw [e3, Array.size_append, zsize]
      show 1 + (grownCap w 1 0 3 - 1) = _
      omega
    · intro j hj
      have : j = 0 := by simpa using hj
      subst this
      rw [Array.getElem?_append_left (by simp)]
      rfl
  · have hcs : ∀ j u, (xs.map (Value.int .i64))[j]? = some u → w.cell? ⟨gb, 0 + j, none⟩ = some u := fun j u hj => by
      have hH : Holds encZ w gb 0 xs.toArray := holds_of_block_i hgb r4
      obtain ⟨hlt, he⟩ := List.getElem?_eq_some_iff.1 hj
      have hlt' : j < xs.length := by simpa using hlt
      have := (hH j (by simpa using hlt')).1
      rw [← he]
      simpa [encZ, hlt'] using this
    have hsz : cur.size = cap := by omega
    have hcur : ∀ j, j < xs.length → cur[j]? = (xs[j]?).map (Value.int .i64) := fun j hj => by
      have := congrArg (fun l : List Value => l[j]?) r4
      simp only [List.getElem?_take_of_lt hj, List.getElem?_map, Array.getElem?_toList] at this
      exact this
    have h1c : ∀ u ∈ xs.map (Value.int .i64), u.oneCell' = true := fun u hu => by
      obtain ⟨x, _, rfl⟩ := List.mem_map.1 hu
      simp [Value.oneCell']
    have hoc : ∀ j, j < cap → (w.cell? ⟨gb, 0 + j, none⟩).isSome = true := fun j hj => by simp [World.cell?, hgb, show j < cur.size by omega]
    have hof : ∀ j, w.frozen? ⟨gb, 0 + j, none⟩ = false := fun j => by simp [World.frozen?, hgb]
    have hcl : (xs.map (Value.int .i64)).length = xs.length := by simp
    by_cases room : xs.length + 1 ≤ cap
    · by_cases hlt : n < xs.length
      · have hb2 : gb2 ≠ gb := by
          rcases hne with hne | hne
          · intro e; subst e; exact hne rfl
          · simp [Value.ownBlock] at hne
        refine (Any2.slices_Insert_int_shift Try.insA gb 0 xs.length cap n gb2 0 1 cap2 (xs.map (Value.int .i64)) [.int .i64 y] w hlt (by decide) room (by unfold maxLen at r2; omega) hb2 hcl rfl hcs (fun j hj => hoc j (by omega)) (fun j _ => hof j) hvs h1c h1v
          3 3 cur2.size cur.size (by simp [World.shape?, hgb2]) (by simp [World.shape?, hgb]) (by omega) (by simp [World.frozen?, hgb2]) (by simp [World.frozen?, hgb2])).mono ?_
        rintro e w' ⟨rfl, rfl⟩
        have hg1 := setCells_blk gb 3 ((xs.map (Value.int .i64)).drop n) (0 + (n + 1)) w.drew cur hgb
        have hg2 := setCells_blk gb 3 [.int .i64 y] (0 + n) _ _ hg1
        refine ⟨_, rfl, ins_row hn hb hg2 room r2 (by rw [putA_size, putA_size]; exact hsz) (fun j hj => ?_), ?_⟩
        · have z1 : ((xs.map (Value.int .i64)).drop n).length = xs.length - n := by simp
          rw [putA_get _ _ _ _ (by rw [putA_size]; simp; omega), ins_get xs n y hn]
          by_cases c1 : j < n
          · rw [if_neg (by simp; omega), if_pos c1, putA_get _ _ _ _ (by rw [z1]; omega), if_neg (by omega), hcur j (by omega)]
          · rw [if_neg c1]
            by_cases c2 : j = n
            · subst c2; rw [if_pos (by simp), if_pos rfl]; simp
            · rw [if_neg (by simp; omega), if_neg c2, putA_get _ _ _ _ (by rw [z1]; omega), if_pos (by rw [z1]; omega), List.getElem?_drop, List.getElem?_map, show n + (j - (0 + (n + 1))) = j - 1 by omega]
        · have a1 := grown_setCells gb ((xs.map (Value.int .i64)).drop n) (0 + (n + 1)) w.drew
          have a2 := grown_setCells gb [.int .i64 y] (0 + n) (w.drew.setCells gb (0 + (n + 1)) ((xs.map (Value.int .i64)).drop n))
          exact ⟨a2.os.trans a1.os, a2.tape.trans a1.tape, a2.output.trans a1.output, Nat.le_trans a1.size a2.size, fun k hk hne' => (a2.block k (Nat.lt_of_lt_of_le hk a1.size) hne').trans (a1.block k hk hne')⟩
      · obtain rfl : n = xs.length := by omega
        refine (Any2.slices_Insert_int_end_room Try.insA gb 0 xs.length cap gb2 0 1 cap2 [.int .i64 y] w (by decide) room (by unfold maxLen at r2; omega) rfl (fun j hj => by rw [show 0 + xs.length + j = 0 + (xs.length + j) by omega]; exact hoc _ (by omega)) (fun j _ => by rw [show 0 + xs.length + j = 0 + (xs.length + j) by omega]; exact hof _) hvs h1v).mono ?_
        rintro e w' ⟨rfl, rfl⟩
        have hg2 := setCells_blk gb 3 [.int .i64 y] (0 + xs.length) w cur hgb
        refine ⟨_, rfl, ins_row hn hb hg2 room r2 (by rw [putA_size]; exact hsz) (fun j hj => ?_), grown_setCells gb _ _ w⟩
        rw [putA_get _ _ _ _ (by simp; omega), ins_get xs xs.length y hn]
        by_cases c1 : j < xs.length
        · rw [if_neg (by simp; omega), if_pos c1, hcur j c1]
        · obtain rfl : j = xs.length := by omega
          rw [if_pos (by simp), if_neg c1, if_pos rfl]; simp
    · have hroom : cap < xs.length + 1 := by omega
      have hge := grownCap_ge w (xs.length + 1) cap 3
      have hle := grownCap_le_maxLen w (xs.length + 1) cap 3 (by unfold maxLen; omega)
      have hgr : ∀ w', (∀ k, k < w.heap.size → w'.heap[k]? = w.heap[k]?) → w'.os = w.os → w'.tape = w.tape → w'.output = w.output → w.heap.size ≤ w'.heap.size → w.grownBy w' (Value.slice (some ⟨gb, 0, none⟩) xs.length cap).ownBlock := fun w' a b c d e => ⟨b, c, d, e, fun k hk _ => a k hk⟩
      by_cases hlt : n < xs.length
      · refine (Any2.slices_Insert_int_grow Try.insA gb 0 xs.length cap n gb2 0 1 cap2 (xs.map (Value.int .i64)) [.int .i64 y] w hlt (by decide) r1 hroom (by omega) hcl rfl hcs hvs h1c h1v).mono ?_
        rintro e w' ⟨rfl, rfl⟩
        have e3 : Try.insA_ren.t 3 = 3 := rfl
        rw [e3]
        obtain ⟨C, hC⟩ : ∃ C, grownCap w (xs.length + 1) cap 3 = C := ⟨_, rfl⟩
        rw [hC] at hge hle ⊢
        obtain ⟨c0, hc0⟩ : ∃ c0, ((xs.map (Value.int .i64)).take n).toArray ++ Builtin.zeroCells (Value.int .i64 0).cells (xs.length + 1 - n) ++ Builtin.zeroCells (Value.int .i64 0).cells (C - (xs.length + 1)) = c0 := ⟨_, rfl⟩
        rw [hc0]
        have hs0 : c0.size = C := by
          rw [← hc0, Array.size_append, Array.size_append, zsize, zsize]
          simp
          omega
        have hget : ∀ j, j < n → c0[j]? = (xs[j]?).map (Value.int .i64) := fun j hj => by
          rw [← hc0, Array.getElem?_append_left (by rw [Array.size_append, zsize]; simp; omega), Array.getElem?_append_left (by simp; omega)]
          simp [List.getElem?_take_of_lt hj]
        have hg0 : (w.alloc (.cells c0 3)).drew.heap[w.heap.size]? = some (.cells c0 3 (0, 0)) := World.alloc_heap_new w _
        have hg1 := setCells_blk w.heap.size 3 [.int .i64 y] n _ _ hg0
        have hg2 := setCells_blk w.heap.size 3 ((xs.map (Value.int .i64)).drop n) (n + 1) (((w.alloc (.cells c0 3)).drew.setCells w.heap.size n [.int .i64 y]).drew) _ hg1
        refine ⟨_, rfl, ins_row hn (by exact hbase) hg2 hge hle (by rw [putA_size, putA_size]; exact hs0) (fun j hj => ?_), hgr _ (fun k hk => ?_) ?_ ?_ ?_ ?_⟩
        · have z1 : ((xs.map (Value.int .i64)).drop n).length = xs.length - n := by simp
          rw [putA_get _ _ _ _ (by rw [putA_size, z1]; omega), ins_get xs n y hn]
          by_cases c1 : j < n
          · rw [if_neg (by omega), if_pos c1, putA_get _ _ _ _ (by simp; omega), if_neg (by omega), hget j c1]
          · rw [if_neg c1]
            by_cases c2 : j = n
            · subst c2; rw [if_neg (by omega), if_pos rfl, putA_get _ _ _ _ (by simp; omega), if_pos (by simp)]; simp
            · rw [if_pos (by rw [z1]; omega), if_neg c2, List.getElem?_drop, List.getElem?_map, show n + (j - (n + 1)) = j - 1 by omega]
        · have hk' : k ≠ w.heap.size := by omega
          exact (setCells_oth _ k hk' _ _ _).trans ((setCells_oth _ k hk' _ _ (w.alloc (.cells c0 3)).drew).trans (Below.heap_alloc w _ k hk))
        · have a1 := grown_setCells w.heap.size [.int .i64 y] n (w.alloc (.cells c0 3)).drew
          have a2 := grown_setCells w.heap.size ((xs.map (Value.int .i64)).drop n) (n + 1) (((w.alloc (.cells c0 3)).drew.setCells w.heap.size n [.int .i64 y]).drew)
          exact a2.os.trans a1.os
        · have a1 := grown_setCells w.heap.size [.int .i64 y] n (w.alloc (.cells c0 3)).drew
          have a2 := grown_setCells w.heap.size ((xs.map (Value.int .i64)).drop n) (n + 1) (((w.alloc (.cells c0 3)).drew.setCells w.heap.size n [.int .i64 y]).drew)
          exact a2.tape.trans a1.tape
        · have a1 := grown_setCells w.heap.size [.int .i64 y] n (w.alloc (.cells c0 3)).drew
          have a2 := grown_setCells w.heap.size ((xs.map (Value.int .i64)).drop n) (n + 1) (((w.alloc (.cells c0 3)).drew.setCells w.heap.size n [.int .i64 y]).drew)
          exact a2.output.trans a1.output
        · rw [setCells_size]
          show w.heap.size ≤ ((w.alloc (.cells c0 3)).drew.setCells w.heap.size n [.int .i64 y]).heap.size
          rw [setCells_size]
          show w.heap.size ≤ (w.alloc (.cells c0 3)).heap.size
          rw [World.size_alloc]
          exact Nat.le_succ _
      · obtain rfl : n = xs.length := by omega
        refine (Any2.slices_Insert_int_end_grow Try.insA (some ⟨gb, 0, none⟩) xs.length cap gb2 0 1 cap2 (xs.map (Value.int .i64)) [.int .i64 y] w (by decide) r1 hroom (by omega) hcl rfl (fun e => by cases e) (fun a ha j u hj => by cases ha; rw [Addr.add_mid]; exact hcs j u hj) hvs h1v).mono ?_
        rintro e w' ⟨rfl, rfl⟩
        refine ⟨_, rfl, ?_, hgr _ (fun k hk => Below.heap_alloc w.drew _ k hk) rfl rfl rfl (by rw [World.size_alloc]; exact Nat.le_succ _)⟩
        refine ins_row hn (by exact hbase) (World.alloc_heap_new w.drew _) hge hle ?_ (fun j hj => ?_)
        · have e3 : Try.insA_ren.t 3 = 3 := rfl
          rw [e3, Array.size_append, zsize]
          simp
          omega
        · rw [Array.getElem?_append_left (by simp; omega), ins_get xs xs.length y hn]
          by_cases c1 : j < xs.length
          · rw [if_pos c1]; simp [c1, List.getElem?_append]
          · obtain rfl : j = xs.length := by omega
            rw [if_neg c1, if_pos rfl]; simp [List.getElem?_append]
theorem own_ne {d : Kd Int} {e base : Nat} {w : World} {ok : Nat → Prop} {v v2 : Value} {ys : List Int} (h : d.R e w base ok v2 ys) (hok : ∀ k, ok k → some k ≠ v.ownBlock) : v2.ownBlock ≠ v.ownBlock ∨ v.ownBlock = none := by
  cases hb : v.ownBlock with
  | none => exact .inr rfl
  | some k => exact .inl (fun e => hok k (h.1 k (e.trans rfl)) hb.symm)
theorem V_grownI {α : Type} {d : Kd α} {e base : Nat} {W w1 : World} {ok : Nat → Prop} {v : Value} {xs : List α} (h : Kd.V d e W base ok v xs) {row : Option Nat} (hg : W.grownBy w1 row) (hok : ∀ k, ok k → some k ≠ row) : Kd.V d e w1 base ok v xs :=
  Kd.V_map h (fun _ hf => Kd.F_step hf (fun k hk hlt => hg.block k hlt (hok k hk)))
end Go.Proofs.Ytmcmbjkjilcmeaa.K
