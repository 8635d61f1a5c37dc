/- By hand: standing.sums. -/
import Derived.Test.YtmcmbjkjilcmeaaGFrus
import Derived.Test.YtmcmbjkjilcmeaaK14a
namespace Go.Proofs.Ytmcmbjkjilcmeaa.K
open Go Go.RowKit Go.Shelf Go.Proofs.YtmcmbjkjilcmeaaW.PrintWords Go.Proofs.YtmcmbjkjilcmeaaW.PrintLast Go.Proofs.YtmcmbjkjilcmeaaW.PrintMore Go.Proofs.Ytmcmbjkjilcmeaa.GW
set_option linter.unusedVariables false
set_option linter.unusedSimpArgs false
attribute [local go_sem] Oper.semAt_some
/-- What the closure adds. -/
def stepS (s : S40) (h lo hi : Int) : S40 := ⟨wrap64 (s.f0 + wrap64 (wrap64 (wrap64 (3 * h) * lo) * lo)), wrap64 (s.f1 + wrap64 (wrap64 (wrap64 (3 * h) * hi) * hi))⟩
set_option maxHeartbeats 4000000 in
set_option maxRecDepth 100000 in
theorem add61 (w0 : World) (h lo hi : Int) (Bs Bo base : Nat) (s : S40) (v : Value) (xs : List S40) (W : World) (bS : W.heap[Bs]? = some (.cells #[.int .i64 s.f0, .int .i64 s.f1] 40 (0, 0))) (bO : Boxed W Bo 43 v)
    (HO : Kd.R k40 40 W base (fun _ => True) v xs) (hBs : Bs < base) (hBo : Bo < base) (hB : Below w0.heap.size w0 W) (hw0 : w0.heap.size ≤ Bs ∧ w0.heap.size ≤ Bo) (hbase : base ≤ W.heap.size) (hL : xs.length < 1000000) :
    Calls Try.prog 61 #[.int .i64 h, .int .i64 lo, .int .i64 hi, .pointer (some ⟨Bs, 0, none⟩), .pointer (some ⟨Bo, 0, none⟩)] W fun e W' => (∃ u, e = .returned u) ∧ ∃ v', W'.heap[Bs]? = some (.cells #[.int .i64 (stepS s h lo hi).f0, .int .i64 (stepS s h lo hi).f1] 40 (0, 0)) ∧
      Boxed W' Bo 43 v' ∧ Kd.R k40 40 W' base (fun _ => True) v' (xs ++ [stepS s h lo hi]) ∧ (∀ k, k < base → k ≠ Bs → k ≠ Bo → W'.heap[k]? = W.heap[k]?) ∧ Below w0.heap.size w0 W' ∧ W.heap.size ≤ W'.heap.size := by
  have hne : Bs ≠ Bo := by
    intro e
    subst e
    have := bS.symm.trans bO
    cases this
  have cO := bO.cell
  have fO := bO.frozen
  obtain ⟨z0, z1, f0, f1⟩ := GS.c2 bS
  have hne' := Ne.symm hne
  have HH := Aside0.mk HO
  have HB := Aside0.mk hB
  have BS := Aside0.mk bS
  have BO := Aside0.mk (show W.heap[Bo]? = some (.cells #[v] 43 (0, 0)) from bO)
  have HBASE := Aside0.mk hbase
  have HLL := Aside0.mk hL
  have HK := Aside0.mk (And.intro (And.intro hBs hBo) hw0)
  clear HO hB bO bS hbase hL hBs hBo hw0
  obtain ⟨s0, s1⟩ := s
  obtain ⟨n0, hn0⟩ : ∃ n, wrap64 (s0 + wrap64 (wrap64 (wrap64 (3 * h) * lo) * lo)) = n := ⟨_, rfl⟩
  obtain ⟨n1, hn1⟩ : ∃ n, wrap64 (s1 + wrap64 (wrap64 (wrap64 (3 * h) * hi) * hi)) = n := ⟨_, rfl⟩
  rw [show stepS ⟨s0, s1⟩ h lo hi = ⟨n0, n1⟩ by rw [stepS, hn0, hn1]]
  dsimp only at z0 z1 BS ⊢
  go_enter Try.func61, Try.ntmps61
  go_wp2_with (first | ((with_reducible refine gate_builtin (b := .append) (xs := #[.tmp 28, .tmp 30]) rfl ?_); at_builtin; refine Aside0.out ?_))
  refine ⟨?_⟩
  refine Kd.R_append k40 (w0 := (W.setCell ⟨Bs, 0, none⟩ (.int .i64 n0)).setCell ⟨Bs, 1, none⟩ (.int .i64 n1)) base rfl (.tmp 28) (.tmp 30) 43 40 (.agg #[(.int .i64 0), (.int .i64 0)]) 16 rfl Try.underlying43 info40 rfl (by decide) (by omega) v xs (⟨n0, n1⟩ : S40) [.int .i64 n0, .int .i64 n1] (fun _ => True) (fun _ => False) rfl (by first | (go_simp; done) | (go_simp; rfl)) ?aP (fun _ hk => hk.elim) ?aF ?aO ?aB ?aS ?aL ?_
  (case aP => exact k40_mkM _ _ _ (⟨n0, n1⟩ : S40))
  (case aB => exact Below.refl _ _)
  (case aF => exact (fun _ _ => trivial))
  (case aO => exact Kd.R_mono (Kd.R_far (p := ⟨Bs, 1, none⟩) (Kd.R_far (p := ⟨Bs, 0, none⟩) (Kd.R_bound HH.out) (fun k hk e => by have := HK.out.1.1; have := hk.2.1; dsimp only at e; omega) _) (fun k hk e => by have := HK.out.1.1; have := hk.2.1; dsimp only at e; omega) _) (fun _ _ => trivial))
  (case aS => simpa using HBASE.out)
  (case aL => have := HLL.out; omega)
  intro v1 w5 ho hb hg hat
  have HO1 := Aside0.mk ho
  have HB1 := Aside0.mk hb
  clear hat hg ho
  have hold : ∀ k, k < base → k ≠ Bs → w5.heap[k]? = W.heap[k]? := fun k h1 h2 => (hb.block k h1).trans ((Below.heap_setCell _ _ _ k h2).trans (Below.heap_setCell _ _ _ k h2))
  have bO5 : Boxed w5 Bo 43 v := (hold Bo HK.out.1.2 hne').trans BO.out
  have bS5 : w5.heap[Bs]? = some (.cells #[.int .i64 n0, .int .i64 n1] 40 (0, 0)) := (hb.block Bs HK.out.1.1).trans (bqP (cs := #[.int .i64 n0, .int .i64 s1]) (bqP (cs := #[.int .i64 s0, .int .i64 s1]) BS.out 0 _ rfl) 1 _ rfl)
  have HB5 := Aside0.mk ((HB.out.setCell (p := ⟨Bs, 0, none⟩) HK.out.2.1 (.int .i64 n0)).setCell (p := ⟨Bs, 1, none⟩) HK.out.2.1 (.int .i64 n1) |>.trans (hb.mono (Nat.le_of_lt (Nat.lt_of_le_of_lt HK.out.2.1 HK.out.1.1))))
  have hsz5 : W.heap.size ≤ w5.heap.size := by have := hb.size; simpa using this
  have cO5 := bO5.cell
  have fO5 := bO5.frozen
  clear hb
  obtain ⟨A1, c1, e1⟩ := Kd.R_slice HO1.out
  subst e1
  have HO2 := HO1.out
  rw [show (xs ++ [(⟨n0, n1⟩ : S40)]).length = xs.length + 1 by simp] at HO2
  clear HO1
  go_wp2
  go_end0
  refine ⟨⟨_, rfl⟩, _, ?_, bO5.set _, ?_, ?_, ?_, by simpa using hsz5⟩
  · exact (Below.heap_setCell _ _ _ Bs hne).trans bS5
  · exact Kd.R_mono (Kd.R_far (p := ⟨Bo, 0, none⟩) (Kd.R_bound HO2) (fun k hk e => by have := HK.out.1.2; have := hk.2.1; dsimp only at e; omega) _) (fun _ _ => trivial)
  · exact fun k h1 h2 h3 => (Below.heap_setCell _ _ _ k h3).trans (hold k h1 h2)
  · exact HB5.out.setCell (p := ⟨Bo, 0, none⟩) HK.out.2.2 _
def atV (l : List S33) (x : Int) : Int × Int × Int := (profile_At.f l x).getD (0, 0, 0)
def sB (l : List S33) (l1 : List Int) : Nat → S40
  | 0 => ⟨0, 0⟩
  | j + 1 => stepS (sB l l1 j) (wrap64 (Go.Proofs.YtmcmbjkjilcmeaaW.PrintWords.rd l1 ((j : Int) + 1) - Go.Proofs.YtmcmbjkjilcmeaaW.PrintWords.rd l1 (j : Int))) (min (atV l (Go.Proofs.YtmcmbjkjilcmeaaW.PrintWords.rd l1 (j : Int))).1 (atV l (Go.Proofs.YtmcmbjkjilcmeaaW.PrintWords.rd l1 ((j : Int) + 1))).1) (max (atV l (Go.Proofs.YtmcmbjkjilcmeaaW.PrintWords.rd l1 (j : Int))).2.1 (atV l (Go.Proofs.YtmcmbjkjilcmeaaW.PrintWords.rd l1 ((j : Int) + 1))).2.1)
def outS (l : List S33) (l1 : List Int) (m : Nat) : List S40 := (List.range m).map fun j => sB l l1 (j + 1)
theorem outS_succ (l : List S33) (l1 : List Int) (m : Nat) : outS l l1 (m + 1) = outS l l1 m ++ [sB l l1 (m + 1)] := by simp [outS, List.range_succ]
theorem outS_len (l : List S33) (l1 : List Int) (m : Nat) : (outS l l1 m).length = m := by simp [outS]
theorem eg_at (args : Array Value) (w : World) : (callFunc 62 args).run Try.prog w = .ok (.enter 62 args) w := enters_ Try.func62 (by kernel_rfl) rfl args w
theorem eg_61 (args : Array Value) (w : World) : (callFunc 61 args).run Try.prog w = .ok (.enter 61 args) w := enters_ Try.func61 (by kernel_rfl) rfl args w
theorem rd_mem (l : List Int) (i : Int) (h0 : 0 ≤ i) (h1 : i < l.length) : Go.Proofs.YtmcmbjkjilcmeaaW.PrintWords.rd l i ∈ l := by
  obtain ⟨j, rfl⟩ := Int.eq_ofNat_of_zero_le h0
  have hj : j < l.length := by omega
  show l.getD _ _ ∈ l
  rw [List.getD_eq_getElem?_getD, Int.toNat_natCast, List.getElem?_eq_getElem hj]
  exact List.getElem_mem hj
theorem ar_lv {i m L : Nat} (h : i < m) (e : m = L - 1) : i + 1 < L := by omega
set_option maxRecDepth 100000 in
set_option maxHeartbeats 8000000 in
theorem sums_in (n : Nat) (hn : 6 ≤ n) (a0_0 : ByteArray) (a0_1 : Int) (A0 : Option Addr) (c0 : Nat) (l0 : List S33) (a0_3 : Int) (A1 : Option Addr) (c1 : Nat) (l1 : List Int) (w : World) (hr : Kd.C k33 w A0 l0.length l0) (hc : l0.length ≤ c0) (hr1 : Kd.C (Kd.int .i64) w A1 l1.length l1)
    (hat : ∀ x ∈ l1, (profile_At.f l0 x).isSome = true) (hL : l1.length < 1000000) :
    CallsIn Fence.wide n Try.prog 42 #[.agg #[.string a0_0, .int .i64 a0_1, .slice A0 l0.length c0, .int .i64 a0_3], .slice A1 l1.length c1] w fun e w' => ∃ v, e = .returned v ∧ Kd.R k40 40 w' w.heap.size (fun _ => True) v (outS l0 l1 (l1.length - 1)) ∧ Below w.heap.size w w' := by
  have h1 : 1 ≤ n := by omega
  have hu24 := Try.underlying24
  have hu40 := Try.underlying40
  have HR := Aside0.mk hr
  have HC := Aside0.mk hc
  have HR1 := Aside0.mk hr1
  have HA := Aside0.mk hat
  have HL := Aside0.mk hL
  have HB := Aside0.mk (Below.refl w.heap.size w)
  have hmx : Try.prog.follows .mixedOrders = true := by kernel_rfl
  obtain ⟨m, hm⟩ : ∃ m, l1.length - 1 = m := ⟨_, rfl⟩
  rw [hm]
  have HMM := Aside0.mk hm
  clear hr hc hr1 hat hL hm
  refine callsIn_of_wp Try.func42 rfl trivial ?_ rfl
  simp only [Try.ntmps42, List.size_toArray, List.length_cons, List.length_nil, Nat.reduceAdd, Nat.reduceSub, Array.replicate_succ, Array.replicate_zero, List.push_toArray, List.append_toArray, List.nil_append, List.cons_append]
  gi_wp2
  have bC0 : (w.alloc (.cells #[.string a0_0, .int .i64 a0_1, .slice A0 l0.length c0, .int .i64 a0_3] 24)).heap[w.heap.size]? = some (.cells #[.string a0_0, .int .i64 a0_1, .slice A0 l0.length c0, .int .i64 a0_3] 24 (0, 0)) := World.alloc_heap_new w _
  have bO0 := Boxed.new (w.alloc (.cells #[.string a0_0, .int .i64 a0_1, .slice A0 l0.length c0, .int .i64 a0_3] 24)) 43 (.slice none 0 0)
  obtain ⟨W0, hW0⟩ : ∃ W0, ((w.alloc (.cells #[.string a0_0, .int .i64 a0_1, .slice A0 l0.length c0, .int .i64 a0_3] 24)).alloc (.cells #[.slice none 0 0] 43)).alloc (.cells #[.int .i64 0, .int .i64 0] 40) = W0 := ⟨_, rfl⟩
  have bC1 : W0.heap[w.heap.size]? = some (.cells #[.string a0_0, .int .i64 a0_1, .slice A0 l0.length c0, .int .i64 a0_3] 24 (0, 0)) := by
    rw [← hW0]
    exact (Below.heap_alloc _ _ _ (by simp only [World.size_alloc]; omega)).trans ((Below.heap_alloc _ _ _ (by simp)).trans bC0)
  have bO1 : Boxed W0 (w.heap.size + 1) 43 (.slice none 0 0) := by
    have := bO0.alloc (.cells #[.int .i64 0, .int .i64 0] 40)
    rw [hW0, World.size_alloc] at this
    exact this
  have bS1 : W0.heap[w.heap.size + 1 + 1]? = some (.cells #[.int .i64 (sB l0 l1 0).f0, .int .i64 (sB l0 l1 0).f1] 40 (0, 0)) := by
    rw [← hW0]
    have := World.alloc_heap_new ((w.alloc (.cells #[.string a0_0, .int .i64 a0_1, .slice A0 l0.length c0, .int .i64 a0_3] 24)).alloc (.cells #[.slice none 0 0] 43)) (.cells #[.int .i64 0, .int .i64 0] 40)
    rw [World.size_alloc, World.size_alloc] at this
    exact this
  have hB1 : Below w.heap.size w W0 := by rw [← hW0]; exact below_alloc (below_alloc (below_alloc HB.out _) _) _
  have hs1 : w.heap.size + 3 ≤ W0.heap.size := by rw [← hW0]; simp
  rw [hW0]
  clear bC0 bO0 hW0
  gi_loopw [8] (fun v8 wr => ∃ i : Nat, v8 = .int .i64 ((i : Int) + 1) ∧ i ≤ m ∧ (wr.heap[w.heap.size]? = some (.cells #[.string a0_0, .int .i64 a0_1, .slice A0 l0.length c0, .int .i64 a0_3] 24 (0, 0)) ∧ wr.heap[w.heap.size + 1 + 1]? = some (.cells #[.int .i64 (sB l0 l1 i).f0, .int .i64 (sB l0 l1 i).f1] 40 (0, 0))) ∧
      (∃ v, Boxed wr (w.heap.size + 1) 43 v ∧ Kd.R k40 40 wr (w.heap.size + 3) (fun _ => True) v (outS l0 l1 i)) ∧ Below w.heap.size w wr ∧ w.heap.size + 3 ≤ wr.heap.size)
    (fun v8 wr => match v8 with | .int _ i => (m + 1 - i.toNat) | _ => 0)
  case atStart => exact ⟨0, rfl, Nat.zero_le _, ⟨bC1, bS1⟩, ⟨_, bO1, Kd.R_nil _ _ _ _ _⟩, hB1, hs1⟩
  case round =>
    clear bC1 bO1 bS1 hB1 hs1
    obtain ⟨i, rfl, hi, ⟨bC, bS⟩, ⟨v, bO, hO⟩, hB, hsz⟩ := hrel
    by_cases hlt : i < m
    · have q0 : i + 1 < l1.length := ar_lv hlt HMM.out.symm
      have HLT := Aside0.mk hlt
      clear hlt hi
      have q1 : decide ((i : Int) + 1 < (l1.length : Int)) = true := decide_eq_true (by omega)
      have HLL := HL.out
      have hw1 : wrap64 ((i : Int) + 1 - 1) = (i : Int) := by unfold wrap64; omega
      have hw2 : wrap64 (i : Int) = (i : Int) := by unfold wrap64; omega
      have hw : wrap64 ((i : Int) + 1 + 1) = ((i + 1 : Nat) : Int) + 1 := by unfold wrap64; omega
      have hC := Kd.C_below (GS.rC HR1.out) hB
      obtain ⟨ad, e1, x0⟩ := Kd.at_int hC (i : Int) (by omega) (by omega)
      cases e1
      obtain ⟨ad', e2, y0⟩ := Kd.at_int hC ((i : Int) + 1) (by omega) (by omega)
      obtain rfl : ad = ad' := by injection e2
      clear e2
      have p2 : (0 ≤ (i : Int)) = True := eq_true (by omega)
      have p3 : (0 ≤ (i : Int) + 1) = True := eq_true (by omega)
      have q2 : ((i : Int) < (l1.length : Int)) = True := eq_true (by omega)
      have q3 : ((i : Int) + 1 < (l1.length : Int)) = True := eq_true (by omega)
      have m0 := rd_mem l1 (i : Int) (by omega) (by omega)
      have m1 := rd_mem l1 ((i : Int) + 1) (by omega) (by omega)
      have hsB : sB l0 l1 (i + 1) = stepS (sB l0 l1 i) (wrap64 (Go.Proofs.YtmcmbjkjilcmeaaW.PrintWords.rd l1 ((i : Int) + 1) - Go.Proofs.YtmcmbjkjilcmeaaW.PrintWords.rd l1 (i : Int))) (min (atV l0 (Go.Proofs.YtmcmbjkjilcmeaaW.PrintWords.rd l1 (i : Int))).1 (atV l0 (Go.Proofs.YtmcmbjkjilcmeaaW.PrintWords.rd l1 ((i : Int) + 1))).1) (max (atV l0 (Go.Proofs.YtmcmbjkjilcmeaaW.PrintWords.rd l1 (i : Int))).2.1 (atV l0 (Go.Proofs.YtmcmbjkjilcmeaaW.PrintWords.rd l1 ((i : Int) + 1))).2.1) := rfl
      obtain ⟨x, hx⟩ : ∃ x, Go.Proofs.YtmcmbjkjilcmeaaW.PrintWords.rd l1 (i : Int) = x := ⟨_, rfl⟩
      obtain ⟨y, hy⟩ : ∃ y, Go.Proofs.YtmcmbjkjilcmeaaW.PrintWords.rd l1 ((i : Int) + 1) = y := ⟨_, rfl⟩
      rw [hx] at x0 m0 hsB
      rw [hy] at y0 m1 hsB
      obtain ⟨⟨p1, p2', p3'⟩, hp⟩ := Option.isSome_iff_exists.1 (HA.out x m0)
      obtain ⟨⟨q1', q2', q3'⟩, hq⟩ := Option.isSome_iff_exists.1 (HA.out y m1)
      rw [show atV l0 x = (p1, p2', p3') by rw [atV, hp]; rfl, show atV l0 y = (q1', q2', q3') by rw [atV, hq]; rfl] at hsB
      dsimp only at hsB
      clear hx hy m0 m1
      simp only [Int.toNat_natCast] at x0
      rw [show ((i : Int) + 1).toNat = i + 1 by omega, Addr.add_succ'] at y0
      have hcc2 : wr.drew.cell? ⟨w.heap.size, 2, none⟩ = some (.slice A0 l0.length c0) := (bqC (w := wr.drew) bC 2).trans rfl
      have hBcl : w.heap.size < wr.drew.heap.size := Nat.lt_of_lt_of_le (by omega : w.heap.size < w.heap.size + 3) hsz
      have x0d : wr.drew.cell? (ad.add i) = some (.int .i64 x) := x0
      clear HLL
      gi_wp2
      refine GI.start_ (m := 14) (S := fun w' => Below wr.heap.size wr.drew w') (ds := [12]) #[false, false, false, false, false, false, false, false, false, false, false, false, false, false] (by kernel_rfl) rfl rfl (Below.refl _ _) (fun hHeld => ?_)
      refine GI.pure_ (i := 0) (N := some 21) (v := ?_) (a' := ?_) #[true, false, false, false, false, false, false, false, false, false, false, false, false, false] rfl rfl (by kernel_rfl) (fun _ _ _ h => h) (fun _ => rfl) (Or.inl ⟨by rfl, ?_⟩) ?_ ?_
      rotate_left
      · intro w'
        go_simp
        with_reducible rfl
      rotate_left
      · simp only [Act.put, List.setIfInBounds_toArray, List.set_cons_zero, List.set_cons_succ, i64_w, i32_w]
        rfl
      refine GI.pure_ (i := 2) (N := some 23) (v := ?_) (a' := ?_) #[true, false, true, false, false, false, false, false, false, false, false, false, false, false] rfl rfl (by kernel_rfl) (fun _ _ _ h => h) (fun _ => rfl) (Or.inl ⟨by rfl, ?_⟩) ?_ ?_
      rotate_left
      · intro w'
        go_simp
        with_reducible rfl
      rotate_left
      · simp only [Act.put, List.setIfInBounds_toArray, List.set_cons_zero, List.set_cons_succ, i64_w, i32_w]
        rfl
      refine GI.pure_ (i := 3) (N := some 24) (v := ?_) (a' := ?_) #[true, false, true, true, false, false, false, false, false, false, false, false, false, false] rfl rfl (by kernel_rfl) (fun _ _ _ h => h) (fun _ => rfl) (Or.inl ⟨by rfl, ?_⟩) ?_ ?_
      rotate_left
      · intro w'
        go_simp
        with_reducible rfl
      rotate_left
      · simp only [Act.put, List.setIfInBounds_toArray, List.set_cons_zero, List.set_cons_succ, i64_w, i32_w]
        rfl
      refine GI.pure_ (i := 4) (N := some 25) (v := ?_) (a' := ?_) #[true, false, true, true, true, false, false, false, false, false, false, false, false, false] rfl rfl (by kernel_rfl) (fun _ _ _ h => h) (fun _ => rfl) (Or.inl ⟨by rfl, ?_⟩) ?_ ?_
      rotate_left
      · intro w'
        go_simp
        with_reducible rfl
      rotate_left
      · simp only [Act.put, List.setIfInBounds_toArray, List.set_cons_zero, List.set_cons_succ, i64_w, i32_w]
        rfl
      refine GI.pure_ (i := 5) (N := some 26) (v := ?_) (a' := ?_) #[true, false, true, true, true, true, false, false, false, false, false, false, false, false] rfl rfl (by kernel_rfl) (fun _ _ _ h => h) (fun _ => rfl) (Or.inl ⟨by rfl, ?_⟩) ?_ ?_
      rotate_left
      · intro w'
        go_simp
        with_reducible rfl
      rotate_left
      · simp only [Act.put, List.setIfInBounds_toArray, List.set_cons_zero, List.set_cons_succ, i64_w, i32_w]
        rfl
      refine GI.take_ (i := 1) (N := some 22) (v := ?_) (a' := ?_) #[true, true, true, true, true, true, false, false, false, false, false, false, false, false] rfl rfl (by kernel_rfl) (fun _ _ _ h => h) (fun _ => rfl) (Or.inl ⟨by rfl, ?_⟩) hHeld ?_ ?_
      rotate_left
      · rintro w' hS
        have z2 := (hS.cell (p := ⟨w.heap.size, 2, none⟩) hBcl).trans hcc2
        go_simp
        with_reducible rfl
      rotate_left
      · simp only [Act.put, List.setIfInBounds_toArray, List.set_cons_zero, List.set_cons_succ, i64_w, i32_w]
        rfl
      refine GI.take_ (i := 6) (N := some 27) (v := ?_) (a' := ?_) #[true, true, true, true, true, true, true, false, false, false, false, false, false, false] rfl rfl (by kernel_rfl) (fun _ _ _ h => h) (fun _ => rfl) (Or.inl ⟨by rfl, ?_⟩) hHeld ?_ ?_
      rotate_left
      · rintro w' hS
        have z2 := (hS.cell (World.block_lt_of_cell? wr.drew _ x0d)).trans x0d
        go_simp
        with_reducible rfl
      rotate_left
      · simp only [Act.put, List.setIfInBounds_toArray, List.set_cons_zero, List.set_cons_succ, i64_w, i32_w]
        rfl
      refine GI.join_ [(28, .tuple #[.agg #[.int .i64 p1, .int .i64 p2'], .int .i64 p3']), (20, .tuple #[.agg #[.int .i64 p1, .int .i64 p2'], .int .i64 p3']), (29, .agg #[.int .i64 p1, .int .i64 p2']), (30, .int .i64 p3'), (10, .int .i64 p3')] 9 (fun g W' => Below wr.heap.size wr.drew W' ∧ W'.heap[g]? = some (.cells #[.int .i64 p1, .int .i64 p2'] 40 (0, 0)) ∧ wr.heap.size ≤ g) ?cont7 (fun hX => ?_)
      rotate_left
      · refine GI.two_ (i := 7) (j := 11) (Ni := some 28) (Nj := some 9) #[true, true, true, true, true, true, true, true, false, false, false, false, false, false] #[true, true, true, true, true, true, true, false, false, false, false, true, false, false] rfl rfl rfl rfl (by kernel_rfl) (by rfl) (by rfl) ?_ ?_
        · refine GI.call_ (f := 62) #[.slice A0 l0.length c0, .int .i64 x] (fun c h => by cases h) ?hab_1 ?hrun_1 (fun _ => h1) ?_
          case hab_1 => intro f hf; trivial
          case hrun_1 => unfold execOp; simp [resolve, Deferred.ofValue, invoke, Act.eval, eg_at]
          refine (callsIn_wide.2 (profile_At.calls A0 c0 l0 x p1 p2' p3' _ (Kd.C_below (GS.rC HR.out) (below_drew hB)) HC.out hp)).mono ?_
          rintro e w1 ⟨rfl, hb1⟩
          refine ⟨_, rfl, fun hS => hS.trans (hb1.mono hS.size), ?_⟩
          refine GI.norm_ (a' := ?_) ?_ ?_
          rotate_left
          · show Act.put _ (some 28) _ = _
            simp only [Act.put, List.setIfInBounds_toArray, List.set_cons_zero, List.set_cons_succ, i64_w, i32_w]
            rfl
          refine GI.pure_ (i := 8) (N := some 20) (v := ?_) (a' := ?_) #[true, true, true, true, true, true, true, true, true, false, false, false, false, false] rfl rfl (by kernel_rfl) (fun _ _ _ h => h) (fun _ => rfl) (Or.inl ⟨by rfl, ?_⟩) ?_ ?_
          rotate_left
          · intro w'
            go_simp
            with_reducible rfl
          rotate_left
          · simp only [Act.put, List.setIfInBounds_toArray, List.set_cons_zero, List.set_cons_succ, i64_w, i32_w]
            rfl
          refine GI.pure_ (i := 9) (N := some 29) (v := ?_) (a' := ?_) #[true, true, true, true, true, true, true, true, true, true, false, false, false, false] rfl rfl (by kernel_rfl) (fun _ _ _ h => h) (fun _ => rfl) (Or.inl ⟨by rfl, ?_⟩) ?_ ?_
          rotate_left
          · intro w'
            go_simp
            with_reducible rfl
          rotate_left
          · simp only [Act.put, List.setIfInBounds_toArray, List.set_cons_zero, List.set_cons_succ, i64_w, i32_w]
            rfl
          refine GI.pure_ (i := 10) (N := some 30) (v := ?_) (a' := ?_) #[true, true, true, true, true, true, true, true, true, true, true, false, false, false] rfl rfl (by kernel_rfl) (fun _ _ _ h => h) (fun _ => rfl) (Or.inl ⟨by rfl, ?_⟩) ?_ ?_
          rotate_left
          · intro w'
            go_simp
            with_reducible rfl
          rotate_left
          · simp only [Act.put, List.setIfInBounds_toArray, List.set_cons_zero, List.set_cons_succ, i64_w, i32_w]
            rfl
          refine GI.one_ (i := 11) (N := some 9) #[true, true, true, true, true, true, true, true, true, true, true, true, false, false] rfl rfl (by kernel_rfl) (by decide) (by rfl) ?_
          refine GI.value_ (v := .pointer (some ⟨w1.heap.size, 0, none⟩)) (w1 := w1.alloc (.cells #[.int .i64 0, .int .i64 0] 40)) (fun c h => by cases h) ?hab1_2 ?hrun1_2 ?_
          case hab1_2 => intro f hf; cases hf
          case hrun1_2 => first | (go_simp; done) | (go_simp; rfl)
          refine ⟨fun hS => hS.alloc hS.size _, ?_⟩
          refine GI.norm_ (a' := ?_) ?_ ?_
          rotate_left
          · show Act.put _ (some 9) _ = _
            simp only [Act.put, List.setIfInBounds_toArray, List.set_cons_zero, List.set_cons_succ, i64_w, i32_w]
            rfl
          have b0 : (w1.alloc (.cells #[.int .i64 0, .int .i64 0] 40)).heap[w1.heap.size]? = some (.cells #[.int .i64 0, .int .i64 0] 40 (0, 0)) := World.alloc_heap_new w1 _
          obtain ⟨z0, z1, f0, f1⟩ := GS.c2 b0
          refine GI.last_ (i := 12) (N := none) #[true, true, true, true, true, true, true, true, true, true, true, true, true, false] rfl rfl (by kernel_rfl) (by decide) (by rfl) ?_
          refine GI.skip_ (w1 := ?w1_3) (fun c h => by cases h) ?hab2_3 rfl ?hrun2_3 ?_
          case hab2_3 => intro f hf; cases hf
          case hrun2_3 => first | (go_simp; done) | (go_simp; rfl)
          refine GI.pure_ (i := 13) (N := some 10) (v := ?_) (a' := ?_) #[true, true, true, true, true, true, true, true, true, true, true, true, true, true] rfl rfl (by kernel_rfl) (fun _ _ _ h => h) (fun _ => rfl) (Or.inl ⟨by rfl, ?_⟩) ?_ ?_
          rotate_left
          · intro w'
            go_simp
            with_reducible rfl
          rotate_left
          · simp only [Act.put, List.setIfInBounds_toArray, List.set_cons_zero, List.set_cons_succ, i64_w, i32_w]
            rfl
          refine GI.done_ (by kernel_rfl) ?_ _
          refine GI.q_norm ?_ (hX w1.heap.size _ ⟨hb1.alloc hb1.size _, World.alloc_heap_new w1 _, hb1.size⟩)
          simp only [GI.putL, List.foldl, List.setIfInBounds_toArray, List.set_cons_zero, List.set_cons_succ]
        · refine GI.value_ (v := .pointer (some ⟨wr.heap.size, 0, none⟩)) (w1 := wr.drew.alloc (.cells #[.int .i64 0, .int .i64 0] 40)) (fun c h => by cases h) ?hab1_4 ?hrun1_4 ?_
          case hab1_4 => intro f hf; cases hf
          case hrun1_4 => first | (go_simp; done) | (go_simp; rfl)
          refine ⟨fun hS => hS.alloc hS.size _, ?_⟩
          refine GI.norm_ (a' := ?_) ?_ ?_
          rotate_left
          · show Act.put _ (some 9) _ = _
            simp only [Act.put, List.setIfInBounds_toArray, List.set_cons_zero, List.set_cons_succ, i64_w, i32_w]
            rfl
          refine GI.one_ (i := 7) (N := some 28) #[true, true, true, true, true, true, true, true, false, false, false, true, false, false] rfl rfl (by kernel_rfl) (by decide) (by rfl) ?_
          refine GI.call_ (f := 62) #[.slice A0 l0.length c0, .int .i64 x] (fun c h => by cases h) ?hab_5 ?hrun_5 (fun _ => h1) ?_
          case hab_5 => intro f hf; trivial
          case hrun_5 => unfold execOp; simp [resolve, Deferred.ofValue, invoke, Act.eval, eg_at]
          refine (callsIn_wide.2 (profile_At.calls A0 c0 l0 x p1 p2' p3' _ (Kd.C_below (GS.rC HR.out) (below_alloc (below_drew hB) _)) HC.out hp)).mono ?_
          rintro e w1 ⟨rfl, hb1⟩
          refine ⟨_, rfl, fun hS => hS.trans (hb1.mono hS.size), ?_⟩
          refine GI.norm_ (a' := ?_) ?_ ?_
          rotate_left
          · show Act.put _ (some 28) _ = _
            simp only [Act.put, List.setIfInBounds_toArray, List.set_cons_zero, List.set_cons_succ, i64_w, i32_w]
            rfl
          have b0 : w1.heap[wr.heap.size]? = some (.cells #[.int .i64 0, .int .i64 0] 40 (0, 0)) := (hb1.block _ (by rw [World.size_alloc]; exact Nat.lt_succ_self _)).trans (World.alloc_heap_new wr.drew _)
          have hb2 : Below wr.heap.size wr.drew w1 := ((Below.refl _ _).alloc (Nat.le_refl _) (.cells #[.int .i64 0, .int .i64 0] 40)).trans (hb1.mono (by rw [World.size_alloc]; exact Nat.le_succ _))
          obtain ⟨z0, z1, f0, f1⟩ := GS.c2 b0
          refine GI.pure_ (i := 8) (N := some 20) (v := ?_) (a' := ?_) #[true, true, true, true, true, true, true, true, true, false, false, true, false, false] rfl rfl (by kernel_rfl) (fun _ _ _ h => h) (fun _ => rfl) (Or.inl ⟨by rfl, ?_⟩) ?_ ?_
          rotate_left
          · intro w'
            go_simp
            with_reducible rfl
          rotate_left
          · simp only [Act.put, List.setIfInBounds_toArray, List.set_cons_zero, List.set_cons_succ, i64_w, i32_w]
            rfl
          refine GI.pure_ (i := 9) (N := some 29) (v := ?_) (a' := ?_) #[true, true, true, true, true, true, true, true, true, true, false, true, false, false] rfl rfl (by kernel_rfl) (fun _ _ _ h => h) (fun _ => rfl) (Or.inl ⟨by rfl, ?_⟩) ?_ ?_
          rotate_left
          · intro w'
            go_simp
            with_reducible rfl
          rotate_left
          · simp only [Act.put, List.setIfInBounds_toArray, List.set_cons_zero, List.set_cons_succ, i64_w, i32_w]
            rfl
          refine GI.pure_ (i := 10) (N := some 30) (v := ?_) (a' := ?_) #[true, true, true, true, true, true, true, true, true, true, true, true, false, false] rfl rfl (by kernel_rfl) (fun _ _ _ h => h) (fun _ => rfl) (Or.inl ⟨by rfl, ?_⟩) ?_ ?_
          rotate_left
          · intro w'
            go_simp
            with_reducible rfl
          rotate_left
          · simp only [Act.put, List.setIfInBounds_toArray, List.set_cons_zero, List.set_cons_succ, i64_w, i32_w]
            rfl
          refine GI.last_ (i := 12) (N := none) #[true, true, true, true, true, true, true, true, true, true, true, true, true, false] rfl rfl (by kernel_rfl) (by decide) (by rfl) ?_
          refine GI.skip_ (w1 := ?w1_6) (fun c h => by cases h) ?hab2_6 rfl ?hrun2_6 ?_
          case hab2_6 => intro f hf; cases hf
          case hrun2_6 => first | (go_simp; done) | (go_simp; rfl)
          refine GI.pure_ (i := 13) (N := some 10) (v := ?_) (a' := ?_) #[true, true, true, true, true, true, true, true, true, true, true, true, true, true] rfl rfl (by kernel_rfl) (fun _ _ _ h => h) (fun _ => rfl) (Or.inl ⟨by rfl, ?_⟩) ?_ ?_
          rotate_left
          · intro w'
            go_simp
            with_reducible rfl
          rotate_left
          · simp only [Act.put, List.setIfInBounds_toArray, List.set_cons_zero, List.set_cons_succ, i64_w, i32_w]
            rfl
          refine GI.done_ (by kernel_rfl) ?_ _
          refine GI.q_norm ?_ (hX wr.heap.size _ ⟨(hb2.setCell (p := ⟨wr.heap.size, 0, none⟩) (Nat.le_refl _) _).setCell (p := ⟨wr.heap.size, 1, none⟩) (Nat.le_refl _) _, bqP (cs := #[.int .i64 p1, .int .i64 0]) (bqP (cs := #[.int .i64 0, .int .i64 0]) b0 0 _ rfl) 1 _ rfl, Nat.le_refl _⟩)
          simp only [GI.putL, List.foldl, List.setIfInBounds_toArray, List.set_cons_zero, List.set_cons_succ]
      case cont7 =>
        rintro g9 W2 ⟨hb2, b9, hg9⟩
        simp only [GI.putL, List.foldl, List.setIfInBounds_toArray, List.set_cons_zero, List.set_cons_succ]
        have hws : w.heap.size + 3 ≤ wr.heap.size := hsz
        have hB2 : Below w.heap.size w W2 := (below_drew hB).trans (hb2.mono (by show w.heap.size ≤ wr.heap.size; omega))
        have hs2 : w.heap.size + 3 ≤ W2.heap.size := Nat.le_trans hws hb2.size
        have bC2 : W2.heap[w.heap.size]? = some (.cells #[.string a0_0, .int .i64 a0_1, .slice A0 l0.length c0, .int .i64 a0_3] 24 (0, 0)) := (hb2.block _ (by omega)).trans bC
        have bS2 : W2.heap[w.heap.size + 1 + 1]? = some (.cells #[.int .i64 (sB l0 l1 i).f0, .int .i64 (sB l0 l1 i).f1] 40 (0, 0)) := (hb2.block _ (by omega)).trans bS
        have bO2 : Boxed W2 (w.heap.size + 1) 43 v := (hb2.block _ (by omega)).trans bO
        have hO2 : Kd.R k40 40 W2 (w.heap.size + 3) (fun _ => True) v (outS l0 l1 i) := Kd.R_below (Kd.R_drew hO) hb2
        have hcc3 : W2.drew.cell? ⟨w.heap.size, 2, none⟩ = some (.slice A0 l0.length c0) := (bqC (w := W2.drew) bC2 2).trans rfl
        have x1d : W2.drew.cell? (ad.add i) = some (.int .i64 x) := (hb2.cell (World.block_lt_of_cell? wr _ x0)).trans x0
        have y1d : W2.drew.cell? { ad with off := ad.off + (i + 1), spot := none } = some (.int .i64 y) := (hb2.cell (World.block_lt_of_cell? wr _ y0)).trans y0
        have h9l : g9 < W2.heap.size := (Array.getElem?_eq_some_iff.1 b9).1
        clear bC bS bO hO hcc2 x0 y0 x0d hb2 hB hBcl hsz
        have hBcl : w.heap.size < W2.drew.heap.size := by show w.heap.size < W2.heap.size; omega
        gi_wp2
        refine GI.start_ (m := 13) (S := fun w' => Below W2.heap.size W2.drew w') (ds := [11]) #[false, false, false, false, false, false, false, false, false, false, false, false, false] (by kernel_rfl) rfl rfl (Below.refl _ _) (fun hHeld => ?_)
        refine GI.pure_ (i := 0) (N := some 32) (v := ?_) (a' := ?_) #[true, false, false, false, false, false, false, false, false, false, false, false, false] rfl rfl (by kernel_rfl) (fun _ _ _ h => h) (fun _ => rfl) (Or.inl ⟨by rfl, ?_⟩) ?_ ?_
        rotate_left
        · intro w'
          go_simp
          with_reducible rfl
        rotate_left
        · simp only [Act.put, List.setIfInBounds_toArray, List.set_cons_zero, List.set_cons_succ, i64_w, i32_w]
          rfl
        refine GI.pure_ (i := 2) (N := some 34) (v := ?_) (a' := ?_) #[true, false, true, false, false, false, false, false, false, false, false, false, false] rfl rfl (by kernel_rfl) (fun _ _ _ h => h) (fun _ => rfl) (Or.inl ⟨by rfl, ?_⟩) ?_ ?_
        rotate_left
        · intro w'
          go_simp
          with_reducible rfl
        rotate_left
        · simp only [Act.put, List.setIfInBounds_toArray, List.set_cons_zero, List.set_cons_succ, i64_w, i32_w]
          rfl
        refine GI.pure_ (i := 3) (N := some 35) (v := ?_) (a' := ?_) #[true, false, true, true, false, false, false, false, false, false, false, false, false] rfl rfl (by kernel_rfl) (fun _ _ _ h => h) (fun _ => rfl) (Or.inl ⟨by rfl, ?_⟩) ?_ ?_
        rotate_left
        · intro w'
          go_simp
          with_reducible rfl
        rotate_left
        · simp only [Act.put, List.setIfInBounds_toArray, List.set_cons_zero, List.set_cons_succ, i64_w, i32_w]
          rfl
        refine GI.pure_ (i := 4) (N := some 36) (v := ?_) (a' := ?_) #[true, false, true, true, true, false, false, false, false, false, false, false, false] rfl rfl (by kernel_rfl) (fun _ _ _ h => h) (fun _ => rfl) (Or.inl ⟨by rfl, ?_⟩) ?_ ?_
        rotate_left
        · intro w'
          go_simp
          with_reducible rfl
        rotate_left
        · simp only [Act.put, List.setIfInBounds_toArray, List.set_cons_zero, List.set_cons_succ, i64_w, i32_w]
          rfl
        refine GI.take_ (i := 1) (N := some 33) (v := ?_) (a' := ?_) #[true, true, true, true, true, false, false, false, false, false, false, false, false] rfl rfl (by kernel_rfl) (fun _ _ _ h => h) (fun _ => rfl) (Or.inl ⟨by rfl, ?_⟩) hHeld ?_ ?_
        rotate_left
        · rintro w' hS
          have z2 := (hS.cell (p := ⟨w.heap.size, 2, none⟩) hBcl).trans hcc3
          go_simp
          with_reducible rfl
        rotate_left
        · simp only [Act.put, List.setIfInBounds_toArray, List.set_cons_zero, List.set_cons_succ, i64_w, i32_w]
          rfl
        refine GI.take_ (i := 5) (N := some 37) (v := ?_) (a' := ?_) #[true, true, true, true, true, true, false, false, false, false, false, false, false] rfl rfl (by kernel_rfl) (fun _ _ _ h => h) (fun _ => rfl) (Or.inl ⟨by rfl, ?_⟩) hHeld ?_ ?_
        rotate_left
        · rintro w' hS
          have z2 := (hS.cell (World.block_lt_of_cell? W2.drew _ y1d)).trans y1d
          go_simp
          with_reducible rfl
        rotate_left
        · simp only [Act.put, List.setIfInBounds_toArray, List.set_cons_zero, List.set_cons_succ, i64_w, i32_w]
          rfl
        refine GI.join_ [(38, .tuple #[.agg #[.int .i64 q1', .int .i64 q2'], .int .i64 q3']), (31, .tuple #[.agg #[.int .i64 q1', .int .i64 q2'], .int .i64 q3']), (39, .agg #[.int .i64 q1', .int .i64 q2']), (40, .int .i64 q3'), (12, .int .i64 q3')] 11 (fun g W' => Below W2.heap.size W2.drew W' ∧ W'.heap[g]? = some (.cells #[.int .i64 q1', .int .i64 q2'] 40 (0, 0)) ∧ W2.heap.size ≤ g) ?cont8 (fun hX => ?_)
        rotate_left
        · refine GI.two_ (i := 6) (j := 10) (Ni := some 38) (Nj := some 11) #[true, true, true, true, true, true, true, false, false, false, false, false, false] #[true, true, true, true, true, true, false, false, false, false, true, false, false] rfl rfl rfl rfl (by kernel_rfl) (by rfl) (by rfl) ?_ ?_
          · refine GI.call_ (f := 62) #[.slice A0 l0.length c0, .int .i64 y] (fun c h => by cases h) ?hab_8 ?hrun_8 (fun _ => h1) ?_
            case hab_8 => intro f hf; trivial
            case hrun_8 => unfold execOp; simp [resolve, Deferred.ofValue, invoke, Act.eval, eg_at]
            refine (callsIn_wide.2 (profile_At.calls A0 c0 l0 y q1' q2' q3' _ (Kd.C_below (GS.rC HR.out) (below_drew hB2)) HC.out hq)).mono ?_
            rintro e w1 ⟨rfl, hb1⟩
            refine ⟨_, rfl, fun hS => hS.trans (hb1.mono hS.size), ?_⟩
            refine GI.norm_ (a' := ?_) ?_ ?_
            rotate_left
            · show Act.put _ (some 38) _ = _
              simp only [Act.put, List.setIfInBounds_toArray, List.set_cons_zero, List.set_cons_succ, i64_w, i32_w]
              rfl
            refine GI.pure_ (i := 7) (N := some 31) (v := ?_) (a' := ?_) #[true, true, true, true, true, true, true, true, false, false, false, false, false] rfl rfl (by kernel_rfl) (fun _ _ _ h => h) (fun _ => rfl) (Or.inl ⟨by rfl, ?_⟩) ?_ ?_
            rotate_left
            · intro w'
              go_simp
              with_reducible rfl
            rotate_left
            · simp only [Act.put, List.setIfInBounds_toArray, List.set_cons_zero, List.set_cons_succ, i64_w, i32_w]
              rfl
            refine GI.pure_ (i := 8) (N := some 39) (v := ?_) (a' := ?_) #[true, true, true, true, true, true, true, true, true, false, false, false, false] rfl rfl (by kernel_rfl) (fun _ _ _ h => h) (fun _ => rfl) (Or.inl ⟨by rfl, ?_⟩) ?_ ?_
            rotate_left
            · intro w'
              go_simp
              with_reducible rfl
            rotate_left
            · simp only [Act.put, List.setIfInBounds_toArray, List.set_cons_zero, List.set_cons_succ, i64_w, i32_w]
              rfl
            refine GI.pure_ (i := 9) (N := some 40) (v := ?_) (a' := ?_) #[true, true, true, true, true, true, true, true, true, true, false, false, false] rfl rfl (by kernel_rfl) (fun _ _ _ h => h) (fun _ => rfl) (Or.inl ⟨by rfl, ?_⟩) ?_ ?_
            rotate_left
            · intro w'
              go_simp
              with_reducible rfl
            rotate_left
            · simp only [Act.put, List.setIfInBounds_toArray, List.set_cons_zero, List.set_cons_succ, i64_w, i32_w]
              rfl
            refine GI.one_ (i := 10) (N := some 11) #[true, true, true, true, true, true, true, true, true, true, true, false, false] rfl rfl (by kernel_rfl) (by decide) (by rfl) ?_
            refine GI.value_ (v := .pointer (some ⟨w1.heap.size, 0, none⟩)) (w1 := w1.alloc (.cells #[.int .i64 0, .int .i64 0] 40)) (fun c h => by cases h) ?hab1_9 ?hrun1_9 ?_
            case hab1_9 => intro f hf; cases hf
            case hrun1_9 => first | (go_simp; done) | (go_simp; rfl)
            refine ⟨fun hS => hS.alloc hS.size _, ?_⟩
            refine GI.norm_ (a' := ?_) ?_ ?_
            rotate_left
            · show Act.put _ (some 11) _ = _
              simp only [Act.put, List.setIfInBounds_toArray, List.set_cons_zero, List.set_cons_succ, i64_w, i32_w]
              rfl
            have b0 : (w1.alloc (.cells #[.int .i64 0, .int .i64 0] 40)).heap[w1.heap.size]? = some (.cells #[.int .i64 0, .int .i64 0] 40 (0, 0)) := World.alloc_heap_new w1 _
            obtain ⟨z0, z1, f0, f1⟩ := GS.c2 b0
            refine GI.last_ (i := 11) (N := none) #[true, true, true, true, true, true, true, true, true, true, true, true, false] rfl rfl (by kernel_rfl) (by decide) (by rfl) ?_
            refine GI.skip_ (w1 := ?w1_10) (fun c h => by cases h) ?hab2_10 rfl ?hrun2_10 ?_
            case hab2_10 => intro f hf; cases hf
            case hrun2_10 => first | (go_simp; done) | (go_simp; rfl)
            refine GI.pure_ (i := 12) (N := some 12) (v := ?_) (a' := ?_) #[true, true, true, true, true, true, true, true, true, true, true, true, true] rfl rfl (by kernel_rfl) (fun _ _ _ h => h) (fun _ => rfl) (Or.inl ⟨by rfl, ?_⟩) ?_ ?_
            rotate_left
            · intro w'
              go_simp
              with_reducible rfl
            rotate_left
            · simp only [Act.put, List.setIfInBounds_toArray, List.set_cons_zero, List.set_cons_succ, i64_w, i32_w]
              rfl
            refine GI.done_ (by kernel_rfl) ?_ _
            refine GI.q_norm ?_ (hX w1.heap.size _ ⟨hb1.alloc hb1.size _, World.alloc_heap_new w1 _, hb1.size⟩)
            simp only [GI.putL, List.foldl, List.setIfInBounds_toArray, List.set_cons_zero, List.set_cons_succ]
          · refine GI.value_ (v := .pointer (some ⟨W2.heap.size, 0, none⟩)) (w1 := W2.drew.alloc (.cells #[.int .i64 0, .int .i64 0] 40)) (fun c h => by cases h) ?hab1_11 ?hrun1_11 ?_
            case hab1_11 => intro f hf; cases hf
            case hrun1_11 => first | (go_simp; done) | (go_simp; rfl)
            refine ⟨fun hS => hS.alloc hS.size _, ?_⟩
            refine GI.norm_ (a' := ?_) ?_ ?_
            rotate_left
            · show Act.put _ (some 11) _ = _
              simp only [Act.put, List.setIfInBounds_toArray, List.set_cons_zero, List.set_cons_succ, i64_w, i32_w]
              rfl
            refine GI.one_ (i := 6) (N := some 38) #[true, true, true, true, true, true, true, false, false, false, true, false, false] rfl rfl (by kernel_rfl) (by decide) (by rfl) ?_
            refine GI.call_ (f := 62) #[.slice A0 l0.length c0, .int .i64 y] (fun c h => by cases h) ?hab_12 ?hrun_12 (fun _ => h1) ?_
            case hab_12 => intro f hf; trivial
            case hrun_12 => unfold execOp; simp [resolve, Deferred.ofValue, invoke, Act.eval, eg_at]
            refine (callsIn_wide.2 (profile_At.calls A0 c0 l0 y q1' q2' q3' _ (Kd.C_below (GS.rC HR.out) (below_alloc (below_drew hB2) _)) HC.out hq)).mono ?_
            rintro e w1 ⟨rfl, hb1⟩
            refine ⟨_, rfl, fun hS => hS.trans (hb1.mono hS.size), ?_⟩
            refine GI.norm_ (a' := ?_) ?_ ?_
            rotate_left
            · show Act.put _ (some 38) _ = _
              simp only [Act.put, List.setIfInBounds_toArray, List.set_cons_zero, List.set_cons_succ, i64_w, i32_w]
              rfl
            have b0 : w1.heap[W2.heap.size]? = some (.cells #[.int .i64 0, .int .i64 0] 40 (0, 0)) := (hb1.block _ (by rw [World.size_alloc]; exact Nat.lt_succ_self _)).trans (World.alloc_heap_new W2.drew _)
            have hb2 : Below W2.heap.size W2.drew w1 := ((Below.refl _ _).alloc (Nat.le_refl _) (.cells #[.int .i64 0, .int .i64 0] 40)).trans (hb1.mono (by rw [World.size_alloc]; exact Nat.le_succ _))
            obtain ⟨z0, z1, f0, f1⟩ := GS.c2 b0
            refine GI.pure_ (i := 7) (N := some 31) (v := ?_) (a' := ?_) #[true, true, true, true, true, true, true, true, false, false, true, false, false] rfl rfl (by kernel_rfl) (fun _ _ _ h => h) (fun _ => rfl) (Or.inl ⟨by rfl, ?_⟩) ?_ ?_
            rotate_left
            · intro w'
              go_simp
              with_reducible rfl
            rotate_left
            · simp only [Act.put, List.setIfInBounds_toArray, List.set_cons_zero, List.set_cons_succ, i64_w, i32_w]
              rfl
            refine GI.pure_ (i := 8) (N := some 39) (v := ?_) (a' := ?_) #[true, true, true, true, true, true, true, true, true, false, true, false, false] rfl rfl (by kernel_rfl) (fun _ _ _ h => h) (fun _ => rfl) (Or.inl ⟨by rfl, ?_⟩) ?_ ?_
            rotate_left
            · intro w'
              go_simp
              with_reducible rfl
            rotate_left
            · simp only [Act.put, List.setIfInBounds_toArray, List.set_cons_zero, List.set_cons_succ, i64_w, i32_w]
              rfl
            refine GI.pure_ (i := 9) (N := some 40) (v := ?_) (a' := ?_) #[true, true, true, true, true, true, true, true, true, true, true, false, false] rfl rfl (by kernel_rfl) (fun _ _ _ h => h) (fun _ => rfl) (Or.inl ⟨by rfl, ?_⟩) ?_ ?_
            rotate_left
            · intro w'
              go_simp
              with_reducible rfl
            rotate_left
            · simp only [Act.put, List.setIfInBounds_toArray, List.set_cons_zero, List.set_cons_succ, i64_w, i32_w]
              rfl
            refine GI.last_ (i := 11) (N := none) #[true, true, true, true, true, true, true, true, true, true, true, true, false] rfl rfl (by kernel_rfl) (by decide) (by rfl) ?_
            refine GI.skip_ (w1 := ?w1_13) (fun c h => by cases h) ?hab2_13 rfl ?hrun2_13 ?_
            case hab2_13 => intro f hf; cases hf
            case hrun2_13 => first | (go_simp; done) | (go_simp; rfl)
            refine GI.pure_ (i := 12) (N := some 12) (v := ?_) (a' := ?_) #[true, true, true, true, true, true, true, true, true, true, true, true, true] rfl rfl (by kernel_rfl) (fun _ _ _ h => h) (fun _ => rfl) (Or.inl ⟨by rfl, ?_⟩) ?_ ?_
            rotate_left
            · intro w'
              go_simp
              with_reducible rfl
            rotate_left
            · simp only [Act.put, List.setIfInBounds_toArray, List.set_cons_zero, List.set_cons_succ, i64_w, i32_w]
              rfl
            refine GI.done_ (by kernel_rfl) ?_ _
            refine GI.q_norm ?_ (hX W2.heap.size _ ⟨(hb2.setCell (p := ⟨W2.heap.size, 0, none⟩) (Nat.le_refl _) _).setCell (p := ⟨W2.heap.size, 1, none⟩) (Nat.le_refl _) _, bqP (cs := #[.int .i64 q1', .int .i64 0]) (bqP (cs := #[.int .i64 0, .int .i64 0]) b0 0 _ rfl) 1 _ rfl, Nat.le_refl _⟩)
            simp only [GI.putL, List.foldl, List.setIfInBounds_toArray, List.set_cons_zero, List.set_cons_succ]
        case cont8 =>
          rintro g11 W3 ⟨hb3, b11, hg11⟩
          simp only [GI.putL, List.foldl, List.setIfInBounds_toArray, List.set_cons_zero, List.set_cons_succ]
          have hws3 : w.heap.size + 3 ≤ W2.heap.size := hs2
          have hB3 : Below w.heap.size w W3 := (below_drew hB2).trans (hb3.mono (by show w.heap.size ≤ W2.heap.size; omega))
          have hs3 : w.heap.size + 3 ≤ W3.heap.size := Nat.le_trans hws3 hb3.size
          have bC3 : W3.heap[w.heap.size]? = some (.cells #[.string a0_0, .int .i64 a0_1, .slice A0 l0.length c0, .int .i64 a0_3] 24 (0, 0)) := (hb3.block _ (by omega)).trans bC2
          have bS3 : W3.heap[w.heap.size + 1 + 1]? = some (.cells #[.int .i64 (sB l0 l1 i).f0, .int .i64 (sB l0 l1 i).f1] 40 (0, 0)) := (hb3.block _ (by omega)).trans bS2
          have bO3 : Boxed W3 (w.heap.size + 1) 43 v := (hb3.block _ (by omega)).trans bO2
          have hO3 : Kd.R k40 40 W3 (w.heap.size + 3) (fun _ => True) v (outS l0 l1 i) := Kd.R_below (Kd.R_drew hO2) hb3
          have b93 : W3.drew.heap[g9]? = some (.cells #[.int .i64 p1, .int .i64 p2'] 40 (0, 0)) := (hb3.block _ h9l).trans b9
          have b113 : W3.drew.heap[g11]? = some (.cells #[.int .i64 q1', .int .i64 q2'] 40 (0, 0)) := b11
          have x2d : W3.drew.cell? (ad.add i) = some (.int .i64 x) := (hb3.cell (World.block_lt_of_cell? W2.drew _ x1d)).trans x1d
          have y2d : W3.drew.cell? { ad with off := ad.off + (i + 1), spot := none } = some (.int .i64 y) := (hb3.cell (World.block_lt_of_cell? W2.drew _ y1d)).trans y1d
          obtain ⟨z0, z1, f0, f1⟩ := GS.c2 b93
          obtain ⟨y0, y1, g0, g1⟩ := GS.c2 b113
          clear bC2 bS2 bO2 hO2 hcc3 x1d y1d hb3 hB2 b9 b11 f0 f1 g0 g1 b93 b113
          gi_wp2
          refine GI.start_ (m := 22) (S := fun w' => w' = W3.drew) (ds := [21]) #[false, false, false, false, false, false, false, false, false, false, false, false, false, false, false, false, false, false, false, false, false, false] (by kernel_rfl) rfl rfl rfl (fun hHeld => ?_)
          refine GI.pure_ (i := 0) (N := some 41) (v := ?_) (a' := ?_) #[true, false, false, false, false, false, false, false, false, false, false, false, false, false, false, false, false, false, false, false, false, false] rfl rfl (by kernel_rfl) (fun _ _ _ h => h) (fun _ => rfl) (Or.inl ⟨by rfl, ?_⟩) ?_ ?_
          rotate_left
          · intro w'
            go_simp
            with_reducible rfl
          rotate_left
          · simp only [Act.put, List.setIfInBounds_toArray, List.set_cons_zero, List.set_cons_succ, i64_w, i32_w]
            rfl
          refine GI.pure_ (i := 1) (N := some 42) (v := ?_) (a' := ?_) #[true, true, false, false, false, false, false, false, false, false, false, false, false, false, false, false, false, false, false, false, false, false] rfl rfl (by kernel_rfl) (fun _ _ _ h => h) (fun _ => rfl) (Or.inl ⟨by rfl, ?_⟩) ?_ ?_
          rotate_left
          · intro w'
            go_simp
            with_reducible rfl
          rotate_left
          · simp only [Act.put, List.setIfInBounds_toArray, List.set_cons_zero, List.set_cons_succ, i64_w, i32_w]
            rfl
          refine GI.pure_ (i := 2) (N := some 43) (v := ?_) (a' := ?_) #[true, true, true, false, false, false, false, false, false, false, false, false, false, false, false, false, false, false, false, false, false, false] rfl rfl (by kernel_rfl) (fun _ _ _ h => h) (fun _ => rfl) (Or.inl ⟨by rfl, ?_⟩) ?_ ?_
          rotate_left
          · intro w'
            go_simp
            with_reducible rfl
          rotate_left
          · simp only [Act.put, List.setIfInBounds_toArray, List.set_cons_zero, List.set_cons_succ, i64_w, i32_w]
            rfl
          refine GI.pure_ (i := 5) (N := some 46) (v := ?_) (a' := ?_) #[true, true, true, false, false, true, false, false, false, false, false, false, false, false, false, false, false, false, false, false, false, false] rfl rfl (by kernel_rfl) (fun _ _ _ h => h) (fun _ => rfl) (Or.inl ⟨by rfl, ?_⟩) ?_ ?_
          rotate_left
          · intro w'
            go_simp
            with_reducible rfl
          rotate_left
          · simp only [Act.put, List.setIfInBounds_toArray, List.set_cons_zero, List.set_cons_succ, i64_w, i32_w]
            rfl
          refine GI.pure_ (i := 6) (N := some 47) (v := ?_) (a' := ?_) #[true, true, true, false, false, true, true, false, false, false, false, false, false, false, false, false, false, false, false, false, false, false] rfl rfl (by kernel_rfl) (fun _ _ _ h => h) (fun _ => rfl) (Or.inl ⟨by rfl, ?_⟩) ?_ ?_
          rotate_left
          · intro w'
            go_simp
            with_reducible rfl
          rotate_left
          · simp only [Act.put, List.setIfInBounds_toArray, List.set_cons_zero, List.set_cons_succ, i64_w, i32_w]
            rfl
          refine GI.pure_ (i := 7) (N := some 48) (v := ?_) (a' := ?_) #[true, true, true, false, false, true, true, true, false, false, false, false, false, false, false, false, false, false, false, false, false, false] rfl rfl (by kernel_rfl) (fun _ _ _ h => h) (fun _ => rfl) (Or.inl ⟨by rfl, ?_⟩) ?_ ?_
          rotate_left
          · intro w'
            go_simp
            with_reducible rfl
          rotate_left
          · simp only [Act.put, List.setIfInBounds_toArray, List.set_cons_zero, List.set_cons_succ, i64_w, i32_w]
            rfl
          refine GI.pure_ (i := 3) (N := some 44) (v := ?_) (a' := ?_) #[true, true, true, true, false, true, true, true, false, false, false, false, false, false, false, false, false, false, false, false, false, false] rfl rfl (by kernel_rfl) (fun _ _ _ h => h) (fun _ => rfl) (Or.inl ⟨by rfl, ?_⟩) ?_ ?_
          rotate_left
          · intro w'
            go_simp
            with_reducible rfl
          rotate_left
          · simp only [Act.put, List.setIfInBounds_toArray, List.set_cons_zero, List.set_cons_succ, i64_w, i32_w]
            rfl
          refine GI.pure_ (i := 8) (N := some 49) (v := ?_) (a' := ?_) #[true, true, true, true, false, true, true, true, true, false, false, false, false, false, false, false, false, false, false, false, false, false] rfl rfl (by kernel_rfl) (fun _ _ _ h => h) (fun _ => rfl) (Or.inl ⟨by rfl, ?_⟩) ?_ ?_
          rotate_left
          · intro w'
            go_simp
            with_reducible rfl
          rotate_left
          · simp only [Act.put, List.setIfInBounds_toArray, List.set_cons_zero, List.set_cons_succ, i64_w, i32_w]
            rfl
          refine GI.pure_ (i := 11) (N := some 52) (v := ?_) (a' := ?_) #[true, true, true, true, false, true, true, true, true, false, false, true, false, false, false, false, false, false, false, false, false, false] rfl rfl (by kernel_rfl) (fun _ _ _ h => h) (fun _ => rfl) (Or.inl ⟨by rfl, ?_⟩) ?_ ?_
          rotate_left
          · intro w'
            go_simp
            with_reducible rfl
          rotate_left
          · simp only [Act.put, List.setIfInBounds_toArray, List.set_cons_zero, List.set_cons_succ, i64_w, i32_w]
            rfl
          refine GI.pure_ (i := 13) (N := some 54) (v := ?_) (a' := ?_) #[true, true, true, true, false, true, true, true, true, false, false, true, false, true, false, false, false, false, false, false, false, false] rfl rfl (by kernel_rfl) (fun _ _ _ h => h) (fun _ => rfl) (Or.inl ⟨by rfl, ?_⟩) ?_ ?_
          rotate_left
          · intro w'
            go_simp
            with_reducible rfl
          rotate_left
          · simp only [Act.put, List.setIfInBounds_toArray, List.set_cons_zero, List.set_cons_succ, i64_w, i32_w]
            rfl
          refine GI.pure_ (i := 16) (N := some 57) (v := ?_) (a' := ?_) #[true, true, true, true, false, true, true, true, true, false, false, true, false, true, false, false, true, false, false, false, false, false] rfl rfl (by kernel_rfl) (fun _ _ _ h => h) (fun _ => rfl) (Or.inl ⟨by rfl, ?_⟩) ?_ ?_
          rotate_left
          · intro w'
            go_simp
            with_reducible rfl
          rotate_left
          · simp only [Act.put, List.setIfInBounds_toArray, List.set_cons_zero, List.set_cons_succ, i64_w, i32_w]
            rfl
          refine GI.pure_ (i := 18) (N := some 59) (v := ?_) (a' := ?_) #[true, true, true, true, false, true, true, true, true, false, false, true, false, true, false, false, true, false, true, false, false, false] rfl rfl (by kernel_rfl) (fun _ _ _ h => h) (fun _ => rfl) (Or.inl ⟨by rfl, ?_⟩) ?_ ?_
          rotate_left
          · intro w'
            go_simp
            with_reducible rfl
          rotate_left
          · simp only [Act.put, List.setIfInBounds_toArray, List.set_cons_zero, List.set_cons_succ, i64_w, i32_w]
            rfl
          refine GI.take_ (i := 4) (N := some 45) (v := ?_) (a' := ?_) #[true, true, true, true, true, true, true, true, true, false, false, true, false, true, false, false, true, false, true, false, false, false] rfl rfl (by kernel_rfl) (fun _ _ _ h => h) (fun _ => rfl) (Or.inl ⟨by rfl, ?_⟩) hHeld ?_ ?_
          rotate_left
          · rintro w' rfl
            go_simp
            with_reducible rfl
          rotate_left
          · simp only [Act.put, List.setIfInBounds_toArray, List.set_cons_zero, List.set_cons_succ, i64_w, i32_w]
            rfl
          refine GI.take_ (i := 9) (N := some 50) (v := ?_) (a' := ?_) #[true, true, true, true, true, true, true, true, true, true, false, true, false, true, false, false, true, false, true, false, false, false] rfl rfl (by kernel_rfl) (fun _ _ _ h => h) (fun _ => rfl) (Or.inl ⟨by rfl, ?_⟩) hHeld ?_ ?_
          rotate_left
          · rintro w' rfl
            go_simp
            with_reducible rfl
          rotate_left
          · simp only [Act.put, List.setIfInBounds_toArray, List.set_cons_zero, List.set_cons_succ, i64_w, i32_w]
            rfl
          refine GI.take_ (i := 12) (N := some 53) (v := ?_) (a' := ?_) #[true, true, true, true, true, true, true, true, true, true, false, true, true, true, false, false, true, false, true, false, false, false] rfl rfl (by kernel_rfl) (fun _ _ _ h => h) (fun _ => rfl) (Or.inl ⟨by rfl, ?_⟩) hHeld ?_ ?_
          rotate_left
          · rintro w' rfl
            go_simp
            with_reducible rfl
          rotate_left
          · simp only [Act.put, List.setIfInBounds_toArray, List.set_cons_zero, List.set_cons_succ, i64_w, i32_w]
            rfl
          refine GI.take_ (i := 14) (N := some 55) (v := ?_) (a' := ?_) #[true, true, true, true, true, true, true, true, true, true, false, true, true, true, true, false, true, false, true, false, false, false] rfl rfl (by kernel_rfl) (fun _ _ _ h => h) (fun _ => rfl) (Or.inl ⟨by rfl, ?_⟩) hHeld ?_ ?_
          rotate_left
          · rintro w' rfl
            go_simp
            with_reducible rfl
          rotate_left
          · simp only [Act.put, List.setIfInBounds_toArray, List.set_cons_zero, List.set_cons_succ, i64_w, i32_w]
            rfl
          refine GI.take_ (i := 17) (N := some 58) (v := ?_) (a' := ?_) #[true, true, true, true, true, true, true, true, true, true, false, true, true, true, true, false, true, true, true, false, false, false] rfl rfl (by kernel_rfl) (fun _ _ _ h => h) (fun _ => rfl) (Or.inl ⟨by rfl, ?_⟩) hHeld ?_ ?_
          rotate_left
          · rintro w' rfl
            go_simp
            with_reducible rfl
          rotate_left
          · simp only [Act.put, List.setIfInBounds_toArray, List.set_cons_zero, List.set_cons_succ, i64_w, i32_w]
            rfl
          refine GI.take_ (i := 19) (N := some 60) (v := ?_) (a' := ?_) #[true, true, true, true, true, true, true, true, true, true, false, true, true, true, true, false, true, true, true, true, false, false] rfl rfl (by kernel_rfl) (fun _ _ _ h => h) (fun _ => rfl) (Or.inl ⟨by rfl, ?_⟩) hHeld ?_ ?_
          rotate_left
          · rintro w' rfl
            go_simp
            with_reducible rfl
          rotate_left
          · simp only [Act.put, List.setIfInBounds_toArray, List.set_cons_zero, List.set_cons_succ, i64_w, i32_w]
            rfl
          refine GI.pure_ (i := 10) (N := some 51) (v := ?_) (a' := ?_) #[true, true, true, true, true, true, true, true, true, true, true, true, true, true, true, false, true, true, true, true, false, false] rfl rfl (by kernel_rfl) (fun _ _ _ h => h) (fun _ => rfl) (Or.inl ⟨by rfl, ?_⟩) ?_ ?_
          rotate_left
          · intro w'
            go_simp
            with_reducible rfl
          rotate_left
          · simp only [Act.put, List.setIfInBounds_toArray, List.set_cons_zero, List.set_cons_succ, i64_w, i32_w]
            rfl
          refine GI.pure_ (i := 15) (N := some 56) (v := ?_) (a' := ?_) #[true, true, true, true, true, true, true, true, true, true, true, true, true, true, true, true, true, true, true, true, false, false] rfl rfl (by kernel_rfl) (fun _ _ _ h => h) (fun _ => rfl) (Or.inl ⟨by rfl, ?_⟩) ?_ ?_
          rotate_left
          · intro w'
            go_simp
            with_reducible rfl
          rotate_left
          · simp only [Act.put, List.setIfInBounds_toArray, List.set_cons_zero, List.set_cons_succ, i64_w, i32_w]
            rfl
          refine GI.pure_ (i := 20) (N := some 61) (v := ?_) (a' := ?_) #[true, true, true, true, true, true, true, true, true, true, true, true, true, true, true, true, true, true, true, true, true, false] rfl rfl (by kernel_rfl) (fun _ _ _ h => h) (fun _ => rfl) (Or.inl ⟨by rfl, ?_⟩) ?_ ?_
          rotate_left
          · intro w'
            go_simp
            with_reducible rfl
          rotate_left
          · simp only [Act.put, List.setIfInBounds_toArray, List.set_cons_zero, List.set_cons_succ, i64_w, i32_w]
            rfl
          refine GI.last_ (i := 21) (N := some 62) #[true, true, true, true, true, true, true, true, true, true, true, true, true, true, true, true, true, true, true, true, true, true] rfl rfl (by kernel_rfl) (by decide) (by rfl) ?_
          refine GI.call_ (f := 61) #[.int .i64 (wrap64 (y - x)), .int .i64 (min p1 q1'), .int .i64 (max p2' q2'), .pointer (some ⟨w.heap.size + 1 + 1, 0, none⟩), .pointer (some ⟨w.heap.size + 1, 0, none⟩)] (fun c h => by cases h) ?hab_7 ?hrun_7 (fun _ => h1) ?_
          case hab_7 => intro f hf; trivial
          case hrun_7 => unfold execOp; simp [resolve, Deferred.ofValue, invoke, Act.eval, eg_61]; refine ⟨?_, ?_⟩ <;> split <;> omega
          refine (callsIn_wide.2 (add61 w (wrap64 (y - x)) (min p1 q1') (max p2' q2') (w.heap.size + 1 + 1) (w.heap.size + 1) (w.heap.size + 3) (sB l0 l1 i) v (outS l0 l1 i) W3.drew bS3 bO3 (Kd.R_drew hO3) (by omega) (by omega) (below_drew hB3) ⟨by omega, by omega⟩ hs3 (by rw [outS_len]; have := HLT.out; have := HMM.out; have := HL.out; omega))).mono ?_
          rintro e W4 ⟨⟨u, rfl⟩, v4, bS4, bO4, hO4, hold4, hB4, hs4⟩
          refine ⟨_, rfl, ?_⟩
          refine GI.done_ (by kernel_rfl) ?_ _
          gi_wp2
          refine ⟨⟨i + 1, by rw [hw], by have := HLT.out; omega, ⟨?_, by rw [hsB]; exact bS4⟩, ⟨_, bO4, by rw [outS_succ, hsB]; exact hO4⟩, hB4, Nat.le_trans hs3 hs4⟩, ?_⟩
          · exact (hold4 _ (by omega) (by omega) (by omega)).trans bC3
          · show m + 1 - (wrap64 ((i : Int) + 1 + 1)).toNat < m + 1 - ((i : Int) + 1).toNat
            have := HLT.out
            rw [hw]
            omega
    · have q1 : decide ((i : Int) + 1 < (l1.length : Int)) = false := decide_eq_false (by have := HMM.out; omega)
      obtain rfl : i = m := by omega
      have cO := bO.cell
      obtain ⟨A2, c2, e2⟩ := Kd.R_slice hO
      subst e2
      gi_wp2
      go_ret
      exact ⟨_, rfl, Kd.R_lower hO (by omega), hB⟩
def sums42.f (a0_0 : ByteArray) (a0_1 : Int) (l0 : List S33) (a0_3 : Int) (l1 : List Int) : Option (List S40) := if l1.length < 1000000 ∧ (∀ x ∈ l1, (profile_At.f l0 x).isSome = true) then some (outS l0 l1 (l1.length - 1)) else none
theorem sums42.calls (a0_0 : ByteArray) (a0_1 : Int) (A0 : Option Addr) (c0 : Nat) (l0 : List S33) (a0_3 : Int) (A1 : Option Addr) (c1 : Nat) (l1 : List Int) (r : List S40) (w : World) (hr0 : Kd.C k33 w A0 l0.length l0) (hc0 : l0.length ≤ c0) (hr1 : Kd.C (Kd.int .i64) w A1 l1.length l1) (hc1 : l1.length ≤ c1) (h : sums42.f a0_0 a0_1 l0 a0_3 l1 = some r) :
    Calls Try.prog 42 #[.agg #[.string a0_0, .int .i64 a0_1, .slice A0 l0.length c0, .int .i64 a0_3], .slice A1 l1.length c1] w fun e w' => ∃ v1 : Value, e = .returned v1 ∧ Kd.R k40 40 w' w.heap.size (fun _ => True) v1 r ∧ Below w.heap.size w w' := by
  unfold sums42.f at h
  split at h
  · rename_i hc
    obtain rfl := Option.some.inj h
    exact callsIn_wide.1 (sums_in 6 (Nat.le_refl _) a0_0 a0_1 A0 c0 l0 a0_3 A1 c1 l1 w hr0 hc0 hr1 hc.2 hc.1)
  · cases h
end Go.Proofs.Ytmcmbjkjilcmeaa.K
