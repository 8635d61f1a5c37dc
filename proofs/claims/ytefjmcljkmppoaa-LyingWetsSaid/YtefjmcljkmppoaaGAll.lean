/- By hand: the iterator lying.all, and a loop over it. -/
import Derived.Test.YtefjmcljkmppoaaGArea
import Derived.Test.YtefjmcljkmppoaaK6
namespace Go.Proofs.Ytefjmcljkmppoaa.K
open Go Go.RowKit Go.Shelf Go.Proofs.YtefjmcljkmppoaaW.PrintWords Go.Proofs.YtefjmcljkmppoaaW.PrintLast Go.Proofs.YtefjmcljkmppoaaW.PrintMore Go.Proofs.Ytefjmcljkmppoaa.GW
set_option linter.unusedVariables false
set_option linter.unusedSimpArgs false
attribute [local go_sem] Oper.semAt_some
theorem eg_at (args : Array Value) (w : World) : (callFunc 99 args).run Try.prog w = .ok (.enter 99 args) w := enters_ Try.func99 (by kernel_rfl) rfl args w
def atV (l : List S39) (x : Int) : Int × Int × Int := (profile_At.f l x).getD (0, 0, 0)
def slV (l : List S39) (x : Int × Int) : Int × Int × Int := (wrap64 (x.2 - x.1), min (atV l x.1).1 (atV l x.2).1, max (atV l x.1).2.1 (atV l x.2).2.1)
def slE (s : Int × Int × Int) : Value := .agg #[.int .i64 s.1, .int .i64 s.2.1, .int .i64 s.2.2]
def encA (l : List S39) (x : Int × Int) : Array Value := #[slE (slV l x)]
theorem rd_mem (l : List Int) (i : Int) (h0 : 0 ≤ i) (h1 : i < l.length) : rd l i ∈ l := by
  obtain ⟨j, rfl⟩ := Int.eq_ofNat_of_zero_le h0
  have hj : j < l.length := by omega
  rw [rdG_get l j hj]
  exact List.getElem_mem hj
def KpA (n₀ Bm Bc : Nat) (W W' : World) : Prop := Below n₀ W W' ∧ W'.heap[Bm]? = W.heap[Bm]? ∧ W'.heap[Bc]? = W.heap[Bc]?
theorem KpA.trans {n₀ Bm Bc : Nat} {A B C : World} (h : KpA n₀ Bm Bc A B) (h' : KpA n₀ Bm Bc B C) : KpA n₀ Bm Bc A C := ⟨h.1.trans h'.1, h'.2.1.trans h.2.1, h'.2.2.trans h.2.2⟩
theorem KpA.refl (n₀ Bm Bc : Nat) (W : World) : KpA n₀ Bm Bc W W := ⟨Below.refl _ _, rfl, rfl⟩
theorem kpA_b {n₀ Bm Bc B : Nat} (hn : n₀ ≤ B) (hB : Bm < B) (hC : Bc < B) : ∀ (W : World) (l : Nat) (o o' : Obj), B ≤ l → W.heap[l]? = some o → o.isCells = false → o.isWalk = false → KpA n₀ Bm Bc W (W.putObj l o') := fun W l o o' hl ho hc hw =>
  ⟨(kpS_b (Bm := Bm) hn hB W l o o' hl ho hc hw).1, (kpS_b (Bm := Bm) hn hB W l o o' hl ho hc hw).2, (kpS_b (Bm := Bc) hn hC W l o o' hl ho hc hw).2⟩
set_option maxHeartbeats 1000000 in
theorem all_in (F : Fence) (n : Nat) (hf : F.fn 84) (hro : F.round = none) (a0_0 : ByteArray) (a0_1 : Int) (A0 : Option Addr) (m0 c0 : Nat) (a0_3 : Int) (A1 : Option Addr) (m1 c1 : Nat) (w : World) :
    CallsIn F n Try.prog 84 #[.agg #[.string a0_0, .int .i64 a0_1, .slice A0 m0 c0, .int .i64 a0_3], .slice A1 m1 c1] w fun e w' => e = .returned (.func (.func 98) #[] #[.pointer (some ⟨w.heap.size + 1, 0, none⟩), .pointer (some ⟨w.heap.size, 0, none⟩)]) ∧ w' = (w.alloc (.cells #[.string a0_0, .int .i64 a0_1, .slice A0 m0 c0, .int .i64 a0_3] 24)).alloc (.cells #[.slice A1 m1 c1] 34) := by
  refine callsIn_of_wp Try.func84 rfl hf ?_ hro
  have hu := Try.underlying24
  simp only [Try.ntmps84, List.size_toArray, List.length_cons, List.length_nil, Nat.reduceAdd, Nat.reduceSub, Array.replicate_succ, Array.replicate_zero, List.push_toArray, List.append_toArray, List.nil_append, List.cons_append]
  gi_wp2
  go_ret
  exact ⟨rfl, rfl⟩
set_option maxRecDepth 100000 in
set_option maxHeartbeats 8000000 in
theorem all1 (n : Nat) (hn : 6 ≤ n) (l Bm Bc n₀ : Nat) (a0_0 : ByteArray) (a0_1 : Int) (A0 : Option Addr) (c0 : Nat) (l0 : List S39) (a0_3 : Int) (A1 : Option Addr) (c1 : Nat) (l1 : List Int) (hxl : l1.length < 1000000000) (J Jx : List (Int × Int) → World → Prop)
    (hY : ∀ pre x W, x ∈ pairsI l1 → J pre W → pre.length < (pairsI l1).length → YieldAt Fence.wide (n - 1) Try.prog l (encA l0 x) W fun e W' =>
      (e = .returned (.bool true) ∧ J (pre ++ [x]) W' ∧ KpA n₀ Bm Bc W W') ∨ (e = .returned (.bool false) ∧ Jx (pre ++ [x]) W'))
    (hJd : ∀ pre W W', Below W.heap.size W W' → J pre W → J pre W') (W : World) (hm : W.heap[Bm]? = some (.cells #[.slice A1 l1.length c1] 34 (0, 0))) (hcb : W.heap[Bc]? = some (.cells #[.string a0_0, .int .i64 a0_1, .slice A0 l0.length c0, .int .i64 a0_3] 24 (0, 0)))
    (w0 : World) (hw0 : w0.heap.size ≤ n₀) (hr : Kd.C k39 w0 A0 l0.length l0) (hc : l0.length ≤ c0) (hr1 : Kd.C (Kd.int .i64) w0 A1 l1.length l1) (hat : ∀ x ∈ l1, (profile_At.f l0 x).isSome = true) (hb0 : Below w0.heap.size w0 W) (h0 : J [] W) :
    CallsIn Fence.wide n Try.prog 98 #[.func (.yield l) #[] #[], .pointer (some ⟨Bm, 0, none⟩), .pointer (some ⟨Bc, 0, none⟩)] W fun e W' => (∃ v, e = .returned v) ∧ ((∃ ys, ys = pairsI l1 ∧ J ys W') ∨ (∃ pre, pre <+: pairsI l1 ∧ Jx pre W')) := by
  have h1 : 1 ≤ n := by omega
  have hu24 := Try.underlying24
  have hu28 := Try.underlying28
  have HR := Aside0.mk hr
  have HC := Aside0.mk hc
  have HR1 := Aside0.mk hr1
  have HA := Aside0.mk hat
  have HL := Aside0.mk hxl
  have hmx : Try.prog.follows .mixedOrders = true := by kernel_rfl
  have hpl := pairsI_len l1
  clear hr hc hr1 hat hxl
  refine callsIn_of_wp Try.func98 rfl trivial ?_ rfl
  simp only [Try.ntmps98, List.size_toArray, List.length_cons, List.length_nil, Nat.reduceAdd, Nat.reduceSub, Array.replicate_succ, Array.replicate_zero, List.push_toArray, List.append_toArray, List.nil_append, List.cons_append]
  gi_wp2
  gi_loopw [4] (fun v4 wr => ∃ i : Nat, v4 = .int .i64 ((i : Int) + 1) ∧ i ≤ (pairsI l1).length ∧ (wr.heap[Bm]? = some (.cells #[.slice A1 l1.length c1] 34 (0, 0)) ∧ wr.heap[Bc]? = some (.cells #[.string a0_0, .int .i64 a0_1, .slice A0 l0.length c0, .int .i64 a0_3] 24 (0, 0))) ∧ Below w0.heap.size w0 wr ∧ J ((pairsI l1).take i) wr)
    (fun v4 wr => match v4 with | .int _ i => (l1.length - i.toNat) | _ => 0)
  case atStart => exact ⟨0, rfl, Nat.zero_le _, ⟨hm, hcb⟩, hb0, h0⟩
  case round =>
    clear hm hcb hb0 h0
    obtain ⟨i, rfl, hi, ⟨bP, bC⟩, hb, hJ⟩ := hrel
    have cP : wr.cell? ⟨Bm, 0, none⟩ = some (.slice A1 l1.length c1) := (bqC (w := wr) bP 0).trans rfl
    by_cases hlt : i < (pairsI l1).length
    · have q0 : i + 1 < l1.length := ar_pairs hlt hpl
      have HLT := Aside0.mk hlt
      clear hlt hi hpl
      have HLL := HL.out
      have q1 : decide ((i : Int) + 1 < (l1.length : Int)) = true := decide_eq_true (by omega)
      have hw1 : wrap64 ((i : Int) + 1 - 1) = (i : Int) := by unfold wrap64; omega
      have hw2 : wrap64 (i : Int) = (i : Int) := by unfold wrap64; omega
      have hw : wrap64 ((i : Int) + 1 + 1) = ((i + 1 : Nat) : Int) + 1 := by unfold wrap64; omega
      have hC := Kd.C_below (GS.rC HR1.out) hb
      obtain ⟨ad, e1, x0⟩ := Kd.at_int hC (i : Int) (by omega) (by omega)
      cases e1
      obtain ⟨ad', e2, y0⟩ := Kd.at_int hC ((i : Int) + 1) (by omega) (by omega)
      obtain rfl : ad = ad' := by injection e2
      clear e2
      have p2 : (0 ≤ (i : Int)) = True := eq_true (by omega)
      have p3 : (0 ≤ (i : Int) + 1) = True := eq_true (by omega)
      have q2 : ((i : Int) < (l1.length : Int)) = True := eq_true (by omega)
      have q3 : ((i : Int) + 1 < (l1.length : Int)) = True := eq_true (by omega)
      have m0 := rd_mem l1 (i : Int) (by omega) (by omega)
      have m1 := rd_mem l1 ((i : Int) + 1) (by omega) (by omega)
      have hg := pairsI_rd l1 i q0
      obtain ⟨x, hx⟩ : ∃ x, rd l1 (i : Int) = x := ⟨_, rfl⟩
      obtain ⟨y, hy⟩ : ∃ y, rd l1 ((i : Int) + 1) = y := ⟨_, rfl⟩
      rw [hx] at x0 m0 hg
      rw [hy] at y0 m1 hg
      obtain ⟨⟨p1, p2, p3⟩, hp⟩ := Option.isSome_iff_exists.1 (HA.out x m0)
      obtain ⟨⟨q1, q2, q3⟩, hq⟩ := Option.isSome_iff_exists.1 (HA.out y m1)
      obtain ⟨mn, hmn⟩ : ∃ m, (if q1 < p1 then q1 else p1) = m := ⟨_, rfl⟩
      obtain ⟨mz, hmz⟩ : ∃ m, (if p2 < q2 then q2 else p2) = m := ⟨_, rfl⟩
      have hev : encA l0 (x, y) = #[.agg #[.int .i64 (wrap64 (y - x)), .int .i64 mn, .int .i64 mz]] := by
        have em : min p1 q1 = mn := by rw [← hmn]; split <;> omega
        have eM : max p2 q2 = mz := by rw [← hmz]; split <;> omega
        unfold encA slV slE atV
        dsimp only
        rw [hp, hq, ← em, ← eM]
        rfl
      clear hx hy m0 m1
      simp only [Int.toNat_natCast] at x0
      rw [show ((i : Int) + 1).toNat = i + 1 by omega, Addr.add_succ'] at y0
      have x0d : wr.drew.cell? (ad.add i) = some (.int .i64 x) := x0
      clear HLL
      gi_wp2
      refine GI.start_ (m := 14) (S := fun w' => Below wr.heap.size wr.drew w') (ds := [12]) #[false, false, false, false, false, false, false, false, false, false, false, false, false, false] (by kernel_rfl) rfl rfl (Below.refl _ _) (fun hHeld => ?_)
      refine GI.pu 0 (some 16) ?_
      refine GI.pu 3 (some 19) ?_
      refine GI.pu 4 (some 20) ?_
      refine GI.take_ (i := 1) (N := some 17) (v := ?_) (a' := ?_) #[true, true, false, true, true, false, false, false, false, false, false, false, false, false] rfl rfl (by kernel_rfl) (fun _ _ _ h => h) (fun _ => rfl) (Or.inl ⟨by rfl, ?_⟩) hHeld ?_ ?_
      rotate_left
      · rintro w' hS
        have z2 := (hS.cell (p := ⟨Bc, 2, none⟩) (by show Bc < wr.heap.size; exact blk_lt bC)).trans ((bqC (w := wr.drew) bC 2).trans rfl)
        go_simp
        with_reducible rfl
      rotate_left
      · simp only [Act.put, List.setIfInBounds_toArray, List.set_cons_zero, List.set_cons_succ, i64_w, i32_w]
        rfl
      refine GI.take_ (i := 2) (N := some 18) (v := ?_) (a' := ?_) #[true, true, true, true, true, false, false, false, false, false, false, false, false, false] rfl rfl (by kernel_rfl) (fun _ _ _ h => h) (fun _ => rfl) (Or.inl ⟨by rfl, ?_⟩) hHeld ?_ ?_
      rotate_left
      · rintro w' hS
        have z2 := (hS.cell (p := ⟨Bm, 0, none⟩) (by show Bm < wr.heap.size; exact blk_lt bP)).trans ((bqC (w := wr.drew) bP 0).trans rfl)
        go_simp
        with_reducible rfl
      rotate_left
      · simp only [Act.put, List.setIfInBounds_toArray, List.set_cons_zero, List.set_cons_succ, i64_w, i32_w]
        rfl
      refine GI.pu 5 (some 21) ?_
      refine GI.take_ (i := 6) (N := some 22) (v := ?_) (a' := ?_) #[true, true, true, true, true, true, true, false, false, false, false, false, false, false] rfl rfl (by kernel_rfl) (fun _ _ _ h => h) (fun _ => rfl) (Or.inl ⟨by rfl, ?_⟩) hHeld ?_ ?_
      rotate_left
      · rintro w' hS
        have z2 := (hS.cell (World.block_lt_of_cell? wr.drew _ x0d)).trans x0d
        go_simp
        with_reducible rfl
      rotate_left
      · simp only [Act.put, List.setIfInBounds_toArray, List.set_cons_zero, List.set_cons_succ, i64_w, i32_w]
        rfl
      refine GI.join_ [(23, .tuple #[.agg #[.int .i64 p1, .int .i64 p2], .int .i64 p3]), (15, .tuple #[.agg #[.int .i64 p1, .int .i64 p2], .int .i64 p3]), (24, .agg #[.int .i64 p1, .int .i64 p2]), (25, .int .i64 p3), (6, .int .i64 p3)] 5 (fun g W' => Below wr.heap.size wr.drew W' ∧ W'.heap[g]? = some (.cells #[.int .i64 p1, .int .i64 p2] 28 (0, 0)) ∧ wr.heap.size ≤ g) ?cont3 (fun hX => ?_)
      rotate_left
      · refine GI.two_ (i := 7) (j := 11) (Ni := some 23) (Nj := some 5) #[true, true, true, true, true, true, true, true, false, false, false, false, false, false] #[true, true, true, true, true, true, true, false, false, false, false, true, false, false] rfl rfl rfl rfl (by kernel_rfl) (by rfl) (by rfl) ?_ ?_
        · refine GI.call_ (f := 99) #[.slice A0 l0.length c0, .int .i64 x] (fun c h => by cases h) ?hab_1 ?hrun_1 (fun _ => h1) ?_
          case hab_1 => intro f hf; trivial
          case hrun_1 => unfold execOp; simp [resolve, Deferred.ofValue, invoke, Act.eval, eg_at]
          refine (callsIn_wide.2 (profile_At.calls A0 c0 l0 x p1 p2 p3 _ (Kd.C_below (GS.rC HR.out) (below_drew hb)) HC.out hp)).mono ?_
          rintro e w1 ⟨rfl, hb1⟩
          refine ⟨_, rfl, fun hS => hS.trans (hb1.mono hS.size), ?_⟩
          refine GI.norm_ (a' := ?_) ?_ ?_
          rotate_left
          · show Act.put _ (some 23) _ = _
            simp only [Act.put, List.setIfInBounds_toArray, List.set_cons_zero, List.set_cons_succ, i64_w, i32_w]
            rfl
          refine GI.pu 8 (some 15) ?_
          refine GI.pu 9 (some 24) ?_
          refine GI.pu 10 (some 25) ?_
          refine GI.one_ (i := 11) (N := some 5) #[true, true, true, true, true, true, true, true, true, true, true, true, false, false] rfl rfl (by kernel_rfl) (by decide) (by rfl) ?_
          refine GI.value_ (v := .pointer (some ⟨w1.heap.size, 0, none⟩)) (w1 := w1.alloc (.cells #[.int .i64 0, .int .i64 0] 28)) (fun c h => by cases h) ?hab1_2 ?hrun1_2 ?_
          case hab1_2 => intro f hf; cases hf
          case hrun1_2 => first | (go_simp; done) | (go_simp; rfl)
          refine ⟨fun hS => hS.alloc hS.size _, ?_⟩
          refine GI.norm_ (a' := ?_) ?_ ?_
          rotate_left
          · show Act.put _ (some 5) _ = _
            simp only [Act.put, List.setIfInBounds_toArray, List.set_cons_zero, List.set_cons_succ, i64_w, i32_w]
            rfl
          have b0 : (w1.alloc (.cells #[.int .i64 0, .int .i64 0] 28)).heap[w1.heap.size]? = some (.cells #[.int .i64 0, .int .i64 0] 28 (0, 0)) := World.alloc_heap_new w1 _
          obtain ⟨z0, z1, f0, f1⟩ := GS.c2 b0
          refine GI.last_ (i := 12) (N := none) #[true, true, true, true, true, true, true, true, true, true, true, true, true, false] rfl rfl (by kernel_rfl) (by decide) (by rfl) ?_
          refine GI.skip_ (w1 := ?w1_3) (fun c h => by cases h) ?hab2_3 rfl ?hrun2_3 ?_
          case hab2_3 => intro f hf; cases hf
          case hrun2_3 => first | (go_simp; done) | (go_simp; rfl)
          refine GI.pu 13 (some 6) ?_
          refine GI.done_ (by kernel_rfl) ?_ _
          refine GI.q_norm ?_ (hX w1.heap.size _ ⟨hb1.alloc hb1.size _, World.alloc_heap_new w1 _, hb1.size⟩)
          simp only [GI.putL, List.foldl, List.setIfInBounds_toArray, List.set_cons_zero, List.set_cons_succ]
        · refine GI.value_ (v := .pointer (some ⟨wr.heap.size, 0, none⟩)) (w1 := wr.drew.alloc (.cells #[.int .i64 0, .int .i64 0] 28)) (fun c h => by cases h) ?hab1_4 ?hrun1_4 ?_
          case hab1_4 => intro f hf; cases hf
          case hrun1_4 => first | (go_simp; done) | (go_simp; rfl)
          refine ⟨fun hS => hS.alloc hS.size _, ?_⟩
          refine GI.norm_ (a' := ?_) ?_ ?_
          rotate_left
          · show Act.put _ (some 5) _ = _
            simp only [Act.put, List.setIfInBounds_toArray, List.set_cons_zero, List.set_cons_succ, i64_w, i32_w]
            rfl
          refine GI.one_ (i := 7) (N := some 23) #[true, true, true, true, true, true, true, true, false, false, false, true, false, false] rfl rfl (by kernel_rfl) (by decide) (by rfl) ?_
          refine GI.call_ (f := 99) #[.slice A0 l0.length c0, .int .i64 x] (fun c h => by cases h) ?hab_5 ?hrun_5 (fun _ => h1) ?_
          case hab_5 => intro f hf; trivial
          case hrun_5 => unfold execOp; simp [resolve, Deferred.ofValue, invoke, Act.eval, eg_at]
          refine (callsIn_wide.2 (profile_At.calls A0 c0 l0 x p1 p2 p3 _ (Kd.C_below (GS.rC HR.out) (below_alloc (below_drew hb) _)) HC.out hp)).mono ?_
          rintro e w1 ⟨rfl, hb1⟩
          refine ⟨_, rfl, fun hS => hS.trans (hb1.mono hS.size), ?_⟩
          refine GI.norm_ (a' := ?_) ?_ ?_
          rotate_left
          · show Act.put _ (some 23) _ = _
            simp only [Act.put, List.setIfInBounds_toArray, List.set_cons_zero, List.set_cons_succ, i64_w, i32_w]
            rfl
          have b0 : w1.heap[wr.heap.size]? = some (.cells #[.int .i64 0, .int .i64 0] 28 (0, 0)) := (hb1.block _ (by rw [World.size_alloc]; exact Nat.lt_succ_self _)).trans (World.alloc_heap_new wr.drew _)
          have hb2 : Below wr.heap.size wr.drew w1 := ((Below.refl _ _).alloc (Nat.le_refl _) (.cells #[.int .i64 0, .int .i64 0] 28)).trans (hb1.mono (by rw [World.size_alloc]; exact Nat.le_succ _))
          obtain ⟨z0, z1, f0, f1⟩ := GS.c2 b0
          refine GI.pu 8 (some 15) ?_
          refine GI.pu 9 (some 24) ?_
          refine GI.pu 10 (some 25) ?_
          refine GI.last_ (i := 12) (N := none) #[true, true, true, true, true, true, true, true, true, true, true, true, true, false] rfl rfl (by kernel_rfl) (by decide) (by rfl) ?_
          refine GI.skip_ (w1 := ?w1_6) (fun c h => by cases h) ?hab2_6 rfl ?hrun2_6 ?_
          case hab2_6 => intro f hf; cases hf
          case hrun2_6 => first | (go_simp; done) | (go_simp; rfl)
          refine GI.pu 13 (some 6) ?_
          refine GI.done_ (by kernel_rfl) ?_ _
          refine GI.q_norm ?_ (hX wr.heap.size _ ⟨(hb2.setCell (p := ⟨wr.heap.size, 0, none⟩) (Nat.le_refl _) _).setCell (p := ⟨wr.heap.size, 1, none⟩) (Nat.le_refl _) _, bqP (cs := #[.int .i64 p1, .int .i64 0]) (bqP (cs := #[.int .i64 0, .int .i64 0]) b0 0 _ rfl) 1 _ rfl, Nat.le_refl _⟩)
          simp only [GI.putL, List.foldl, List.setIfInBounds_toArray, List.set_cons_zero, List.set_cons_succ]
      case cont3 =>
        rintro g9 W2 ⟨hb3, b9, hg9⟩
        simp only [GI.putL, List.foldl, List.setIfInBounds_toArray, List.set_cons_zero, List.set_cons_succ]
        have hbw : Below wr.heap.size wr W2 := (below_drew (Below.refl _ wr)).trans hb3
        have hb2 : Below w0.heap.size w0 W2 := hb.trans (hbw.mono hb.size)
        have bP2 := (hbw.block _ (blk_lt bP)).trans bP
        have bC2 := (hbw.block _ (blk_lt bC)).trans bC
        have hJ2 := hJd _ _ _ hbw hJ
        have x1d : W2.drew.cell? (ad.add i) = some (.int .i64 x) := (hbw.cell (World.block_lt_of_cell? wr _ x0)).trans x0
        have y1d : W2.drew.cell? { ad with off := ad.off + (i + 1), spot := none } = some (.int .i64 y) := (hbw.cell (World.block_lt_of_cell? wr _ y0)).trans y0
        have h9l : g9 < W2.heap.size := blk_lt b9
        clear bC bP hJ x0 y0 x0d hb3 hbw hb cP
        gi_wp2
        refine GI.start_ (m := 13) (S := fun w' => Below W2.heap.size W2.drew w') (ds := [11]) #[false, false, false, false, false, false, false, false, false, false, false, false, false] (by kernel_rfl) rfl rfl (Below.refl _ _) (fun hHeld => ?_)
        refine GI.pu 0 (some 27) ?_
        refine GI.pu 3 (some 30) ?_
        refine GI.take_ (i := 1) (N := some 28) (v := ?_) (a' := ?_) #[true, true, false, true, false, false, false, false, false, false, false, false, false] rfl rfl (by kernel_rfl) (fun _ _ _ h => h) (fun _ => rfl) (Or.inl ⟨by rfl, ?_⟩) hHeld ?_ ?_
        rotate_left
        · rintro w' hS
          have z2 := (hS.cell (p := ⟨Bc, 2, none⟩) (by show Bc < W2.heap.size; exact blk_lt bC2)).trans ((bqC (w := W2.drew) bC2 2).trans rfl)
          go_simp
          with_reducible rfl
        rotate_left
        · simp only [Act.put, List.setIfInBounds_toArray, List.set_cons_zero, List.set_cons_succ, i64_w, i32_w]
          rfl
        refine GI.take_ (i := 2) (N := some 29) (v := ?_) (a' := ?_) #[true, true, true, true, false, false, false, false, false, false, false, false, false] rfl rfl (by kernel_rfl) (fun _ _ _ h => h) (fun _ => rfl) (Or.inl ⟨by rfl, ?_⟩) hHeld ?_ ?_
        rotate_left
        · rintro w' hS
          have z2 := (hS.cell (p := ⟨Bm, 0, none⟩) (by show Bm < W2.heap.size; exact blk_lt bP2)).trans ((bqC (w := W2.drew) bP2 0).trans rfl)
          go_simp
          with_reducible rfl
        rotate_left
        · simp only [Act.put, List.setIfInBounds_toArray, List.set_cons_zero, List.set_cons_succ, i64_w, i32_w]
          rfl
        refine GI.pu 4 (some 31) ?_
        refine GI.take_ (i := 5) (N := some 32) (v := ?_) (a' := ?_) #[true, true, true, true, true, true, false, false, false, false, false, false, false] rfl rfl (by kernel_rfl) (fun _ _ _ h => h) (fun _ => rfl) (Or.inl ⟨by rfl, ?_⟩) hHeld ?_ ?_
        rotate_left
        · rintro w' hS
          have z2 := (hS.cell (World.block_lt_of_cell? W2.drew _ y1d)).trans y1d
          go_simp
          with_reducible rfl
        rotate_left
        · simp only [Act.put, List.setIfInBounds_toArray, List.set_cons_zero, List.set_cons_succ, i64_w, i32_w]
          rfl
        refine GI.join_ [(33, .tuple #[.agg #[.int .i64 q1, .int .i64 q2], .int .i64 q3]), (26, .tuple #[.agg #[.int .i64 q1, .int .i64 q2], .int .i64 q3]), (34, .agg #[.int .i64 q1, .int .i64 q2]), (35, .int .i64 q3), (8, .int .i64 q3)] 7 (fun g W' => Below W2.heap.size W2.drew W' ∧ W'.heap[g]? = some (.cells #[.int .i64 q1, .int .i64 q2] 28 (0, 0)) ∧ W2.heap.size ≤ g) ?cont4 (fun hX => ?_)
        rotate_left
        · refine GI.two_ (i := 6) (j := 10) (Ni := some 33) (Nj := some 7) #[true, true, true, true, true, true, true, false, false, false, false, false, false] #[true, true, true, true, true, true, false, false, false, false, true, false, false] rfl rfl rfl rfl (by kernel_rfl) (by rfl) (by rfl) ?_ ?_
          · refine GI.call_ (f := 99) #[.slice A0 l0.length c0, .int .i64 y] (fun c h => by cases h) ?hab_7 ?hrun_7 (fun _ => h1) ?_
            case hab_7 => intro f hf; trivial
            case hrun_7 => unfold execOp; simp [resolve, Deferred.ofValue, invoke, Act.eval, eg_at]
            refine (callsIn_wide.2 (profile_At.calls A0 c0 l0 y q1 q2 q3 _ (Kd.C_below (GS.rC HR.out) (below_drew hb2)) HC.out hq)).mono ?_
            rintro e w1 ⟨rfl, hb1⟩
            refine ⟨_, rfl, fun hS => hS.trans (hb1.mono hS.size), ?_⟩
            refine GI.norm_ (a' := ?_) ?_ ?_
            rotate_left
            · show Act.put _ (some 33) _ = _
              simp only [Act.put, List.setIfInBounds_toArray, List.set_cons_zero, List.set_cons_succ, i64_w, i32_w]
              rfl
            refine GI.pu 7 (some 26) ?_
            refine GI.pu 8 (some 34) ?_
            refine GI.pu 9 (some 35) ?_
            refine GI.one_ (i := 10) (N := some 7) #[true, true, true, true, true, true, true, true, true, true, true, false, false] rfl rfl (by kernel_rfl) (by decide) (by rfl) ?_
            refine GI.value_ (v := .pointer (some ⟨w1.heap.size, 0, none⟩)) (w1 := w1.alloc (.cells #[.int .i64 0, .int .i64 0] 28)) (fun c h => by cases h) ?hab1_8 ?hrun1_8 ?_
            case hab1_8 => intro f hf; cases hf
            case hrun1_8 => first | (go_simp; done) | (go_simp; rfl)
            refine ⟨fun hS => hS.alloc hS.size _, ?_⟩
            refine GI.norm_ (a' := ?_) ?_ ?_
            rotate_left
            · show Act.put _ (some 7) _ = _
              simp only [Act.put, List.setIfInBounds_toArray, List.set_cons_zero, List.set_cons_succ, i64_w, i32_w]
              rfl
            have b0 : (w1.alloc (.cells #[.int .i64 0, .int .i64 0] 28)).heap[w1.heap.size]? = some (.cells #[.int .i64 0, .int .i64 0] 28 (0, 0)) := World.alloc_heap_new w1 _
            obtain ⟨z0, z1, f0, f1⟩ := GS.c2 b0
            refine GI.last_ (i := 11) (N := none) #[true, true, true, true, true, true, true, true, true, true, true, true, false] rfl rfl (by kernel_rfl) (by decide) (by rfl) ?_
            refine GI.skip_ (w1 := ?w1_9) (fun c h => by cases h) ?hab2_9 rfl ?hrun2_9 ?_
            case hab2_9 => intro f hf; cases hf
            case hrun2_9 => first | (go_simp; done) | (go_simp; rfl)
            refine GI.pu 12 (some 8) ?_
            refine GI.done_ (by kernel_rfl) ?_ _
            refine GI.q_norm ?_ (hX w1.heap.size _ ⟨hb1.alloc hb1.size _, World.alloc_heap_new w1 _, hb1.size⟩)
            simp only [GI.putL, List.foldl, List.setIfInBounds_toArray, List.set_cons_zero, List.set_cons_succ]
          · refine GI.value_ (v := .pointer (some ⟨W2.heap.size, 0, none⟩)) (w1 := W2.drew.alloc (.cells #[.int .i64 0, .int .i64 0] 28)) (fun c h => by cases h) ?hab1_10 ?hrun1_10 ?_
            case hab1_10 => intro f hf; cases hf
            case hrun1_10 => first | (go_simp; done) | (go_simp; rfl)
            refine ⟨fun hS => hS.alloc hS.size _, ?_⟩
            refine GI.norm_ (a' := ?_) ?_ ?_
            rotate_left
            · show Act.put _ (some 7) _ = _
              simp only [Act.put, List.setIfInBounds_toArray, List.set_cons_zero, List.set_cons_succ, i64_w, i32_w]
              rfl
            refine GI.one_ (i := 6) (N := some 33) #[true, true, true, true, true, true, true, false, false, false, true, false, false] rfl rfl (by kernel_rfl) (by decide) (by rfl) ?_
            refine GI.call_ (f := 99) #[.slice A0 l0.length c0, .int .i64 y] (fun c h => by cases h) ?hab_11 ?hrun_11 (fun _ => h1) ?_
            case hab_11 => intro f hf; trivial
            case hrun_11 => unfold execOp; simp [resolve, Deferred.ofValue, invoke, Act.eval, eg_at]
            refine (callsIn_wide.2 (profile_At.calls A0 c0 l0 y q1 q2 q3 _ (Kd.C_below (GS.rC HR.out) (below_alloc (below_drew hb2) _)) HC.out hq)).mono ?_
            rintro e w1 ⟨rfl, hb1⟩
            refine ⟨_, rfl, fun hS => hS.trans (hb1.mono hS.size), ?_⟩
            refine GI.norm_ (a' := ?_) ?_ ?_
            rotate_left
            · show Act.put _ (some 33) _ = _
              simp only [Act.put, List.setIfInBounds_toArray, List.set_cons_zero, List.set_cons_succ, i64_w, i32_w]
              rfl
            have b0 : w1.heap[W2.heap.size]? = some (.cells #[.int .i64 0, .int .i64 0] 28 (0, 0)) := (hb1.block _ (by rw [World.size_alloc]; exact Nat.lt_succ_self _)).trans (World.alloc_heap_new W2.drew _)
            have hb2 : Below W2.heap.size W2.drew w1 := ((Below.refl _ _).alloc (Nat.le_refl _) (.cells #[.int .i64 0, .int .i64 0] 28)).trans (hb1.mono (by rw [World.size_alloc]; exact Nat.le_succ _))
            obtain ⟨z0, z1, f0, f1⟩ := GS.c2 b0
            refine GI.pu 7 (some 26) ?_
            refine GI.pu 8 (some 34) ?_
            refine GI.pu 9 (some 35) ?_
            refine GI.last_ (i := 11) (N := none) #[true, true, true, true, true, true, true, true, true, true, true, true, false] rfl rfl (by kernel_rfl) (by decide) (by rfl) ?_
            refine GI.skip_ (w1 := ?w1_12) (fun c h => by cases h) ?hab2_12 rfl ?hrun2_12 ?_
            case hab2_12 => intro f hf; cases hf
            case hrun2_12 => first | (go_simp; done) | (go_simp; rfl)
            refine GI.pu 12 (some 8) ?_
            refine GI.done_ (by kernel_rfl) ?_ _
            refine GI.q_norm ?_ (hX W2.heap.size _ ⟨(hb2.setCell (p := ⟨W2.heap.size, 0, none⟩) (Nat.le_refl _) _).setCell (p := ⟨W2.heap.size, 1, none⟩) (Nat.le_refl _) _, bqP (cs := #[.int .i64 q1, .int .i64 0]) (bqP (cs := #[.int .i64 0, .int .i64 0]) b0 0 _ rfl) 1 _ rfl, Nat.le_refl _⟩)
            simp only [GI.putL, List.foldl, List.setIfInBounds_toArray, List.set_cons_zero, List.set_cons_succ]
        case cont4 =>
          rintro g11 W3 ⟨hb4, b11, hg11⟩
          simp only [GI.putL, List.foldl, List.setIfInBounds_toArray, List.set_cons_zero, List.set_cons_succ]
          have hbw : Below W2.heap.size W2 W3 := (below_drew (Below.refl _ W2)).trans hb4
          have hb3 : Below w0.heap.size w0 W3 := hb2.trans (hbw.mono hb2.size)
          have bP3 := (hbw.block _ (blk_lt bP2)).trans bP2
          have bC3 := (hbw.block _ (blk_lt bC2)).trans bC2
          have hJ3 := hJd _ _ _ hbw hJ2
          have b93 : W3.drew.heap[g9]? = some (.cells #[.int .i64 p1, .int .i64 p2] 28 (0, 0)) := (hbw.block _ h9l).trans b9
          have b113 : W3.drew.heap[g11]? = some (.cells #[.int .i64 q1, .int .i64 q2] 28 (0, 0)) := b11
          have x2d : W3.drew.cell? (ad.add i) = some (.int .i64 x) := (hbw.cell (World.block_lt_of_cell? W2.drew _ x1d)).trans x1d
          have y2d : W3.drew.cell? { ad with off := ad.off + (i + 1), spot := none } = some (.int .i64 y) := (hbw.cell (World.block_lt_of_cell? W2.drew _ y1d)).trans y1d
          have cP3 : W3.drew.cell? ⟨Bm, 0, none⟩ = some (.slice (some ad) l1.length c1) := (bqC (w := W3.drew) bP3 0).trans rfl
          obtain ⟨z0, z1, f0, f1⟩ := GS.c2 b93
          obtain ⟨y0, y1, g0, g1⟩ := GS.c2 b113
          clear bC2 bP2 hJ2 x1d y1d hb4 hb2 b9 b11 f0 f1 g0 g1 b93 b113 hbw
          obtain ⟨fn, tmps, assign, body, hyy, hR⟩ := hY ((pairsI l1).take i) (x, y) W3.drew (List.mem_of_mem_take (i := i + 1) (by rw [hg]; simp)) (hJd _ _ _ (below_drew (Below.refl _ W3)) hJ3) (by rw [List.length_take, Nat.min_eq_left (Nat.le_of_lt HLT.out)]; exact HLT.out)
          rw [hev] at hyy
          gi_wp2
          refine GI.start_ (m := 24) (S := fun w' => w' = W3.drew) (ds := [22]) #[false, false, false, false, false, false, false, false, false, false, false, false, false, false, false, false, false, false, false, false, false, false, false, false] (by kernel_rfl) rfl rfl rfl (fun hHeld => ?_)
          refine GI.pu 0 (some 36) ?_
          refine GI.pu 2 (some 38) ?_
          refine GI.pu 6 (some 42) ?_
          refine GI.pu 7 (some 43) ?_
          refine GI.pu 11 (some 47) ?_
          refine GI.pu 13 (some 49) ?_
          refine GI.pu 16 (some 52) ?_
          refine GI.pu 18 (some 54) ?_
          refine GI.tk 1 (some 37) hHeld ?_
          refine GI.tk 5 (some 41) hHeld ?_
          refine GI.pu 3 (some 39) ?_
          refine GI.pu 8 (some 44) ?_
          refine GI.tk 4 (some 40) hHeld ?_
          refine GI.tk 9 (some 45) hHeld ?_
          refine GI.tk 12 (some 48) hHeld ?_
          refine GI.tk 14 (some 50) hHeld ?_
          refine GI.tk 17 (some 53) hHeld ?_
          refine GI.tk 19 (some 55) hHeld ?_
          refine GI.pu 10 (some 46) ?_
          refine GI.pu 15 (some 51) ?_
          refine GI.pu 20 (some 56) ?_
          refine GI.pu 21 (some 57) ?_
          refine GI.last_ (i := 22) (N := some 58) #[true, true, true, true, true, true, true, true, true, true, true, true, true, true, true, true, true, true, true, true, true, true, true, false] rfl rfl (by kernel_rfl) (by decide) (by rfl) ?_
          refine GI.round_ (l := l) (f := fn) (tmps := tmps) (assign := assign) (body := body) (fun c h => by cases h) (fun f hf => by cases hf) ?hrun (fun _ => h1) (hR.mono ?_)
          case hrun => go_simp
          rintro e W4 (⟨rfl, hJ4, hk4⟩ | ⟨rfl, hJx4⟩)
          · refine ⟨_, rfl, ?_⟩
            refine GI.pu 23 (some 59) ?_
            refine GI.done_ (by kernel_rfl) ?_ _
            have bP4 := hk4.2.1.trans (show W3.drew.heap[Bm]? = _ from bP3)
            have bC4 := hk4.2.2.trans (show W3.drew.heap[Bc]? = _ from bC3)
            gi_wp2
            refine ⟨⟨i + 1, by rw [hw], by have := HLT.out; omega, ⟨bP4, bC4⟩, (lqD hb3).trans (hk4.1.mono hw0), by rw [hg]; exact hJ4⟩, ?_⟩
            show l1.length - (wrap64 ((i : Int) + 1 + 1)).toNat < l1.length - ((i : Int) + 1).toNat
            rw [hw]
            omega
          · refine ⟨_, rfl, ?_⟩
            refine GI.pu 23 (some 59) ?_
            refine GI.done_ (by kernel_rfl) ?_ _
            gi_wp2
            refine bodyPost_ret (results_none rfl _ _ _) rfl ?_
            exact ⟨⟨_, rfl⟩, .inr ⟨_, by rw [← hg]; exact List.take_prefix _ _, hJx4⟩⟩
    · have q1 : decide ((i : Int) + 1 < (l1.length : Int)) = false := decide_eq_false (ar_pairs' hlt hpl)
      have he : (pairsI l1).take i = pairsI l1 := List.take_of_length_le (Nat.le_of_not_lt hlt)
      rw [he] at hJ
      gi_wp2
      go_end0
      exact ⟨⟨_, rfl⟩, .inl ⟨_, rfl, hJ⟩⟩
theorem all_stops (n : Nat) (hn : 6 ≤ n) (Bm Bc n₀ : Nat) (a0_0 : ByteArray) (a0_1 : Int) (A0 : Option Addr) (c0 : Nat) (l0 : List S39) (a0_3 : Int) (A1 : Option Addr) (c1 : Nat) (l1 : List Int) (hxl : l1.length < 1000000000) (w : World) (hBm : Bm < w.heap.size) (hBc : Bc < w.heap.size)
    (hm : w.heap[Bm]? = some (.cells #[.slice A1 l1.length c1] 34 (0, 0))) (hcb : w.heap[Bc]? = some (.cells #[.string a0_0, .int .i64 a0_1, .slice A0 l0.length c0, .int .i64 a0_3] 24 (0, 0))) (w0 : World) (hw0 : w0.heap.size ≤ n₀)
    (hr : Kd.C k39 w0 A0 l0.length l0) (hc : l0.length ≤ c0) (hr1 : Kd.C (Kd.int .i64) w0 A1 l1.length l1) (hat : ∀ x ∈ l1, (profile_At.f l0 x).isSome = true) (hb0 : Below w0.heap.size w0 w) :
    SeqStopsK Fence.wide n Try.prog 98 #[.pointer (some ⟨Bm, 0, none⟩), .pointer (some ⟨Bc, 0, none⟩)] (fun s : { s // s ∈ pairsI l1 } => encA l0 s.1) (KpA n₀ Bm Bc) (fun ys => ys.map Subtype.val = pairsI l1) (fun pre => pre.map Subtype.val <+: pairsI l1) (pairsI l1).length w := fun l J Jx W hW hJ hJx hY h0 => by
  refine (all1 n hn l Bm Bc n₀ a0_0 a0_1 A0 c0 l0 a0_3 A1 c1 l1 hxl (fun pre W => ∃ pre', pre'.map Subtype.val = pre ∧ J pre' W) (fun pre W => ∃ pre', pre'.map Subtype.val = pre ∧ Jx pre' W) ?_
    ?_ W ((hW.block Bm hBm).trans hm) ((hW.block Bc hBc).trans hcb) w0 hw0 hr hc hr1 hat (hb0.trans (hW.mono hb0.size)) ⟨[], rfl, h0⟩).mono ?_
  · rintro pre x W1 hx ⟨pre', rfl, hj⟩ hlt
    obtain ⟨fn, tmps, assign, body, hy, hR⟩ := hY pre' ⟨x, hx⟩ W1 hj (by simpa using hlt)
    refine ⟨fn, tmps, assign, body, hy, hR.mono ?_⟩
    rintro e W' (⟨h1, h2, h3⟩ | ⟨h1, h2⟩)
    · exact .inl ⟨h1, ⟨pre' ++ [⟨x, hx⟩], by simp, h2⟩, h3⟩
    · exact .inr ⟨h1, ⟨pre' ++ [⟨x, hx⟩], by simp, h2⟩⟩
  · rintro pre W1 W2 hb ⟨pre', h1, h2⟩
    exact ⟨pre', h1, hJ pre' W1 W2 none h2 ⟨hb.os, hb.tape, hb.output, hb.size, fun k hk _ => hb.block k hk⟩ (fun r e => by cases e)⟩
  · rintro e W' ⟨h1, ⟨ys, rfl, pre', h2, h3⟩ | ⟨pre, h2, pre', rfl, h3⟩⟩
    · exact ⟨h1, .inl ⟨pre', h2, h3⟩⟩
    · exact ⟨h1, .inr ⟨pre', h2, h3⟩⟩
theorem eg_all (args : Array Value) (w : World) : (callFunc 98 args).run Try.prog w = .ok (.enter 98 args) w := enters_ Try.func98 (by kernel_rfl) rfl args w
def axA (t : Array Value) (i p : Nat) (v : Value) (B : Nat) : Array Value := (t.setIfInBounds i v).setIfInBounds p (.pointer (some ⟨B, 0, none⟩))
def slO (s : Int × Int × Int) : Obj := .cells #[.int .i64 s.1, .int .i64 s.2.1, .int .i64 s.2.2] 109 (0, 0)
theorem loopA {n : Nat} {g : Operand} {i : Nat} {assign body : Code} {Q : Exit → Act → World → Prop} {a : Act} {W0 : World} (p : Nat) (hn : 8 ≤ n) (w : World) (a0_0 : ByteArray) (a0_1 : Int) (A0 : Option Addr) (c0 : Nat) (l0 : List S39) (a0_3 : Int) (A1 : Option Addr) (c1 : Nat) (l1 : List Int)
    (hr : Kd.C k39 w A0 l0.length l0) (hc : l0.length ≤ c0) (hr1 : Kd.C (Kd.int .i64) w A1 l1.length l1) (hat : ∀ x ∈ l1, (profile_At.f l0 x).isSome = true) (hxl : l1.length < 1000000000)
    (Bm Bc : Nat) (bM : W0.heap[Bm]? = some (.cells #[.slice A1 l1.length c1] 34 (0, 0))) (bC : W0.heap[Bc]? = some (.cells #[.string a0_0, .int .i64 a0_1, .slice A0 l0.length c0, .int .i64 a0_3] 24 (0, 0))) (hB0 : Below w.heap.size w W0) (hg : a.eval g = .func (.func 98) #[] #[.pointer (some ⟨Bm, 0, none⟩), .pointer (some ⟨Bc, 0, none⟩)])
    (I : List (Int × Int) → World → Prop) (Ix : Code → List (Int × Int) → World → Prop) (hI : OwnFrom W0.heap.size I) (hIx : ∀ c, OwnFrom W0.heap.size (Ix c)) (h0 : I [] W0)
    (hassign : ∀ (l : Nat) (x : Int × Int) (W : World) (K : Act → World → Prop), K { tmps := axA a.tmps i p (slE (slV l0 x)) W.heap.size, defers := [] } (W.alloc (slO (slV l0 x))) →
      assign.wpIn (Fence.wide.inRound l) (n - 1 - 1) Try.prog (Exit.then K (fun _ _ _ => False)) { tmps := a.tmps.setIfInBounds i (slE (slV l0 x)), defers := [] } W)
    (hbody : ∀ (l : Nat) (pre : List (Int × Int)) (x : Int × Int) (Bp : Nat) (W : World), W0.heap.size ≤ l → I pre W → (W.heap[Bm]? = W0.heap[Bm]? ∧ W.heap[Bc]? = W0.heap[Bc]?) → Below w.heap.size w W → W0.heap.size ≤ W.heap.size → W0.heap.size ≤ Bp → W.heap[Bp]? = some (slO (slV l0 x)) → x ∈ pairsI l1 →
      body.wpIn (Fence.wide.inRound l) (n - 1 - 1) Try.prog (ownPostG W0.heap.size (KpA w.heap.size Bm Bc) (fun pre W => (I pre W ∧ (W.heap[Bm]? = W0.heap[Bm]? ∧ W.heap[Bc]? = W0.heap[Bc]?)) ∧ (Below w.heap.size w W ∧ W0.heap.size ≤ W.heap.size))
        (fun c pre W => Ix c pre W ∧ Below w.heap.size w W) (pre ++ [x]) W) { tmps := axA a.tmps i p (slE (slV l0 x)) Bp, defers := [] } W)
    (hdone : ∀ (D : Nat) (W : World), W0.heap.size ≤ D → I (pairsI l1) W → Below w.heap.size w W → W.heap[D]? = some (.deferred (some [])) → Q .normal { a with defers := { target := .collected D, args := #[] } :: a.defers } W)
    (hstop : ∀ (D : Nat) (c : Code) (pre : List (Int × Int)) (W : World), W0.heap.size ≤ D → pre <+: pairsI l1 → Ix c pre W → Below w.heap.size w W → W.heap[D]? = some (.deferred (some [])) → c.wpIn Fence.wide n Try.prog Q { a with defers := { target := .collected D, args := #[] } :: a.defers } W) :
    (Code.rangeFunc g #[i] assign body).wpIn Fence.wide n Try.prog Q a W0 := by
  have h1 : 1 ≤ n := by omega
  have lM := blk_lt bM
  have lC := blk_lt bC
  have hX : ∀ (s : List (Int × Int)) (X Y : World) (row : Option Nat), (X.heap[Bm]? = W0.heap[Bm]? ∧ X.heap[Bc]? = W0.heap[Bc]?) → X.grownBy Y row → (∀ r, row = some r → W0.heap.size ≤ r ∧ ∃ o : Obj, X.heap[r]? = some o ∧ o.isCells = false) → (Y.heap[Bm]? = W0.heap[Bm]? ∧ Y.heap[Bc]? = W0.heap[Bc]?) := fun s X Y row hs hg hr => by
    have e1 := hs.1.trans bM
    have e2 := hs.2.trans bC
    exact ⟨(cells_own e1 hg (fun r e => (hr r e).2)).trans bM.symm, (cells_own e2 hg (fun r e => (hr r e).2)).trans bC.symm⟩
  refine wpIn_rangeFunc_ownH rfl h1 (gf := 98) (lb := #[.pointer (some ⟨Bm, 0, none⟩), .pointer (some ⟨Bc, 0, none⟩)]) hg trivial eg_all
      (all_stops (n - 1) (by omega) Bm Bc w.heap.size a0_0 a0_1 A0 c0 l0 a0_3 A1 c1 l1 hxl W0 lM lC bM bC w (Nat.le_refl _) hr hc hr1 hat hB0) KpA.trans (kpA_b hB0.size lM lC) (Below.refl _ _) (fun _ => rfl)
      (fun pre W => (I (pre.map Subtype.val) W ∧ (W.heap[Bm]? = W0.heap[Bm]? ∧ W.heap[Bc]? = W0.heap[Bc]?)) ∧ (Below w.heap.size w W ∧ W0.heap.size ≤ W.heap.size))
      (fun c pre W => Ix c (pre.map Subtype.val) W ∧ Below w.heap.size w W)
      (OwnFrom.and (OwnFrom.and (fun s => hI (s.map Subtype.val)) (fun s X Y row hs hg hr => hX (s.map Subtype.val) X Y row hs hg hr)) (OwnFrom.and (ownFrom_below (Nat.le_refl _) hB0.size) (ownFrom_size _ _)))
      (fun c => OwnFrom.and (fun s => hIx c (s.map Subtype.val)) (ownFrom_below (Nat.le_refl _) hB0.size))
      ⟨⟨h0, rfl, rfl⟩, hB0, Nat.le_refl _⟩
      (fun (x : { s // s ∈ pairsI l1 }) a' W => ∃ Bp, W0.heap.size ≤ Bp ∧ W.heap[Bp]? = some (slO (slV l0 x.1)) ∧ a' = { tmps := axA a.tmps i p (slE (slV l0 x.1)) Bp, defers := [] })
      (fun x a' _ X Y row hs hg hr => by obtain ⟨Bp, e1, e3, e4⟩ := hs; exact ⟨Bp, e1, cells_own e3 hg (fun r e => (hr r e).2), e4⟩)
      ?assign ?body ?done ?stop
  case assign =>
    rintro l pre ⟨x, hx⟩ W K ⟨⟨hi, bM1⟩, hB1, hs1⟩ hK
    have hI2 := OwnFrom.and (OwnFrom.and (fun s : List { s // s ∈ pairsI l1 } => hI (s.map Subtype.val)) (fun s X Y row hs hg hr => hX (s.map Subtype.val) X Y row hs hg hr)) (OwnFrom.and (ownFrom_below (w₀ := w) (Nat.le_refl _) hB0.size) (ownFrom_size W0.heap.size W0.heap.size))
    have e : ∀ t : Array Value, ((#[i] : Array Tmp).zip (encA l0 x)).foldl (fun t (p, v) => t.setIfInBounds p v) t = t.setIfInBounds i (slE (slV l0 x)) := fun t => by simp [encA]
    rw [e]
    have k1 : W.heap[Bm]? = _ := bM1.1.trans bM
    have k2 : W.heap[Bc]? = _ := bM1.2.trans bC
    refine hassign l x W K (hK _ _ ((KeepsOthers.alloc _ _).from _) ⟨(Below.refl _ W).alloc hB1.size _, ?_, ?_⟩ (hI2.alloc (s := pre) _ ⟨⟨hi, bM1⟩, hB1, hs1⟩) ⟨_, hs1, ?_, rfl⟩)
    · exact Below.heap_alloc _ _ _ (blk_lt k1)
    · exact Below.heap_alloc _ _ _ (blk_lt k2)
    · exact World.alloc_heap_new W _
  case body =>
    rintro l pre ⟨x, hx⟩ a' W hl _ ⟨⟨hi, bM1⟩, hB1, hs1⟩ ⟨Bp, e1, e3, rfl⟩ hlt
    have := hbody l (pre.map Subtype.val) x Bp W hl hi bM1 hB1 hs1 e1 e3 hx
    refine wpIn_mono this (fun e a2 W2 h => ?_)
    have e5 : (pre ++ [(⟨x, hx⟩ : { s // s ∈ pairsI l1 })]).map Subtype.val = pre.map Subtype.val ++ [x] := by simp
    cases e <;> simp only [ownPostG, e5] at h ⊢ <;> exact h
  case done =>
    rintro D zs W hD hz ⟨⟨hi, bM1⟩, hB1, hs1⟩ hK
    rw [hz] at hi
    exact hdone D W hD hi hB1 hK
  case stop =>
    rintro D c pre W hD hpre ⟨hi, hB1⟩ hK
    exact hstop D c _ W hD hpre hi hB1 hK
end Go.Proofs.Ytefjmcljkmppoaa.K
