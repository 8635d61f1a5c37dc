/- By hand: lying.between. -/
import Derived.Test.YtefjmcljkmppoaaGAll
import Derived.Test.YtefjmcljkmppoaaPCask
import Derived.Test.YtefjmcljkmppoaaK6
namespace Go.Proofs.Ytefjmcljkmppoaa.K
open Go Go.RowKit Go.Shelf Go.Proofs.YtefjmcljkmppoaaW.PrintWords Go.Proofs.YtefjmcljkmppoaaW.PrintLast Go.Proofs.YtefjmcljkmppoaaW.PrintMore Go.Proofs.Ytefjmcljkmppoaa.GW
set_option linter.unusedVariables false
set_option linter.unusedSimpArgs false
attribute [local go_sem] Oper.semAt_some
set_option maxRecDepth 100000 in
set_option maxHeartbeats 4000000 in
theorem addB (n Bs : Nat) (a b s0 s1 : Int) (W : World) (bS : W.heap[Bs]? = some (.cells #[.int .i64 s0, .int .i64 s1] 28 (0, 0))) :
    CallsIn Fence.wide n Try.prog 83 #[.int .i64 a, .int .i64 b, .pointer (some ⟨Bs, 0, none⟩)] W fun e W' => (∃ u, e = .returned u) ∧ W' = (W.setCell ⟨Bs, 0, none⟩ (.int .i64 (wrap64 (s0 + a)))).setCell ⟨Bs, 1, none⟩ (.int .i64 (wrap64 (s1 + b))) := by
  obtain ⟨z0, z1, f0, f1⟩ := GS.c2 bS
  refine callsIn_of_wp Try.func83 rfl trivial ?_ rfl
  simp only [Try.ntmps83, List.size_toArray, List.length_cons, List.length_nil, Nat.reduceAdd, Nat.reduceSub, Array.replicate_succ, Array.replicate_zero, List.push_toArray, List.append_toArray, List.nil_append, List.cons_append]
  gi_wp2
  go_end0
  exact ⟨⟨_, rfl⟩, rfl⟩
def betT (l0 : List S39) (c : Int) (hs : List Int) (x : Int × Int) : Int × Int :=
  (wrap64 ((slV l0 x).1 * (areaV (slV l0 x).2.1 c hs).1), wrap64 ((slV l0 x).1 * (areaV (slV l0 x).2.2 c hs).2.1))
def betS (l0 : List S39) (c : Int) (hs : List Int) (l : List (Int × Int)) : Int × Int := l.foldl (fun s x => addW s (betT l0 c hs x)) (0, 0)
theorem betS_snoc (l0 : List S39) (c : Int) (hs : List Int) (l : List (Int × Int)) (x : Int × Int) : betS l0 c hs (l ++ [x]) = addW (betS l0 c hs l) (betT l0 c hs x) := by simp [betS]
theorem c3_ {w : World} {g t : Nat} {a0 a1 a2 : Value} (h : w.heap[g]? = some (.cells #[a0, a1, a2] t (0, 0))) : w.cell? ⟨g, 0, none⟩ = some a0 ∧ w.cell? ⟨g, 1, none⟩ = some a1 ∧ w.cell? ⟨g, 2, none⟩ = some a2 := ⟨(bqC h 0).trans rfl, (bqC h 1).trans rfl, (bqC h 2).trans rfl⟩
theorem step_below {w W W' : World} (hB : Below w.heap.size w W) (hb : Below W.heap.size W W') : Below w.heap.size w W' := hB.trans (hb.mono hB.size)
set_option maxRecDepth 100000 in
set_option maxHeartbeats 8000000 in
theorem betw_in (n : Nat) (hn : 8 ≤ n) (a0_0 : ByteArray) (a0_1 : Int) (A0 : Option Addr) (c0 : Nat) (l0 : List S39) (a0_3 : Int) (A1 : Option Addr) (c1 : Nat) (l1 : List Int) (A2 : Option Addr) (c2 : Nat) (l2 : List Int) (w : World)
    (hr : Kd.C k39 w A0 l0.length l0) (hc : l0.length ≤ c0) (hr1 : Kd.C (Kd.int .i64) w A1 l1.length l1) (hr2 : Kd.C (Kd.int .i64) w A2 l2.length l2) (hc2 : l2.length ≤ c2)
    (kd : Nat) (dp de : Int) (hd : cask_Depth.f kd a0_0 a0_1 l0 a0_3 = some (dp, de)) (hat : ∀ x ∈ l1, (profile_At.f l0 x).isSome = true) (hxl : l1.length < 1000000000) :
    CallsIn Fence.wide n Try.prog 57 #[.agg #[.string a0_0, .int .i64 a0_1, .slice A0 l0.length c0, .int .i64 a0_3], .slice A1 l1.length c1, .slice A2 l2.length c2] w fun e w' =>
      e = .returned (.agg #[.int .i64 (betS l0 (wrap64 (Int.tdiv dp 2)) l2 (pairsI l1)).1, .int .i64 (betS l0 (wrap64 (Int.tdiv dp 2)) l2 (pairsI l1)).2]) ∧ Below w.heap.size w w' := by
  have h1 : 1 ≤ n := by omega
  have hu24 := Try.underlying24
  have hu28 := Try.underlying28
  have hu109 := Try.underlying109
  have HR := Aside0.mk hr
  have HC := Aside0.mk hc
  have HR1 := Aside0.mk hr1
  have HR2 := Aside0.mk hr2
  have HC2 := Aside0.mk hc2
  have HD := Aside0.mk hd
  have HA := Aside0.mk hat
  have HL := Aside0.mk hxl
  have HB := Aside0.mk (Below.refl w.heap.size w)
  have hmx : Try.prog.follows .mixedOrders = true := by kernel_rfl
  obtain ⟨cz, hcz⟩ : ∃ c, wrap64 (Int.tdiv dp 2) = c := ⟨_, rfl⟩
  rw [hcz]
  obtain ⟨⟨r1, r2⟩, hres⟩ : ∃ r, betS l0 cz l2 (pairsI l1) = r := ⟨_, rfl⟩
  rw [hres]
  have HRES := Aside0.mk hres
  clear hr hc hr1 hr2 hc2 hd hat hxl hres
  refine callsIn_of_wp_marks Try.func57 rfl trivial ?_ rfl
  simp only [Try.ntmps57, List.size_toArray, List.length_cons, List.length_nil, Nat.reduceAdd, Nat.reduceSub, Array.replicate_succ, Array.replicate_zero, List.push_toArray, List.append_toArray, List.nil_append, List.cons_append]
  gi_wp2
  obtain ⟨W1, hW1⟩ : ∃ W1, ((w.alloc (.cells #[.string a0_0, .int .i64 a0_1, .slice A0 l0.length c0, .int .i64 a0_3] 24)).alloc (.cells #[.slice A2 l2.length c2] 34)).alloc (.cells #[.int .i64 0, .int .i64 0] 28) = W1 := ⟨_, rfl⟩
  have hs1 : W1.heap.size = w.heap.size + 3 := by rw [← hW1]; simp
  have bC1 : W1.heap[w.heap.size]? = some (.cells #[.string a0_0, .int .i64 a0_1, .slice A0 l0.length c0, .int .i64 a0_3] 24 (0, 0)) := by
    rw [← hW1]
    exact (Below.heap_alloc _ _ _ (by simp only [World.size_alloc]; omega)).trans ((Below.heap_alloc _ _ _ (by simp)).trans (World.alloc_heap_new w _))
  have bH1 : W1.heap[w.heap.size + 1]? = some (.cells #[.slice A2 l2.length c2] 34 (0, 0)) := by
    rw [← hW1]
    refine (Below.heap_alloc _ _ _ (by simp)).trans ?_
    have := World.alloc_heap_new (w.alloc (.cells #[.string a0_0, .int .i64 a0_1, .slice A0 l0.length c0, .int .i64 a0_3] 24)) (.cells #[.slice A2 l2.length c2] 34)
    rwa [World.size_alloc] at this
  have bO1 : W1.heap[w.heap.size + 1 + 1]? = some (.cells #[.int .i64 0, .int .i64 0] 28 (0, 0)) := by
    rw [← hW1]
    have := World.alloc_heap_new ((w.alloc (.cells #[.string a0_0, .int .i64 a0_1, .slice A0 l0.length c0, .int .i64 a0_3] 24)).alloc (.cells #[.slice A2 l2.length c2] 34)) (.cells #[.int .i64 0, .int .i64 0] 28)
    rwa [World.size_alloc, World.size_alloc] at this
  have hB1 : Below w.heap.size w W1 := by rw [← hW1]; exact below_alloc (below_alloc (below_alloc HB.out _) _) _
  rw [hW1]
  clear hW1
  refine ⟨trivial, (callsIn_wide.2 (cask_Depth.calls kd a0_0 a0_1 A0 c0 l0 a0_3 dp de _ (Kd.C_below (GS.rC HR.out) hB1) HC.out HD.out)).mono ?_⟩
  rintro e w2 ⟨rfl, hb⟩
  have bC2 := (hb.block _ (blk_lt bC1)).trans bC1
  have bH2 := (hb.block _ (blk_lt bH1)).trans bH1
  have bO2 := (hb.block _ (blk_lt bO1)).trans bO1
  have hB2 := hB1.trans (hb.mono hB1.size)
  have hs2 : w.heap.size + 3 ≤ w2.heap.size := by have := hb.size; omega
  clear hb bC1 bH1 bO1 hB1 hs1
  have hlt : w.heap.size < w2.heap.size ∧ w.heap.size + 1 < w2.heap.size ∧ w.heap.size + 1 + 1 < w2.heap.size := ⟨by omega, by omega, by omega⟩
  have up3 : ∀ g, g < w2.heap.size → (((w2.alloc (.cells #[.int .i64 dp] 3)).alloc (.cells #[.int .i64 0, .int .i64 0] 28)).alloc (.cells #[.func (.func 83) #[] #[.pointer (some ⟨w2.heap.size + 1, 0, none⟩)]] 104)).heap[g]? = w2.heap[g]? := fun g hg => (Below.heap_alloc _ _ _ (by simp only [World.size_alloc]; omega)).trans ((Below.heap_alloc _ _ _ (by simp only [World.size_alloc]; omega)).trans (Below.heap_alloc _ _ _ hg))
  have bC3 := (up3 _ hlt.1).trans bC2
  have bH3 := (up3 _ hlt.2.1).trans bH2
  have bO3 := (up3 _ hlt.2.2).trans bO2
  have bD3 : Boxed (((w2.alloc (.cells #[.int .i64 dp] 3)).alloc (.cells #[.int .i64 0, .int .i64 0] 28)).alloc (.cells #[.func (.func 83) #[] #[.pointer (some ⟨w2.heap.size + 1, 0, none⟩)]] 104)) w2.heap.size 3 (.int .i64 dp) := ((Boxed.new w2 3 (.int .i64 dp)).alloc _).alloc _
  have bS3 : (((w2.alloc (.cells #[.int .i64 dp] 3)).alloc (.cells #[.int .i64 0, .int .i64 0] 28)).alloc (.cells #[.func (.func 83) #[] #[.pointer (some ⟨w2.heap.size + 1, 0, none⟩)]] 104)).heap[w2.heap.size + 1]? = some (.cells #[.int .i64 0, .int .i64 0] 28 (0, 0)) := by
    have := World.alloc_heap_new (w2.alloc (.cells #[.int .i64 dp] 3)) (.cells #[.int .i64 0, .int .i64 0] 28)
    rw [World.size_alloc] at this
    exact (Below.heap_alloc _ _ _ (by simp)).trans this
  have bK3 : Boxed (((w2.alloc (.cells #[.int .i64 dp] 3)).alloc (.cells #[.int .i64 0, .int .i64 0] 28)).alloc (.cells #[.func (.func 83) #[] #[.pointer (some ⟨w2.heap.size + 1, 0, none⟩)]] 104)) (w2.heap.size + 1 + 1) 104 (.func (.func 83) #[] #[.pointer (some ⟨w2.heap.size + 1, 0, none⟩)]) := by
    have := Boxed.new ((w2.alloc (.cells #[.int .i64 dp] 3)).alloc (.cells #[.int .i64 0, .int .i64 0] 28)) 104 (.func (.func 83) #[] #[.pointer (some ⟨w2.heap.size + 1, 0, none⟩)])
    rwa [World.size_alloc, World.size_alloc] at this
  have hB3 : Below w.heap.size w (((w2.alloc (.cells #[.int .i64 dp] 3)).alloc (.cells #[.int .i64 0, .int .i64 0] 28)).alloc (.cells #[.func (.func 83) #[] #[.pointer (some ⟨w2.heap.size + 1, 0, none⟩)]] 104)) := below_alloc (below_alloc (below_alloc hB2 _) _) _
  have hs3 : (((w2.alloc (.cells #[.int .i64 dp] 3)).alloc (.cells #[.int .i64 0, .int .i64 0] 28)).alloc (.cells #[.func (.func 83) #[] #[.pointer (some ⟨w2.heap.size + 1, 0, none⟩)]] 104)).heap.size = w2.heap.size + 3 := by simp
  obtain ⟨c20, c21, c22, c23, e0, e1, e2, e3⟩ := GS.c4 bC3
  clear e0 e1 e2 e3
  clear bC2 bH2 bO2 hB2
  gi_wp2_with (refine ⟨trivial, ?_⟩; gi_at_call 84; refine (all_in Fence.wide (n - 1) trivial rfl _ _ _ _ _ _ _ _ _ _).mono ?_; rintro e w' ⟨rfl, rfl⟩)
  obtain ⟨W3, hW3⟩ : ∃ W3, ((w2.alloc (.cells #[.int .i64 dp] 3)).alloc (.cells #[.int .i64 0, .int .i64 0] 28)).alloc (.cells #[.func (.func 83) #[] #[.pointer (some ⟨w2.heap.size + 1, 0, none⟩)]] 104) = W3 := ⟨_, rfl⟩
  rw [hW3] at bC3 bH3 bO3 bD3 bS3 bK3 hB3 hs3 ⊢
  clear hW3 up3 c20 c21 c22 c23
  obtain ⟨B, hBB⟩ : ∃ B, w2.heap.size = B := ⟨_, rfl⟩
  rw [hBB] at bD3 bS3 bK3 hs3 hlt ⊢
  have hBw : w.heap.size + 3 ≤ B := by rw [← hBB]; exact hs2
  clear hBB hs2
  have bC4 : ((W3.alloc (.cells #[.string a0_0, .int .i64 a0_1, .slice A0 l0.length c0, .int .i64 a0_3] 24)).alloc (.cells #[.slice A1 l1.length c1] 34)).heap[B + 3]? = some (.cells #[.string a0_0, .int .i64 a0_1, .slice A0 l0.length c0, .int .i64 a0_3] 24 (0, 0)) := by
    have := World.alloc_heap_new W3 (.cells #[.string a0_0, .int .i64 a0_1, .slice A0 l0.length c0, .int .i64 a0_3] 24)
    rw [hs3] at this
    exact (Below.heap_alloc _ _ _ (by simp [hs3])).trans this
  have bM4 : ((W3.alloc (.cells #[.string a0_0, .int .i64 a0_1, .slice A0 l0.length c0, .int .i64 a0_3] 24)).alloc (.cells #[.slice A1 l1.length c1] 34)).heap[B + 3 + 1]? = some (.cells #[.slice A1 l1.length c1] 34 (0, 0)) := by
    have := World.alloc_heap_new (W3.alloc (.cells #[.string a0_0, .int .i64 a0_1, .slice A0 l0.length c0, .int .i64 a0_3] 24)) (.cells #[.slice A1 l1.length c1] 34)
    rwa [World.size_alloc, hs3] at this
  have up4 : ∀ g, g < B + 3 → ((W3.alloc (.cells #[.string a0_0, .int .i64 a0_1, .slice A0 l0.length c0, .int .i64 a0_3] 24)).alloc (.cells #[.slice A1 l1.length c1] 34)).heap[g]? = W3.heap[g]? := fun g hg => (Below.heap_alloc _ _ _ (by rw [World.size_alloc]; omega)).trans (Below.heap_alloc _ _ _ (by omega))
  have bH4 := (up4 (w.heap.size + 1) (by omega)).trans bH3
  have bO4 := (up4 (w.heap.size + 1 + 1) (by omega)).trans bO3
  have bS4 := (up4 (B + 1) (by omega)).trans bS3
  have bD4 := (bD3.alloc (.cells #[.string a0_0, .int .i64 a0_1, .slice A0 l0.length c0, .int .i64 a0_3] 24)).alloc (.cells #[.slice A1 l1.length c1] 34)
  have bK4 := (bK3.alloc (.cells #[.string a0_0, .int .i64 a0_1, .slice A0 l0.length c0, .int .i64 a0_3] 24)).alloc (.cells #[.slice A1 l1.length c1] 34)
  have hB4 := below_alloc (below_alloc hB3 (.cells #[.string a0_0, .int .i64 a0_1, .slice A0 l0.length c0, .int .i64 a0_3] 24)) (.cells #[.slice A1 l1.length c1] 34)
  obtain ⟨W0, hW0⟩ : ∃ W0, (W3.alloc (.cells #[.string a0_0, .int .i64 a0_1, .slice A0 l0.length c0, .int .i64 a0_3] 24)).alloc (.cells #[.slice A1 l1.length c1] 34) = W0 := ⟨_, rfl⟩
  have hs0 : W0.heap.size = B + 5 := by rw [← hW0, World.size_alloc, World.size_alloc, hs3]
  rw [hW0] at bC4 bM4 bH4 bO4 bS4 bD4 bK4 hB4 ⊢
  clear hW0 up4 bC3 bH3 bO3 bS3 bD3 bK3 hB3 hs3
  refine loopA 11 hn w a0_0 a0_1 A0 c0 l0 a0_3 A1 c1 l1 (GS.rC HR.out) HC.out (GS.rC HR1.out) HA.out HL.out (B + 3 + 1) (B + 3) bM4 bC4 hB4 rfl
    (fun pre W => (((W.heap[w.heap.size + 1]? = some (.cells #[.slice A2 l2.length c2] 34 (0, 0)) ∧ W.heap[w.heap.size + 1 + 1]? = some (.cells #[.int .i64 0, .int .i64 0] 28 (0, 0))) ∧ Boxed W B 3 (.int .i64 dp)) ∧ Boxed W (B + 1 + 1) 104 (.func (.func 83) #[] #[.pointer (some ⟨B + 1, 0, none⟩)])) ∧
      W.heap[B + 1]? = some (.cells #[.int .i64 (betS l0 cz l2 pre).1, .int .i64 (betS l0 cz l2 pre).2] 28 (0, 0)))
    (fun c pre W => False)
    (fun s X Y row hs hg hr => ⟨⟨⟨⟨cells_own hs.1.1.1.1 hg (fun r e => (hr r e).2), cells_own hs.1.1.1.2 hg (fun r e => (hr r e).2)⟩, cells_own hs.1.1.2 hg (fun r e => (hr r e).2)⟩, cells_own hs.1.2 hg (fun r e => (hr r e).2)⟩, cells_own hs.2 hg (fun r e => (hr r e).2)⟩)
    (fun c s X Y row hs hg hr => hs.elim)
    ⟨⟨⟨⟨bH4, bO4⟩, bD4⟩, bK4⟩, bS4⟩ ?assign ?body ?done ?stop
  case assign =>
    intro l x W K hK
    unfold slE
    simp only [List.setIfInBounds_toArray, List.set_cons_zero, List.set_cons_succ]
    gi_wp2
    exact hK
  case stop =>
    rintro D c pre W hD hpre h0 hB1 hK
    exact h0.elim
  case done =>
    rintro D W hD ⟨⟨⟨⟨bH, bO⟩, bD⟩, bK⟩, bS⟩ hB1 hK
    have e4 := HRES.out
    rw [e4] at bS
    dsimp only at bS
    obtain ⟨z0, z1, f0, f1⟩ := GS.c2 bS
    obtain ⟨y0, y1, g0, g1⟩ := GS.c2 bO
    gi_wp2
    have hK' := ((KeepsOthers.setCell W ⟨w.heap.size + 1 + 1, 0, none⟩ (.int .i64 r1)).trans (KeepsOthers.setCell _ ⟨w.heap.size + 1 + 1, 1, none⟩ (.int .i64 r2))).same D _ hK rfl
    refine ⟨by simp, .inl ⟨_, _, rfl, run_takeDeferred hK', ?_⟩⟩
    have hb2 : ((W.setCell ⟨w.heap.size + 1 + 1, 0, none⟩ (.int .i64 r1)).setCell ⟨w.heap.size + 1 + 1, 1, none⟩ (.int .i64 r2)).heap[w.heap.size + 1 + 1]? = some (.cells #[.int .i64 r1, .int .i64 r2] 28 (0, 0)) := by
      refine bqP (cs := #[.int .i64 r1, .int .i64 0]) ?_ 1 _ rfl
      exact bqP (cs := #[.int .i64 0, .int .i64 0]) bO 0 _ rfl
    have hc5 := cells_own hb2 (grownBy_putObj' _ D (.deferred none)) (fun r e => by cases e; exact ⟨_, hK', rfl⟩)
    exact leaves0 (results_cell2 rfl _ _ (w.heap.size + 1 + 1) _ _ rfl hc5) ⟨rfl, ((hB1.setCell (p := ⟨w.heap.size + 1 + 1, 0, none⟩) (by show w.heap.size ≤ w.heap.size + 1 + 1; omega) _).setCell (p := ⟨w.heap.size + 1 + 1, 1, none⟩) (by show w.heap.size ≤ w.heap.size + 1 + 1; omega) _).trans (belowK_b (w := w) (Nat.le_refl _) _ D _ _ (by omega) hK' rfl rfl)⟩
  case body =>
    rintro l pre x Bp W hl ⟨⟨⟨⟨bH, bO⟩, bD⟩, bK⟩, bS⟩ ⟨bM1, bC1⟩ hB1 hs1 hBp bX hxm
    unfold axA slE
    simp only [List.setIfInBounds_toArray, List.set_cons_zero, List.set_cons_succ]
    have hbt : betT l0 cz l2 x = (wrap64 ((slV l0 x).1 * (areaV (slV l0 x).2.1 cz l2).1), wrap64 ((slV l0 x).1 * (areaV (slV l0 x).2.2 cz l2).2.1)) := rfl
    obtain ⟨⟨s0, s1, s2⟩, hsl⟩ : ∃ s, slV l0 x = s := ⟨_, rfl⟩
    rw [hsl] at bX hbt ⊢
    dsimp only [slO] at bX hbt ⊢
    obtain ⟨⟨p0, p1, p2⟩, hp⟩ : ∃ p, areaV s1 cz l2 = p := ⟨_, rfl⟩
    obtain ⟨⟨q0, q1, q2⟩, hq⟩ : ∃ p, areaV s2 cz l2 = p := ⟨_, rfl⟩
    rw [hp, hq] at hbt
    dsimp only at hbt
    obtain ⟨y0, y1, y2⟩ := c3_ bX
    have cD := bD.cell
    have cH : W.cell? ⟨w.heap.size + 1, 0, none⟩ = some (.slice A2 l2.length c2) := (bqC bH 0).trans rfl
    gi_wp2
    rw [hcz]
    refine ⟨trivial, fun _ => by omega, (CallsIn.inRound l (callsIn_wide.2 (area29.calls s1 cz A2 c2 l2 p0 p1 p2 _ (Kd.C_below (GS.rC HR2.out) hB1) HC2.out (by rw [area29.f, hp])))).mono ?_⟩
    rintro e w4 ⟨rfl, hb⟩
    have hM1 := bM1.trans bM4
    have hC1 := bC1.trans bC4
    have bH2 := (hb.block _ (blk_lt bH)).trans bH
    have bO2 := (hb.block _ (blk_lt bO)).trans bO
    have bD2 := boxed_below bD hb
    have bK2 := boxed_below bK hb
    have bS2 := (hb.block _ (blk_lt bS)).trans bS
    have bX2 := (hb.block _ (blk_lt bX)).trans bX
    have bM2 := (hb.block _ (blk_lt hM1)).trans hM1
    have bC2 := (hb.block _ (blk_lt hC1)).trans hC1
    have hB2 := step_below hB1 hb
    have hs2 := Nat.le_trans hs1 hb.size
    have hk2 := keeps_below hb
    have hKp2 : KpA w.heap.size (B + 3 + 1) (B + 3) W w4 := ⟨hb.mono hB1.size, hb.block _ (blk_lt hM1), hb.block _ (blk_lt hC1)⟩
    clear hb bH bO bD bK bS bX hM1 hC1 bM1 bC1 hB1 hs1 cD cH y0 y1 y2
    obtain ⟨W5, hW5⟩ : ∃ W5, W5 = w4.alloc (.cells #[.int .i64 p0, .int .i64 p1] 28) := ⟨_, rfl⟩
    have up5 : ∀ g, g < w4.heap.size → W5.heap[g]? = w4.heap[g]? := fun g hg => by rw [hW5]; exact Below.heap_alloc _ _ _ hg
    have bG5 : W5.heap[w4.heap.size]? = some (.cells #[.int .i64 p0, .int .i64 p1] 28 (0, 0)) := by rw [hW5]; exact World.alloc_heap_new w4 _
    have bX5 := (up5 _ (blk_lt bX2)).trans bX2
    have bH5 := (up5 _ (blk_lt bH2)).trans bH2
    have bD5 : Boxed W5 B 3 (.int .i64 dp) := (up5 _ bD2.lt).trans bD2
    obtain ⟨y0, y1, y2⟩ := c3_ bX5
    have cD := bD5.cell
    have cH : W5.cell? ⟨w.heap.size + 1, 0, none⟩ = some (.slice A2 l2.length c2) := (bqC bH5 0).trans rfl
    have hlt4 := blk_lt bS2
    have hB5 : Below w.heap.size w W5 := by rw [hW5]; exact hB2.alloc hB2.size _
    have hk5 := hk2.trans (KeepsOthers.alloc w4 (.cells #[.int .i64 p0, .int .i64 p1] 28))
    have hKp5 : KpA w.heap.size (B + 3 + 1) (B + 3) W W5 := hKp2.trans ⟨by rw [hW5]; exact (Below.refl _ _).alloc hB2.size _, up5 _ (blk_lt bM2), up5 _ (blk_lt bC2)⟩
    have bO5 := (up5 _ (blk_lt bO2)).trans bO2
    have bK5 : Boxed W5 (B + 1 + 1) 104 (.func (.func 83) #[] #[.pointer (some ⟨B + 1, 0, none⟩)]) := (up5 _ bK2.lt).trans bK2
    have bS5 := (up5 _ (blk_lt bS2)).trans bS2
    have bM5 := (up5 _ (blk_lt bM2)).trans bM2
    have bC5 := (up5 _ (blk_lt bC2)).trans bC2
    have hs5 : W0.heap.size ≤ W5.heap.size := by rw [hW5, World.size_alloc]; omega
    rw [← hW5] at hk5
    subst hW5
    gi_wp2
    rw [hcz]
    obtain ⟨W5, hW5⟩ : ∃ W5, w4.alloc (.cells #[.int .i64 p0, .int .i64 p1] 28) = W5 := ⟨_, rfl⟩
    obtain ⟨G, hG⟩ : ∃ G, w4.heap.size = G := ⟨_, rfl⟩
    rw [hW5] at bG5 bX5 bH5 bD5 hB5 hk5 hKp5 bO5 bK5 bS5 bM5 bC5 hs5 ⊢
    rw [hG] at bG5 hlt4 ⊢
    clear up5 bH2 bO2 bD2 bK2 bS2 bX2 bM2 bC2 hB2 hs2 hk2 hKp2 hW5 hG cD cH y0 y1 y2
    refine ⟨trivial, fun _ => by omega, (CallsIn.inRound l (callsIn_wide.2 (area29.calls s2 cz A2 c2 l2 q0 q1 q2 _ (Kd.C_below (GS.rC HR2.out) hB5) HC2.out (by rw [area29.f, hq])))).mono ?_⟩
    rintro e w6 ⟨rfl, hb⟩
    obtain ⟨W7, hW7⟩ : ∃ W7, W7 = w6.alloc (.cells #[.int .i64 q0, .int .i64 q1] 28) := ⟨_, rfl⟩
    have up7 : ∀ g, g < W5.heap.size → W7.heap[g]? = W5.heap[g]? := fun g hg => by rw [hW7]; exact (Below.heap_alloc _ _ _ (Nat.lt_of_lt_of_le hg hb.size)).trans (hb.block _ hg)
    have bQ7 : W7.heap[w6.heap.size]? = some (.cells #[.int .i64 q0, .int .i64 q1] 28 (0, 0)) := by rw [hW7]; exact World.alloc_heap_new w6 _
    have bG7 := (up7 _ (blk_lt bG5)).trans bG5
    have bX7 := (up7 _ (blk_lt bX5)).trans bX5
    have bH7 := (up7 _ (blk_lt bH5)).trans bH5
    have bD7 : Boxed W7 B 3 (.int .i64 dp) := (up7 _ bD5.lt).trans bD5
    have bO7 := (up7 _ (blk_lt bO5)).trans bO5
    have bK7 : Boxed W7 (B + 1 + 1) 104 (.func (.func 83) #[] #[.pointer (some ⟨B + 1, 0, none⟩)]) := (up7 _ bK5.lt).trans bK5
    have bS7 := (up7 _ (blk_lt bS5)).trans bS5
    have bM7 := (up7 _ (blk_lt bM5)).trans bM5
    have bC7 := (up7 _ (blk_lt bC5)).trans bC5
    have hB6 := step_below hB5 hb
    have hB7 : Below w.heap.size w W7 := by rw [hW7]; exact hB6.alloc hB6.size _
    have hk7 : KeepsOthers W W7 := by rw [hW7]; exact (hk5.trans (keeps_below hb)).trans (KeepsOthers.alloc _ _)
    have hKp7 : KpA w.heap.size (B + 3 + 1) (B + 3) W W7 := hKp5.trans ⟨by rw [hW7]; exact (hb.mono hB5.size).alloc hB6.size _, up7 _ (blk_lt bM5), up7 _ (blk_lt bC5)⟩
    have hs7 : W0.heap.size ≤ W7.heap.size := by have := hb.size; rw [hW7, World.size_alloc]; omega
    obtain ⟨y0, y1, y2⟩ := c3_ bX7
    obtain ⟨x0, x1, xf0, xf1⟩ := GS.c2 bG7
    obtain ⟨z0, z1, zf0, zf1⟩ := GS.c2 bQ7
    have cK := bK7.cell
    clear hb bG5 bX5 bH5 bD5 hB5 hk5 hKp5 bO5 bK5 bS5 bM5 bC5 hs5 up7 hB6 xf0 xf1 zf0 zf1
    subst hW7
    gi_wp2
    obtain ⟨W7, hW7⟩ : ∃ W7, w6.alloc (.cells #[.int .i64 q0, .int .i64 q1] 28) = W7 := ⟨_, rfl⟩
    rw [hW7] at bH7 bD7 hB7 hk7 hKp7 bO7 bK7 bS7 bM7 bC7 hs7 ⊢
    clear y0 y1 y2 x0 x1 z0 z1 cK bX7 bG7 bQ7 hW7
    obtain ⟨⟨t0, t1⟩, hts⟩ : ∃ s, betS l0 cz l2 pre = s := ⟨_, rfl⟩
    rw [hts] at bS7
    dsimp only at bS7
    refine ⟨trivial, fun _ => by omega, (CallsIn.inRound l (addB _ (B + 1) _ _ t0 t1 W7 bS7)).mono ?_⟩
    rintro e w8 ⟨⟨u, rfl⟩, rfl⟩
    gi_wp2
    have hb2 : ((W7.setCell ⟨B + 1, 0, none⟩ (.int .i64 (wrap64 (t0 + wrap64 (s0 * p0))))).setCell ⟨B + 1, 1, none⟩ (.int .i64 (wrap64 (t1 + wrap64 (s0 * q1))))).heap[B + 1]? = some (.cells #[.int .i64 (betS l0 cz l2 (pre ++ [x])).1, .int .i64 (betS l0 cz l2 (pre ++ [x])).2] 28 (0, 0)) := by
      rw [betS_snoc, hts, hbt]
      refine bqP (cs := #[.int .i64 (wrap64 (t0 + wrap64 (s0 * p0))), .int .i64 t1]) ?_ 1 _ rfl
      exact bqP (cs := #[.int .i64 t0, .int .i64 t1]) bS7 0 _ rfl
    have far : ∀ g, g ≠ B + 1 → ((W7.setCell ⟨B + 1, 0, none⟩ (.int .i64 (wrap64 (t0 + wrap64 (s0 * p0))))).setCell ⟨B + 1, 1, none⟩ (.int .i64 (wrap64 (t1 + wrap64 (s0 * q1))))).heap[g]? = W7.heap[g]? := fun g hg => (Below.heap_setCell _ _ _ _ hg).trans (Below.heap_setCell _ _ _ _ hg)
    refine ⟨((hk7.trans (KeepsOthers.setCell _ _ _)).trans (KeepsOthers.setCell _ _ _)).from _, hKp7.trans ⟨((Below.refl _ W7).setCell (p := ⟨B + 1, 0, none⟩) (by show w.heap.size ≤ B + 1; omega) _).setCell (p := ⟨B + 1, 1, none⟩) (by show w.heap.size ≤ B + 1; omega) _, far _ (by omega), far _ (by omega)⟩, ⟨⟨⟨⟨⟨⟨?_, ?_⟩, ?_⟩, ?_⟩, hb2⟩, ?_, ?_⟩, ?_, ?_⟩⟩
    · exact (far _ (by omega)).trans bH7
    · exact (far _ (by omega)).trans bO7
    · exact (far _ (by omega)).trans bD7
    · exact (far _ (by omega)).trans bK7
    · exact ((far _ (by omega)).trans bM7).trans bM4.symm
    · exact ((far _ (by omega)).trans bC7).trans bC4.symm
    · exact (hB7.setCell (p := ⟨B + 1, 0, none⟩) (by show w.heap.size ≤ B + 1; omega) _).setCell (p := ⟨B + 1, 1, none⟩) (by show w.heap.size ≤ B + 1; omega) _
    · simpa using hs7
def betw57.f (a0_0 : ByteArray) (a0_1 : Int) (l0 : List S39) (a0_3 : Int) (l1 l2 : List Int) : Option (Int × Int) :=
  if caskC a0_0 a0_1 l0 a0_3 = 0 ∧ a0_1 = 1 ∧ (∀ x ∈ l1, 0 ≤ x ∧ x ≤ lastX l0) ∧ l1.length < 1000000 then some (betS l0 (bungR l0) l2 (pairsI l1)) else none
theorem betw57.calls (a0_0 : ByteArray) (a0_1 : Int) (A0 : Option Addr) (c0 : Nat) (l0 : List S39) (a0_3 : Int) (A1 : Option Addr) (c1 : Nat) (l1 : List Int) (A2 : Option Addr) (c2 : Nat) (l2 : List Int) (r1 r2 : Int) (w : World)
    (hr0 : Kd.C k39 w A0 l0.length l0) (hc0 : l0.length ≤ c0) (hr1 : Kd.C (Kd.int .i64) w A1 l1.length l1) (hc1 : l1.length ≤ c1) (hr2 : Kd.C (Kd.int .i64) w A2 l2.length l2) (hc2 : l2.length ≤ c2) (h : betw57.f a0_0 a0_1 l0 a0_3 l1 l2 = some (r1, r2)) :
    Calls Try.prog 57 #[.agg #[.string a0_0, .int .i64 a0_1, .slice A0 l0.length c0, .int .i64 a0_3], .slice A1 l1.length c1, .slice A2 l2.length c2] w fun e w' => e = .returned (.agg #[.int .i64 r1, .int .i64 r2]) ∧ Below w.heap.size w w' := by
  unfold betw57.f at h
  split at h
  · rename_i hc
    obtain ⟨h1, h2, h3, h4⟩ := hc
    have hp := caskC_prof h1
    have hb := bungR_bd l0 hp
    obtain ⟨kd, hd⟩ := (Depth_ev a0_0 a0_1 l0 a0_3).one
    rw [if_pos h1, depthV, if_pos h2] at hd
    have := callsIn_wide.1 (betw_in 8 (Nat.le_refl _) a0_0 a0_1 A0 c0 l0 a0_3 A1 c1 l1 A2 c2 l2 w hr0 hc0 hr1 hr2 hc2 kd _ _ hd (fun x hx => by rw [at_ev l0 x hp (h3 x hx).1 (h3 x hx).2]; rfl) (by omega))
    rw [show wrap64 (Int.tdiv (2 * bungR l0) 2) = bungR l0 by rw [Int.mul_tdiv_cancel_left _ (by decide)]; unfold wrap64; omega, Option.some.inj h] at this
    exact this
  · cases h
end Go.Proofs.Ytefjmcljkmppoaa.K
