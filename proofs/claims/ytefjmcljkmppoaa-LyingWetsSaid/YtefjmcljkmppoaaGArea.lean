/- By hand: segment.Area. -/
import Derived.Test.YtefjmcljkmppoaaGSeg
import Derived.Laws.EntriesVeiled
import Derived.Test.YtefjmcljkmppoaaK5
namespace Go.Proofs.Ytefjmcljkmppoaa.GI
open Go Go.RowKit Go.Proofs.YtefjmcljkmppoaaW.PrintWords Go.Proofs.YtefjmcljkmppoaaW.PrintLast
theorem joinA {F : Fence} {n : Nat} {P : Program} {ops : Array Oper} {Q : Exit → Act → World → Prop} {md : Region.Mode} {S : World → Prop} {ds : List Nat} {fuel : Nat} {l : Array Bool} {a : Act} {w : World} (fE : Nat) (lE : Array Bool) (vs : List (Nat × Value)) (hx : wpAnyS F n P md ops Q S ds fE lE { tmps := putL a.tmps vs, defers := a.defers } w)
    (h : wpAnyS F n P md ops Q S ds fE lE { tmps := putL a.tmps vs, defers := a.defers } w → wpAnyS F n P md ops Q S ds fuel l a w) : wpAnyS F n P md ops Q S ds fuel l a w := h hx
end Go.Proofs.Ytefjmcljkmppoaa.GI
namespace Go.Proofs.Ytefjmcljkmppoaa.K
open Go Go.RowKit Go.Shelf Go.Proofs.YtefjmcljkmppoaaW.PrintWords Go.Proofs.YtefjmcljkmppoaaW.PrintLast Go.Proofs.YtefjmcljkmppoaaW.PrintMore Go.Proofs.Ytefjmcljkmppoaa.GW
set_option linter.unusedVariables false
set_option linter.unusedSimpArgs false
attribute [local go_sem] Oper.semAt_some
theorem smeas_ev (n : Int) : segment_measure.f n = some (measP n) := by
  unfold segment_measure.f measP
  by_cases c : n ≥ 0
  · rw [if_pos c, decide_eq_true (show 0 ≤ n from c)]; simp
  · rw [if_neg c, decide_eq_false (show ¬ 0 ≤ n from c)]; simp
theorem both_some (n : Int) : ∃ r : Int × Int, root_both.f n = some r := by
  unfold root_both.f of109.f
  rw [Option.bind_some]
  split <;> exact ⟨_, rfl⟩
theorem half_some (r y : Int) : ∃ x : Int × Int × Int, root_Half.f 1 r y = some x := by
  have j : ∀ b : Bool, ∃ x : Int × Int × Int, root_Half.j0 1 r y b = some x := fun b => by
    rw [root_Half.j0]
    obtain ⟨z, hz⟩ := both_some (wrap64 ((wrap64 (r * r)) - (wrap64 (y * y))))
    rw [hz, Option.bind_some]
    split
    · exact ⟨_, rfl⟩
    split
    · exact ⟨_, rfl⟩
    split
    · exact ⟨_, rfl⟩
    exact ⟨_, rfl⟩
  unfold root_Half.f
  split
  · exact j _
  split
  · exact j _
  split
  · exact j _
  exact j _
theorem chord_some (r c a : Int) : ∃ x : Int × Int, segment_circle_chord.f 1 r c a = some x := by
  unfold segment_circle_chord.f root_Chord.f
  obtain ⟨z, hz⟩ := half_some r (wrap64 (a - c))
  rw [hz, Option.bind_some, Option.bind_some]
  split
  · exact ⟨_, rfl⟩
  split
  · exact ⟨_, rfl⟩
  exact ⟨_, rfl⟩
theorem strip_some (r c a b : Int) : ∃ x : Int × Int, segment_circle_strip.f 1 r c a b = some x := by
  unfold segment_circle_strip.f
  obtain ⟨y, hy⟩ := chord_some r c a
  obtain ⟨z, hz⟩ := chord_some r c b
  rw [hy, hz, Option.bind_some, Option.bind_some]
  split
  · split <;> exact ⟨_, rfl⟩
  · exact ⟨_, rfl⟩
def stV (r c : Int) (x : Int × Int) : Int × Int := (segment_circle_strip.f 1 r c x.1 x.2).getD (0, 0)
theorem stV_eq (r c : Int) (x : Int × Int) : segment_circle_strip.f 1 r c x.1 x.2 = some (stV r c x) := by
  obtain ⟨y, hy⟩ := strip_some r c x.1 x.2
  rw [stV, hy]
  rfl
def addW (s x : Int × Int) : Int × Int := (wrap64 (s.1 + x.1), wrap64 (s.2 + x.2))
def areaS (r c : Int) (l : List (Int × Int)) : Int × Int := l.foldl (fun s x => addW s (stV r c x)) (0, 0)
theorem areaS_snoc (r c : Int) (l : List (Int × Int)) (x : Int × Int) : areaS r c (l ++ [x]) = addW (areaS r c l) (stV r c x) := by simp [areaS]
def areaV (r c : Int) (l : List Int) : Int × Int × Int :=
  if measP r = true then (if measP c = true then (if segC l = 0 then ((areaS r c (pairsI l)).1, (areaS r c (pairsI l)).2, 0) else (0, 0, segC l)) else (0, 0, 2)) else (0, 0, 2)
theorem results_cellE {fn : Func} {p q : Tmp} (h : fn.results = #[.cell p 28, .tmp q]) (tmps : Array Value) (w : World) (g : Nat) (u v e : Value) (hp : tmps[p]?.getD undef = .pointer (some ⟨g, 0, none⟩)) (hq : tmps[q]?.getD undef = e) (hg : w.heap[g]? = some (.cells #[u, v] 28 (0, 0))) :
    (results fn tmps).run Try.prog w = .ok (.tuple #[.agg #[u, v], e]) w := by
  have hu := Try.underlying28
  obtain ⟨z0, z1, f0, f1⟩ := GS.c2 hg
  simp [results, h, hp, hq, go_sem, loadVar, z0, z1]
theorem keeps_below {W W' : World} (hb : Below W.heap.size W W') : KeepsOthers W W' := ⟨hb.size, fun k o h _ => (hb.block k (Array.getElem?_eq_some_iff.1 h).1).trans h⟩
set_option maxRecDepth 100000 in
set_option maxHeartbeats 4000000 in
theorem area_in (n : Nat) (hn : 6 ≤ n) (a b : Int) (A0 : Option Addr) (c0 : Nat) (l0 : List Int) (w : World) (hr : Kd.C (Kd.int .i64) w A0 l0.length l0) (hc : l0.length ≤ c0) :
    CallsIn Fence.wide n Try.prog 29 #[.int .i64 a, .int .i64 b, .slice A0 l0.length c0] w fun e w' => e = .returned (.tuple #[.agg #[.int .i64 (areaV a b l0).1, .int .i64 (areaV a b l0).2.1], .int .i64 (areaV a b l0).2.2]) ∧ Below w.heap.size w w' := by
  have h1 : 1 ≤ n := by omega
  have hu28 := Try.underlying28
  have HR := Aside0.mk hr
  have HC := Aside0.mk hc
  have HB := Aside0.mk (Below.refl w.heap.size w)
  have hmx : Try.prog.follows .mixedOrders = true := by kernel_rfl
  clear hr hc
  have bO0 : (w.alloc (.cells #[.int .i64 0, .int .i64 0] 28)).heap[w.heap.size]? = some (.cells #[.int .i64 0, .int .i64 0] 28 (0, 0)) := World.alloc_heap_new w _
  have hB0 := below_alloc HB.out (.cells #[.int .i64 0, .int .i64 0] 28)
  obtain ⟨r0, r1, r2, h4⟩ : ∃ r0 r1 r2 : Int, areaV a b l0 = (r0, r1, r2) := ⟨_, _, _, rfl⟩
  rw [h4]
  unfold areaV at h4
  refine callsIn_of_wp_marks Try.func29 rfl trivial ?_ rfl
  simp only [Try.ntmps29, List.size_toArray, List.length_cons, List.length_nil, Nat.reduceAdd, Nat.reduceSub, Array.replicate_succ, Array.replicate_zero, List.push_toArray, List.append_toArray, List.nil_append, List.cons_append]
  gi_wp2
  refine ⟨trivial, (callsIn_wide.2 (segment_measure.calls a _ _ (smeas_ev a))).mono ?_⟩
  rintro e w1 ⟨rfl, hd1⟩
  have hb1 := hd1.below
  have bO1 := (hb1.block w.heap.size (by simp)).trans bO0
  have hB1 := below_to hB0 hb1 (by simp)
  clear hb1 hd1 bO0 hB0
  cases ca : measP a with
  | false =>
    rw [ca, if_neg (by simp)] at h4
    cases h4
    obtain ⟨z0, z1, f0, f1⟩ := GS.c2 bO1
    gi_wp2
    refine ⟨trivial, ?_⟩
    gi_wp2
    refine leaves0 (results_cellE rfl _ _ w.heap.size _ _ _ rfl rfl ?_) ⟨rfl, ?_⟩
    · refine bqP (cs := #[.int .i64 0, .int .i64 0]) ?_ 1 _ rfl
      exact bqP (cs := #[.int .i64 0, .int .i64 0]) bO1 0 _ rfl
    · exact (hB1.setCell (p := ⟨w.heap.size, 0, none⟩) (Nat.le_refl _) _).setCell (p := ⟨w.heap.size, 1, none⟩) (Nat.le_refl _) _
  | true =>
    rw [ca, if_pos rfl] at h4
    gi_wp2
    refine ⟨trivial, (callsIn_wide.2 (segment_measure.calls b _ _ (smeas_ev b))).mono ?_⟩
    rintro e w2 ⟨rfl, hd1⟩
    have hb1 := hd1.below
    have bO2 := (hb1.block w.heap.size (blk_lt bO1)).trans bO1
    have hB2 := below_to hB1 hb1 hB1.size
    clear hb1 hd1 bO1 hB1
    cases cb : measP b with
    | false =>
      rw [cb, if_neg (by simp)] at h4
      cases h4
      obtain ⟨z0, z1, f0, f1⟩ := GS.c2 bO2
      gi_wp2
      refine leaves0 (results_cellE rfl _ _ w.heap.size _ _ _ rfl rfl ?_) ⟨rfl, ?_⟩
      · refine bqP (cs := #[.int .i64 0, .int .i64 0]) ?_ 1 _ rfl
        exact bqP (cs := #[.int .i64 0, .int .i64 0]) bO2 0 _ rfl
      · exact (hB2.setCell (p := ⟨w.heap.size, 0, none⟩) (Nat.le_refl _) _).setCell (p := ⟨w.heap.size, 1, none⟩) (Nat.le_refl _) _
    | true =>
      rw [cb, if_pos rfl] at h4
      have H4 := Aside0.mk h4
      clear h4
      gi_wp2
      refine ⟨trivial, (callsIn_wide.2 (seg56.calls A0 c0 l0 _ _ (Kd.C_below (GS.rC HR.out) hB2) HC.out rfl)).mono ?_⟩
      rintro e w3 ⟨rfl, hb1⟩
      have bO3 := (hb1.block w.heap.size (blk_lt bO2)).trans bO2
      have hB3 := below_to hB2 hb1 hB2.size
      clear hb1 bO2 hB2
      obtain ⟨z0, z1, f0, f1⟩ := GS.c2 bO3
      by_cases cc : segC l0 = 0
      · have e4 := H4.out
        rw [if_pos cc] at e4
        have HA := Aside0.mk e4
        have HL : Aside0 (l0.length ≤ 65) := ⟨by unfold segC at cc; split at cc; (· cases cc); split at cc; (· cases cc); omega⟩
        have ccb : decide (segC l0 ≠ 0) = false := decide_eq_false (by simp [cc])
        rw [cc]
        clear cc ccb e4 H4
        have hlt3 := blk_lt bO3
        obtain ⟨Bf, hBf⟩ : ∃ Bf, w3.heap.size = Bf := ⟨_, rfl⟩
        gi_wp2_with (refine ⟨trivial, ?_⟩; gi_at_call 62; refine (strips_in Fence.wide (n - 1) trivial rfl _ _ _ _).mono ?_; rintro e w' ⟨rfl, rfl⟩)
        have FV := Boxed.new w3 84 (.func (.func 61) #[.agg #[.int .i64 a, .int .i64 b]] #[])
        have bF0 := (FV.alloc (.cells #[.int .i64 0, .int .i64 0] 28)).alloc (.cells #[.slice A0 l0.length c0] 34)
        have bS0 := (Below.heap_alloc ((w3.alloc (.cells #[.func (.func 61) #[.agg #[.int .i64 a, .int .i64 b]] #[]] 84)).alloc (.cells #[.int .i64 0, .int .i64 0] 28)) (.cells #[.slice A0 l0.length c0] 34) _ (by simp)).trans (World.alloc_heap_new (w3.alloc (.cells #[.func (.func 61) #[.agg #[.int .i64 a, .int .i64 b]] #[]] 84)) (.cells #[.int .i64 0, .int .i64 0] 28))
        have bM := Boxed.new ((w3.alloc (.cells #[.func (.func 61) #[.agg #[.int .i64 a, .int .i64 b]] #[]] 84)).alloc (.cells #[.int .i64 0, .int .i64 0] 28)) 34 (.slice A0 l0.length c0)
        have hB4 := below_alloc (below_alloc (below_alloc hB3 (.cells #[.func (.func 61) #[.agg #[.int .i64 a, .int .i64 b]] #[]] 84)) (.cells #[.int .i64 0, .int .i64 0] 28)) (.cells #[.slice A0 l0.length c0] 34)
        have bO4 := (Below.heap_alloc ((w3.alloc (.cells #[.func (.func 61) #[.agg #[.int .i64 a, .int .i64 b]] #[]] 84)).alloc (.cells #[.int .i64 0, .int .i64 0] 28)) (.cells #[.slice A0 l0.length c0] 34) w.heap.size (by rw [World.size_alloc, World.size_alloc]; omega)).trans ((Below.heap_alloc (w3.alloc (.cells #[.func (.func 61) #[.agg #[.int .i64 a, .int .i64 b]] #[]] 84)) (.cells #[.int .i64 0, .int .i64 0] 28) w.heap.size (by rw [World.size_alloc]; omega)).trans ((Below.heap_alloc w3 (.cells #[.func (.func 61) #[.agg #[.int .i64 a, .int .i64 b]] #[]] 84) w.heap.size hlt3).trans bO3))
        obtain ⟨W0, hW0⟩ : ∃ W0, ((w3.alloc (.cells #[.func (.func 61) #[.agg #[.int .i64 a, .int .i64 b]] #[]] 84)).alloc (.cells #[.int .i64 0, .int .i64 0] 28)).alloc (.cells #[.slice A0 l0.length c0] 34) = W0 := ⟨_, rfl⟩
        have hs0 : W0.heap.size = Bf + 3 := by rw [← hW0, World.size_alloc, World.size_alloc, World.size_alloc, hBf]
        rw [World.size_alloc, World.size_alloc] at bM
        rw [World.size_alloc] at bS0
        rw [hBf] at bM bF0 bS0 hlt3
        rw [hW0] at bF0 bS0 bM hB4 bO4 ⊢
        clear hW0 hBf bO3 hB3 FV z0 z1 f0 f1
        refine loopI 11 12 hn w A0 c0 l0 (GS.rC HR.out) (by have := HL.out; omega) (Bf + 1 + 1) bM hB4 rfl
          (fun pre W => (W.heap[w.heap.size]? = some (.cells #[.int .i64 0, .int .i64 0] 28 (0, 0)) ∧ Boxed W Bf 84 (.func (.func 61) #[.agg #[.int .i64 a, .int .i64 b]] #[])) ∧ W.heap[Bf + 1]? = some (.cells #[.int .i64 (areaS a b pre).1, .int .i64 (areaS a b pre).2] 28 (0, 0)))
          (fun c pre W => False)
          (fun s X Y row hs hg hr => ⟨⟨cells_own hs.1.1 hg (fun r e => (hr r e).2), cells_own hs.1.2 hg (fun r e => (hr r e).2)⟩, cells_own hs.2 hg (fun r e => (hr r e).2)⟩)
          (fun c s X Y row hs hg hr => hs.elim)
          ⟨⟨bO4, bF0⟩, bS0⟩ ?assign ?body ?done ?stop
        case assign =>
          intro l x W K hK
          simp only [List.setIfInBounds_toArray, List.set_cons_zero, List.set_cons_succ]
          gi_wp2
          exact hK
        case stop =>
          rintro D c pre W hD hpre h0 hB1 hK
          exact h0.elim
        case done =>
          rintro D W hD ⟨⟨bO, bF⟩, bS⟩ hB1 hK
          have e4 := HA.out
          obtain ⟨z0, z1, f0, f1⟩ := GS.c2 bS
          obtain ⟨y0, y1, g0, g1⟩ := GS.c2 bO
          obtain ⟨s0, hs0⟩ : ∃ s, (areaS a b (pairsI l0)).1 = s := ⟨_, rfl⟩
          obtain ⟨s1, hs1⟩ : ∃ s, (areaS a b (pairsI l0)).2 = s := ⟨_, rfl⟩
          rw [hs0, hs1] at e4
          rw [hs0] at z0
          rw [hs1] at z1
          cases e4
          gi_wp2
          have hK' := ((KeepsOthers.setCell W ⟨w.heap.size, 0, none⟩ (.int .i64 r0)).trans (KeepsOthers.setCell _ ⟨w.heap.size, 1, none⟩ (.int .i64 r1))).same D _ hK rfl
          refine ⟨by simp, .inl ⟨_, _, rfl, run_takeDeferred hK', ?_⟩⟩
          have hb2 : ((W.setCell ⟨w.heap.size, 0, none⟩ (.int .i64 r0)).setCell ⟨w.heap.size, 1, none⟩ (.int .i64 r1)).heap[w.heap.size]? = some (.cells #[.int .i64 r0, .int .i64 r1] 28 (0, 0)) := by
            refine bqP (cs := #[.int .i64 r0, .int .i64 0]) ?_ 1 _ rfl
            exact bqP (cs := #[.int .i64 0, .int .i64 0]) bO 0 _ rfl
          have hc5 := cells_own hb2 (grownBy_putObj' _ D (.deferred none)) (fun r e => by cases e; exact ⟨_, hK', rfl⟩)
          exact leaves0 (results_cellE rfl _ _ w.heap.size _ _ _ rfl rfl hc5) ⟨rfl, ((hB1.setCell (p := ⟨w.heap.size, 0, none⟩) (Nat.le_refl _) _).setCell (p := ⟨w.heap.size, 1, none⟩) (Nat.le_refl _) _).trans (belowK_b (w := w) (Nat.le_refl _) _ D _ _ (by omega) hK' rfl rfl)⟩
        case body =>
          rintro l pre x W hl ⟨⟨bO, bF⟩, bS⟩ bM1 hB1 hs1 hxm
          have cF := bF.cell
          unfold axI
          simp only [List.setIfInBounds_toArray, List.set_cons_zero, List.set_cons_succ]
          gi_wp2
          obtain ⟨⟨p1, p2⟩, hp⟩ : ∃ p, stV a b x = p := ⟨_, rfl⟩
          have hpe := stV_eq a b x
          rw [hp] at hpe
          refine ⟨trivial, fun _ => by omega, (CallsIn.inRound l (callsIn_wide.2 (segment_circle_strip.calls 1 a b x.1 x.2 p1 p2 _ hpe))).mono ?_⟩
          rintro e w4 ⟨rfl, hb⟩
          have hbt := hB1.trans (hb.mono hB1.size)
          have bO4 := (hb.block _ (blk_lt bO)).trans bO
          have bF4 := boxed_below bF hb
          have bS4 := (hb.block _ (blk_lt bS)).trans bS
          have bM4 := boxed_below bM1 hb
          have hk4 := keeps_below hb
          have hbs := hb.size
          have hKp : KpS w.heap.size (Bf + 1 + 1) W w4 := ⟨hb.mono hB1.size, hb.block _ bM1.lt⟩
          clear hb cF bO bF bS
          obtain ⟨⟨s0, s1⟩, hsp⟩ : ∃ s, areaS a b pre = s := ⟨_, rfl⟩
          rw [hsp] at bS4
          dsimp only at bS4
          gi_wp2
          have bS2 := (Below.heap_alloc w4 (.cells #[.int .i64 p1, .int .i64 p2] 28) _ (blk_lt bS4)).trans bS4
          have bO2 := (Below.heap_alloc w4 (.cells #[.int .i64 p1, .int .i64 p2] 28) _ (blk_lt bO4)).trans bO4
          have bX2 := World.alloc_heap_new w4 (.cells #[.int .i64 p1, .int .i64 p2] 28)
          have bF2 := bF4.alloc (.cells #[.int .i64 p1, .int .i64 p2] 28)
          have bM2 := bM4.alloc (.cells #[.int .i64 p1, .int .i64 p2] 28)
          have hB2 : Below w.heap.size w (w4.alloc (.cells #[.int .i64 p1, .int .i64 p2] 28)) := hbt.alloc hbt.size _
          have hk2 := hk4.trans (KeepsOthers.alloc w4 (.cells #[.int .i64 p1, .int .i64 p2] 28))
          have hs2 : W0.heap.size ≤ (w4.alloc (.cells #[.int .i64 p1, .int .i64 p2] 28)).heap.size := by rw [World.size_alloc]; omega
          have hKp2 : KpS w.heap.size (Bf + 1 + 1) W (w4.alloc (.cells #[.int .i64 p1, .int .i64 p2] 28)) := hKp.trans ⟨(Below.refl _ _).alloc hbt.size _, (Below.heap_alloc w4 _ _ bM4.lt)⟩
          have hgB : w4.heap.size ≠ Bf + 1 := fun e => by have := blk_lt bS4; omega
          obtain ⟨g9, hg9⟩ : ∃ g, w4.heap.size = g := ⟨_, rfl⟩
          obtain ⟨W2, hW2⟩ : ∃ W2, w4.alloc (.cells #[.int .i64 p1, .int .i64 p2] 28) = W2 := ⟨_, rfl⟩
          rw [hg9] at bX2 hgB ⊢
          rw [hW2] at bS2 bO2 bX2 bF2 bM2 hB2 hk2 hs2 hKp2 ⊢
          clear hW2 hg9 bS4 bO4 bF4 bM4 hk4 hbt hbs hKp bM1 hB1 hs1
          obtain ⟨z0, z1, f0, f1⟩ := GS.c2 bS2
          obtain ⟨y0, y1, g0, g1⟩ := GS.c2 bX2
          have hfa : ∀ v : Value, (W2.setCell ⟨Bf + 1, 0, none⟩ v).cell? ⟨g9, 0, none⟩ = some (.int .i64 p1) ∧ (W2.setCell ⟨Bf + 1, 0, none⟩ v).cell? ⟨g9, 1, none⟩ = some (.int .i64 p2) := fun v => ⟨(cell_far (p := ⟨Bf + 1, 0, none⟩) hgB _).trans y0, (cell_far (p := ⟨Bf + 1, 0, none⟩) hgB _).trans y1⟩
          have hfb : ∀ v u : Value, ((W2.setCell ⟨Bf + 1, 0, none⟩ v).setCell ⟨Bf + 1, 1, none⟩ u).cell? ⟨g9, 0, none⟩ = some (.int .i64 p1) ∧ ((W2.setCell ⟨Bf + 1, 0, none⟩ v).setCell ⟨Bf + 1, 1, none⟩ u).cell? ⟨g9, 1, none⟩ = some (.int .i64 p2) := fun v u => ⟨(cell_far (p := ⟨Bf + 1, 1, none⟩) hgB _).trans (hfa v).1, (cell_far (p := ⟨Bf + 1, 1, none⟩) hgB _).trans (hfa v).2⟩
          refine GI.start_ (m := 14) (S := fun w' => w'.cell? ⟨g9, 0, none⟩ = some (.int .i64 p1) ∧ w'.cell? ⟨g9, 1, none⟩ = some (.int .i64 p2)) (ds := []) #[false, false, false, false, false, false, false, false, false, false, false, false, false, false] (by kernel_rfl) rfl rfl ⟨y0, y1⟩ (fun hHeld => ?_)
          refine GI.pu 0 (some 41) ?_
          refine GI.pu 2 (some 43) ?_
          refine GI.pu 5 (some 46) ?_
          refine GI.pu 7 (some 48) ?_
          refine GI.tl 3 (some 44) hHeld ?_
          refine GI.tl 8 (some 49) hHeld ?_
          refine GI.joinA 4 #[true, true, true, true, true, true, true, true, true, true, false, false, false, false] [(42, .int .i64 s0), (45, .int .i64 (wrap64 (s0 + p1))), (47, .int .i64 s1), (50, .int .i64 (wrap64 (s1 + p2)))] ?_ (fun hX => ?_)
          rotate_left
          · refine GI.two_ (i := 1) (j := 6) (Ni := some 42) (Nj := some 47) #[true, true, true, true, false, true, false, true, true, false, false, false, false, false] #[true, false, true, true, false, true, true, true, true, false, false, false, false, false] rfl rfl rfl rfl (by kernel_rfl) (by rfl) (by rfl) ?_ ?_
            · refine GI.value_ (v := .int .i64 s0) (w1 := W2.drew) (fun c h => by cases h) ?hab_1 ?hrun_1 ?_
              case hab_1 => intro f hf; cases hf
              case hrun_1 => first | (go_simp; done) | (go_simp; rfl)
              refine ⟨fun hS => hS, ?_⟩
              refine GI.norm_ (a' := ?_) ?_ ?_
              rotate_left
              · show Act.put _ (some 42) _ = _
                simp only [Act.put, List.setIfInBounds_toArray, List.set_cons_zero, List.set_cons_succ, i64_w, i32_w]
                rfl
              refine GI.pu 4 (some 45) ?_
              refine GI.one_ (i := 6) (N := some 47) #[true, true, true, true, true, true, true, true, true, false, false, false, false, false] rfl rfl (by kernel_rfl) (by decide) (by rfl) ?_
              refine GI.value_ (v := .int .i64 s1) (w1 := W2.drew) (fun c h => by cases h) ?hab_2 ?hrun_2 ?_
              case hab_2 => intro f hf; cases hf
              case hrun_2 => first | (go_simp; done) | (go_simp; rfl)
              refine ⟨fun hS => hS, ?_⟩
              refine GI.norm_ (a' := ?_) ?_ ?_
              rotate_left
              · show Act.put _ (some 47) _ = _
                simp only [Act.put, List.setIfInBounds_toArray, List.set_cons_zero, List.set_cons_succ, i64_w, i32_w]
                rfl
              refine GI.pu 9 (some 50) ?_
              refine GI.norm_ ?_ hX
              simp only [GI.putL, List.foldl, List.setIfInBounds_toArray, List.set_cons_zero, List.set_cons_succ]
            · refine GI.value_ (v := .int .i64 s1) (w1 := W2.drew) (fun c h => by cases h) ?hab_3 ?hrun_3 ?_
              case hab_3 => intro f hf; cases hf
              case hrun_3 => first | (go_simp; done) | (go_simp; rfl)
              refine ⟨fun hS => hS, ?_⟩
              refine GI.norm_ (a' := ?_) ?_ ?_
              rotate_left
              · show Act.put _ (some 47) _ = _
                simp only [Act.put, List.setIfInBounds_toArray, List.set_cons_zero, List.set_cons_succ, i64_w, i32_w]
                rfl
              refine GI.pu 9 (some 50) ?_
              refine GI.one_ (i := 1) (N := some 42) #[true, true, true, true, false, true, true, true, true, true, false, false, false, false] rfl rfl (by kernel_rfl) (by decide) (by rfl) ?_
              refine GI.value_ (v := .int .i64 s0) (w1 := W2.drew) (fun c h => by cases h) ?hab_4 ?hrun_4 ?_
              case hab_4 => intro f hf; cases hf
              case hrun_4 => first | (go_simp; done) | (go_simp; rfl)
              refine ⟨fun hS => hS, ?_⟩
              refine GI.norm_ (a' := ?_) ?_ ?_
              rotate_left
              · show Act.put _ (some 42) _ = _
                simp only [Act.put, List.setIfInBounds_toArray, List.set_cons_zero, List.set_cons_succ, i64_w, i32_w]
                rfl
              refine GI.pu 4 (some 45) ?_
              refine GI.norm_ ?_ hX
              simp only [GI.putL, List.foldl, List.setIfInBounds_toArray, List.set_cons_zero, List.set_cons_succ]
          simp only [GI.putL, List.foldl, List.setIfInBounds_toArray, List.set_cons_zero, List.set_cons_succ]
          refine GI.pu 10 (some 51) ?_
          refine GI.one_ (i := 11) (N := none) #[true, true, true, true, true, true, true, true, true, true, true, true, false, false] rfl rfl (by kernel_rfl) (by decide) (by rfl) ?_
          refine GI.skip_ (w1 := ?w1_5) (fun c h => by cases h) ?hab_5 rfl ?hrun_5 ?_
          case hab_5 => intro f hf; cases hf
          case hrun_5 => first | (go_simp; done) | (go_simp; rfl)
          refine ⟨fun _ => hfa _, ?_⟩
          refine GI.pu 12 (some 52) ?_
          refine GI.one_ (i := 13) (N := none) #[true, true, true, true, true, true, true, true, true, true, true, true, true, true] rfl rfl (by kernel_rfl) (by decide) (by rfl) ?_
          refine GI.skip_ (w1 := ?w1_6) (fun c h => by cases h) ?hab_6 rfl ?hrun_6 ?_
          case hab_6 => intro f hf; cases hf
          case hrun_6 => first | (go_simp; done) | (go_simp; rfl)
          refine ⟨fun _ => hfb _ _, ?_⟩
          refine GI.done_ (by kernel_rfl) ?_ _
          gi_wp2
          have hb2 : ((W2.setCell ⟨Bf + 1, 0, none⟩ (.int .i64 (wrap64 (s0 + p1)))).setCell ⟨Bf + 1, 1, none⟩ (.int .i64 (wrap64 (s1 + p2)))).drew.heap[Bf + 1]? = some (.cells #[.int .i64 (areaS a b (pre ++ [x])).1, .int .i64 (areaS a b (pre ++ [x])).2] 28 (0, 0)) := by
            rw [areaS_snoc, hsp, hp]
            show ((W2.setCell ⟨Bf + 1, 0, none⟩ (.int .i64 (wrap64 (s0 + p1)))).setCell ⟨Bf + 1, 1, none⟩ (.int .i64 (wrap64 (s1 + p2)))).heap[Bf + 1]? = _
            refine bqP (cs := #[.int .i64 (wrap64 (s0 + p1)), .int .i64 s1]) ?_ 1 _ rfl
            exact bqP (cs := #[.int .i64 s0, .int .i64 s1]) bS2 0 _ rfl
          refine ⟨(((hk2.trans (KeepsOthers.setCell _ _ _)).trans (KeepsOthers.setCell _ _ _)).trans (KeepsOthers.drew _)).from _, ?_, ⟨⟨⟨?_, ?_⟩, hb2⟩, ?_⟩, ?_, ?_⟩
          · exact hKp2.trans ⟨below_drew (((Below.refl _ W2).setCell (p := ⟨Bf + 1, 0, none⟩) (by show w.heap.size ≤ Bf + 1; omega) _).setCell (p := ⟨Bf + 1, 1, none⟩) (by show w.heap.size ≤ Bf + 1; omega) _), (Below.heap_setCell _ _ _ _ (by simp)).trans (Below.heap_setCell _ _ _ _ (by simp))⟩
          · exact (Below.heap_setCell _ _ _ _ (by show w.heap.size ≠ Bf + 1; omega)).trans ((Below.heap_setCell _ _ _ _ (by show w.heap.size ≠ Bf + 1; omega)).trans bO2)
          · exact (Below.heap_setCell _ _ _ _ (by show Bf ≠ Bf + 1; omega)).trans ((Below.heap_setCell _ _ _ _ (by show Bf ≠ Bf + 1; omega)).trans bF2)
          · exact (Below.heap_setCell _ _ _ _ (by show Bf + 1 + 1 ≠ Bf + 1; omega)).trans ((Below.heap_setCell _ _ _ _ (by show Bf + 1 + 1 ≠ Bf + 1; omega)).trans bM2)
          · exact below_drew ((hB2.setCell (p := ⟨Bf + 1, 0, none⟩) (by show w.heap.size ≤ Bf + 1; omega) _).setCell (p := ⟨Bf + 1, 1, none⟩) (by show w.heap.size ≤ Bf + 1; omega) _)
          · simpa [hs0] using hs2
      · have e4 := H4.out
        rw [if_neg cc] at e4
        cases e4
        have ccb : decide (segC l0 ≠ 0) = true := decide_eq_true cc
        have ccd : (segC l0 == 0) = false := beq_eq_false_iff_ne.2 cc
        gi_wp2
        refine leaves0 (results_cellE rfl _ _ w.heap.size _ _ _ rfl rfl ?_) ⟨rfl, ?_⟩
        · refine bqP (cs := #[.int .i64 0, .int .i64 0]) ?_ 1 _ rfl
          exact bqP (cs := #[.int .i64 0, .int .i64 0]) bO3 0 _ rfl
        · exact (hB3.setCell (p := ⟨w.heap.size, 0, none⟩) (Nat.le_refl _) _).setCell (p := ⟨w.heap.size, 1, none⟩) (Nat.le_refl _) _
def area29.f (a b : Int) (l : List Int) : Option (Int × Int × Int) := some (areaV a b l)
theorem area29.calls (a0 a1 : Int) (A0 : Option Addr) (c0 : Nat) (l0 : List Int) (r1 r2 r3 : Int) (w : World) (hr0 : Kd.C (Kd.int .i64) w A0 l0.length l0) (hc0 : l0.length ≤ c0) (h : area29.f a0 a1 l0 = some (r1, r2, r3)) :
    Calls Try.prog 29 #[.int .i64 a0, .int .i64 a1, .slice A0 l0.length c0] w fun e w' => e = .returned (.tuple #[.agg #[.int .i64 r1, .int .i64 r2], .int .i64 r3]) ∧ Below w.heap.size w w' := by
  have e := Option.some.inj h
  have := callsIn_wide.1 (area_in 6 (Nat.le_refl _) a0 a1 A0 c0 l0 w hr0 hc0)
  rw [e] at this
  exact this
end Go.Proofs.Ytefjmcljkmppoaa.K
