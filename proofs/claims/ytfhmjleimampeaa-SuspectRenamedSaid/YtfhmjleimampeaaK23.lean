-- PRINTED by print.py (a twelfth state) out of the translation. Not trusted: Lean checks it.
import Derived.Test.YtfhmjleimampeaaK0
import Derived.Test.YtfhmjleimampeaaGShort
import Derived.Test.YtfhmjleimampeaaK1
namespace Go.Proofs.Ytfhmjleimampeaa.K
open Go.RowKit Go.Proofs.YtfhmjleimampeaaW.PrintWords Go.Proofs.YtfhmjleimampeaaW.PrintLast Go.Proofs.YtfhmjleimampeaaW.PrintMore
attribute [local go_sem] max2_int min2_int max_two min_two max_three min_three max_four min_four   -- for this text's walks alone
set_option linter.unusedVariables false
set_option linter.unusedSimpArgs false

attribute [local go_sem high] eqA30
-- NOT PRINTED: function 27 (api_Finding_27)

-- NOT PRINTED: function 7 (spilelaw34_SuspectRenamed)

/-! ### api_Finding_55: function 55 -/
def api_Finding_55.l0 : Nat → List (S30) → Int → Int → Int → Int → Int → Int → Option (Int)
 | 0, _, _, _, _, _, _, _ => none
 | k + 1, x0, x7, x8, x579000, x579001, x579002, x579003 => if x8 < x7 then (if 0 ≤ x8 then (if x8 < (x0.length : Int) then (if (x579000 == ((rd_T30 x0 x8).f0) && (x579001 == ((rd_T30 x0 x8).f1) && (x579002 == ((rd_T30 x0 x8).f2) && (x579003 == ((rd_T30 x0 x8).f3))))) = true then (some x8) else (api_Finding_55.l0 k x0 x7 (wrap64 (x8 + 1)) x579000 x579001 x579002 x579003)) else (none)) else (none)) else (some (-1))
def api_Finding_55.f (k : Nat) (l0 : List (S30)) (a1_0 : Int) (a1_1 : Int) (a1_2 : Int) (a1_3 : Int) : Option (Int) := api_Finding_55.l0 k l0 (l0.length : Int) 0 a1_0 a1_1 a1_2 a1_3
theorem api_Finding_55.mono_l : ∀ k, (∀ y0 y1 y2 y3 y4 y5 y6, LeO (api_Finding_55.l0 k y0 y1 y2 y3 y4 y5 y6) (api_Finding_55.l0 (k + 1) y0 y1 y2 y3 y4 y5 y6))
 | 0 => fun _ _ _ _ _ _ _ r h => by simp [api_Finding_55.l0] at h
 | k + 1 => by
  have ih0 := api_Finding_55.mono_l k
  ·intro y0 y1 y2 y3 y4 y5 y6
   unfold api_Finding_55.l0
   repeat' first
   | (with_reducible exact ih0 _ _ _ _ _ _ _)
   | (with_reducible exact LeO.refl _)
   | (with_reducible exact LeO.none _)
   | (with_reducible refine LeO.ite ?_ ?_)
   | (with_reducible refine LeO.bind ?_ (fun _ => ?_))
   | exact ih0 _ _ _ _ _ _ _
   | exact LeO.none _
   | refine LeO.ite ?_ ?_
   | refine LeO.bind ?_ (fun _ => ?_)
theorem api_Finding_55.mono : ∀ a0 a1 a2 a3 a4 k, LeO (api_Finding_55.f k a0 a1 a2 a3 a4) (api_Finding_55.f (k + 1) a0 a1 a2 a3 a4) := by
 intro a0 a1 a2 a3 a4 k
 have ih0 := api_Finding_55.mono_l k
 unfold api_Finding_55.f
 repeat' first
   | (with_reducible exact ih0 _ _ _ _ _ _ _)
   | (with_reducible exact LeO.refl _)
   | (with_reducible exact LeO.none _)
   | (with_reducible refine LeO.ite ?_ ?_)
   | (with_reducible refine LeO.bind ?_ (fun _ => ?_))
   | exact ih0 _ _ _ _ _ _ _
   | exact LeO.none _
   | refine LeO.ite ?_ ?_
   | refine LeO.bind ?_ (fun _ => ?_)
set_option maxHeartbeats 8000000 in
set_option maxRecDepth 100000 in
theorem api_Finding_55.calls (k : Nat) (A0 : Option Addr) (c0 : Nat) (l0 : List (S30)) (a1_0 : Int) (a1_1 : Int) (a1_2 : Int) (a1_3 : Int) (r : Int) (w : World) (hr0 : Kd.C k30 w A0 l0.length l0) (hc0 : l0.length ≤ c0) (h : api_Finding_55.f k l0 a1_0 a1_1 a1_2 a1_3 = some r) :
  Calls Try.prog 55 #[.slice A0 l0.length c0, .agg #[.int .i64 a1_0, .int .i64 a1_1, .int .i64 a1_2, .int .i64 a1_3]] w fun e w' => e = .returned (.int .i64 r) ∧ Below w.heap.size w w' := by
 have hu30 := Try.underlying30
 have HR0 := Aside0.mk hr0
 have HC0 := Aside0.mk hc0
 clear hr0 hc0
 have HB := Aside0.mk (Below.refl w.heap.size w)
 have H : (api_Finding_55.l0 k l0 (l0.length : Int) 0 a1_0 a1_1 a1_2 a1_3) = some r := h
 clear h
 have H' := Aside0.mk H
 clear H
 go_enter Try.func55, Try.ntmps55
 go_wp2_with (first | ((with_reducible refine gqD (N := 3) rfl ?_); refine GS.bx (N := 3) (cs := #[.int .i64 a1_0, .int .i64 a1_1, .int .i64 a1_2, .int .i64 a1_3]) (t := 30) ?_; intro gb578 hg w3 hbox hb; have n0_ := Aside0.mk (lqT (GS.lB HB.out) hb); have n1_ := Aside0.mk (hbox); have n2_ := Aside0.mk ((by rw [hg]; exact (lqZ (GS.lB HB.out)) : w.heap.size ≤ gb578)); have n3_ := Aside0.mk ((by rw [hg]; exact (lqZ (GS.lB HB.out)) : w.heap.size ≤ gb578)); clear HB; have HB := n0_; have BK578 := n1_; have GW578 := n2_; have GE578 := n3_; clear n0_ n1_ n2_ n3_; clear hb hbox hg))
 repeat (go_quiet (first | ((with_reducible refine gqD (N := 3) rfl ?_); refine GS.bx (N := 3) (cs := #[.int .i64 a1_0, .int .i64 a1_1, .int .i64 a1_2, .int .i64 a1_3]) (t := 30) ?_; intro gb578 hg w3 hbox hb; have n0_ := Aside0.mk (lqT (GS.lB HB.out) hb); have n1_ := Aside0.mk (hbox); have n2_ := Aside0.mk ((by rw [hg]; exact (lqZ (GS.lB HB.out)) : w.heap.size ≤ gb578)); have n3_ := Aside0.mk ((by rw [hg]; exact (lqZ (GS.lB HB.out)) : w.heap.size ≤ gb578)); clear HB; have HB := n0_; have BK578 := n1_; have GW578 := n2_; have GE578 := n3_; clear n0_ n1_ n2_ n3_; clear hb hbox hg)); try go_wp2_with (first | ((with_reducible refine gqD (N := 3) rfl ?_); refine GS.bx (N := 3) (cs := #[.int .i64 a1_0, .int .i64 a1_1, .int .i64 a1_2, .int .i64 a1_3]) (t := 30) ?_; intro gb578 hg w3 hbox hb; have n0_ := Aside0.mk (lqT (GS.lB HB.out) hb); have n1_ := Aside0.mk (hbox); have n2_ := Aside0.mk ((by rw [hg]; exact (lqZ (GS.lB HB.out)) : w.heap.size ≤ gb578)); have n3_ := Aside0.mk ((by rw [hg]; exact (lqZ (GS.lB HB.out)) : w.heap.size ≤ gb578)); clear HB; have HB := n0_; have BK578 := n1_; have GW578 := n2_; have GE578 := n3_; clear n0_ n1_ n2_ n3_; clear hb hbox hg)))
 go_loopg [8] k (fun kq v8 w' => ∃ (x8_1 : Int), v8 = .int .i64 x8_1 ∧ Aside0 (api_Finding_55.l0 kq l0 (l0.length : Int) x8_1 a1_0 a1_1 a1_2 a1_3 = some r) ∧ Aside0 (kq ≤ k) ∧ Aside0 (w'.heap[gb578]? = some (.cells #[.int .i64 a1_0, .int .i64 a1_1, .int .i64 a1_2, .int .i64 a1_3] 30 (0, 0))) ∧ Aside0 (Below w.heap.size w w'))
 case atStart => exact ⟨(0), (by first | rfl | (simp; done) | (simp [*]; done)), H', ⟨Nat.le_refl _⟩, ⟨GS.bqX BK578.out⟩, ⟨GS.lB HB.out⟩⟩
 case round =>
  clear H'
  try clear p2
  obtain ⟨x8_1, rfl, HA, HK1, BK578, HB⟩ := hrel
  cases gk with
  | zero => exact absurd HA.out (by simp [api_Finding_55.l0])
  | succ k1 =>
   have H := HA.out
   clear HA
   simp only [api_Finding_55.l0] at H
   by_cases c4 : x8_1 < (l0.length : Int)
   ·rw [if_pos c4] at H
    have c4b0 : decide (x8_1 < (l0.length : Int)) = true := decide_eq_true c4
    clear c4
    by_cases c5 : 0 ≤ x8_1
    ·rw [if_pos c5] at H
     have c5b0 : decide (0 ≤ x8_1) = true := decide_eq_true c5
     clear c5
     by_cases c6 : x8_1 < (l0.length : Int)
     ·rw [if_pos c6] at H
      have c6b0 : decide (x8_1 < (l0.length : Int)) = true := decide_eq_true c6
      clear c6
      by_cases c7 : (a1_0 == ((rd_T30 l0 x8_1).f0) && (a1_1 == ((rd_T30 l0 x8_1).f1) && (a1_2 == ((rd_T30 l0 x8_1).f2) && (a1_3 == ((rd_T30 l0 x8_1).f3))))) = true
      ·rw [if_pos c7] at H
       have c7b0 : (a1_0 == ((rd_T30 l0 x8_1).f0) && (a1_1 == ((rd_T30 l0 x8_1).f1) && (a1_2 == ((rd_T30 l0 x8_1).f2) && (a1_3 == ((rd_T30 l0 x8_1).f3))))) = true := c7
       try simp only [beq_self_eq_true, Bool.not_true, Bool.false_or, Bool.true_and] at c7b0
       (try (have c7b1 : decide (a1_0 = ((rd_T30 l0 x8_1).f0) && (a1_1 == ((rd_T30 l0 x8_1).f1) && (a1_2 == ((rd_T30 l0 x8_1).f2) && (a1_3 == ((rd_T30 l0 x8_1).f3))))) = true := by simpa using c7))
       (try (have c7b2 : (a1_0 == ((rd_T30 l0 x8_1).f0) && (a1_1 == ((rd_T30 l0 x8_1).f1) && (a1_2 == ((rd_T30 l0 x8_1).f2) && (a1_3 == ((rd_T30 l0 x8_1).f3))))) = true := by simpa using c7))
       clear c7
       obtain rfl := Option.some.inj H
       obtain ⟨hcz8_0, hcz8_1, hcz8_2, hcz8_3, hfz8_0, hfz8_1, hfz8_2, hfz8_3⟩ := GS.c4 BK578.out
       have p579 : 0 ≤ (x8_1 : Int) := of_decide_eq_true (by first | (with_reducible assumption) | assumption)
       have q579 : x8_1 < (l0.length : Int) := of_decide_eq_true (by first | (with_reducible assumption) | assumption)
       obtain ⟨ad579, e579, hx579_0, hx579_1, hx579_2, hx579_3⟩ := at_T30 HR0.out x8_1 p579 q579
       cases e579
       replace hx579_0 := (HB.out.cell (World.block_lt_of_cell? w _ hx579_0)).trans hx579_0
       replace hx579_1 := (HB.out.cell (World.block_lt_of_cell? w _ hx579_1)).trans hx579_1
       replace hx579_2 := (HB.out.cell (World.block_lt_of_cell? w _ hx579_2)).trans hx579_2
       replace hx579_3 := (HB.out.cell (World.block_lt_of_cell? w _ hx579_3)).trans hx579_3
       replace p579 := eq_true p579
       replace q579 := eq_true q579
       go_wp2
       repeat (go_quiet (fail); try go_wp2)
       go_ret
       exact ⟨by first | rfl | (simp [errW_none, errW_some] <;> rfl) | (simp [*, errW_none, errW_some] <;> rfl), GS.lB HB.out⟩
      ·rw [if_neg c7] at H
       have c7b0 : (a1_0 == ((rd_T30 l0 x8_1).f0) && (a1_1 == ((rd_T30 l0 x8_1).f1) && (a1_2 == ((rd_T30 l0 x8_1).f2) && (a1_3 == ((rd_T30 l0 x8_1).f3))))) = false := by simpa using c7
       try simp only [beq_self_eq_true, Bool.not_true, Bool.false_or, Bool.true_and] at c7b0
       (try (have c7b1 : decide (a1_0 = ((rd_T30 l0 x8_1).f0) && (a1_1 == ((rd_T30 l0 x8_1).f1) && (a1_2 == ((rd_T30 l0 x8_1).f2) && (a1_3 == ((rd_T30 l0 x8_1).f3))))) = false := by simpa using c7))
       (try (have c7b2 : (a1_0 == ((rd_T30 l0 x8_1).f0) && (a1_1 == ((rd_T30 l0 x8_1).f1) && (a1_2 == ((rd_T30 l0 x8_1).f2) && (a1_3 == ((rd_T30 l0 x8_1).f3))))) = false := by simpa using c7))
       (try (have c7b3 : ¬ (a1_0 = ((rd_T30 l0 x8_1).f0) && (a1_1 == ((rd_T30 l0 x8_1).f1) && (a1_2 == ((rd_T30 l0 x8_1).f2) && (a1_3 == ((rd_T30 l0 x8_1).f3))))) := by simpa using c7))
       clear c7
       have H' := Aside0.mk H
       clear H
       obtain ⟨hcz9_0, hcz9_1, hcz9_2, hcz9_3, hfz9_0, hfz9_1, hfz9_2, hfz9_3⟩ := GS.c4 BK578.out
       have p579 : 0 ≤ (x8_1 : Int) := of_decide_eq_true (by first | (with_reducible assumption) | assumption)
       have q579 : x8_1 < (l0.length : Int) := of_decide_eq_true (by first | (with_reducible assumption) | assumption)
       obtain ⟨ad579, e579, hx579_0, hx579_1, hx579_2, hx579_3⟩ := at_T30 HR0.out x8_1 p579 q579
       cases e579
       replace hx579_0 := (HB.out.cell (World.block_lt_of_cell? w _ hx579_0)).trans hx579_0
       replace hx579_1 := (HB.out.cell (World.block_lt_of_cell? w _ hx579_1)).trans hx579_1
       replace hx579_2 := (HB.out.cell (World.block_lt_of_cell? w _ hx579_2)).trans hx579_2
       replace hx579_3 := (HB.out.cell (World.block_lt_of_cell? w _ hx579_3)).trans hx579_3
       replace p579 := eq_true p579
       replace q579 := eq_true q579
       go_wp2
       repeat (go_quiet (fail); try go_wp2)
       go_roundg k1
       case measure => have := HK1.out; omega
       case rel => exact ⟨(wrap64 (x8_1 + 1)), (by first | rfl | (simp; done) | (simp [*]; done)), H', ⟨by have := HK1.out; omega⟩, ⟨GS.bqX BK578.out⟩, ⟨GS.lB HB.out⟩⟩
     ·rw [if_neg c6] at H
      exact absurd H (by simp)
    ·rw [if_neg c5] at H
     exact absurd H (by simp)
   ·rw [if_neg c4] at H
    have c4b0 : decide (x8_1 < (l0.length : Int)) = false := decide_eq_false c4
    clear c4
    obtain rfl := Option.some.inj H
    go_wp2
    repeat (go_quiet (fail); try go_wp2)
    go_ret
    exact ⟨by first | rfl | (simp [errW_none, errW_some] <;> rfl) | (simp [*, errW_none, errW_some] <;> rfl), GS.lB HB.out⟩

/-! ### api_Finding_29: function 29 -/
def api_Finding_29.f (k : Nat) (l0 : List (S30)) (a1_0 : Int) (a1_1 : Int) (a1_2 : Int) (a1_3 : Int) : Option (Bool) := (api_Finding_55.f k l0 a1_0 a1_1 a1_2 a1_3).bind fun t581 => (some (decide (t581 ≥ 0)))
theorem api_Finding_29.mono : ∀ a0 a1 a2 a3 a4 k, LeO (api_Finding_29.f k a0 a1 a2 a3 a4) (api_Finding_29.f (k + 1) a0 a1 a2 a3 a4) := by
 intro a0 a1 a2 a3 a4 k
 unfold api_Finding_29.f
 repeat' first
   | (with_reducible exact api_Finding_55.mono _ _ _ _ _ _)
   | (with_reducible exact LeO.refl _)
   | (with_reducible exact LeO.none _)
   | (with_reducible refine LeO.ite ?_ ?_)
   | (with_reducible refine LeO.bind ?_ (fun _ => ?_))
   | exact api_Finding_55.mono _ _ _ _ _ _
   | exact LeO.none _
   | refine LeO.ite ?_ ?_
   | refine LeO.bind ?_ (fun _ => ?_)
set_option maxHeartbeats 8000000 in
set_option maxRecDepth 100000 in
theorem api_Finding_29.calls (k : Nat) (A0 : Option Addr) (c0 : Nat) (l0 : List (S30)) (a1_0 : Int) (a1_1 : Int) (a1_2 : Int) (a1_3 : Int) (r : Bool) (w : World) (hr0 : Kd.C k30 w A0 l0.length l0) (hc0 : l0.length ≤ c0) (h : api_Finding_29.f k l0 a1_0 a1_1 a1_2 a1_3 = some r) :
  Calls Try.prog 29 #[.slice A0 l0.length c0, .agg #[.int .i64 a1_0, .int .i64 a1_1, .int .i64 a1_2, .int .i64 a1_3]] w fun e w' => e = .returned (.bool r) ∧ Below w.heap.size w w' := by
 have hu30 := Try.underlying30
 have HR0 := Aside0.mk hr0
 have HC0 := Aside0.mk hc0
 clear hr0 hc0
 have HB := Aside0.mk (Below.refl w.heap.size w)
 have H : ((api_Finding_55.f k l0 a1_0 a1_1 a1_2 a1_3).bind fun t581 => (some (decide (t581 ≥ 0)))) = some r := h
 clear h
 replace H := Option.bind_eq_some_iff.mp H
 obtain ⟨t581, A30, H⟩ := H
 replace H : (some (decide (t581 ≥ 0))) = some r := H
 have A3 := Aside0.mk A30
 clear A30
 obtain rfl := Option.some.inj H
 go_enter Try.func29, Try.ntmps29
 go_wp2_with (first | ((with_reducible refine gqD (N := 3) rfl ?_); refine GS.bx (N := 3) (cs := #[.int .i64 a1_0, .int .i64 a1_1, .int .i64 a1_2, .int .i64 a1_3]) (t := 30) ?_; intro gb580 hg w4 hbox hb; have n0_ := Aside0.mk (lqT (GS.lB HB.out) hb); have n1_ := Aside0.mk (hbox); have n2_ := Aside0.mk ((by rw [hg]; exact (lqZ (GS.lB HB.out)) : w.heap.size ≤ gb580)); have n3_ := Aside0.mk ((by rw [hg]; exact (lqZ (GS.lB HB.out)) : w.heap.size ≤ gb580)); clear HB; have HB := n0_; have BK580 := n1_; have GW580 := n2_; have GE580 := n3_; clear n0_ n1_ n2_ n3_; clear hb hbox hg; obtain ⟨hcz5_0, hcz5_1, hcz5_2, hcz5_3, hfz5_0, hfz5_1, hfz5_2, hfz5_3⟩ := GS.c4 BK580.out) | ((with_reducible refine gqC (f := 55) rfl ?_); refine GS.gL (some 7) Try.func55 #[.slice A0 l0.length c0, .agg #[.int .i64 a1_0, .int .i64 a1_1, .int .i64 a1_2, .int .i64 a1_3]] ?_; (with_reducible refine (api_Finding_55.calls k _ _ l0 a1_0 a1_1 a1_2 a1_3 t581 _ ?side1 ?side2 A3.out).mono ?_); (case side1 => exact GS.rC (Kd.C_below HR0.out HB.out)); (case side2 => exact HC0.out); rintro e w6 ⟨rfl, hb⟩; refine ⟨_, rfl, ?_⟩; have n0_ := Aside0.mk (bqB (GS.bqX BK580.out) hb); have n1_ := Aside0.mk (lqT (GS.lB HB.out) hb); clear BK580; clear HB; have BK580 := n0_; have HB := n1_; clear n0_ n1_; (try clear hb); (try clear hb2); (try clear hk); (try clear hi)))
 go_ret
 exact ⟨by first | rfl | (simp [errW_none, errW_some] <;> rfl) | (simp [*, errW_none, errW_some] <;> rfl), GS.lB HB.out⟩

end Go.Proofs.Ytfhmjleimampeaa.K
