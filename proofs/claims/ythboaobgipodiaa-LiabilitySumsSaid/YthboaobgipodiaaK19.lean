-- PRINTED by print.py (a twelfth state) out of the translation. Not trusted: Lean checks it.
import Derived.Test.YthboaobgipodiaaK0
import Derived.Test.YthboaobgipodiaaGPu
import Derived.Test.YthboaobgipodiaaGShort
import Derived.Test.YthboaobgipodiaaK18
namespace Go.Proofs.Ythboaobgipodiaa.K
open Go.RowKit Go.Proofs.YthboaobgipodiaaW.PrintWords Go.Proofs.YthboaobgipodiaaW.PrintLast Go.Proofs.YthboaobgipodiaaW.PrintMore
attribute [local go_sem] max2_int min2_int max_two min_two max_three min_three max_four min_four   -- for this text's walks alone
set_option linter.unusedVariables false
set_option linter.unusedSimpArgs false

/-! ### spileref46_Check: function 61 -/
mutual
def spileref46_Check.j0 : Nat → Bool → Int → List (S60) → Option (Int × Int)
 | 0, _, _, _ => none
 | k + 1, x12, x469000, x469001 => if x12 = true then (some ((-1), 2)) else (if (x469001.length : Int) > 64 then (some ((-1), 8)) else (spileref46_Check.l0 k 0 x469000 x469001))
def spileref46_Check.l0 : Nat → Int → Int → List (S60) → Option (Int × Int)
 | 0, _, _, _ => none
 | k + 1, x4, x469000, x469001 => if x4 < (x469001.length : Int) then (if 0 ≤ x4 then ((spileref46_right.f ((rd_T60 x469001 x4).f0) ((rd_T60 x469001 x4).f1) ((rd_T60 x469001 x4).f2)).bind fun t470 => (if t470 = true then (if x4 > 0 then (if 0 ≤ (wrap64 (x4 - 1)) then (if (wrap64 (x4 - 1)) < (x469001.length : Int) then ((spileref46_before.f ((rd_T60 x469001 (wrap64 (x4 - 1))).f0) ((rd_T60 x469001 (wrap64 (x4 - 1))).f1) ((rd_T60 x469001 (wrap64 (x4 - 1))).f2) ((rd_T60 x469001 x4).f0) ((rd_T60 x469001 x4).f1) ((rd_T60 x469001 x4).f2)).bind fun t473 => (if t473 = true then (spileref46_Check.l0 k (wrap64 (x4 + 1)) x469000 x469001) else (some (x4, 5)))) else (none)) else (none)) else (spileref46_Check.l0 k (wrap64 (x4 + 1)) x469000 x469001)) else (some (x4, 2)))) else (none)) else (some ((-1), 0))
end
def spileref46_Check.f (k : Nat) (a0_0 : Int) (l0_1 : List (S60)) : Option (Int × Int) := if a0_0 < 1 then (spileref46_Check.j0 k true a0_0 l0_1) else (spileref46_Check.j0 k (decide (a0_0 > 4)) a0_0 l0_1)
theorem spileref46_Check.mono_l : ∀ k, (∀ y0 y1 y2, LeO (spileref46_Check.j0 k y0 y1 y2) (spileref46_Check.j0 (k + 1) y0 y1 y2)) ∧ (∀ y0 y1 y2, LeO (spileref46_Check.l0 k y0 y1 y2) (spileref46_Check.l0 (k + 1) y0 y1 y2))
 | 0 => ⟨fun _ _ _ r h => by simp [spileref46_Check.j0] at h, fun _ _ _ r h => by simp [spileref46_Check.l0] at h⟩
 | k + 1 => by
  obtain ⟨ih0, ih1⟩ := spileref46_Check.mono_l k
  refine ⟨?_, ?_⟩
  ·intro y0 y1 y2
   unfold spileref46_Check.j0
   repeat' first
   | (with_reducible exact ih0 _ _ _)
   | (with_reducible exact ih1 _ _ _)
   | (with_reducible exact LeO.refl _)
   | (with_reducible exact LeO.none _)
   | (with_reducible refine LeO.ite ?_ ?_)
   | (with_reducible refine LeO.bind ?_ (fun _ => ?_))
   | exact ih0 _ _ _
   | exact ih1 _ _ _
   | exact LeO.none _
   | refine LeO.ite ?_ ?_
   | refine LeO.bind ?_ (fun _ => ?_)
  ·intro y0 y1 y2
   unfold spileref46_Check.l0
   repeat' first
   | (with_reducible exact ih0 _ _ _)
   | (with_reducible exact ih1 _ _ _)
   | (with_reducible exact LeO.refl _)
   | (with_reducible exact LeO.none _)
   | (with_reducible refine LeO.ite ?_ ?_)
   | (with_reducible refine LeO.bind ?_ (fun _ => ?_))
   | exact ih0 _ _ _
   | exact ih1 _ _ _
   | exact LeO.none _
   | refine LeO.ite ?_ ?_
   | refine LeO.bind ?_ (fun _ => ?_)
theorem spileref46_Check.mono : ∀ a0 a1 k, LeO (spileref46_Check.f k a0 a1) (spileref46_Check.f (k + 1) a0 a1) := by
 intro a0 a1 k
 obtain ⟨ih0, ih1⟩ := spileref46_Check.mono_l k
 unfold spileref46_Check.f
 repeat' first
   | (with_reducible exact ih0 _ _ _)
   | (with_reducible exact ih1 _ _ _)
   | (with_reducible exact LeO.refl _)
   | (with_reducible exact LeO.none _)
   | (with_reducible refine LeO.ite ?_ ?_)
   | (with_reducible refine LeO.bind ?_ (fun _ => ?_))
   | exact ih0 _ _ _
   | exact ih1 _ _ _
   | exact LeO.none _
   | refine LeO.ite ?_ ?_
   | refine LeO.bind ?_ (fun _ => ?_)
def spileref46_Check.T10 : Bool × List (List Nat × List Nat) := (true, [([], []), ([0], [0]), ([1], [1]), ([2], [2]), ([3, 2], [2, 3]), ([2], [2]), ([5, 2], [2, 5]), ([4, 6, 2], [2, 4, 6]), ([7, 2], [2, 7]), ([2], [2]), ([9, 2], [2, 9]), ([2], [2]), ([10, 11, 2], [2, 10, 11]), ([12, 2], [2, 12]), ([8, 13, 2, 2], [2, 8, 13]), ([14, 2], [2, 14]), ([2, 15], [2, 15])])
def spileref46_Check.B10 : List Nat := [0, 1, 3, 7, 15, 7, 39, 127, 255, 7, 519, 7, 3591, 7687, 16383, 32767, 65535]
theorem spileref46_Check.tab10 : rtab .any (opsOf Try.f61 10) = spileref46_Check.T10 := by kernel_rfl
theorem spileref46_Check.bits10 : waitsOk spileref46_Check.T10.2 spileref46_Check.B10 = true := by kernel_rfl
set_option maxHeartbeats 8000000 in
set_option maxRecDepth 100000 in
theorem spileref46_Check.calls (k : Nat) (a0_0 : Int) (A0_1 : Option Addr) (c0_1 : Nat) (l0_1 : List (S60)) (r1 : Int) (r2 : Int) (w : World) (hr0_1 : Kd.C k60 w A0_1 l0_1.length l0_1) (hc0_1 : l0_1.length ≤ c0_1) (h : spileref46_Check.f k a0_0 l0_1 = some (r1, r2)) :
  Calls Try.prog 61 #[.agg #[.int .i64 a0_0, .slice A0_1 l0_1.length c0_1]] w fun e w' => e = .returned (.tuple #[.int .i64 r1, .int .i64 r2]) ∧ Below w.heap.size w w' := by
 have hu24 := Try.underlying24
 have hu60 := Try.underlying60
 have HR0_1 := Aside0.mk hr0_1
 have HC0_1 := Aside0.mk hc0_1
 clear hr0_1 hc0_1
 have HB := Aside0.mk (Below.refl w.heap.size w)
 have H : (if a0_0 < 1 then (spileref46_Check.j0 k true a0_0 l0_1) else (spileref46_Check.j0 k (decide (a0_0 > 4)) a0_0 l0_1)) = some (r1, r2) := h
 clear h
 have HC2 := Aside0.mk H
 clear H
 go_enter Try.func61, Try.ntmps61
 go_upto_region 1 with (first | ((with_reducible refine gqD (N := 1) rfl ?_); refine GS.bx (N := 1) (cs := #[.int .i64 a0_0, .slice A0_1 l0_1.length c0_1]) (t := 24) ?_; intro gb468 hg w3 hbox hb; have n0_ := Aside0.mk (lqT (GS.lB HB.out) hb); have n1_ := Aside0.mk (hbox); have n2_ := Aside0.mk ((by rw [hg]; exact (lqZ (GS.lB HB.out)) : w.heap.size ≤ gb468)); have n3_ := Aside0.mk ((by rw [hg]; exact (lqZ (GS.lB HB.out)) : w.heap.size ≤ gb468)); clear HB; have HB := n0_; have BK468 := n1_; have GW468 := n2_; have GE468 := n3_; clear n0_ n1_ n2_ n3_; clear hb hbox hg))
 (try simp only [Act.put, List.setIfInBounds_toArray, List.set_cons_zero, List.set_cons_succ])
 go_cut [12] (fun v12 wc => ∃ (kq : Nat) (x12_1 : Bool), v12 = .bool x12_1 ∧ Aside0 (spileref46_Check.j0 kq x12_1 a0_0 l0_1 = some (r1, r2)) ∧ Aside0 (kq ≤ k) ∧ Aside0 (wc.heap[gb468]? = some (.cells #[.int .i64 a0_0, (.slice A0_1 l0_1.length c0_1)] 24 (0, 0))) ∧ Aside0 (Below w.heap.size w wc))
 case first =>
  have H := HC2.out
  clear HC2
  by_cases c4 : a0_0 < 1
  ·rw [if_pos c4] at H
   have c4b0 : decide (a0_0 < 1) = true := decide_eq_true c4
   clear c4
   (first | rw [c4b0] | (simp only [i64_w, i32_w]; rw [c4b0]) | skip)
   have H' := Aside0.mk H
   clear H
   obtain ⟨hcz5_0, hcz5_1, hfz5_0, hfz5_1⟩ := GS.c2 BK468.out
   go_wp2
   go_meet
   case rel => exact ⟨_, (true), (by first | rfl | (simp; done) | (simp [*]; done)), H', ⟨by first | omega | exact Nat.le_refl _⟩, ⟨GS.bqX BK468.out⟩, ⟨GS.lB HB.out⟩⟩
  ·rw [if_neg c4] at H
   have c4b0 : decide (a0_0 < 1) = false := decide_eq_false c4
   clear c4
   (first | rw [c4b0] | (simp only [i64_w, i32_w]; rw [c4b0]) | skip)
   have H' := Aside0.mk H
   clear H
   obtain ⟨hcz6_0, hcz6_1, hfz6_0, hfz6_1⟩ := GS.c2 BK468.out
   go_wp2
   go_meet
   case rel => exact ⟨_, (decide (a0_0 > 4)), (by first | rfl | (simp; done) | (simp [*]; done)), H', ⟨by first | omega | exact Nat.le_refl _⟩, ⟨GS.bqX BK468.out⟩, ⟨GS.lB HB.out⟩⟩
 case rest =>
  clear HC2
  try clear p2
  try clear c4
  try clear c4b0
  try clear c6
  try clear hcz5_0
  try clear hcz5_1
  try clear hcz6_0
  try clear hcz6_1
  try clear hfz5_0
  try clear hfz5_1
  try clear hfz6_0
  try clear hfz6_1
  obtain ⟨kq, x12_1, rfl, HA, HJ1, BK468, HB⟩ := hcut
  cases kq with
  | zero => exact absurd HA.out (by simp [spileref46_Check.j0])
  | succ kj1 =>
   have H := HA.out
   clear HA
   simp only [spileref46_Check.j0] at H
   by_cases c7 : x12_1 = true
   ·subst c7
    have H1 : (some ((-1), 2)) = some (r1, r2) := by rw [if_pos rfl] at H; exact H
    clear H
    have H := H1
    clear H1
    simp only [Option.some.injEq, Prod.mk.injEq] at H
    obtain ⟨rfl, rfl⟩ := H
    go_wp2
    go_ret2
    exact ⟨by first | rfl | (simp [errW_none, errW_some] <;> rfl) | (simp [*, errW_none, errW_some] <;> rfl), GS.lB HB.out⟩
   ·replace c7 := Bool.eq_false_iff.mpr c7
    subst c7
    have H1 : (if (l0_1.length : Int) > 64 then (some ((-1), 8)) else (spileref46_Check.l0 kj1 0 a0_0 l0_1)) = some (r1, r2) := by rw [if_neg (show ¬ (false = true) by decide)] at H; exact H
    clear H
    have H := H1
    clear H1
    by_cases c8 : (l0_1.length : Int) > 64
    ·rw [if_pos c8] at H
     have c8b0 : decide (64 < (l0_1.length : Int)) = true := decide_eq_true c8
     have c8b1 : decide (64 < l0_1.length) = true := decide_eq_true (by omega)
     clear c8
     simp only [Option.some.injEq, Prod.mk.injEq] at H
     obtain ⟨rfl, rfl⟩ := H
     obtain ⟨hcz9_0, hcz9_1, hfz9_0, hfz9_1⟩ := GS.c2 BK468.out
     go_wp2
     go_ret2
     exact ⟨by first | rfl | (simp [errW_none, errW_some] <;> rfl) | (simp [*, errW_none, errW_some] <;> rfl), GS.lB HB.out⟩
    ·rw [if_neg c8] at H
     have c8b0 : decide (64 < (l0_1.length : Int)) = false := decide_eq_false c8
     have c8b1 : decide (64 < l0_1.length) = false := decide_eq_false (by omega)
     clear c8
     have H' := Aside0.mk H
     clear H
     obtain ⟨hcz10_0, hcz10_1, hfz10_0, hfz10_1⟩ := GS.c2 BK468.out
     go_wp2
     go_loopg [4] kj1 (fun kq v4 w' => ∃ (x4_2 : Int), v4 = .int .i64 x4_2 ∧ Aside0 (spileref46_Check.l0 kq x4_2 a0_0 l0_1 = some (r1, r2)) ∧ Aside0 (kq ≤ kj1) ∧ Aside0 (w'.heap[gb468]? = some (.cells #[.int .i64 a0_0, (.slice A0_1 l0_1.length c0_1)] 24 (0, 0))) ∧ Aside0 (Below w.heap.size w w'))
     case atStart => exact ⟨(0), (by first | rfl | (simp; done) | (simp [*]; done)), H', ⟨Nat.le_refl _⟩, ⟨GS.bqX BK468.out⟩, ⟨GS.lB HB.out⟩⟩
     case round =>
      clear H'
      try clear p2
      try clear c4
      try clear c4b0
      try clear c6
      try clear c7
      try clear c8
      try clear c8b0
      try clear c8b1
      try clear hcz10_0
      try clear hcz10_1
      try clear hcz5_0
      try clear hcz5_1
      try clear hcz6_0
      try clear hcz6_1
      try clear hcz9_0
      try clear hcz9_1
      try clear hfz10_0
      try clear hfz10_1
      try clear hfz5_0
      try clear hfz5_1
      try clear hfz6_0
      try clear hfz6_1
      try clear hfz9_0
      try clear hfz9_1
      try clear p2
      obtain ⟨x4_2, rfl, HA, HK2, BK468, HB⟩ := hrel
      cases gk with
      | zero => exact absurd HA.out (by simp [spileref46_Check.l0])
      | succ k2 =>
       have H := HA.out
       clear HA
       simp only [spileref46_Check.l0] at H
       by_cases c11 : x4_2 < (l0_1.length : Int)
       ·rw [if_pos c11] at H
        have c11b0 : decide (x4_2 < (l0_1.length : Int)) = true := decide_eq_true c11
        clear c11
        by_cases c12 : 0 ≤ x4_2
        ·rw [if_pos c12] at H
         have c12b0 : decide (0 ≤ x4_2) = true := decide_eq_true c12
         clear c12
         replace H := Option.bind_eq_some_iff.mp H
         obtain ⟨t470, A130, H⟩ := H
         replace H : (if t470 = true then (if x4_2 > 0 then (if 0 ≤ (wrap64 (x4_2 - 1)) then (if (wrap64 (x4_2 - 1)) < (l0_1.length : Int) then ((spileref46_before.f ((rd_T60 l0_1 (wrap64 (x4_2 - 1))).f0) ((rd_T60 l0_1 (wrap64 (x4_2 - 1))).f1) ((rd_T60 l0_1 (wrap64 (x4_2 - 1))).f2) ((rd_T60 l0_1 x4_2).f0) ((rd_T60 l0_1 x4_2).f1) ((rd_T60 l0_1 x4_2).f2)).bind fun t473 => (if t473 = true then (spileref46_Check.l0 k2 (wrap64 (x4_2 + 1)) a0_0 l0_1) else (some (x4_2, 5)))) else (none)) else (none)) else (spileref46_Check.l0 k2 (wrap64 (x4_2 + 1)) a0_0 l0_1)) else (some (x4_2, 2))) = some (r1, r2) := H
         have A13 := Aside0.mk A130
         clear A130
         by_cases c14 : t470 = true
         ·subst c14
          have H1 : (if x4_2 > 0 then (if 0 ≤ (wrap64 (x4_2 - 1)) then (if (wrap64 (x4_2 - 1)) < (l0_1.length : Int) then ((spileref46_before.f ((rd_T60 l0_1 (wrap64 (x4_2 - 1))).f0) ((rd_T60 l0_1 (wrap64 (x4_2 - 1))).f1) ((rd_T60 l0_1 (wrap64 (x4_2 - 1))).f2) ((rd_T60 l0_1 x4_2).f0) ((rd_T60 l0_1 x4_2).f1) ((rd_T60 l0_1 x4_2).f2)).bind fun t473 => (if t473 = true then (spileref46_Check.l0 k2 (wrap64 (x4_2 + 1)) a0_0 l0_1) else (some (x4_2, 5)))) else (none)) else (none)) else (spileref46_Check.l0 k2 (wrap64 (x4_2 + 1)) a0_0 l0_1)) = some (r1, r2) := by rw [if_pos rfl] at H; exact H
          clear H
          have H := H1
          clear H1
          by_cases c15 : x4_2 > 0
          ·rw [if_pos c15] at H
           have c15b0 : decide (0 < x4_2) = true := decide_eq_true c15
           clear c15
           obtain ⟨ji16, hji16⟩ : ∃ j_ : Int, (wrap64 (x4_2 - 1)) = j_ := ⟨_, rfl⟩
           replace H : (if 0 ≤ (ji16) then (if (ji16) < (l0_1.length : Int) then ((spileref46_before.f ((rd_T60 l0_1 (ji16)).f0) ((rd_T60 l0_1 (ji16)).f1) ((rd_T60 l0_1 (ji16)).f2) ((rd_T60 l0_1 x4_2).f0) ((rd_T60 l0_1 x4_2).f1) ((rd_T60 l0_1 x4_2).f2)).bind fun t473 => (if t473 = true then (spileref46_Check.l0 k2 (wrap64 (x4_2 + 1)) a0_0 l0_1) else (some (x4_2, 5)))) else (none)) else (none)) = some (r1, r2) := by first | (rw [hji16] at H; exact H) | (simp only [hji16] at H ⊢; exact H)
           (try rw [hji16] at A13)
           have hji16w : (IntKind.i64.wrap (x4_2 - 1)) = ji16 := (i64_w _).trans hji16
           by_cases c17 : 0 ≤ (ji16)
           ·rw [if_pos c17] at H
            have c17b0 : decide (0 ≤ (ji16)) = true := decide_eq_true c17
            clear c17
            by_cases c18 : (ji16) < (l0_1.length : Int)
            ·rw [if_pos c18] at H
             have c18b0 : decide ((ji16) < (l0_1.length : Int)) = true := decide_eq_true c18
             clear c18
             replace H := Option.bind_eq_some_iff.mp H
             obtain ⟨t473, A190, H⟩ := H
             replace H : (if t473 = true then (spileref46_Check.l0 k2 (wrap64 (x4_2 + 1)) a0_0 l0_1) else (some (x4_2, 5))) = some (r1, r2) := H
             have A19 := Aside0.mk A190
             clear A190
             by_cases c20 : t473 = true
             ·subst c20
              have H1 : (spileref46_Check.l0 k2 (wrap64 (x4_2 + 1)) a0_0 l0_1) = some (r1, r2) := by rw [if_pos rfl] at H; exact H
              clear H
              have H := H1
              clear H1
              have H' := Aside0.mk H
              clear H
              obtain ⟨hcz21_0, hcz21_1, hfz21_0, hfz21_1⟩ := GS.c2 BK468.out
              have p469 : 0 ≤ (x4_2 : Int) := of_decide_eq_true (by first | (with_reducible assumption) | assumption)
              have q469 : x4_2 < (l0_1.length : Int) := of_decide_eq_true (by first | (with_reducible assumption) | assumption)
              obtain ⟨ad469, e469, hx469_0, hx469_1, hx469_2⟩ := at_T60 HR0_1.out x4_2 p469 q469
              cases e469
              replace hx469_0 := (HB.out.cell (World.block_lt_of_cell? w _ hx469_0)).trans hx469_0
              replace hx469_1 := (HB.out.cell (World.block_lt_of_cell? w _ hx469_1)).trans hx469_1
              replace hx469_2 := (HB.out.cell (World.block_lt_of_cell? w _ hx469_2)).trans hx469_2
              replace p469 := eq_true p469
              replace q469 := eq_true q469
              try go_wp2_with (first | ((with_reducible refine gqC (f := 74) rfl ?_); refine GS.gL (some 29) Try.func74 #[.agg #[.int .i64 ((rd_T60 l0_1 x4_2).f0), .int .i64 ((rd_T60 l0_1 x4_2).f1), .int .i64 ((rd_T60 l0_1 x4_2).f2)]] ?_; (with_reducible refine (spileref46_right.calls ((rd_T60 l0_1 x4_2).f0) ((rd_T60 l0_1 x4_2).f1) ((rd_T60 l0_1 x4_2).f2) true _ A13.out).mono ?_); rintro e w22 ⟨rfl, hb⟩; refine ⟨_, rfl, ?_⟩; have n0_ := Aside0.mk (bqB (GS.bqX BK468.out) hb); have n1_ := Aside0.mk (lqT (GS.lB HB.out) hb); clear BK468; clear HB; have BK468 := n0_; have HB := n1_; clear n0_ n1_; (try clear hb); (try clear hb2); (try clear hk); (try clear hi)))
              have n0_ := Aside0.mk (bqD BK468.out)
              have n1_ := Aside0.mk (lqD HB.out)
              clear BK468
              clear HB
              have BK468 := n0_
              have HB := n1_
              clear n0_ n1_
              have p471 : 0 ≤ ((ji16) : Int) := of_decide_eq_true (by first | (with_reducible assumption) | assumption)
              have q471 : (ji16) < (l0_1.length : Int) := of_decide_eq_true (by first | (with_reducible assumption) | assumption)
              obtain ⟨ad471, e471, hx471_0, hx471_1, hx471_2⟩ := at_T60 HR0_1.out (ji16) p471 q471
              have hw471_2 := hx471_2
              have hw471_1 := hx471_1
              have hw471_0 := hx471_0
              obtain rfl : ad469 = ad471 := (by injection e471)
              replace hx471_0 := (HB.out.cell (World.block_lt_of_cell? w _ hx471_0)).trans hx471_0
              replace hx471_1 := (HB.out.cell (World.block_lt_of_cell? w _ hx471_1)).trans hx471_1
              replace hx471_2 := (HB.out.cell (World.block_lt_of_cell? w _ hx471_2)).trans hx471_2
              replace p471 := eq_true p471
              replace q471 := eq_true q471
              have p472 : 0 ≤ (x4_2 : Int) := of_decide_eq_true (by first | (with_reducible assumption) | assumption)
              have q472 : x4_2 < (l0_1.length : Int) := of_decide_eq_true (by first | (with_reducible assumption) | assumption)
              obtain ⟨ad472, e472, hx472_0, hx472_1, hx472_2⟩ := at_T60 HR0_1.out x4_2 p472 q472
              have hw472_2 := hx472_2
              have hw472_1 := hx472_1
              have hw472_0 := hx472_0
              obtain rfl : ad469 = ad472 := (by injection e472)
              replace hx472_0 := (HB.out.cell (World.block_lt_of_cell? w _ hx472_0)).trans hx472_0
              replace hx472_1 := (HB.out.cell (World.block_lt_of_cell? w _ hx472_1)).trans hx472_1
              replace hx472_2 := (HB.out.cell (World.block_lt_of_cell? w _ hx472_2)).trans hx472_2
              replace p472 := eq_true p472
              replace q472 := eq_true q472
              refine start_ (n := 17) (S := fun w' => w'.cell? ⟨gb468, 0, none⟩ = some (.int .i64 a0_0) ∧ w'.cell? ⟨gb468, 1, none⟩ = some (.slice (some ad469) l0_1.length c0_1) ∧ w'.cell? (ad469.add (((ji16)).toNat * 3)) = some (.int .i64 ((rd_T60 l0_1 (ji16)).f0)) ∧ w'.cell? ⟨(ad469.add (((ji16)).toNat * 3)).block, (ad469.add (((ji16)).toNat * 3)).off + 1, none⟩ = some (.int .i64 ((rd_T60 l0_1 (ji16)).f1)) ∧ w'.cell? ⟨(ad469.add (((ji16)).toNat * 3)).block, (ad469.add (((ji16)).toNat * 3)).off + 2, none⟩ = some (.int .i64 ((rd_T60 l0_1 (ji16)).f2)) ∧ w'.cell? (ad469.add ((x4_2).toNat * 3)) = some (.int .i64 ((rd_T60 l0_1 x4_2).f0)) ∧ w'.cell? ⟨(ad469.add ((x4_2).toNat * 3)).block, (ad469.add ((x4_2).toNat * 3)).off + 1, none⟩ = some (.int .i64 ((rd_T60 l0_1 x4_2).f1)) ∧ w'.cell? ⟨(ad469.add ((x4_2).toNat * 3)).block, (ad469.add ((x4_2).toNat * 3)).off + 2, none⟩ = some (.int .i64 ((rd_T60 l0_1 x4_2).f2))) (ds := []) #[false, false, false, false, false, false, false, false, false, false, false, false, false, false, false, false, false] (by kernel_rfl) rfl rfl ⟨(bqC BK468.out 0).trans rfl, (bqC BK468.out 1).trans rfl, ((HB.out.cell (World.block_lt_of_cell? w _ hw471_0)).trans hw471_0), ((HB.out.cell (World.block_lt_of_cell? w _ hw471_1)).trans hw471_1), ((HB.out.cell (World.block_lt_of_cell? w _ hw471_2)).trans hw471_2), ((HB.out.cell (World.block_lt_of_cell? w _ hw472_0)).trans hw472_0), ((HB.out.cell (World.block_lt_of_cell? w _ hw472_1)).trans hw472_1), ((HB.out.cell (World.block_lt_of_cell? w _ hw472_2)).trans hw472_2)⟩ (fun hHeld => ?_); refine with_tabW spileref46_Check.tab10 spileref46_Check.bits10 (fun HT_ HW_ => ?_)
              generalize w22.drew = w23 at BK468 HB hx471_0 hx471_1 hx471_2 hx472_0 hx472_1 hx472_2 hHeld ⊢
              refine GS.pu 0 (some 32) HT_.out ?_
              refine GS.pu 1 (some 33) HT_.out ?_
              refine GS.pu 2 (some 34) HT_.out ?_
              refine GS.pu 3 (some 35) HT_.out ?_
              refine GS.pu 5 (some 37) HT_.out ?_
              refine GS.pu 6 (some 38) HT_.out ?_
              refine GS.pu 9 (some 41) HT_.out ?_
              refine GS.pu 11 (some 43) HT_.out ?_
              refine GS.tk 4 (some 36) HT_.out HW_.out hHeld ?_
              refine GS.pu 7 (some 39) HT_.out ?_
              refine GS.tk 8 (some 40) HT_.out HW_.out hHeld ?_
              refine GS.tk 10 (some 42) HT_.out HW_.out hHeld ?_
              refine GS.pu 12 (some 44) HT_.out ?_
              refine GS.tk 13 (some 45) HT_.out HW_.out hHeld ?_
              refine one_ (i := 14) (N := some 46) #[true, true, true, true, true, true, true, true, true, true, true, true, true, true, true, false, false] rfl rfl (one_of HT_.out (by kernel_rfl)) (by decide) (fun K hK => ?_)
              refine goes_ Try.func75 (by kernel_rfl) rfl #[.agg #[.int .i64 ((rd_T60 l0_1 (ji16)).f0), .int .i64 ((rd_T60 l0_1 (ji16)).f1), .int .i64 ((rd_T60 l0_1 (ji16)).f2)], .agg #[.int .i64 ((rd_T60 l0_1 x4_2).f0), .int .i64 ((rd_T60 l0_1 x4_2).f1), .int .i64 ((rd_T60 l0_1 x4_2).f2)]] (by rfl) rfl rfl (by (try simp only [List.map_toArray, List.map_cons, List.map_nil]); first | done | (simp only [hji16]; rfl) | rfl | (simp only [List.length_drop, List.length_take]; rfl)) ?_
              with_reducible refine (spileref46_before.calls ((rd_T60 l0_1 (ji16)).f0) ((rd_T60 l0_1 (ji16)).f1) ((rd_T60 l0_1 (ji16)).f2) ((rd_T60 l0_1 x4_2).f0) ((rd_T60 l0_1 x4_2).f1) ((rd_T60 l0_1 x4_2).f2) true _ A19.out).mono ?_
              rintro e w24 ⟨rfl, hb⟩
              refine ⟨_, rfl, ?_⟩
              have n0_ := Aside0.mk (bqB (GS.bqX BK468.out) hb)
              have n1_ := Aside0.mk (lqT (GS.lB HB.out) hb)
              clear BK468
              clear HB
              have BK468 := n0_
              have HB := n1_
              clear n0_ n1_
              (try clear hb)
              (try clear hb2)
              (try clear hk)
              (try clear hi)
              refine hK.out _ _ ⟨(bqC BK468.out 0).trans rfl, (bqC BK468.out 1).trans rfl, ((HB.out.cell (World.block_lt_of_cell? w _ hw471_0)).trans hw471_0), ((HB.out.cell (World.block_lt_of_cell? w _ hw471_1)).trans hw471_1), ((HB.out.cell (World.block_lt_of_cell? w _ hw471_2)).trans hw471_2), ((HB.out.cell (World.block_lt_of_cell? w _ hw472_0)).trans hw472_0), ((HB.out.cell (World.block_lt_of_cell? w _ hw472_1)).trans hw472_1), ((HB.out.cell (World.block_lt_of_cell? w _ hw472_2)).trans hw472_2)⟩ (fun hHeld => ?_)
              clear hK K
              refine norm_ (a' := ?_) ?_ ?_
              rotate_left
              ·show Act.put _ (some 46) _ = _
               simp only [Act.put, List.setIfInBounds_toArray, List.set_cons_zero, List.set_cons_succ, i64_w, i32_w]
               rfl
              refine GS.pu 15 (some 47) HT_.out ?_
              refine GS.pu 16 (some 48) HT_.out ?_
              refine done_ (done_of HT_.out (by kernel_rfl)) ?_
              try go_wp2
              go_roundg k2
              case measure => have := HJ1.out; have := HK2.out; omega
              case rel => exact ⟨(wrap64 (x4_2 + 1)), (by first | rfl | (simp; done) | (simp [*]; done)), H', ⟨by have := HJ1.out; have := HK2.out; omega⟩, ⟨GS.bqX BK468.out⟩, ⟨GS.lB HB.out⟩⟩
             ·replace c20 := Bool.eq_false_iff.mpr c20
              subst c20
              have H1 : (some (x4_2, 5)) = some (r1, r2) := by rw [if_neg (show ¬ (false = true) by decide)] at H; exact H
              clear H
              have H := H1
              clear H1
              simp only [Option.some.injEq, Prod.mk.injEq] at H
              obtain ⟨rfl, rfl⟩ := H
              obtain ⟨hcz25_0, hcz25_1, hfz25_0, hfz25_1⟩ := GS.c2 BK468.out
              have p469 : 0 ≤ (x4_2 : Int) := of_decide_eq_true (by first | (with_reducible assumption) | assumption)
              have q469 : x4_2 < (l0_1.length : Int) := of_decide_eq_true (by first | (with_reducible assumption) | assumption)
              obtain ⟨ad469, e469, hx469_0, hx469_1, hx469_2⟩ := at_T60 HR0_1.out x4_2 p469 q469
              cases e469
              replace hx469_0 := (HB.out.cell (World.block_lt_of_cell? w _ hx469_0)).trans hx469_0
              replace hx469_1 := (HB.out.cell (World.block_lt_of_cell? w _ hx469_1)).trans hx469_1
              replace hx469_2 := (HB.out.cell (World.block_lt_of_cell? w _ hx469_2)).trans hx469_2
              replace p469 := eq_true p469
              replace q469 := eq_true q469
              try go_wp2_with (first | ((with_reducible refine gqC (f := 74) rfl ?_); refine GS.gL (some 29) Try.func74 #[.agg #[.int .i64 ((rd_T60 l0_1 x4_2).f0), .int .i64 ((rd_T60 l0_1 x4_2).f1), .int .i64 ((rd_T60 l0_1 x4_2).f2)]] ?_; (with_reducible refine (spileref46_right.calls ((rd_T60 l0_1 x4_2).f0) ((rd_T60 l0_1 x4_2).f1) ((rd_T60 l0_1 x4_2).f2) true _ A13.out).mono ?_); rintro e w26 ⟨rfl, hb⟩; refine ⟨_, rfl, ?_⟩; have n0_ := Aside0.mk (bqB (GS.bqX BK468.out) hb); have n1_ := Aside0.mk (lqT (GS.lB HB.out) hb); clear BK468; clear HB; have BK468 := n0_; have HB := n1_; clear n0_ n1_; (try clear hb); (try clear hb2); (try clear hk); (try clear hi)))
              have n0_ := Aside0.mk (bqD BK468.out)
              have n1_ := Aside0.mk (lqD HB.out)
              clear BK468
              clear HB
              have BK468 := n0_
              have HB := n1_
              clear n0_ n1_
              have p471 : 0 ≤ ((ji16) : Int) := of_decide_eq_true (by first | (with_reducible assumption) | assumption)
              have q471 : (ji16) < (l0_1.length : Int) := of_decide_eq_true (by first | (with_reducible assumption) | assumption)
              obtain ⟨ad471, e471, hx471_0, hx471_1, hx471_2⟩ := at_T60 HR0_1.out (ji16) p471 q471
              have hw471_2 := hx471_2
              have hw471_1 := hx471_1
              have hw471_0 := hx471_0
              obtain rfl : ad469 = ad471 := (by injection e471)
              replace hx471_0 := (HB.out.cell (World.block_lt_of_cell? w _ hx471_0)).trans hx471_0
              replace hx471_1 := (HB.out.cell (World.block_lt_of_cell? w _ hx471_1)).trans hx471_1
              replace hx471_2 := (HB.out.cell (World.block_lt_of_cell? w _ hx471_2)).trans hx471_2
              replace p471 := eq_true p471
              replace q471 := eq_true q471
              have p472 : 0 ≤ (x4_2 : Int) := of_decide_eq_true (by first | (with_reducible assumption) | assumption)
              have q472 : x4_2 < (l0_1.length : Int) := of_decide_eq_true (by first | (with_reducible assumption) | assumption)
              obtain ⟨ad472, e472, hx472_0, hx472_1, hx472_2⟩ := at_T60 HR0_1.out x4_2 p472 q472
              have hw472_2 := hx472_2
              have hw472_1 := hx472_1
              have hw472_0 := hx472_0
              obtain rfl : ad469 = ad472 := (by injection e472)
              replace hx472_0 := (HB.out.cell (World.block_lt_of_cell? w _ hx472_0)).trans hx472_0
              replace hx472_1 := (HB.out.cell (World.block_lt_of_cell? w _ hx472_1)).trans hx472_1
              replace hx472_2 := (HB.out.cell (World.block_lt_of_cell? w _ hx472_2)).trans hx472_2
              replace p472 := eq_true p472
              replace q472 := eq_true q472
              refine start_ (n := 17) (S := fun w' => w'.cell? ⟨gb468, 0, none⟩ = some (.int .i64 a0_0) ∧ w'.cell? ⟨gb468, 1, none⟩ = some (.slice (some ad469) l0_1.length c0_1) ∧ w'.cell? (ad469.add (((ji16)).toNat * 3)) = some (.int .i64 ((rd_T60 l0_1 (ji16)).f0)) ∧ w'.cell? ⟨(ad469.add (((ji16)).toNat * 3)).block, (ad469.add (((ji16)).toNat * 3)).off + 1, none⟩ = some (.int .i64 ((rd_T60 l0_1 (ji16)).f1)) ∧ w'.cell? ⟨(ad469.add (((ji16)).toNat * 3)).block, (ad469.add (((ji16)).toNat * 3)).off + 2, none⟩ = some (.int .i64 ((rd_T60 l0_1 (ji16)).f2)) ∧ w'.cell? (ad469.add ((x4_2).toNat * 3)) = some (.int .i64 ((rd_T60 l0_1 x4_2).f0)) ∧ w'.cell? ⟨(ad469.add ((x4_2).toNat * 3)).block, (ad469.add ((x4_2).toNat * 3)).off + 1, none⟩ = some (.int .i64 ((rd_T60 l0_1 x4_2).f1)) ∧ w'.cell? ⟨(ad469.add ((x4_2).toNat * 3)).block, (ad469.add ((x4_2).toNat * 3)).off + 2, none⟩ = some (.int .i64 ((rd_T60 l0_1 x4_2).f2))) (ds := []) #[false, false, false, false, false, false, false, false, false, false, false, false, false, false, false, false, false] (by kernel_rfl) rfl rfl ⟨(bqC BK468.out 0).trans rfl, (bqC BK468.out 1).trans rfl, ((HB.out.cell (World.block_lt_of_cell? w _ hw471_0)).trans hw471_0), ((HB.out.cell (World.block_lt_of_cell? w _ hw471_1)).trans hw471_1), ((HB.out.cell (World.block_lt_of_cell? w _ hw471_2)).trans hw471_2), ((HB.out.cell (World.block_lt_of_cell? w _ hw472_0)).trans hw472_0), ((HB.out.cell (World.block_lt_of_cell? w _ hw472_1)).trans hw472_1), ((HB.out.cell (World.block_lt_of_cell? w _ hw472_2)).trans hw472_2)⟩ (fun hHeld => ?_); refine with_tabW spileref46_Check.tab10 spileref46_Check.bits10 (fun HT_ HW_ => ?_)
              generalize w26.drew = w27 at BK468 HB hx471_0 hx471_1 hx471_2 hx472_0 hx472_1 hx472_2 hHeld ⊢
              refine GS.pu 0 (some 32) HT_.out ?_
              refine GS.pu 1 (some 33) HT_.out ?_
              refine GS.pu 2 (some 34) HT_.out ?_
              refine GS.pu 3 (some 35) HT_.out ?_
              refine GS.pu 5 (some 37) HT_.out ?_
              refine GS.pu 6 (some 38) HT_.out ?_
              refine GS.pu 9 (some 41) HT_.out ?_
              refine GS.pu 11 (some 43) HT_.out ?_
              refine GS.tk 4 (some 36) HT_.out HW_.out hHeld ?_
              refine GS.pu 7 (some 39) HT_.out ?_
              refine GS.tk 8 (some 40) HT_.out HW_.out hHeld ?_
              refine GS.tk 10 (some 42) HT_.out HW_.out hHeld ?_
              refine GS.pu 12 (some 44) HT_.out ?_
              refine GS.tk 13 (some 45) HT_.out HW_.out hHeld ?_
              refine one_ (i := 14) (N := some 46) #[true, true, true, true, true, true, true, true, true, true, true, true, true, true, true, false, false] rfl rfl (one_of HT_.out (by kernel_rfl)) (by decide) (fun K hK => ?_)
              refine goes_ Try.func75 (by kernel_rfl) rfl #[.agg #[.int .i64 ((rd_T60 l0_1 (ji16)).f0), .int .i64 ((rd_T60 l0_1 (ji16)).f1), .int .i64 ((rd_T60 l0_1 (ji16)).f2)], .agg #[.int .i64 ((rd_T60 l0_1 x4_2).f0), .int .i64 ((rd_T60 l0_1 x4_2).f1), .int .i64 ((rd_T60 l0_1 x4_2).f2)]] (by rfl) rfl rfl (by (try simp only [List.map_toArray, List.map_cons, List.map_nil]); first | done | (simp only [hji16]; rfl) | rfl | (simp only [List.length_drop, List.length_take]; rfl)) ?_
              with_reducible refine (spileref46_before.calls ((rd_T60 l0_1 (ji16)).f0) ((rd_T60 l0_1 (ji16)).f1) ((rd_T60 l0_1 (ji16)).f2) ((rd_T60 l0_1 x4_2).f0) ((rd_T60 l0_1 x4_2).f1) ((rd_T60 l0_1 x4_2).f2) false _ A19.out).mono ?_
              rintro e w28 ⟨rfl, hb⟩
              refine ⟨_, rfl, ?_⟩
              have n0_ := Aside0.mk (bqB (GS.bqX BK468.out) hb)
              have n1_ := Aside0.mk (lqT (GS.lB HB.out) hb)
              clear BK468
              clear HB
              have BK468 := n0_
              have HB := n1_
              clear n0_ n1_
              (try clear hb)
              (try clear hb2)
              (try clear hk)
              (try clear hi)
              refine hK.out _ _ ⟨(bqC BK468.out 0).trans rfl, (bqC BK468.out 1).trans rfl, ((HB.out.cell (World.block_lt_of_cell? w _ hw471_0)).trans hw471_0), ((HB.out.cell (World.block_lt_of_cell? w _ hw471_1)).trans hw471_1), ((HB.out.cell (World.block_lt_of_cell? w _ hw471_2)).trans hw471_2), ((HB.out.cell (World.block_lt_of_cell? w _ hw472_0)).trans hw472_0), ((HB.out.cell (World.block_lt_of_cell? w _ hw472_1)).trans hw472_1), ((HB.out.cell (World.block_lt_of_cell? w _ hw472_2)).trans hw472_2)⟩ (fun hHeld => ?_)
              clear hK K
              refine norm_ (a' := ?_) ?_ ?_
              rotate_left
              ·show Act.put _ (some 46) _ = _
               simp only [Act.put, List.setIfInBounds_toArray, List.set_cons_zero, List.set_cons_succ, i64_w, i32_w]
               rfl
              refine GS.pu 15 (some 47) HT_.out ?_
              refine GS.pu 16 (some 48) HT_.out ?_
              refine done_ (done_of HT_.out (by kernel_rfl)) ?_
              try go_wp2
              go_ret2
              exact ⟨by first | rfl | (simp [errW_none, errW_some] <;> rfl) | (simp only [← hji16]; first | rfl | (simp [errW_none, errW_some] <;> rfl)) | (simp [*, errW_none, errW_some] <;> rfl), GS.lB HB.out⟩
            ·rw [if_neg c18] at H
             exact absurd H (by simp)
           ·rw [if_neg c17] at H
            exact absurd H (by simp)
          ·rw [if_neg c15] at H
           have c15b0 : decide (0 < x4_2) = false := decide_eq_false c15
           clear c15
           have H' := Aside0.mk H
           clear H
           obtain ⟨hcz29_0, hcz29_1, hfz29_0, hfz29_1⟩ := GS.c2 BK468.out
           have p469 : 0 ≤ (x4_2 : Int) := of_decide_eq_true (by first | (with_reducible assumption) | assumption)
           have q469 : x4_2 < (l0_1.length : Int) := of_decide_eq_true (by first | (with_reducible assumption) | assumption)
           obtain ⟨ad469, e469, hx469_0, hx469_1, hx469_2⟩ := at_T60 HR0_1.out x4_2 p469 q469
           cases e469
           replace hx469_0 := (HB.out.cell (World.block_lt_of_cell? w _ hx469_0)).trans hx469_0
           replace hx469_1 := (HB.out.cell (World.block_lt_of_cell? w _ hx469_1)).trans hx469_1
           replace hx469_2 := (HB.out.cell (World.block_lt_of_cell? w _ hx469_2)).trans hx469_2
           replace p469 := eq_true p469
           replace q469 := eq_true q469
           try go_wp2_with (first | ((with_reducible refine gqC (f := 74) rfl ?_); refine GS.gL (some 29) Try.func74 #[.agg #[.int .i64 ((rd_T60 l0_1 x4_2).f0), .int .i64 ((rd_T60 l0_1 x4_2).f1), .int .i64 ((rd_T60 l0_1 x4_2).f2)]] ?_; (with_reducible refine (spileref46_right.calls ((rd_T60 l0_1 x4_2).f0) ((rd_T60 l0_1 x4_2).f1) ((rd_T60 l0_1 x4_2).f2) true _ A13.out).mono ?_); rintro e w30 ⟨rfl, hb⟩; refine ⟨_, rfl, ?_⟩; have n0_ := Aside0.mk (bqB (GS.bqX BK468.out) hb); have n1_ := Aside0.mk (lqT (GS.lB HB.out) hb); clear BK468; clear HB; have BK468 := n0_; have HB := n1_; clear n0_ n1_; (try clear hb); (try clear hb2); (try clear hk); (try clear hi)))
           have n0_ := Aside0.mk (bqD BK468.out)
           have n1_ := Aside0.mk (lqD HB.out)
           clear BK468
           clear HB
           have BK468 := n0_
           have HB := n1_
           clear n0_ n1_
           refine start_ (n := 17) (S := fun w' => True) (ds := []) #[false, false, false, false, false, false, false, false, false, false, false, false, false, false, false, false, false] (by kernel_rfl) rfl rfl trivial (fun hHeld => ?_); refine with_tabW spileref46_Check.tab10 spileref46_Check.bits10 (fun HT_ HW_ => ?_)
           generalize w30.drew = w31 at BK468 HB hHeld ⊢
           refine GS.pu 0 (some 32) HT_.out ?_
           refine GS.pu 1 (some 33) HT_.out ?_
           refine GS.pu 2 (some 34) HT_.out ?_
           refine GS.pn 3 (some 35) HT_.out ?_
           refine GS.pn 4 (some 36) HT_.out ?_
           refine GS.pn 5 (some 37) HT_.out ?_
           refine GS.pn 6 (some 38) HT_.out ?_
           refine GS.pn 7 (some 39) HT_.out ?_
           refine GS.pn 8 (some 40) HT_.out ?_
           refine GS.pn 9 (some 41) HT_.out ?_
           refine GS.pn 10 (some 42) HT_.out ?_
           refine GS.pn 11 (some 43) HT_.out ?_
           refine GS.pn 12 (some 44) HT_.out ?_
           refine GS.pn 13 (some 45) HT_.out ?_
           refine GS.pn 14 (some 46) HT_.out ?_
           refine GS.pn 15 (some 47) HT_.out ?_
           refine GS.pu 16 (some 48) HT_.out ?_
           refine done_ (done_of HT_.out (by kernel_rfl)) ?_
           try go_wp2
           go_roundg k2
           case measure => have := HJ1.out; have := HK2.out; omega
           case rel => exact ⟨(wrap64 (x4_2 + 1)), (by first | rfl | (simp; done) | (simp [*]; done)), H', ⟨by have := HJ1.out; have := HK2.out; omega⟩, ⟨GS.bqX BK468.out⟩, ⟨GS.lB HB.out⟩⟩
         ·replace c14 := Bool.eq_false_iff.mpr c14
          subst c14
          have H1 : (some (x4_2, 2)) = some (r1, r2) := by rw [if_neg (show ¬ (false = true) by decide)] at H; exact H
          clear H
          have H := H1
          clear H1
          simp only [Option.some.injEq, Prod.mk.injEq] at H
          obtain ⟨rfl, rfl⟩ := H
          obtain ⟨hcz32_0, hcz32_1, hfz32_0, hfz32_1⟩ := GS.c2 BK468.out
          have p469 : 0 ≤ (x4_2 : Int) := of_decide_eq_true (by first | (with_reducible assumption) | assumption)
          have q469 : x4_2 < (l0_1.length : Int) := of_decide_eq_true (by first | (with_reducible assumption) | assumption)
          obtain ⟨ad469, e469, hx469_0, hx469_1, hx469_2⟩ := at_T60 HR0_1.out x4_2 p469 q469
          cases e469
          replace hx469_0 := (HB.out.cell (World.block_lt_of_cell? w _ hx469_0)).trans hx469_0
          replace hx469_1 := (HB.out.cell (World.block_lt_of_cell? w _ hx469_1)).trans hx469_1
          replace hx469_2 := (HB.out.cell (World.block_lt_of_cell? w _ hx469_2)).trans hx469_2
          replace p469 := eq_true p469
          replace q469 := eq_true q469
          go_wp2_with (first | ((with_reducible refine gqC (f := 74) rfl ?_); refine GS.gL (some 29) Try.func74 #[.agg #[.int .i64 ((rd_T60 l0_1 x4_2).f0), .int .i64 ((rd_T60 l0_1 x4_2).f1), .int .i64 ((rd_T60 l0_1 x4_2).f2)]] ?_; (with_reducible refine (spileref46_right.calls ((rd_T60 l0_1 x4_2).f0) ((rd_T60 l0_1 x4_2).f1) ((rd_T60 l0_1 x4_2).f2) false _ A13.out).mono ?_); rintro e w33 ⟨rfl, hb⟩; refine ⟨_, rfl, ?_⟩; have n0_ := Aside0.mk (bqB (GS.bqX BK468.out) hb); have n1_ := Aside0.mk (lqT (GS.lB HB.out) hb); clear BK468; clear HB; have BK468 := n0_; have HB := n1_; clear n0_ n1_; (try clear hb); (try clear hb2); (try clear hk); (try clear hi)))
          go_ret2
          exact ⟨by first | rfl | (simp [errW_none, errW_some] <;> rfl) | (simp [*, errW_none, errW_some] <;> rfl), GS.lB HB.out⟩
        ·rw [if_neg c12] at H
         exact absurd H (by simp)
       ·rw [if_neg c11] at H
        have c11b0 : decide (x4_2 < (l0_1.length : Int)) = false := decide_eq_false c11
        clear c11
        simp only [Option.some.injEq, Prod.mk.injEq] at H
        obtain ⟨rfl, rfl⟩ := H
        obtain ⟨hcz34_0, hcz34_1, hfz34_0, hfz34_1⟩ := GS.c2 BK468.out
        go_wp2
        go_ret2
        exact ⟨by first | rfl | (simp [errW_none, errW_some] <;> rfl) | (simp [*, errW_none, errW_some] <;> rfl), GS.lB HB.out⟩

/-! ### spileref46_Right: function 46 -/
def spileref46_Right.f (k : Nat) (a0_0 : Int) (l0_1 : List (S60)) : Option (Bool) := (spileref46_Check.f k a0_0 l0_1).bind fun bt475 => (some (bt475.2 == 0))
theorem spileref46_Right.mono : ∀ a0 a1 k, LeO (spileref46_Right.f k a0 a1) (spileref46_Right.f (k + 1) a0 a1) := by
 intro a0 a1 k
 unfold spileref46_Right.f
 repeat' first
   | (with_reducible exact spileref46_Check.mono _ _ _)
   | (with_reducible exact LeO.refl _)
   | (with_reducible exact LeO.none _)
   | (with_reducible refine LeO.ite ?_ ?_)
   | (with_reducible refine LeO.bind ?_ (fun _ => ?_))
   | exact spileref46_Check.mono _ _ _
   | exact LeO.none _
   | refine LeO.ite ?_ ?_
   | refine LeO.bind ?_ (fun _ => ?_)
set_option maxHeartbeats 8000000 in
set_option maxRecDepth 100000 in
theorem spileref46_Right.calls (k : Nat) (a0_0 : Int) (A0_1 : Option Addr) (c0_1 : Nat) (l0_1 : List (S60)) (r : Bool) (w : World) (hr0_1 : Kd.C k60 w A0_1 l0_1.length l0_1) (hc0_1 : l0_1.length ≤ c0_1) (h : spileref46_Right.f k a0_0 l0_1 = some r) :
  Calls Try.prog 46 #[.agg #[.int .i64 a0_0, .slice A0_1 l0_1.length c0_1]] w fun e w' => e = .returned (.bool r) ∧ Below w.heap.size w w' := by
 have hu24 := Try.underlying24
 have HR0_1 := Aside0.mk hr0_1
 have HC0_1 := Aside0.mk hc0_1
 clear hr0_1 hc0_1
 have HB := Aside0.mk (Below.refl w.heap.size w)
 have H : ((spileref46_Check.f k a0_0 l0_1).bind fun bt475 => (some (bt475.2 == 0))) = some r := h
 clear h
 replace H := Option.bind_eq_some_iff.mp H
 obtain ⟨⟨t475, t476⟩, A20, H⟩ := H
 replace H : (some (t476 == 0)) = some r := H
 have A2 := Aside0.mk A20
 clear A20
 obtain rfl := Option.some.inj H
 go_enter Try.func46, Try.ntmps46
 go_wp2_with (first | ((with_reducible refine gqD (N := 1) rfl ?_); refine GS.bx (N := 1) (cs := #[.int .i64 a0_0, .slice A0_1 l0_1.length c0_1]) (t := 24) ?_; intro gb474 hg w3 hbox hb; have n0_ := Aside0.mk (lqT (GS.lB HB.out) hb); have n1_ := Aside0.mk (hbox); have n2_ := Aside0.mk ((by rw [hg]; exact (lqZ (GS.lB HB.out)) : w.heap.size ≤ gb474)); have n3_ := Aside0.mk ((by rw [hg]; exact (lqZ (GS.lB HB.out)) : w.heap.size ≤ gb474)); clear HB; have HB := n0_; have BK474 := n1_; have GW474 := n2_; have GE474 := n3_; clear n0_ n1_ n2_ n3_; clear hb hbox hg; obtain ⟨hcz4_0, hcz4_1, hfz4_0, hfz4_1⟩ := GS.c2 BK474.out) | ((with_reducible refine gqC (f := 61) rfl ?_); refine GS.gL (some 7) Try.func61 #[.agg #[.int .i64 a0_0, .slice A0_1 l0_1.length c0_1]] ?_; (with_reducible refine (spileref46_Check.calls k a0_0 _ _ l0_1 t475 t476 _ ?side1 ?side2 A2.out).mono ?_); (case side1 => exact GS.rC (Kd.C_below HR0_1.out HB.out)); (case side2 => exact HC0_1.out); rintro e w5 ⟨rfl, hb⟩; refine ⟨_, rfl, ?_⟩; have n0_ := Aside0.mk (bqB (GS.bqX BK474.out) hb); have n1_ := Aside0.mk (lqT (GS.lB HB.out) hb); clear BK474; clear HB; have BK474 := n0_; have HB := n1_; clear n0_ n1_; (try clear hb); (try clear hb2); (try clear hk); (try clear hi)))
 go_ret
 exact ⟨by first | rfl | (simp [errW_none, errW_some] <;> rfl) | (simp [*, errW_none, errW_some] <;> rfl), GS.lB HB.out⟩

end Go.Proofs.Ythboaobgipodiaa.K
