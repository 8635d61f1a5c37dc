-- PRINTED by print.py (a twelfth state) out of the translation. Not trusted: Lean checks it.
import Derived.Test.YtfafeeobjlkjnaaK0
import Derived.Test.YtfafeeobjlkjnaaGShort
import Derived.Test.YtfafeeobjlkjnaaGTwo
import Derived.Test.YtfafeeobjlkjnaaGSym
import Derived.Test.YtfafeeobjlkjnaaK2
import Derived.Test.YtfafeeobjlkjnaaK9
import Derived.Test.YtfafeeobjlkjnaaK10
import Derived.Test.YtfafeeobjlkjnaaK12
namespace Go.Proofs.Ytfafeeobjlkjnaa.K
open Go.RowKit Go.Proofs.YtfafeeobjlkjnaaW.PrintWords Go.Proofs.YtfafeeobjlkjnaaW.PrintLast Go.Proofs.YtfafeeobjlkjnaaW.PrintMore
attribute [local go_sem] max2_int min2_int max_two min_two max_three min_three max_four min_four   -- for this text's walks alone
set_option linter.unusedVariables false
set_option linter.unusedSimpArgs false

attribute [local go_sem high] eqA33
/-! ### spileref42_Send: function 16 -/
def spileref42_Send.f (k : Nat) (a0_0 : Int) (a0_1 : Int) (l0_2 : List (S33)) (a1 : Int) (a2_0 : Int) (a2_1 : Int) (a2_2 : Int) (a2_3 : Int) (a2_4 : Int) (a2_5 : Int) (a2_6 : Int) : Option (Int × Int × (List (S33)) × Int × Int × Int × Int × Int × Int × Int × Int × Int × Int × Int) := (spileref42_Check.f k a0_0 a0_1 l0_2).bind fun t250 => (if t250 = 0 then ((spileref40_Node.f a1).bind fun t251 => (if t251 = true then (if a1 = a0_0 then (some (0, 0, ([] : List (S33)), 0, 0, 0, 0, 0, 0, 0, 0, 0, 0, 10)) else ((spileref40_Check.f k a2_0 a2_1 a2_2 a2_3 a2_4 a2_5 a2_6).bind fun t252 => (if t252 = 0 then (if (l0_2.length : Int) = 64 then (some (0, 0, ([] : List (S33)), 0, 0, 0, 0, 0, 0, 0, 0, 0, 0, 12)) else (if a0_1 > 1073741824 then (some (0, 0, ([] : List (S33)), 0, 0, 0, 0, 0, 0, 0, 0, 0, 0, 15)) else ((spileref42_Copy.f a0_0 a0_1 l0_2).bind fun bt254 => (if bt254.2.2.length < 1759218604441 then (some (bt254.1, wrap64 (a0_1 + 1), (bt254.2.2 ++ [(⟨a0_0, a1, a0_1, (⟨a2_0, a2_1, a2_2, a2_3, a2_4, a2_5, a2_6⟩ : S26)⟩ : S33)]), a0_0, a1, a0_1, a2_0, a2_1, a2_2, a2_3, a2_4, a2_5, a2_6, 0)) else (none))))) else (some (0, 0, ([] : List (S33)), 0, 0, 0, 0, 0, 0, 0, 0, 0, 0, 11))))) else (some (0, 0, ([] : List (S33)), 0, 0, 0, 0, 0, 0, 0, 0, 0, 0, 2)))) else (some (0, 0, ([] : List (S33)), 0, 0, 0, 0, 0, 0, 0, 0, 0, 0, 1)))
theorem spileref42_Send.mono : ∀ a0 a1 a2 a3 a4 a5 a6 a7 a8 a9 a10 k, LeO (spileref42_Send.f k a0 a1 a2 a3 a4 a5 a6 a7 a8 a9 a10) (spileref42_Send.f (k + 1) a0 a1 a2 a3 a4 a5 a6 a7 a8 a9 a10) := by
 intro a0 a1 a2 a3 a4 a5 a6 a7 a8 a9 a10 k
 unfold spileref42_Send.f
 repeat' first
   | (with_reducible exact spileref40_Check.mono _ _ _ _ _ _ _ _)
   | (with_reducible exact spileref42_Check.mono _ _ _ _)
   | (with_reducible exact LeO.refl _)
   | (with_reducible exact LeO.none _)
   | (with_reducible refine LeO.ite ?_ ?_)
   | (with_reducible refine LeO.bind ?_ (fun _ => ?_))
   | exact spileref40_Check.mono _ _ _ _ _ _ _ _
   | exact spileref42_Check.mono _ _ _ _
   | exact LeO.none _
   | refine LeO.ite ?_ ?_
   | refine LeO.bind ?_ (fun _ => ?_)
set_option maxHeartbeats 8000000 in
set_option maxRecDepth 100000 in
theorem spileref42_Send.calls (k : Nat) (a0_0 : Int) (a0_1 : Int) (A0_2 : Option Addr) (c0_2 : Nat) (l0_2 : List (S33)) (a1 : Int) (a2_0 : Int) (a2_1 : Int) (a2_2 : Int) (a2_3 : Int) (a2_4 : Int) (a2_5 : Int) (a2_6 : Int) (r1 : Int) (r2 : Int) (r3 : List (S33)) (r4 : Int) (r5 : Int) (r6 : Int) (r7 : Int) (r8 : Int) (r9 : Int) (r10 : Int) (r11 : Int) (r12 : Int) (r13 : Int) (r14 : Int) (w : World) (hr0_2 : Kd.C k33 w A0_2 l0_2.length l0_2) (hc0_2 : l0_2.length ≤ c0_2) (h : spileref42_Send.f k a0_0 a0_1 l0_2 a1 a2_0 a2_1 a2_2 a2_3 a2_4 a2_5 a2_6 = some (r1, r2, r3, r4, r5, r6, r7, r8, r9, r10, r11, r12, r13, r14)) :
  Calls Try.prog 16 #[.agg #[.int .i64 a0_0, .int .i64 a0_1, .slice A0_2 l0_2.length c0_2], .int .i64 a1, .agg #[.int .i64 a2_0, .int .i64 a2_1, .int .i64 a2_2, .int .i64 a2_3, .int .i64 a2_4, .int .i64 a2_5, .int .i64 a2_6]] w fun e w' => ∃ v2_ : Value, e = .returned (.tuple #[.agg #[.int .i64 r1, .int .i64 r2, v2_], .agg #[.int .i64 r4, .int .i64 r5, .int .i64 r6, .int .i64 r7, .int .i64 r8, .int .i64 r9, .int .i64 r10, .int .i64 r11, .int .i64 r12, .int .i64 r13], .int .i64 r14]) ∧ Kd.R k33 33 w' w.heap.size (fun _ => True) v2_ r3 ∧ Below w.heap.size w w' := by
 have hu24 := Try.underlying24
 have hu26 := Try.underlying26
 have hu33 := Try.underlying33
 have HR0_2 := Aside0.mk hr0_2
 have HC0_2 := Aside0.mk hc0_2
 clear hr0_2 hc0_2
 have HB := Aside0.mk (Below.refl w.heap.size w)
 have H : ((spileref42_Check.f k a0_0 a0_1 l0_2).bind fun t250 => (if t250 = 0 then ((spileref40_Node.f a1).bind fun t251 => (if t251 = true then (if a1 = a0_0 then (some (0, 0, ([] : List (S33)), 0, 0, 0, 0, 0, 0, 0, 0, 0, 0, 10)) else ((spileref40_Check.f k a2_0 a2_1 a2_2 a2_3 a2_4 a2_5 a2_6).bind fun t252 => (if t252 = 0 then (if (l0_2.length : Int) = 64 then (some (0, 0, ([] : List (S33)), 0, 0, 0, 0, 0, 0, 0, 0, 0, 0, 12)) else (if a0_1 > 1073741824 then (some (0, 0, ([] : List (S33)), 0, 0, 0, 0, 0, 0, 0, 0, 0, 0, 15)) else ((spileref42_Copy.f a0_0 a0_1 l0_2).bind fun bt254 => (if bt254.2.2.length < 1759218604441 then (some (bt254.1, wrap64 (a0_1 + 1), (bt254.2.2 ++ [(⟨a0_0, a1, a0_1, (⟨a2_0, a2_1, a2_2, a2_3, a2_4, a2_5, a2_6⟩ : S26)⟩ : S33)]), a0_0, a1, a0_1, a2_0, a2_1, a2_2, a2_3, a2_4, a2_5, a2_6, 0)) else (none))))) else (some (0, 0, ([] : List (S33)), 0, 0, 0, 0, 0, 0, 0, 0, 0, 0, 11))))) else (some (0, 0, ([] : List (S33)), 0, 0, 0, 0, 0, 0, 0, 0, 0, 0, 2)))) else (some (0, 0, ([] : List (S33)), 0, 0, 0, 0, 0, 0, 0, 0, 0, 0, 1)))) = some (r1, r2, r3, r4, r5, r6, r7, r8, r9, r10, r11, r12, r13, r14) := h
 clear h
 replace H := Option.bind_eq_some_iff.mp H
 obtain ⟨t250, A40, H⟩ := H
 replace H : (if t250 = 0 then ((spileref40_Node.f a1).bind fun t251 => (if t251 = true then (if a1 = a0_0 then (some (0, 0, ([] : List (S33)), 0, 0, 0, 0, 0, 0, 0, 0, 0, 0, 10)) else ((spileref40_Check.f k a2_0 a2_1 a2_2 a2_3 a2_4 a2_5 a2_6).bind fun t252 => (if t252 = 0 then (if (l0_2.length : Int) = 64 then (some (0, 0, ([] : List (S33)), 0, 0, 0, 0, 0, 0, 0, 0, 0, 0, 12)) else (if a0_1 > 1073741824 then (some (0, 0, ([] : List (S33)), 0, 0, 0, 0, 0, 0, 0, 0, 0, 0, 15)) else ((spileref42_Copy.f a0_0 a0_1 l0_2).bind fun bt254 => (if bt254.2.2.length < 1759218604441 then (some (bt254.1, wrap64 (a0_1 + 1), (bt254.2.2 ++ [(⟨a0_0, a1, a0_1, (⟨a2_0, a2_1, a2_2, a2_3, a2_4, a2_5, a2_6⟩ : S26)⟩ : S33)]), a0_0, a1, a0_1, a2_0, a2_1, a2_2, a2_3, a2_4, a2_5, a2_6, 0)) else (none))))) else (some (0, 0, ([] : List (S33)), 0, 0, 0, 0, 0, 0, 0, 0, 0, 0, 11))))) else (some (0, 0, ([] : List (S33)), 0, 0, 0, 0, 0, 0, 0, 0, 0, 0, 2)))) else (some (0, 0, ([] : List (S33)), 0, 0, 0, 0, 0, 0, 0, 0, 0, 0, 1))) = some (r1, r2, r3, r4, r5, r6, r7, r8, r9, r10, r11, r12, r13, r14) := H
 have A4 := Aside0.mk A40
 clear A40
 by_cases c5 : t250 = 0
 ·rw [if_pos c5] at H
  have c5b0 : (t250 == 0) = true := beq_iff_eq.mpr c5
  try simp only [beq_self_eq_true, Bool.not_true, Bool.false_or, Bool.true_and] at c5b0
  have c5b1 : (t250 != 0) = false := bne_eq_false_iff_eq.mpr c5
  clear c5
  replace H := Option.bind_eq_some_iff.mp H
  obtain ⟨t251, A60, H⟩ := H
  replace H : (if t251 = true then (if a1 = a0_0 then (some (0, 0, ([] : List (S33)), 0, 0, 0, 0, 0, 0, 0, 0, 0, 0, 10)) else ((spileref40_Check.f k a2_0 a2_1 a2_2 a2_3 a2_4 a2_5 a2_6).bind fun t252 => (if t252 = 0 then (if (l0_2.length : Int) = 64 then (some (0, 0, ([] : List (S33)), 0, 0, 0, 0, 0, 0, 0, 0, 0, 0, 12)) else (if a0_1 > 1073741824 then (some (0, 0, ([] : List (S33)), 0, 0, 0, 0, 0, 0, 0, 0, 0, 0, 15)) else ((spileref42_Copy.f a0_0 a0_1 l0_2).bind fun bt254 => (if bt254.2.2.length < 1759218604441 then (some (bt254.1, wrap64 (a0_1 + 1), (bt254.2.2 ++ [(⟨a0_0, a1, a0_1, (⟨a2_0, a2_1, a2_2, a2_3, a2_4, a2_5, a2_6⟩ : S26)⟩ : S33)]), a0_0, a1, a0_1, a2_0, a2_1, a2_2, a2_3, a2_4, a2_5, a2_6, 0)) else (none))))) else (some (0, 0, ([] : List (S33)), 0, 0, 0, 0, 0, 0, 0, 0, 0, 0, 11))))) else (some (0, 0, ([] : List (S33)), 0, 0, 0, 0, 0, 0, 0, 0, 0, 0, 2))) = some (r1, r2, r3, r4, r5, r6, r7, r8, r9, r10, r11, r12, r13, r14) := H
  have A6 := Aside0.mk A60
  clear A60
  by_cases c7 : t251 = true
  ·subst c7
   have H1 : (if a1 = a0_0 then (some (0, 0, ([] : List (S33)), 0, 0, 0, 0, 0, 0, 0, 0, 0, 0, 10)) else ((spileref40_Check.f k a2_0 a2_1 a2_2 a2_3 a2_4 a2_5 a2_6).bind fun t252 => (if t252 = 0 then (if (l0_2.length : Int) = 64 then (some (0, 0, ([] : List (S33)), 0, 0, 0, 0, 0, 0, 0, 0, 0, 0, 12)) else (if a0_1 > 1073741824 then (some (0, 0, ([] : List (S33)), 0, 0, 0, 0, 0, 0, 0, 0, 0, 0, 15)) else ((spileref42_Copy.f a0_0 a0_1 l0_2).bind fun bt254 => (if bt254.2.2.length < 1759218604441 then (some (bt254.1, wrap64 (a0_1 + 1), (bt254.2.2 ++ [(⟨a0_0, a1, a0_1, (⟨a2_0, a2_1, a2_2, a2_3, a2_4, a2_5, a2_6⟩ : S26)⟩ : S33)]), a0_0, a1, a0_1, a2_0, a2_1, a2_2, a2_3, a2_4, a2_5, a2_6, 0)) else (none))))) else (some (0, 0, ([] : List (S33)), 0, 0, 0, 0, 0, 0, 0, 0, 0, 0, 11))))) = some (r1, r2, r3, r4, r5, r6, r7, r8, r9, r10, r11, r12, r13, r14) := by rw [if_pos rfl] at H; exact H
   clear H
   have H := H1
   clear H1
   by_cases c8 : a1 = a0_0
   ·rw [if_pos c8] at H
    have c8b0 : (a1 == a0_0) = true := beq_iff_eq.mpr c8
    try simp only [beq_self_eq_true, Bool.not_true, Bool.false_or, Bool.true_and] at c8b0
    have c8b1 : (a1 != a0_0) = false := bne_eq_false_iff_eq.mpr c8
    clear c8
    simp only [Option.some.injEq, Prod.mk.injEq] at H
    obtain ⟨rfl, rfl, rfl, rfl, rfl, rfl, rfl, rfl, rfl, rfl, rfl, rfl, rfl, rfl⟩ := H
    go_enter Try.func16, Try.ntmps16
    go_wp2_with (first | ((with_reducible refine gqD (N := 3) rfl ?_); refine GS.bx (N := 3) (cs := #[.int .i64 a0_0, .int .i64 a0_1, .slice A0_2 l0_2.length c0_2]) (t := 24) ?_; intro gb246 hg w9 hbox hb; have n0_ := Aside0.mk (lqT (GS.lB HB.out) hb); have n1_ := Aside0.mk (hbox); have n2_ := Aside0.mk ((by rw [hg]; exact (lqZ (GS.lB HB.out)) : w.heap.size ≤ gb246)); have n3_ := Aside0.mk ((by rw [hg]; exact (lqZ (GS.lB HB.out)) : w.heap.size ≤ gb246)); clear HB; have HB := n0_; have BK246 := n1_; have GW246 := n2_; have GE246 := n3_; clear n0_ n1_ n2_ n3_; clear hb hbox hg) | ((with_reducible refine gqD (N := 5) rfl ?_); refine GS.bx (N := 5) (cs := #[.int .i64 a2_0, .int .i64 a2_1, .int .i64 a2_2, .int .i64 a2_3, .int .i64 a2_4, .int .i64 a2_5, .int .i64 a2_6]) (t := 26) ?_; intro gb247 hg w10 hbox hb; have n0_ := Aside0.mk (bqB (GS.bqX BK246.out) hb); have n1_ := Aside0.mk (lqT (GS.lB HB.out) hb); have n2_ := Aside0.mk (hbox); have n3_ := Aside0.mk ((by rw [hg]; exact (lqZ (GS.lB HB.out)) : w.heap.size ≤ gb247)); have n4_ := Aside0.mk ((by rw [hg]; exact (lqZ (GS.lB HB.out)) : w.heap.size ≤ gb247)); have n5_ := Aside0.mk ((by rw [hg]; exact Nat.ne_of_lt (blk_lt (GS.bqX BK246.out)) : gb246 ≠ gb247)); have n6_ := Aside0.mk ((by rw [hg]; exact Nat.ne_of_gt (blk_lt (GS.bqX BK246.out)) : gb247 ≠ gb246)); clear BK246; clear HB; have BK246 := n0_; have HB := n1_; have BK247 := n2_; have GW247 := n3_; have GE247 := n4_; have NB246_247 := n5_; have NB247_246 := n6_; clear n0_ n1_ n2_ n3_ n4_ n5_ n6_; clear hb hbox hg) | ((with_reducible refine gqD (N := 6) rfl ?_); refine GS.bx (N := 6) (cs := #[.int .i64 0, .int .i64 0, .slice none 0 0]) (t := 24) ?_; intro gb248 hg w11 hbox hb; have n0_ := Aside0.mk (bqB (GS.bqX BK246.out) hb); have n1_ := Aside0.mk (bqB (GS.bqX BK247.out) hb); have n2_ := Aside0.mk (lqT (GS.lB HB.out) hb); have n3_ := Aside0.mk (hbox); have n4_ := Aside0.mk ((by rw [hg]; exact (lqZ (GS.lB HB.out)) : w.heap.size ≤ gb248)); have n5_ := Aside0.mk ((by rw [hg]; exact (lqZ (GS.lB HB.out)) : w.heap.size ≤ gb248)); have n6_ := Aside0.mk ((by rw [hg]; exact Nat.ne_of_lt (blk_lt (GS.bqX BK246.out)) : gb246 ≠ gb248)); have n7_ := Aside0.mk ((by rw [hg]; exact Nat.ne_of_gt (blk_lt (GS.bqX BK246.out)) : gb248 ≠ gb246)); have n8_ := Aside0.mk ((by rw [hg]; exact Nat.ne_of_lt (blk_lt (GS.bqX BK247.out)) : gb247 ≠ gb248)); have n9_ := Aside0.mk ((by rw [hg]; exact Nat.ne_of_gt (blk_lt (GS.bqX BK247.out)) : gb248 ≠ gb247)); clear BK246; clear BK247; clear HB; have BK246 := n0_; have BK247 := n1_; have HB := n2_; have BK248 := n3_; have GW248 := n4_; have GE248 := n5_; have NB246_248 := n6_; have NB248_246 := n7_; have NB247_248 := n8_; have NB248_247 := n9_; clear n0_ n1_ n2_ n3_ n4_ n5_ n6_ n7_ n8_ n9_; clear hb hbox hg) | ((with_reducible refine gqD (N := 7) rfl ?_); refine GS.bx (N := 7) (cs := #[.int .i64 0, .int .i64 0, .int .i64 0, .int .i64 0, .int .i64 0, .int .i64 0, .int .i64 0, .int .i64 0, .int .i64 0, .int .i64 0]) (t := 33) ?_; intro gb249 hg w12 hbox hb; have n0_ := Aside0.mk (bqB (GS.bqX BK246.out) hb); have n1_ := Aside0.mk (bqB (GS.bqX BK247.out) hb); have n2_ := Aside0.mk (bqB (GS.bqX BK248.out) hb); have n3_ := Aside0.mk (lqT (GS.lB HB.out) hb); have n4_ := Aside0.mk (hbox); have n5_ := Aside0.mk ((by rw [hg]; exact (lqZ (GS.lB HB.out)) : w.heap.size ≤ gb249)); have n6_ := Aside0.mk ((by rw [hg]; exact (lqZ (GS.lB HB.out)) : w.heap.size ≤ gb249)); have n7_ := Aside0.mk ((by rw [hg]; exact Nat.ne_of_lt (blk_lt (GS.bqX BK246.out)) : gb246 ≠ gb249)); have n8_ := Aside0.mk ((by rw [hg]; exact Nat.ne_of_gt (blk_lt (GS.bqX BK246.out)) : gb249 ≠ gb246)); have n9_ := Aside0.mk ((by rw [hg]; exact Nat.ne_of_lt (blk_lt (GS.bqX BK247.out)) : gb247 ≠ gb249)); have n10_ := Aside0.mk ((by rw [hg]; exact Nat.ne_of_gt (blk_lt (GS.bqX BK247.out)) : gb249 ≠ gb247)); have n11_ := Aside0.mk ((by rw [hg]; exact Nat.ne_of_lt (blk_lt (GS.bqX BK248.out)) : gb248 ≠ gb249)); have n12_ := Aside0.mk ((by rw [hg]; exact Nat.ne_of_gt (blk_lt (GS.bqX BK248.out)) : gb249 ≠ gb248)); clear BK246; clear BK247; clear BK248; clear HB; have BK246 := n0_; have BK247 := n1_; have BK248 := n2_; have HB := n3_; have BK249 := n4_; have GW249 := n5_; have GE249 := n6_; have NB246_249 := n7_; have NB249_246 := n8_; have NB247_249 := n9_; have NB249_247 := n10_; have NB248_249 := n11_; have NB249_248 := n12_; clear n0_ n1_ n2_ n3_ n4_ n5_ n6_ n7_ n8_ n9_ n10_ n11_ n12_; clear hb hbox hg; have hnb13 := NB246_247.out; have hnc13 := NB247_246.out; have hnb14 := NB246_248.out; have hnc14 := NB248_246.out; have hnb15 := NB246_249.out; have hnc15 := NB249_246.out; obtain ⟨hcz16_0, hcz16_1, hcz16_2, hfz16_0, hfz16_1, hfz16_2⟩ := GS.c3 BK246.out) | ((with_reducible refine gqC (f := 18) rfl ?_); refine GS.gL (some 12) Try.func18 #[.agg #[.int .i64 a0_0, .int .i64 a0_1, .slice A0_2 l0_2.length c0_2]] ?_; (with_reducible refine (spileref42_Check.calls k a0_0 a0_1 _ _ l0_2 t250 _ ?side1 ?side2 A4.out).mono ?_); (case side1 => exact GS.rC (Kd.C_below HR0_2.out HB.out)); (case side2 => exact HC0_2.out); rintro e w17 ⟨rfl, hb⟩; refine ⟨_, rfl, ?_⟩; have n0_ := Aside0.mk (bqB (GS.bqX BK246.out) hb); have n1_ := Aside0.mk (bqB (GS.bqX BK247.out) hb); have n2_ := Aside0.mk (bqB (GS.bqX BK248.out) hb); have n3_ := Aside0.mk (bqB (GS.bqX BK249.out) hb); have n4_ := Aside0.mk (lqT (GS.lB HB.out) hb); clear BK246; clear BK247; clear BK248; clear BK249; clear HB; have BK246 := n0_; have BK247 := n1_; have BK248 := n2_; have BK249 := n3_; have HB := n4_; clear n0_ n1_ n2_ n3_ n4_; (try clear hb); (try clear hb2); (try clear hk); (try clear hi)) | ((with_reducible refine gqC (f := 41) rfl ?_); refine GS.gL (some 17) Try.func41 #[.int .i64 a1] ?_; (with_reducible refine (spileref40_Node.calls a1 true _ A6.out).mono ?_); rintro e w' ⟨rfl, ⟨nd, rfl⟩⟩; refine ⟨_, rfl, ?_⟩; (try (rw [drewN_self w17]; generalize hq_ : World.drewN w17 _ = w17; have n0_ : Aside0 (w17.heap[gb246]? = some (.cells #[.int .i64 a0_0, .int .i64 a0_1, .slice A0_2 l0_2.length c0_2] 24 (0, 0))) := ⟨by rw [← hq_]; exact (GS.bqX BK246.out)⟩; have n1_ : Aside0 (w17.heap[gb247]? = some (.cells #[.int .i64 a2_0, .int .i64 a2_1, .int .i64 a2_2, .int .i64 a2_3, .int .i64 a2_4, .int .i64 a2_5, .int .i64 a2_6] 26 (0, 0))) := ⟨by rw [← hq_]; exact (GS.bqX BK247.out)⟩; have n2_ : Aside0 (w17.heap[gb248]? = some (.cells #[.int .i64 0, .int .i64 0, .slice none 0 0] 24 (0, 0))) := ⟨by rw [← hq_]; exact (GS.bqX BK248.out)⟩; have n3_ : Aside0 (w17.heap[gb249]? = some (.cells #[.int .i64 0, .int .i64 0, .int .i64 0, .int .i64 0, .int .i64 0, .int .i64 0, .int .i64 0, .int .i64 0, .int .i64 0, .int .i64 0] 33 (0, 0))) := ⟨by rw [← hq_]; exact (GS.bqX BK249.out)⟩; have n4_ : Aside0 (Below w.heap.size w w17) := ⟨by rw [← hq_]; exact (GS.lB HB.out)⟩; clear BK246 BK247 BK248 BK249 HB hq_; have BK246 := n0_; have BK247 := n1_; have BK248 := n2_; have BK249 := n3_; have HB := n4_; clear n0_ n1_ n2_ n3_ n4_)); obtain ⟨hcz18_0, hcz18_1, hcz18_2, hfz18_0, hfz18_1, hfz18_2⟩ := GS.c3 BK246.out; have hnb19 := NB248_247.out; have hnc19 := NB247_248.out; have hnb20 := NB248_249.out; have hnc20 := NB249_248.out; obtain ⟨hcz21_0, hcz21_1, hcz21_2, hfz21_0, hfz21_1, hfz21_2⟩ := GS.c3 BK248.out; have hnb22 := NB249_247.out; have hnc22 := NB247_249.out; obtain ⟨hcz23_0, hcz23_1, hcz23_2, hcz23_3, hcz23_4, hcz23_5, hcz23_6, hcz23_7, hcz23_8, hcz23_9, hfz23_0, hfz23_1, hfz23_2, hfz23_3, hfz23_4, hfz23_5, hfz23_6, hfz23_7, hfz23_8, hfz23_9⟩ := GS.c10 BK249.out))
    refine bodyPost_ret (results_list (rs := [.cell 6 24, .cell 7 33, .tmp 8]) rfl (by simp) (.cell gb248 24 #[.int .i64 0, .int .i64 0, .slice none 0 0] (0, 0) _ rfl (GS.bqZ BK248.out) Try.underlying24 rfl (by kernel_rfl) (.cell gb249 33 #[.int .i64 0, .int .i64 0, .int .i64 0, .int .i64 0, .int .i64 0, .int .i64 0, .int .i64 0, .int .i64 0, .int .i64 0, .int .i64 0] (0, 0) _ rfl (GS.bqZ BK249.out) Try.underlying33 rfl (by kernel_rfl) (.tmp .nil)))) rfl ?_
    exact ⟨_, by first | rfl | (simp [errW_none, errW_some] <;> rfl) | (simp [*, errW_none, errW_some] <;> rfl), by first | exact Kd.R_nil _ _ _ _ _ | exact Kd.N_nil _ _ _ _ _ | exact Kd.V_nil _ _ _ _ _ | exact Kd.Q_nil _ _ _ _ _ | exact Kd.S_nil _ _ _ _ _, GS.lB HB.out⟩
   ·rw [if_neg c8] at H
    have c8b0 : (a1 == a0_0) = false := beq_eq_false_iff_ne.mpr c8
    try simp only [beq_self_eq_true, Bool.not_true, Bool.false_or, Bool.true_and] at c8b0
    have c8b1 : (a1 != a0_0) = true := bne_iff_ne.mpr c8
    replace H := Option.bind_eq_some_iff.mp H
    obtain ⟨t252, A240, H⟩ := H
    replace H : (if t252 = 0 then (if (l0_2.length : Int) = 64 then (some (0, 0, ([] : List (S33)), 0, 0, 0, 0, 0, 0, 0, 0, 0, 0, 12)) else (if a0_1 > 1073741824 then (some (0, 0, ([] : List (S33)), 0, 0, 0, 0, 0, 0, 0, 0, 0, 0, 15)) else ((spileref42_Copy.f a0_0 a0_1 l0_2).bind fun bt254 => (if bt254.2.2.length < 1759218604441 then (some (bt254.1, wrap64 (a0_1 + 1), (bt254.2.2 ++ [(⟨a0_0, a1, a0_1, (⟨a2_0, a2_1, a2_2, a2_3, a2_4, a2_5, a2_6⟩ : S26)⟩ : S33)]), a0_0, a1, a0_1, a2_0, a2_1, a2_2, a2_3, a2_4, a2_5, a2_6, 0)) else (none))))) else (some (0, 0, ([] : List (S33)), 0, 0, 0, 0, 0, 0, 0, 0, 0, 0, 11))) = some (r1, r2, r3, r4, r5, r6, r7, r8, r9, r10, r11, r12, r13, r14) := H
    have A24 := Aside0.mk A240
    clear A240
    by_cases c25 : t252 = 0
    ·rw [if_pos c25] at H
     have c25b0 : (t252 == 0) = true := beq_iff_eq.mpr c25
     try simp only [beq_self_eq_true, Bool.not_true, Bool.false_or, Bool.true_and] at c25b0
     have c25b1 : (t252 != 0) = false := bne_eq_false_iff_eq.mpr c25
     clear c25
     by_cases c26 : (l0_2.length : Int) = 64
     ·rw [if_pos c26] at H
      have c26b0 : ((l0_2.length : Int) == 64) = true := beq_iff_eq.mpr c26
      try simp only [beq_self_eq_true, Bool.not_true, Bool.false_or, Bool.true_and] at c26b0
      have c26b1 : ((l0_2.length : Int) != 64) = false := bne_eq_false_iff_eq.mpr c26
      clear c26
      simp only [Option.some.injEq, Prod.mk.injEq] at H
      obtain ⟨rfl, rfl, rfl, rfl, rfl, rfl, rfl, rfl, rfl, rfl, rfl, rfl, rfl, rfl⟩ := H
      go_enter Try.func16, Try.ntmps16
      go_wp2_with (first | ((with_reducible refine gqD (N := 3) rfl ?_); refine GS.bx (N := 3) (cs := #[.int .i64 a0_0, .int .i64 a0_1, .slice A0_2 l0_2.length c0_2]) (t := 24) ?_; intro gb246 hg w27 hbox hb; have n0_ := Aside0.mk (lqT (GS.lB HB.out) hb); have n1_ := Aside0.mk (hbox); have n2_ := Aside0.mk ((by rw [hg]; exact (lqZ (GS.lB HB.out)) : w.heap.size ≤ gb246)); have n3_ := Aside0.mk ((by rw [hg]; exact (lqZ (GS.lB HB.out)) : w.heap.size ≤ gb246)); clear HB; have HB := n0_; have BK246 := n1_; have GW246 := n2_; have GE246 := n3_; clear n0_ n1_ n2_ n3_; clear hb hbox hg) | ((with_reducible refine gqD (N := 5) rfl ?_); refine GS.bx (N := 5) (cs := #[.int .i64 a2_0, .int .i64 a2_1, .int .i64 a2_2, .int .i64 a2_3, .int .i64 a2_4, .int .i64 a2_5, .int .i64 a2_6]) (t := 26) ?_; intro gb247 hg w28 hbox hb; have n0_ := Aside0.mk (bqB (GS.bqX BK246.out) hb); have n1_ := Aside0.mk (lqT (GS.lB HB.out) hb); have n2_ := Aside0.mk (hbox); have n3_ := Aside0.mk ((by rw [hg]; exact (lqZ (GS.lB HB.out)) : w.heap.size ≤ gb247)); have n4_ := Aside0.mk ((by rw [hg]; exact (lqZ (GS.lB HB.out)) : w.heap.size ≤ gb247)); have n5_ := Aside0.mk ((by rw [hg]; exact Nat.ne_of_lt (blk_lt (GS.bqX BK246.out)) : gb246 ≠ gb247)); have n6_ := Aside0.mk ((by rw [hg]; exact Nat.ne_of_gt (blk_lt (GS.bqX BK246.out)) : gb247 ≠ gb246)); clear BK246; clear HB; have BK246 := n0_; have HB := n1_; have BK247 := n2_; have GW247 := n3_; have GE247 := n4_; have NB246_247 := n5_; have NB247_246 := n6_; clear n0_ n1_ n2_ n3_ n4_ n5_ n6_; clear hb hbox hg) | ((with_reducible refine gqD (N := 6) rfl ?_); refine GS.bx (N := 6) (cs := #[.int .i64 0, .int .i64 0, .slice none 0 0]) (t := 24) ?_; intro gb248 hg w29 hbox hb; have n0_ := Aside0.mk (bqB (GS.bqX BK246.out) hb); have n1_ := Aside0.mk (bqB (GS.bqX BK247.out) hb); have n2_ := Aside0.mk (lqT (GS.lB HB.out) hb); have n3_ := Aside0.mk (hbox); have n4_ := Aside0.mk ((by rw [hg]; exact (lqZ (GS.lB HB.out)) : w.heap.size ≤ gb248)); have n5_ := Aside0.mk ((by rw [hg]; exact (lqZ (GS.lB HB.out)) : w.heap.size ≤ gb248)); have n6_ := Aside0.mk ((by rw [hg]; exact Nat.ne_of_lt (blk_lt (GS.bqX BK246.out)) : gb246 ≠ gb248)); have n7_ := Aside0.mk ((by rw [hg]; exact Nat.ne_of_gt (blk_lt (GS.bqX BK246.out)) : gb248 ≠ gb246)); have n8_ := Aside0.mk ((by rw [hg]; exact Nat.ne_of_lt (blk_lt (GS.bqX BK247.out)) : gb247 ≠ gb248)); have n9_ := Aside0.mk ((by rw [hg]; exact Nat.ne_of_gt (blk_lt (GS.bqX BK247.out)) : gb248 ≠ gb247)); clear BK246; clear BK247; clear HB; have BK246 := n0_; have BK247 := n1_; have HB := n2_; have BK248 := n3_; have GW248 := n4_; have GE248 := n5_; have NB246_248 := n6_; have NB248_246 := n7_; have NB247_248 := n8_; have NB248_247 := n9_; clear n0_ n1_ n2_ n3_ n4_ n5_ n6_ n7_ n8_ n9_; clear hb hbox hg) | ((with_reducible refine gqD (N := 7) rfl ?_); refine GS.bx (N := 7) (cs := #[.int .i64 0, .int .i64 0, .int .i64 0, .int .i64 0, .int .i64 0, .int .i64 0, .int .i64 0, .int .i64 0, .int .i64 0, .int .i64 0]) (t := 33) ?_; intro gb249 hg w30 hbox hb; have n0_ := Aside0.mk (bqB (GS.bqX BK246.out) hb); have n1_ := Aside0.mk (bqB (GS.bqX BK247.out) hb); have n2_ := Aside0.mk (bqB (GS.bqX BK248.out) hb); have n3_ := Aside0.mk (lqT (GS.lB HB.out) hb); have n4_ := Aside0.mk (hbox); have n5_ := Aside0.mk ((by rw [hg]; exact (lqZ (GS.lB HB.out)) : w.heap.size ≤ gb249)); have n6_ := Aside0.mk ((by rw [hg]; exact (lqZ (GS.lB HB.out)) : w.heap.size ≤ gb249)); have n7_ := Aside0.mk ((by rw [hg]; exact Nat.ne_of_lt (blk_lt (GS.bqX BK246.out)) : gb246 ≠ gb249)); have n8_ := Aside0.mk ((by rw [hg]; exact Nat.ne_of_gt (blk_lt (GS.bqX BK246.out)) : gb249 ≠ gb246)); have n9_ := Aside0.mk ((by rw [hg]; exact Nat.ne_of_lt (blk_lt (GS.bqX BK247.out)) : gb247 ≠ gb249)); have n10_ := Aside0.mk ((by rw [hg]; exact Nat.ne_of_gt (blk_lt (GS.bqX BK247.out)) : gb249 ≠ gb247)); have n11_ := Aside0.mk ((by rw [hg]; exact Nat.ne_of_lt (blk_lt (GS.bqX BK248.out)) : gb248 ≠ gb249)); have n12_ := Aside0.mk ((by rw [hg]; exact Nat.ne_of_gt (blk_lt (GS.bqX BK248.out)) : gb249 ≠ gb248)); clear BK246; clear BK247; clear BK248; clear HB; have BK246 := n0_; have BK247 := n1_; have BK248 := n2_; have HB := n3_; have BK249 := n4_; have GW249 := n5_; have GE249 := n6_; have NB246_249 := n7_; have NB249_246 := n8_; have NB247_249 := n9_; have NB249_247 := n10_; have NB248_249 := n11_; have NB249_248 := n12_; clear n0_ n1_ n2_ n3_ n4_ n5_ n6_ n7_ n8_ n9_ n10_ n11_ n12_; clear hb hbox hg; have hnb31 := NB246_247.out; have hnc31 := NB247_246.out; have hnb32 := NB246_248.out; have hnc32 := NB248_246.out; have hnb33 := NB246_249.out; have hnc33 := NB249_246.out; obtain ⟨hcz34_0, hcz34_1, hcz34_2, hfz34_0, hfz34_1, hfz34_2⟩ := GS.c3 BK246.out) | ((with_reducible refine gqC (f := 18) rfl ?_); refine GS.gL (some 12) Try.func18 #[.agg #[.int .i64 a0_0, .int .i64 a0_1, .slice A0_2 l0_2.length c0_2]] ?_; (with_reducible refine (spileref42_Check.calls k a0_0 a0_1 _ _ l0_2 t250 _ ?side1 ?side2 A4.out).mono ?_); (case side1 => exact GS.rC (Kd.C_below HR0_2.out HB.out)); (case side2 => exact HC0_2.out); rintro e w35 ⟨rfl, hb⟩; refine ⟨_, rfl, ?_⟩; have n0_ := Aside0.mk (bqB (GS.bqX BK246.out) hb); have n1_ := Aside0.mk (bqB (GS.bqX BK247.out) hb); have n2_ := Aside0.mk (bqB (GS.bqX BK248.out) hb); have n3_ := Aside0.mk (bqB (GS.bqX BK249.out) hb); have n4_ := Aside0.mk (lqT (GS.lB HB.out) hb); clear BK246; clear BK247; clear BK248; clear BK249; clear HB; have BK246 := n0_; have BK247 := n1_; have BK248 := n2_; have BK249 := n3_; have HB := n4_; clear n0_ n1_ n2_ n3_ n4_; (try clear hb); (try clear hb2); (try clear hk); (try clear hi)) | ((with_reducible refine gqC (f := 41) rfl ?_); refine GS.gL (some 17) Try.func41 #[.int .i64 a1] ?_; (with_reducible refine (spileref40_Node.calls a1 true _ A6.out).mono ?_); rintro e w' ⟨rfl, ⟨nd, rfl⟩⟩; refine ⟨_, rfl, ?_⟩; (try (rw [drewN_self w35]; generalize hq_ : World.drewN w35 _ = w35; have n0_ : Aside0 (w35.heap[gb246]? = some (.cells #[.int .i64 a0_0, .int .i64 a0_1, .slice A0_2 l0_2.length c0_2] 24 (0, 0))) := ⟨by rw [← hq_]; exact (GS.bqX BK246.out)⟩; have n1_ : Aside0 (w35.heap[gb247]? = some (.cells #[.int .i64 a2_0, .int .i64 a2_1, .int .i64 a2_2, .int .i64 a2_3, .int .i64 a2_4, .int .i64 a2_5, .int .i64 a2_6] 26 (0, 0))) := ⟨by rw [← hq_]; exact (GS.bqX BK247.out)⟩; have n2_ : Aside0 (w35.heap[gb248]? = some (.cells #[.int .i64 0, .int .i64 0, .slice none 0 0] 24 (0, 0))) := ⟨by rw [← hq_]; exact (GS.bqX BK248.out)⟩; have n3_ : Aside0 (w35.heap[gb249]? = some (.cells #[.int .i64 0, .int .i64 0, .int .i64 0, .int .i64 0, .int .i64 0, .int .i64 0, .int .i64 0, .int .i64 0, .int .i64 0, .int .i64 0] 33 (0, 0))) := ⟨by rw [← hq_]; exact (GS.bqX BK249.out)⟩; have n4_ : Aside0 (Below w.heap.size w w35) := ⟨by rw [← hq_]; exact (GS.lB HB.out)⟩; clear BK246 BK247 BK248 BK249 HB hq_; have BK246 := n0_; have BK247 := n1_; have BK248 := n2_; have BK249 := n3_; have HB := n4_; clear n0_ n1_ n2_ n3_ n4_)); obtain ⟨hcz36_0, hcz36_1, hcz36_2, hfz36_0, hfz36_1, hfz36_2⟩ := GS.c3 BK246.out; have hnb37 := NB247_248.out; have hnc37 := NB248_247.out; have hnb38 := NB247_249.out; have hnc38 := NB249_247.out; obtain ⟨hcz39_0, hcz39_1, hcz39_2, hcz39_3, hcz39_4, hcz39_5, hcz39_6, hfz39_0, hfz39_1, hfz39_2, hfz39_3, hfz39_4, hfz39_5, hfz39_6⟩ := GS.c7 BK247.out) | ((with_reducible refine gqC (f := 44) rfl ?_); refine GS.gL (some 28) Try.func44 #[.agg #[.int .i64 a2_0, .int .i64 a2_1, .int .i64 a2_2, .int .i64 a2_3, .int .i64 a2_4, .int .i64 a2_5, .int .i64 a2_6]] ?_; (with_reducible refine (spileref40_Check.calls k a2_0 a2_1 a2_2 a2_3 a2_4 a2_5 a2_6 t252 _ A24.out).mono ?_); rintro e w40 ⟨rfl, hb⟩; refine ⟨_, rfl, ?_⟩; have n0_ := Aside0.mk (bqB (GS.bqX BK246.out) hb); have n1_ := Aside0.mk (bqB (GS.bqX BK247.out) hb); have n2_ := Aside0.mk (bqB (GS.bqX BK248.out) hb); have n3_ := Aside0.mk (bqB (GS.bqX BK249.out) hb); have n4_ := Aside0.mk (lqT (GS.lB HB.out) hb); clear BK246; clear BK247; clear BK248; clear BK249; clear HB; have BK246 := n0_; have BK247 := n1_; have BK248 := n2_; have BK249 := n3_; have HB := n4_; clear n0_ n1_ n2_ n3_ n4_; (try clear hb); (try clear hb2); (try clear hk); (try clear hi); obtain ⟨hcz41_0, hcz41_1, hcz41_2, hfz41_0, hfz41_1, hfz41_2⟩ := GS.c3 BK246.out; have hnb42 := NB248_249.out; have hnc42 := NB249_248.out; obtain ⟨hcz43_0, hcz43_1, hcz43_2, hfz43_0, hfz43_1, hfz43_2⟩ := GS.c3 BK248.out; obtain ⟨hcz44_0, hcz44_1, hcz44_2, hcz44_3, hcz44_4, hcz44_5, hcz44_6, hcz44_7, hcz44_8, hcz44_9, hfz44_0, hfz44_1, hfz44_2, hfz44_3, hfz44_4, hfz44_5, hfz44_6, hfz44_7, hfz44_8, hfz44_9⟩ := GS.c10 BK249.out))
      refine bodyPost_ret (results_list (rs := [.cell 6 24, .cell 7 33, .tmp 8]) rfl (by simp) (.cell gb248 24 #[.int .i64 0, .int .i64 0, .slice none 0 0] (0, 0) _ rfl (GS.bqZ BK248.out) Try.underlying24 rfl (by kernel_rfl) (.cell gb249 33 #[.int .i64 0, .int .i64 0, .int .i64 0, .int .i64 0, .int .i64 0, .int .i64 0, .int .i64 0, .int .i64 0, .int .i64 0, .int .i64 0] (0, 0) _ rfl (GS.bqZ BK249.out) Try.underlying33 rfl (by kernel_rfl) (.tmp .nil)))) rfl ?_
      exact ⟨_, by first | rfl | (simp [errW_none, errW_some] <;> rfl) | (simp [*, errW_none, errW_some] <;> rfl), by first | exact Kd.R_nil _ _ _ _ _ | exact Kd.N_nil _ _ _ _ _ | exact Kd.V_nil _ _ _ _ _ | exact Kd.Q_nil _ _ _ _ _ | exact Kd.S_nil _ _ _ _ _, GS.lB HB.out⟩
     ·rw [if_neg c26] at H
      have c26b0 : ((l0_2.length : Int) == 64) = false := beq_eq_false_iff_ne.mpr c26
      try simp only [beq_self_eq_true, Bool.not_true, Bool.false_or, Bool.true_and] at c26b0
      have c26b1 : ((l0_2.length : Int) != 64) = true := bne_iff_ne.mpr c26
      by_cases c45 : a0_1 > 1073741824
      ·rw [if_pos c45] at H
       have c45b0 : decide (1073741824 < a0_1) = true := decide_eq_true c45
       clear c45
       simp only [Option.some.injEq, Prod.mk.injEq] at H
       obtain ⟨rfl, rfl, rfl, rfl, rfl, rfl, rfl, rfl, rfl, rfl, rfl, rfl, rfl, rfl⟩ := H
       go_enter Try.func16, Try.ntmps16
       go_wp2_with (first | ((with_reducible refine gqD (N := 3) rfl ?_); refine GS.bx (N := 3) (cs := #[.int .i64 a0_0, .int .i64 a0_1, .slice A0_2 l0_2.length c0_2]) (t := 24) ?_; intro gb246 hg w46 hbox hb; have n0_ := Aside0.mk (lqT (GS.lB HB.out) hb); have n1_ := Aside0.mk (hbox); have n2_ := Aside0.mk ((by rw [hg]; exact (lqZ (GS.lB HB.out)) : w.heap.size ≤ gb246)); have n3_ := Aside0.mk ((by rw [hg]; exact (lqZ (GS.lB HB.out)) : w.heap.size ≤ gb246)); clear HB; have HB := n0_; have BK246 := n1_; have GW246 := n2_; have GE246 := n3_; clear n0_ n1_ n2_ n3_; clear hb hbox hg) | ((with_reducible refine gqD (N := 5) rfl ?_); refine GS.bx (N := 5) (cs := #[.int .i64 a2_0, .int .i64 a2_1, .int .i64 a2_2, .int .i64 a2_3, .int .i64 a2_4, .int .i64 a2_5, .int .i64 a2_6]) (t := 26) ?_; intro gb247 hg w47 hbox hb; have n0_ := Aside0.mk (bqB (GS.bqX BK246.out) hb); have n1_ := Aside0.mk (lqT (GS.lB HB.out) hb); have n2_ := Aside0.mk (hbox); have n3_ := Aside0.mk ((by rw [hg]; exact (lqZ (GS.lB HB.out)) : w.heap.size ≤ gb247)); have n4_ := Aside0.mk ((by rw [hg]; exact (lqZ (GS.lB HB.out)) : w.heap.size ≤ gb247)); have n5_ := Aside0.mk ((by rw [hg]; exact Nat.ne_of_lt (blk_lt (GS.bqX BK246.out)) : gb246 ≠ gb247)); have n6_ := Aside0.mk ((by rw [hg]; exact Nat.ne_of_gt (blk_lt (GS.bqX BK246.out)) : gb247 ≠ gb246)); clear BK246; clear HB; have BK246 := n0_; have HB := n1_; have BK247 := n2_; have GW247 := n3_; have GE247 := n4_; have NB246_247 := n5_; have NB247_246 := n6_; clear n0_ n1_ n2_ n3_ n4_ n5_ n6_; clear hb hbox hg) | ((with_reducible refine gqD (N := 6) rfl ?_); refine GS.bx (N := 6) (cs := #[.int .i64 0, .int .i64 0, .slice none 0 0]) (t := 24) ?_; intro gb248 hg w48 hbox hb; have n0_ := Aside0.mk (bqB (GS.bqX BK246.out) hb); have n1_ := Aside0.mk (bqB (GS.bqX BK247.out) hb); have n2_ := Aside0.mk (lqT (GS.lB HB.out) hb); have n3_ := Aside0.mk (hbox); have n4_ := Aside0.mk ((by rw [hg]; exact (lqZ (GS.lB HB.out)) : w.heap.size ≤ gb248)); have n5_ := Aside0.mk ((by rw [hg]; exact (lqZ (GS.lB HB.out)) : w.heap.size ≤ gb248)); have n6_ := Aside0.mk ((by rw [hg]; exact Nat.ne_of_lt (blk_lt (GS.bqX BK246.out)) : gb246 ≠ gb248)); have n7_ := Aside0.mk ((by rw [hg]; exact Nat.ne_of_gt (blk_lt (GS.bqX BK246.out)) : gb248 ≠ gb246)); have n8_ := Aside0.mk ((by rw [hg]; exact Nat.ne_of_lt (blk_lt (GS.bqX BK247.out)) : gb247 ≠ gb248)); have n9_ := Aside0.mk ((by rw [hg]; exact Nat.ne_of_gt (blk_lt (GS.bqX BK247.out)) : gb248 ≠ gb247)); clear BK246; clear BK247; clear HB; have BK246 := n0_; have BK247 := n1_; have HB := n2_; have BK248 := n3_; have GW248 := n4_; have GE248 := n5_; have NB246_248 := n6_; have NB248_246 := n7_; have NB247_248 := n8_; have NB248_247 := n9_; clear n0_ n1_ n2_ n3_ n4_ n5_ n6_ n7_ n8_ n9_; clear hb hbox hg) | ((with_reducible refine gqD (N := 7) rfl ?_); refine GS.bx (N := 7) (cs := #[.int .i64 0, .int .i64 0, .int .i64 0, .int .i64 0, .int .i64 0, .int .i64 0, .int .i64 0, .int .i64 0, .int .i64 0, .int .i64 0]) (t := 33) ?_; intro gb249 hg w49 hbox hb; have n0_ := Aside0.mk (bqB (GS.bqX BK246.out) hb); have n1_ := Aside0.mk (bqB (GS.bqX BK247.out) hb); have n2_ := Aside0.mk (bqB (GS.bqX BK248.out) hb); have n3_ := Aside0.mk (lqT (GS.lB HB.out) hb); have n4_ := Aside0.mk (hbox); have n5_ := Aside0.mk ((by rw [hg]; exact (lqZ (GS.lB HB.out)) : w.heap.size ≤ gb249)); have n6_ := Aside0.mk ((by rw [hg]; exact (lqZ (GS.lB HB.out)) : w.heap.size ≤ gb249)); have n7_ := Aside0.mk ((by rw [hg]; exact Nat.ne_of_lt (blk_lt (GS.bqX BK246.out)) : gb246 ≠ gb249)); have n8_ := Aside0.mk ((by rw [hg]; exact Nat.ne_of_gt (blk_lt (GS.bqX BK246.out)) : gb249 ≠ gb246)); have n9_ := Aside0.mk ((by rw [hg]; exact Nat.ne_of_lt (blk_lt (GS.bqX BK247.out)) : gb247 ≠ gb249)); have n10_ := Aside0.mk ((by rw [hg]; exact Nat.ne_of_gt (blk_lt (GS.bqX BK247.out)) : gb249 ≠ gb247)); have n11_ := Aside0.mk ((by rw [hg]; exact Nat.ne_of_lt (blk_lt (GS.bqX BK248.out)) : gb248 ≠ gb249)); have n12_ := Aside0.mk ((by rw [hg]; exact Nat.ne_of_gt (blk_lt (GS.bqX BK248.out)) : gb249 ≠ gb248)); clear BK246; clear BK247; clear BK248; clear HB; have BK246 := n0_; have BK247 := n1_; have BK248 := n2_; have HB := n3_; have BK249 := n4_; have GW249 := n5_; have GE249 := n6_; have NB246_249 := n7_; have NB249_246 := n8_; have NB247_249 := n9_; have NB249_247 := n10_; have NB248_249 := n11_; have NB249_248 := n12_; clear n0_ n1_ n2_ n3_ n4_ n5_ n6_ n7_ n8_ n9_ n10_ n11_ n12_; clear hb hbox hg; have hnb50 := NB246_247.out; have hnc50 := NB247_246.out; have hnb51 := NB246_248.out; have hnc51 := NB248_246.out; have hnb52 := NB246_249.out; have hnc52 := NB249_246.out; obtain ⟨hcz53_0, hcz53_1, hcz53_2, hfz53_0, hfz53_1, hfz53_2⟩ := GS.c3 BK246.out) | ((with_reducible refine gqC (f := 18) rfl ?_); refine GS.gL (some 12) Try.func18 #[.agg #[.int .i64 a0_0, .int .i64 a0_1, .slice A0_2 l0_2.length c0_2]] ?_; (with_reducible refine (spileref42_Check.calls k a0_0 a0_1 _ _ l0_2 t250 _ ?side1 ?side2 A4.out).mono ?_); (case side1 => exact GS.rC (Kd.C_below HR0_2.out HB.out)); (case side2 => exact HC0_2.out); rintro e w54 ⟨rfl, hb⟩; refine ⟨_, rfl, ?_⟩; have n0_ := Aside0.mk (bqB (GS.bqX BK246.out) hb); have n1_ := Aside0.mk (bqB (GS.bqX BK247.out) hb); have n2_ := Aside0.mk (bqB (GS.bqX BK248.out) hb); have n3_ := Aside0.mk (bqB (GS.bqX BK249.out) hb); have n4_ := Aside0.mk (lqT (GS.lB HB.out) hb); clear BK246; clear BK247; clear BK248; clear BK249; clear HB; have BK246 := n0_; have BK247 := n1_; have BK248 := n2_; have BK249 := n3_; have HB := n4_; clear n0_ n1_ n2_ n3_ n4_; (try clear hb); (try clear hb2); (try clear hk); (try clear hi)) | ((with_reducible refine gqC (f := 41) rfl ?_); refine GS.gL (some 17) Try.func41 #[.int .i64 a1] ?_; (with_reducible refine (spileref40_Node.calls a1 true _ A6.out).mono ?_); rintro e w' ⟨rfl, ⟨nd, rfl⟩⟩; refine ⟨_, rfl, ?_⟩; (try (rw [drewN_self w54]; generalize hq_ : World.drewN w54 _ = w54; have n0_ : Aside0 (w54.heap[gb246]? = some (.cells #[.int .i64 a0_0, .int .i64 a0_1, .slice A0_2 l0_2.length c0_2] 24 (0, 0))) := ⟨by rw [← hq_]; exact (GS.bqX BK246.out)⟩; have n1_ : Aside0 (w54.heap[gb247]? = some (.cells #[.int .i64 a2_0, .int .i64 a2_1, .int .i64 a2_2, .int .i64 a2_3, .int .i64 a2_4, .int .i64 a2_5, .int .i64 a2_6] 26 (0, 0))) := ⟨by rw [← hq_]; exact (GS.bqX BK247.out)⟩; have n2_ : Aside0 (w54.heap[gb248]? = some (.cells #[.int .i64 0, .int .i64 0, .slice none 0 0] 24 (0, 0))) := ⟨by rw [← hq_]; exact (GS.bqX BK248.out)⟩; have n3_ : Aside0 (w54.heap[gb249]? = some (.cells #[.int .i64 0, .int .i64 0, .int .i64 0, .int .i64 0, .int .i64 0, .int .i64 0, .int .i64 0, .int .i64 0, .int .i64 0, .int .i64 0] 33 (0, 0))) := ⟨by rw [← hq_]; exact (GS.bqX BK249.out)⟩; have n4_ : Aside0 (Below w.heap.size w w54) := ⟨by rw [← hq_]; exact (GS.lB HB.out)⟩; clear BK246 BK247 BK248 BK249 HB hq_; have BK246 := n0_; have BK247 := n1_; have BK248 := n2_; have BK249 := n3_; have HB := n4_; clear n0_ n1_ n2_ n3_ n4_)); obtain ⟨hcz55_0, hcz55_1, hcz55_2, hfz55_0, hfz55_1, hfz55_2⟩ := GS.c3 BK246.out; have hnb56 := NB247_248.out; have hnc56 := NB248_247.out; have hnb57 := NB247_249.out; have hnc57 := NB249_247.out; obtain ⟨hcz58_0, hcz58_1, hcz58_2, hcz58_3, hcz58_4, hcz58_5, hcz58_6, hfz58_0, hfz58_1, hfz58_2, hfz58_3, hfz58_4, hfz58_5, hfz58_6⟩ := GS.c7 BK247.out) | ((with_reducible refine gqC (f := 44) rfl ?_); refine GS.gL (some 28) Try.func44 #[.agg #[.int .i64 a2_0, .int .i64 a2_1, .int .i64 a2_2, .int .i64 a2_3, .int .i64 a2_4, .int .i64 a2_5, .int .i64 a2_6]] ?_; (with_reducible refine (spileref40_Check.calls k a2_0 a2_1 a2_2 a2_3 a2_4 a2_5 a2_6 t252 _ A24.out).mono ?_); rintro e w59 ⟨rfl, hb⟩; refine ⟨_, rfl, ?_⟩; have n0_ := Aside0.mk (bqB (GS.bqX BK246.out) hb); have n1_ := Aside0.mk (bqB (GS.bqX BK247.out) hb); have n2_ := Aside0.mk (bqB (GS.bqX BK248.out) hb); have n3_ := Aside0.mk (bqB (GS.bqX BK249.out) hb); have n4_ := Aside0.mk (lqT (GS.lB HB.out) hb); clear BK246; clear BK247; clear BK248; clear BK249; clear HB; have BK246 := n0_; have BK247 := n1_; have BK248 := n2_; have BK249 := n3_; have HB := n4_; clear n0_ n1_ n2_ n3_ n4_; (try clear hb); (try clear hb2); (try clear hk); (try clear hi); obtain ⟨hcz60_0, hcz60_1, hcz60_2, hfz60_0, hfz60_1, hfz60_2⟩ := GS.c3 BK246.out; have hnb61 := NB248_249.out; have hnc61 := NB249_248.out; obtain ⟨hcz62_0, hcz62_1, hcz62_2, hfz62_0, hfz62_1, hfz62_2⟩ := GS.c3 BK248.out; obtain ⟨hcz63_0, hcz63_1, hcz63_2, hcz63_3, hcz63_4, hcz63_5, hcz63_6, hcz63_7, hcz63_8, hcz63_9, hfz63_0, hfz63_1, hfz63_2, hfz63_3, hfz63_4, hfz63_5, hfz63_6, hfz63_7, hfz63_8, hfz63_9⟩ := GS.c10 BK249.out))
       refine bodyPost_ret (results_list (rs := [.cell 6 24, .cell 7 33, .tmp 8]) rfl (by simp) (.cell gb248 24 #[.int .i64 0, .int .i64 0, .slice none 0 0] (0, 0) _ rfl (GS.bqZ BK248.out) Try.underlying24 rfl (by kernel_rfl) (.cell gb249 33 #[.int .i64 0, .int .i64 0, .int .i64 0, .int .i64 0, .int .i64 0, .int .i64 0, .int .i64 0, .int .i64 0, .int .i64 0, .int .i64 0] (0, 0) _ rfl (GS.bqZ BK249.out) Try.underlying33 rfl (by kernel_rfl) (.tmp .nil)))) rfl ?_
       exact ⟨_, by first | rfl | (simp [errW_none, errW_some] <;> rfl) | (simp [*, errW_none, errW_some] <;> rfl), by first | exact Kd.R_nil _ _ _ _ _ | exact Kd.N_nil _ _ _ _ _ | exact Kd.V_nil _ _ _ _ _ | exact Kd.Q_nil _ _ _ _ _ | exact Kd.S_nil _ _ _ _ _, GS.lB HB.out⟩
      ·rw [if_neg c45] at H
       have c45b0 : decide (1073741824 < a0_1) = false := decide_eq_false c45
       clear c45
       replace H := Option.bind_eq_some_iff.mp H
       obtain ⟨⟨t254, t255, t256⟩, A640, H⟩ := H
       replace H : (if t256.length < 1759218604441 then (some (t254, wrap64 (a0_1 + 1), (t256 ++ [(⟨a0_0, a1, a0_1, (⟨a2_0, a2_1, a2_2, a2_3, a2_4, a2_5, a2_6⟩ : S26)⟩ : S33)]), a0_0, a1, a0_1, a2_0, a2_1, a2_2, a2_3, a2_4, a2_5, a2_6, 0)) else (none)) = some (r1, r2, r3, r4, r5, r6, r7, r8, r9, r10, r11, r12, r13, r14) := H
       have A64 := Aside0.mk A640
       clear A640
       by_cases c65 : t256.length < 1759218604441
       ·rw [if_pos c65] at H
        have LMc65 := Aside0.mk c65
        clear c65
        obtain ⟨y260, hy260⟩ : ∃ y_ : List (S33), y_ = (t256 ++ [(⟨a0_0, a1, a0_1, (⟨a2_0, a2_1, a2_2, a2_3, a2_4, a2_5, a2_6⟩ : S26)⟩ : S33)]) := ⟨_, rfl⟩
        replace H : (some (t254, wrap64 (a0_1 + 1), y260, a0_0, a1, a0_1, a2_0, a2_1, a2_2, a2_3, a2_4, a2_5, a2_6, 0)) = some (r1, r2, r3, r4, r5, r6, r7, r8, r9, r10, r11, r12, r13, r14) := by first | (rw [hy260]; with_reducible exact H) | (have H2_ := (Option.bind_some _ _).symm.trans H; rw [hy260]; with_reducible exact H2_) | (have H2_ := (Option.bind_some _ _).symm.trans H; with_reducible exact H2_) | with_reducible exact H | (rw [hy260]; exact H) | exact H
        have Ny260 := Aside0.mk hy260
        clear hy260
        simp only [Option.some.injEq, Prod.mk.injEq] at H
        obtain ⟨rfl, rfl, rfl, rfl, rfl, rfl, rfl, rfl, rfl, rfl, rfl, rfl, rfl, rfl⟩ := H
        go_enter Try.func16, Try.ntmps16
        try go_wp2_with (first | ((with_reducible refine gqD (N := 3) rfl ?_); refine GS.bx (N := 3) (cs := #[.int .i64 a0_0, .int .i64 a0_1, .slice A0_2 l0_2.length c0_2]) (t := 24) ?_; intro gb246 hg w66 hbox hb; have n0_ := Aside0.mk (lqT (GS.lB HB.out) hb); have n1_ := Aside0.mk (hbox); have n2_ := Aside0.mk ((by rw [hg]; exact (lqZ (GS.lB HB.out)) : w.heap.size ≤ gb246)); have n3_ := Aside0.mk ((by rw [hg]; exact (lqZ (GS.lB HB.out)) : w.heap.size ≤ gb246)); clear HB; have HB := n0_; have BK246 := n1_; have GW246 := n2_; have GE246 := n3_; clear n0_ n1_ n2_ n3_; clear hb hbox hg) | ((with_reducible refine gqD (N := 5) rfl ?_); refine GS.bx (N := 5) (cs := #[.int .i64 a2_0, .int .i64 a2_1, .int .i64 a2_2, .int .i64 a2_3, .int .i64 a2_4, .int .i64 a2_5, .int .i64 a2_6]) (t := 26) ?_; intro gb247 hg w67 hbox hb; have n0_ := Aside0.mk (bqB (GS.bqX BK246.out) hb); have n1_ := Aside0.mk (lqT (GS.lB HB.out) hb); have n2_ := Aside0.mk (hbox); have n3_ := Aside0.mk ((by rw [hg]; exact (lqZ (GS.lB HB.out)) : w.heap.size ≤ gb247)); have n4_ := Aside0.mk ((by rw [hg]; exact (lqZ (GS.lB HB.out)) : w.heap.size ≤ gb247)); have n5_ := Aside0.mk ((by rw [hg]; exact Nat.ne_of_lt (blk_lt (GS.bqX BK246.out)) : gb246 ≠ gb247)); have n6_ := Aside0.mk ((by rw [hg]; exact Nat.ne_of_gt (blk_lt (GS.bqX BK246.out)) : gb247 ≠ gb246)); clear BK246; clear HB; have BK246 := n0_; have HB := n1_; have BK247 := n2_; have GW247 := n3_; have GE247 := n4_; have NB246_247 := n5_; have NB247_246 := n6_; clear n0_ n1_ n2_ n3_ n4_ n5_ n6_; clear hb hbox hg) | ((with_reducible refine gqD (N := 6) rfl ?_); refine GS.bx (N := 6) (cs := #[.int .i64 0, .int .i64 0, .slice none 0 0]) (t := 24) ?_; intro gb248 hg w68 hbox hb; have n0_ := Aside0.mk (bqB (GS.bqX BK246.out) hb); have n1_ := Aside0.mk (bqB (GS.bqX BK247.out) hb); have n2_ := Aside0.mk (lqT (GS.lB HB.out) hb); have n3_ := Aside0.mk (hbox); have n4_ := Aside0.mk ((by rw [hg]; exact (lqZ (GS.lB HB.out)) : w.heap.size ≤ gb248)); have n5_ := Aside0.mk ((by rw [hg]; exact (lqZ (GS.lB HB.out)) : w.heap.size ≤ gb248)); have n6_ := Aside0.mk ((by rw [hg]; exact Nat.ne_of_lt (blk_lt (GS.bqX BK246.out)) : gb246 ≠ gb248)); have n7_ := Aside0.mk ((by rw [hg]; exact Nat.ne_of_gt (blk_lt (GS.bqX BK246.out)) : gb248 ≠ gb246)); have n8_ := Aside0.mk ((by rw [hg]; exact Nat.ne_of_lt (blk_lt (GS.bqX BK247.out)) : gb247 ≠ gb248)); have n9_ := Aside0.mk ((by rw [hg]; exact Nat.ne_of_gt (blk_lt (GS.bqX BK247.out)) : gb248 ≠ gb247)); clear BK246; clear BK247; clear HB; have BK246 := n0_; have BK247 := n1_; have HB := n2_; have BK248 := n3_; have GW248 := n4_; have GE248 := n5_; have NB246_248 := n6_; have NB248_246 := n7_; have NB247_248 := n8_; have NB248_247 := n9_; clear n0_ n1_ n2_ n3_ n4_ n5_ n6_ n7_ n8_ n9_; clear hb hbox hg) | ((with_reducible refine gqD (N := 7) rfl ?_); refine GS.bx (N := 7) (cs := #[.int .i64 0, .int .i64 0, .int .i64 0, .int .i64 0, .int .i64 0, .int .i64 0, .int .i64 0, .int .i64 0, .int .i64 0, .int .i64 0]) (t := 33) ?_; intro gb249 hg w69 hbox hb; have n0_ := Aside0.mk (bqB (GS.bqX BK246.out) hb); have n1_ := Aside0.mk (bqB (GS.bqX BK247.out) hb); have n2_ := Aside0.mk (bqB (GS.bqX BK248.out) hb); have n3_ := Aside0.mk (lqT (GS.lB HB.out) hb); have n4_ := Aside0.mk (hbox); have n5_ := Aside0.mk ((by rw [hg]; exact (lqZ (GS.lB HB.out)) : w.heap.size ≤ gb249)); have n6_ := Aside0.mk ((by rw [hg]; exact (lqZ (GS.lB HB.out)) : w.heap.size ≤ gb249)); have n7_ := Aside0.mk ((by rw [hg]; exact Nat.ne_of_lt (blk_lt (GS.bqX BK246.out)) : gb246 ≠ gb249)); have n8_ := Aside0.mk ((by rw [hg]; exact Nat.ne_of_gt (blk_lt (GS.bqX BK246.out)) : gb249 ≠ gb246)); have n9_ := Aside0.mk ((by rw [hg]; exact Nat.ne_of_lt (blk_lt (GS.bqX BK247.out)) : gb247 ≠ gb249)); have n10_ := Aside0.mk ((by rw [hg]; exact Nat.ne_of_gt (blk_lt (GS.bqX BK247.out)) : gb249 ≠ gb247)); have n11_ := Aside0.mk ((by rw [hg]; exact Nat.ne_of_lt (blk_lt (GS.bqX BK248.out)) : gb248 ≠ gb249)); have n12_ := Aside0.mk ((by rw [hg]; exact Nat.ne_of_gt (blk_lt (GS.bqX BK248.out)) : gb249 ≠ gb248)); clear BK246; clear BK247; clear BK248; clear HB; have BK246 := n0_; have BK247 := n1_; have BK248 := n2_; have HB := n3_; have BK249 := n4_; have GW249 := n5_; have GE249 := n6_; have NB246_249 := n7_; have NB249_246 := n8_; have NB247_249 := n9_; have NB249_247 := n10_; have NB248_249 := n11_; have NB249_248 := n12_; clear n0_ n1_ n2_ n3_ n4_ n5_ n6_ n7_ n8_ n9_ n10_ n11_ n12_; clear hb hbox hg; have hnb70 := NB246_247.out; have hnc70 := NB247_246.out; have hnb71 := NB246_248.out; have hnc71 := NB248_246.out; have hnb72 := NB246_249.out; have hnc72 := NB249_246.out; obtain ⟨hcz73_0, hcz73_1, hcz73_2, hfz73_0, hfz73_1, hfz73_2⟩ := GS.c3 BK246.out) | ((with_reducible refine gqC (f := 18) rfl ?_); refine GS.gL (some 12) Try.func18 #[.agg #[.int .i64 a0_0, .int .i64 a0_1, .slice A0_2 l0_2.length c0_2]] ?_; (with_reducible refine (spileref42_Check.calls k a0_0 a0_1 _ _ l0_2 t250 _ ?side1 ?side2 A4.out).mono ?_); (case side1 => exact GS.rC (Kd.C_below HR0_2.out HB.out)); (case side2 => exact HC0_2.out); rintro e w74 ⟨rfl, hb⟩; refine ⟨_, rfl, ?_⟩; have n0_ := Aside0.mk (bqB (GS.bqX BK246.out) hb); have n1_ := Aside0.mk (bqB (GS.bqX BK247.out) hb); have n2_ := Aside0.mk (bqB (GS.bqX BK248.out) hb); have n3_ := Aside0.mk (bqB (GS.bqX BK249.out) hb); have n4_ := Aside0.mk (lqT (GS.lB HB.out) hb); clear BK246; clear BK247; clear BK248; clear BK249; clear HB; have BK246 := n0_; have BK247 := n1_; have BK248 := n2_; have BK249 := n3_; have HB := n4_; clear n0_ n1_ n2_ n3_ n4_; (try clear hb); (try clear hb2); (try clear hk); (try clear hi)) | ((with_reducible refine gqC (f := 41) rfl ?_); refine GS.gL (some 17) Try.func41 #[.int .i64 a1] ?_; (with_reducible refine (spileref40_Node.calls a1 true _ A6.out).mono ?_); rintro e w' ⟨rfl, ⟨nd, rfl⟩⟩; refine ⟨_, rfl, ?_⟩; (try (rw [drewN_self w74]; generalize hq_ : World.drewN w74 _ = w74; have n0_ : Aside0 (w74.heap[gb246]? = some (.cells #[.int .i64 a0_0, .int .i64 a0_1, .slice A0_2 l0_2.length c0_2] 24 (0, 0))) := ⟨by rw [← hq_]; exact (GS.bqX BK246.out)⟩; have n1_ : Aside0 (w74.heap[gb247]? = some (.cells #[.int .i64 a2_0, .int .i64 a2_1, .int .i64 a2_2, .int .i64 a2_3, .int .i64 a2_4, .int .i64 a2_5, .int .i64 a2_6] 26 (0, 0))) := ⟨by rw [← hq_]; exact (GS.bqX BK247.out)⟩; have n2_ : Aside0 (w74.heap[gb248]? = some (.cells #[.int .i64 0, .int .i64 0, .slice none 0 0] 24 (0, 0))) := ⟨by rw [← hq_]; exact (GS.bqX BK248.out)⟩; have n3_ : Aside0 (w74.heap[gb249]? = some (.cells #[.int .i64 0, .int .i64 0, .int .i64 0, .int .i64 0, .int .i64 0, .int .i64 0, .int .i64 0, .int .i64 0, .int .i64 0, .int .i64 0] 33 (0, 0))) := ⟨by rw [← hq_]; exact (GS.bqX BK249.out)⟩; have n4_ : Aside0 (Below w.heap.size w w74) := ⟨by rw [← hq_]; exact (GS.lB HB.out)⟩; clear BK246 BK247 BK248 BK249 HB hq_; have BK246 := n0_; have BK247 := n1_; have BK248 := n2_; have BK249 := n3_; have HB := n4_; clear n0_ n1_ n2_ n3_ n4_)); obtain ⟨hcz75_0, hcz75_1, hcz75_2, hfz75_0, hfz75_1, hfz75_2⟩ := GS.c3 BK246.out; have hnb76 := NB247_248.out; have hnc76 := NB248_247.out; have hnb77 := NB247_249.out; have hnc77 := NB249_247.out; obtain ⟨hcz78_0, hcz78_1, hcz78_2, hcz78_3, hcz78_4, hcz78_5, hcz78_6, hfz78_0, hfz78_1, hfz78_2, hfz78_3, hfz78_4, hfz78_5, hfz78_6⟩ := GS.c7 BK247.out) | ((with_reducible refine gqC (f := 44) rfl ?_); refine GS.gL (some 28) Try.func44 #[.agg #[.int .i64 a2_0, .int .i64 a2_1, .int .i64 a2_2, .int .i64 a2_3, .int .i64 a2_4, .int .i64 a2_5, .int .i64 a2_6]] ?_; (with_reducible refine (spileref40_Check.calls k a2_0 a2_1 a2_2 a2_3 a2_4 a2_5 a2_6 t252 _ A24.out).mono ?_); rintro e w79 ⟨rfl, hb⟩; refine ⟨_, rfl, ?_⟩; have n0_ := Aside0.mk (bqB (GS.bqX BK246.out) hb); have n1_ := Aside0.mk (bqB (GS.bqX BK247.out) hb); have n2_ := Aside0.mk (bqB (GS.bqX BK248.out) hb); have n3_ := Aside0.mk (bqB (GS.bqX BK249.out) hb); have n4_ := Aside0.mk (lqT (GS.lB HB.out) hb); clear BK246; clear BK247; clear BK248; clear BK249; clear HB; have BK246 := n0_; have BK247 := n1_; have BK248 := n2_; have BK249 := n3_; have HB := n4_; clear n0_ n1_ n2_ n3_ n4_; (try clear hb); (try clear hb2); (try clear hk); (try clear hi); obtain ⟨hcz80_0, hcz80_1, hcz80_2, hfz80_0, hfz80_1, hfz80_2⟩ := GS.c3 BK246.out; obtain ⟨hcz81_0, hcz81_1, hcz81_2, hcz81_3, hcz81_4, hcz81_5, hcz81_6, hfz81_0, hfz81_1, hfz81_2, hfz81_3, hfz81_4, hfz81_5, hfz81_6⟩ := GS.c7 BK247.out) | ((with_reducible refine gqD (N := 9) rfl ?_); refine GS.bx (N := 9) (cs := #[.int .i64 0, .int .i64 0, .int .i64 0, .int .i64 0, .int .i64 0, .int .i64 0, .int .i64 0, .int .i64 0, .int .i64 0, .int .i64 0]) (t := 33) ?_; intro gb253 hg w82 hbox hb; have n0_ := Aside0.mk (bqB (GS.bqX BK246.out) hb); have n1_ := Aside0.mk (bqB (GS.bqX BK247.out) hb); have n2_ := Aside0.mk (bqB (GS.bqX BK248.out) hb); have n3_ := Aside0.mk (bqB (GS.bqX BK249.out) hb); have n4_ := Aside0.mk (lqT (GS.lB HB.out) hb); have n5_ := Aside0.mk (hbox); have n6_ := Aside0.mk ((by rw [hg]; exact (lqZ (GS.lB HB.out)) : w.heap.size ≤ gb253)); have n7_ := Aside0.mk ((by rw [hg]; exact (lqZ (GS.lB HB.out)) : w.heap.size ≤ gb253)); have n8_ := Aside0.mk ((by rw [hg]; exact Nat.ne_of_lt (blk_lt (GS.bqX BK246.out)) : gb246 ≠ gb253)); have n9_ := Aside0.mk ((by rw [hg]; exact Nat.ne_of_gt (blk_lt (GS.bqX BK246.out)) : gb253 ≠ gb246)); have n10_ := Aside0.mk ((by rw [hg]; exact Nat.ne_of_lt (blk_lt (GS.bqX BK247.out)) : gb247 ≠ gb253)); have n11_ := Aside0.mk ((by rw [hg]; exact Nat.ne_of_gt (blk_lt (GS.bqX BK247.out)) : gb253 ≠ gb247)); have n12_ := Aside0.mk ((by rw [hg]; exact Nat.ne_of_lt (blk_lt (GS.bqX BK248.out)) : gb248 ≠ gb253)); have n13_ := Aside0.mk ((by rw [hg]; exact Nat.ne_of_gt (blk_lt (GS.bqX BK248.out)) : gb253 ≠ gb248)); have n14_ := Aside0.mk ((by rw [hg]; exact Nat.ne_of_lt (blk_lt (GS.bqX BK249.out)) : gb249 ≠ gb253)); have n15_ := Aside0.mk ((by rw [hg]; exact Nat.ne_of_gt (blk_lt (GS.bqX BK249.out)) : gb253 ≠ gb249)); clear BK246; clear BK247; clear BK248; clear BK249; clear HB; have BK246 := n0_; have BK247 := n1_; have BK248 := n2_; have BK249 := n3_; have HB := n4_; have BK253 := n5_; have GW253 := n6_; have GE253 := n7_; have NB246_253 := n8_; have NB253_246 := n9_; have NB247_253 := n10_; have NB253_247 := n11_; have NB248_253 := n12_; have NB253_248 := n13_; have NB249_253 := n14_; have NB253_249 := n15_; clear n0_ n1_ n2_ n3_ n4_ n5_ n6_ n7_ n8_ n9_ n10_ n11_ n12_ n13_ n14_ n15_; clear hb hbox hg; have hnb83 := NB253_246.out; have hnc83 := NB246_253.out; have hnb84 := NB253_247.out; have hnc84 := NB247_253.out; have hnb85 := NB253_248.out; have hnc85 := NB248_253.out; have hnb86 := NB253_249.out; have hnc86 := NB249_253.out; obtain ⟨hcz87_0, hcz87_1, hcz87_2, hcz87_3, hcz87_4, hcz87_5, hcz87_6, hcz87_7, hcz87_8, hcz87_9, hfz87_0, hfz87_1, hfz87_2, hfz87_3, hfz87_4, hfz87_5, hfz87_6, hfz87_7, hfz87_8, hfz87_9⟩ := GS.c10 BK253.out; obtain ⟨hcz88_0, hcz88_1, hcz88_2, hfz88_0, hfz88_1, hfz88_2⟩ := GS.c3 BK246.out) | ((with_reducible refine gqC (f := 15) rfl ?_); refine GS.gL (some 51) Try.func15 #[.agg #[.int .i64 a0_0, .int .i64 a0_1, .slice A0_2 l0_2.length c0_2]] ?_; (with_reducible refine (spileref42_Copy.calls a0_0 a0_1 _ _ l0_2 t254 t255 t256 _ ?side1 ?side2 A64.out).mono ?_); (case side1 => exact Kd.C_below HR0_2.out (GS.lB HB.out)); (case side2 => exact HC0_2.out); rintro e w89 ⟨v257, rfl, ho0, hb⟩; refine ⟨_, rfl, ?_⟩; have n0_ := Aside0.mk (Kd.R_lower (Kd.R_newB (Kd.R_newB ho0 (GS.bqX BK249.out)) (g := gb253) (o := .cells #[.int .i64 a0_0, .int .i64 a1, .int .i64 a0_1, .int .i64 a2_0, .int .i64 a2_1, .int .i64 a2_2, .int .i64 a2_3, .int .i64 a2_4, .int .i64 a2_5, .int .i64 a2_6] 33 (0, 0)) (GS.bqZ BK253.out)) (lqZ (GS.lB HB.out))); have n1_ := Aside0.mk (bqB (GS.bqX BK246.out) hb); have n2_ := Aside0.mk (bqB (GS.bqX BK247.out) hb); have n3_ := Aside0.mk (bqB (GS.bqX BK248.out) hb); have n4_ := Aside0.mk (bqB (GS.bqX BK249.out) hb); have n5_ := Aside0.mk (bqB (g := gb253) (o := .cells #[.int .i64 a0_0, .int .i64 a1, .int .i64 a0_1, .int .i64 a2_0, .int .i64 a2_1, .int .i64 a2_2, .int .i64 a2_3, .int .i64 a2_4, .int .i64 a2_5, .int .i64 a2_6] 33 (0, 0)) (GS.bqZ BK253.out) hb); have n6_ := Aside0.mk (lqT (GS.lB HB.out) hb); clear BK246; clear BK247; clear BK248; clear BK249; clear BK253; clear HB; have HO258 := n0_; have BK246 := n1_; have BK247 := n2_; have BK248 := n3_; have BK249 := n4_; have BK253 := n5_; have HB := n6_; clear n0_ n1_ n2_ n3_ n4_ n5_ n6_; (try clear hb); (try clear hb2); (try clear hk); (try clear hi); (try clear ho0)) | ((with_reducible refine gqD (N := 10) rfl ?_); refine GS.bx (N := 10) (cs := #[.int .i64 0, .int .i64 0, .slice none 0 0]) (t := 24) ?_; intro gb259 hg w90 hbox hb; have n0_ := Aside0.mk (Kd.R_below (GS.rR HO258.out) hb); have n1_ := Aside0.mk (bqB (GS.bqX BK246.out) hb); have n2_ := Aside0.mk (bqB (GS.bqX BK247.out) hb); have n3_ := Aside0.mk (bqB (GS.bqX BK248.out) hb); have n4_ := Aside0.mk (bqB (GS.bqX BK249.out) hb); have n5_ := Aside0.mk (bqB (GS.bqX BK253.out) hb); have n6_ := Aside0.mk (lqT (GS.lB HB.out) hb); have n7_ := Aside0.mk (hbox); have n8_ := Aside0.mk ((by rw [hg]; exact (lqZ (GS.lB HB.out)) : w.heap.size ≤ gb259)); have n9_ := Aside0.mk ((by rw [hg]; exact (lqZ (GS.lB HB.out)) : w.heap.size ≤ gb259)); have n10_ := Aside0.mk ((by rw [hg]; exact Nat.ne_of_lt (blk_lt (GS.bqX BK246.out)) : gb246 ≠ gb259)); have n11_ := Aside0.mk ((by rw [hg]; exact Nat.ne_of_gt (blk_lt (GS.bqX BK246.out)) : gb259 ≠ gb246)); have n12_ := Aside0.mk ((by rw [hg]; exact Nat.ne_of_lt (blk_lt (GS.bqX BK247.out)) : gb247 ≠ gb259)); have n13_ := Aside0.mk ((by rw [hg]; exact Nat.ne_of_gt (blk_lt (GS.bqX BK247.out)) : gb259 ≠ gb247)); have n14_ := Aside0.mk ((by rw [hg]; exact Nat.ne_of_lt (blk_lt (GS.bqX BK248.out)) : gb248 ≠ gb259)); have n15_ := Aside0.mk ((by rw [hg]; exact Nat.ne_of_gt (blk_lt (GS.bqX BK248.out)) : gb259 ≠ gb248)); have n16_ := Aside0.mk ((by rw [hg]; exact Nat.ne_of_lt (blk_lt (GS.bqX BK249.out)) : gb249 ≠ gb259)); have n17_ := Aside0.mk ((by rw [hg]; exact Nat.ne_of_gt (blk_lt (GS.bqX BK249.out)) : gb259 ≠ gb249)); have n18_ := Aside0.mk ((by rw [hg]; exact Nat.ne_of_lt (blk_lt (GS.bqX BK253.out)) : gb253 ≠ gb259)); have n19_ := Aside0.mk ((by rw [hg]; exact Nat.ne_of_gt (blk_lt (GS.bqX BK253.out)) : gb259 ≠ gb253)); clear HO258; clear BK246; clear BK247; clear BK248; clear BK249; clear BK253; clear HB; have HO258 := n0_; have BK246 := n1_; have BK247 := n2_; have BK248 := n3_; have BK249 := n4_; have BK253 := n5_; have HB := n6_; have BK259 := n7_; have GW259 := n8_; have GE259 := n9_; have NB246_259 := n10_; have NB259_246 := n11_; have NB247_259 := n12_; have NB259_247 := n13_; have NB248_259 := n14_; have NB259_248 := n15_; have NB249_259 := n16_; have NB259_249 := n17_; have NB253_259 := n18_; have NB259_253 := n19_; clear n0_ n1_ n2_ n3_ n4_ n5_ n6_ n7_ n8_ n9_ n10_ n11_ n12_ n13_ n14_ n15_ n16_ n17_ n18_ n19_; clear hb hbox hg; have hnb91 := NB259_246.out; have hnc91 := NB246_259.out; have hnb92 := NB259_247.out; have hnc92 := NB247_259.out; have hnb93 := NB259_248.out; have hnc93 := NB248_259.out; have hnb94 := NB259_249.out; have hnc94 := NB249_259.out; have hnb95 := NB259_253.out; have hnc95 := NB253_259.out; obtain ⟨hcz96_0, hcz96_1, hcz96_2, hfz96_0, hfz96_1, hfz96_2⟩ := GS.c3 BK259.out; obtain ⟨Ao97, co97, eo97⟩ := Kd.R_slice HO258.out; subst eo97))
        have n0_ : Aside0 (Kd.R k33 33 (((w90.setCell ⟨gb259, 0, none⟩ (.int .i64 t254)).setCell ⟨gb259, 1, none⟩ (.int .i64 t255)).setCell ⟨gb259, 2, none⟩ (.slice Ao97 t256.length co97)) w.heap.size (fun k_ => k_ ≠ gb249 ∧ k_ ≠ gb253) (.slice Ao97 t256.length co97) t256) := ⟨by (with_reducible repeat (first | apply Kd.R_alloc | apply Kd.R_drewN | apply Kd.R_drew)); exact Kd.R_mono (Kd.R_far (p := ⟨gb259, 2, none⟩) (Kd.R_far (p := ⟨gb259, 1, none⟩) (Kd.R_far (p := ⟨gb259, 0, none⟩) (Kd.R_types HO258.out BK259.out (by decide)) (fun _ hk => hk.2) (.int .i64 t254)) (fun _ hk => hk.2) (.int .i64 t255)) (fun _ hk => hk.2) (.slice Ao97 t256.length co97)) (fun _ hk => GS.cj hk)⟩
        have n1_ : Aside0 ((((w90.setCell ⟨gb259, 0, none⟩ (.int .i64 t254)).setCell ⟨gb259, 1, none⟩ (.int .i64 t255)).setCell ⟨gb259, 2, none⟩ (.slice Ao97 t256.length co97)).heap[gb246]? = some (.cells #[.int .i64 a0_0, .int .i64 a0_1, .slice A0_2 l0_2.length c0_2] 24 (0, 0))) := ⟨GS.bqX BK246.out⟩
        have n2_ : Aside0 ((((w90.setCell ⟨gb259, 0, none⟩ (.int .i64 t254)).setCell ⟨gb259, 1, none⟩ (.int .i64 t255)).setCell ⟨gb259, 2, none⟩ (.slice Ao97 t256.length co97)).heap[gb247]? = some (.cells #[.int .i64 a2_0, .int .i64 a2_1, .int .i64 a2_2, .int .i64 a2_3, .int .i64 a2_4, .int .i64 a2_5, .int .i64 a2_6] 26 (0, 0))) := ⟨GS.bqX BK247.out⟩
        have n3_ : Aside0 ((((w90.setCell ⟨gb259, 0, none⟩ (.int .i64 t254)).setCell ⟨gb259, 1, none⟩ (.int .i64 t255)).setCell ⟨gb259, 2, none⟩ (.slice Ao97 t256.length co97)).heap[gb248]? = some (.cells #[.int .i64 0, .int .i64 0, .slice none 0 0] 24 (0, 0))) := ⟨GS.bqX BK248.out⟩
        have n4_ : Aside0 ((((w90.setCell ⟨gb259, 0, none⟩ (.int .i64 t254)).setCell ⟨gb259, 1, none⟩ (.int .i64 t255)).setCell ⟨gb259, 2, none⟩ (.slice Ao97 t256.length co97)).heap[gb249]? = some (.cells #[.int .i64 0, .int .i64 0, .int .i64 0, .int .i64 0, .int .i64 0, .int .i64 0, .int .i64 0, .int .i64 0, .int .i64 0, .int .i64 0] 33 (0, 0))) := ⟨GS.bqX BK249.out⟩
        have n5_ : Aside0 ((((w90.setCell ⟨gb259, 0, none⟩ (.int .i64 t254)).setCell ⟨gb259, 1, none⟩ (.int .i64 t255)).setCell ⟨gb259, 2, none⟩ (.slice Ao97 t256.length co97)).heap[gb253]? = some (.cells #[.int .i64 a0_0, .int .i64 a1, .int .i64 a0_1, .int .i64 a2_0, .int .i64 a2_1, .int .i64 a2_2, .int .i64 a2_3, .int .i64 a2_4, .int .i64 a2_5, .int .i64 a2_6] 33 (0, 0))) := ⟨GS.bqX BK253.out⟩
        have n6_ : Aside0 ((((w90.setCell ⟨gb259, 0, none⟩ (.int .i64 t254)).setCell ⟨gb259, 1, none⟩ (.int .i64 t255)).setCell ⟨gb259, 2, none⟩ (.slice Ao97 t256.length co97)).heap[gb259]? = some (.cells #[.int .i64 t254, .int .i64 t255, .slice Ao97 t256.length co97] 24 (0, 0))) := ⟨GS.bqZ BK259.out⟩
        have n7_ : Aside0 (Below w.heap.size w (((w90.setCell ⟨gb259, 0, none⟩ (.int .i64 t254)).setCell ⟨gb259, 1, none⟩ (.int .i64 t255)).setCell ⟨gb259, 2, none⟩ (.slice Ao97 t256.length co97))) := ⟨GS.lB HB.out⟩
        (try clear HO258)
        (try clear BK246)
        (try clear BK247)
        (try clear BK248)
        (try clear BK249)
        (try clear BK253)
        (try clear BK259)
        (try clear HB)
        generalize (((w90.setCell ⟨gb259, 0, none⟩ (.int .i64 t254)).setCell ⟨gb259, 1, none⟩ (.int .i64 t255)).setCell ⟨gb259, 2, none⟩ (.slice Ao97 t256.length co97)) = w98 at n0_ n1_ n2_ n3_ n4_ n5_ n6_ n7_ ⊢
        have HO258 := n0_
        have BK246 := n1_
        have BK247 := n2_
        have BK248 := n3_
        have BK249 := n4_
        have BK253 := n5_
        have BK259 := n6_
        have HB := n7_
        clear n0_ n1_ n2_ n3_ n4_ n5_ n6_ n7_
        have n0_ := Aside0.mk (Kd.R_drew HO258.out)
        have n1_ := Aside0.mk (bqD BK246.out)
        have n2_ := Aside0.mk (bqD BK247.out)
        have n3_ := Aside0.mk (bqD BK248.out)
        have n4_ := Aside0.mk (bqD BK249.out)
        have n5_ := Aside0.mk (bqD BK253.out)
        have n6_ := Aside0.mk (bqD BK259.out)
        have n7_ := Aside0.mk (lqD HB.out)
        clear HO258
        clear BK246
        clear BK247
        clear BK248
        clear BK249
        clear BK253
        clear BK259
        clear HB
        have HO258 := n0_
        have BK246 := n1_
        have BK247 := n2_
        have BK248 := n3_
        have BK249 := n4_
        have BK253 := n5_
        have BK259 := n6_
        have HB := n7_
        clear n0_ n1_ n2_ n3_ n4_ n5_ n6_ n7_
        refine start_ (n := 12) (S := fun w' => w'.cell? ⟨gb253, 0, none⟩ = some (.int .i64 a0_0) ∧ w'.cell? ⟨gb253, 1, none⟩ = some (.int .i64 a1) ∧ w'.cell? ⟨gb253, 2, none⟩ = some (.int .i64 a0_1) ∧ w'.cell? ⟨gb253, 3, none⟩ = some (.int .i64 a2_0) ∧ w'.cell? ⟨gb253, 4, none⟩ = some (.int .i64 a2_1) ∧ w'.cell? ⟨gb253, 5, none⟩ = some (.int .i64 a2_2) ∧ w'.cell? ⟨gb253, 6, none⟩ = some (.int .i64 a2_3) ∧ w'.cell? ⟨gb253, 7, none⟩ = some (.int .i64 a2_4) ∧ w'.cell? ⟨gb253, 8, none⟩ = some (.int .i64 a2_5) ∧ w'.cell? ⟨gb253, 9, none⟩ = some (.int .i64 a2_6) ∧ w'.cell? ⟨gb246, 0, none⟩ = some (.int .i64 a0_0) ∧ w'.cell? ⟨gb246, 1, none⟩ = some (.int .i64 a0_1) ∧ w'.cell? ⟨gb246, 2, none⟩ = some (.slice A0_2 l0_2.length c0_2)) (ds := []) #[false, false, false, false, false, false, false, false, false, false, false, false] (by kernel_rfl) rfl rfl ⟨(bqC BK253.out 0).trans rfl, (bqC BK253.out 1).trans rfl, (bqC BK253.out 2).trans rfl, (bqC BK253.out 3).trans rfl, (bqC BK253.out 4).trans rfl, (bqC BK253.out 5).trans rfl, (bqC BK253.out 6).trans rfl, (bqC BK253.out 7).trans rfl, (bqC BK253.out 8).trans rfl, (bqC BK253.out 9).trans rfl, (bqC BK246.out 0).trans rfl, (bqC BK246.out 1).trans rfl, (bqC BK246.out 2).trans rfl⟩ (fun hHeld => ?_)
        generalize w98.drew = w99 at HO258 BK246 BK247 BK248 BK249 BK253 BK259 HB hHeld ⊢
        refine pure_ (i := 0) (N := some 52) (v := ?_) (a' := ?_) #[true, false, false, false, false, false, false, false, false, false, false, false] rfl rfl (by kernel_rfl) (fun _ _ _ h => h) (Or.inl ⟨by rfl, ?_⟩) ?_ ?_
        rotate_left
        ·intro w'
         go_simp
         with_reducible rfl
        rotate_left
        ·simp only [Act.put, List.setIfInBounds_toArray, List.set_cons_zero, List.set_cons_succ, i64_w, i32_w]
         rfl
        refine pure_ (i := 5) (N := some 57) (v := ?_) (a' := ?_) #[true, false, false, false, false, true, false, false, false, false, false, false] rfl rfl (by kernel_rfl) (fun _ _ _ h => h) (Or.inl ⟨by rfl, ?_⟩) ?_ ?_
        rotate_left
        ·intro w'
         go_simp
         with_reducible rfl
        rotate_left
        ·simp only [Act.put, List.setIfInBounds_toArray, List.set_cons_zero, List.set_cons_succ, i64_w, i32_w]
         rfl
        refine take_ (i := 2) (N := some 54) (v := ?_) (a' := ?_) #[true, false, true, false, false, true, false, false, false, false, false, false] rfl rfl (by kernel_rfl) (fun _ _ _ h => h) (Or.inl ⟨by rfl, ?_⟩) hHeld ?_ ?_
        rotate_left
        ·rintro w' ⟨s0, s1, s2, s3, s4, s5, s6, s7, s8, s9, s10, s11, s12⟩
         go_simp
         with_reducible rfl
        rotate_left
        ·simp only [Act.put, List.setIfInBounds_toArray, List.set_cons_zero, List.set_cons_succ, i64_w, i32_w]
         rfl
        refine take_ (i := 6) (N := some 58) (v := ?_) (a' := ?_) #[true, false, true, false, false, true, true, false, false, false, false, false] rfl rfl (by kernel_rfl) (fun _ _ _ h => h) (Or.inl ⟨by rfl, ?_⟩) hHeld ?_ ?_
        rotate_left
        ·rintro w' ⟨s0, s1, s2, s3, s4, s5, s6, s7, s8, s9, s10, s11, s12⟩
         go_simp
         with_reducible rfl
        rotate_left
        ·simp only [Act.put, List.setIfInBounds_toArray, List.set_cons_zero, List.set_cons_succ, i64_w, i32_w]
         rfl
        refine pure_ (i := 7) (N := some 59) (v := ?_) (a' := ?_) #[true, false, true, false, false, true, true, true, false, false, false, false] rfl rfl (by kernel_rfl) (fun _ _ _ h => h) (Or.inl ⟨by rfl, ?_⟩) ?_ ?_
        rotate_left
        ·intro w'
         go_simp
         with_reducible rfl
        rotate_left
        ·simp only [Act.put, List.setIfInBounds_toArray, List.set_cons_zero, List.set_cons_succ, i64_w, i32_w]
         rfl
        have hl0_ : w99.cell? ⟨gb259, 2, none⟩ = some (.slice Ao97 t256.length co97) := (bqC BK259.out 2).trans rfl
        have hl1_ : (w99.alloc (.cells #[.int .i64 a0_0, .int .i64 a1, .int .i64 a0_1, .int .i64 a2_0, .int .i64 a2_1, .int .i64 a2_2, .int .i64 a2_3, .int .i64 a2_4, .int .i64 a2_5, .int .i64 a2_6] 33 (0, 0))).cell? ⟨gb259, 2, none⟩ = some (.slice Ao97 t256.length co97) := (bqC (bqA BK259.out _) 2).trans rfl
        refine GS.two_same (i := 1) (j := 3) (Ni := some 53) (Nj := some 55) #[true, true, true, false, false, true, true, true, false, false, false, false] #[true, false, true, true, false, true, true, true, false, false, false, false] #[true, true, true, true, false, true, true, true, false, false, false, false] (.slice Ao97 t256.length co97) (.slice (some ⟨w99.heap.size, 0, none⟩) 1 1) (w99.alloc (.cells #[.int .i64 a0_0, .int .i64 a1, .int .i64 a0_1, .int .i64 a2_0, .int .i64 a2_1, .int .i64 a2_2, .int .i64 a2_3, .int .i64 a2_4, .int .i64 a2_5, .int .i64 a2_6] 33 (0, 0))) rfl rfl rfl rfl (by kernel_rfl) (by kernel_rfl) (by kernel_rfl) (by decide) (by decide) (by rfl) (by rfl) (by rfl) (by rfl) ?r1 ?r2 ?r3 ?r4 ?hp hHeld ⟨(bqC (bqA BK253.out _) 0).trans rfl, (bqC (bqA BK253.out _) 1).trans rfl, (bqC (bqA BK253.out _) 2).trans rfl, (bqC (bqA BK253.out _) 3).trans rfl, (bqC (bqA BK253.out _) 4).trans rfl, (bqC (bqA BK253.out _) 5).trans rfl, (bqC (bqA BK253.out _) 6).trans rfl, (bqC (bqA BK253.out _) 7).trans rfl, (bqC (bqA BK253.out _) 8).trans rfl, (bqC (bqA BK253.out _) 9).trans rfl, (bqC (bqA BK246.out _) 0).trans rfl, (bqC (bqA BK246.out _) 1).trans rfl, (bqC (bqA BK246.out _) 2).trans rfl⟩ (fun hHeld => ?_)
        case r1 => first | (go_simp; done) | (go_simp; rfl) | (go_simp; constructor <;> rfl)
        case r2 => first | (go_simp; done) | (go_simp; rfl) | (go_simp; constructor <;> rfl)
        case r3 => first | (go_simp; done) | (go_simp; rfl) | (go_simp; constructor <;> rfl)
        case r4 => first | (go_simp; done) | (go_simp; rfl) | (go_simp; constructor <;> rfl)
        case hp => rfl
        clear hl0_ hl1_
        refine norm_ (a' := ?_) ?_ ?_
        rotate_left
        ·show Act.put (Act.put _ (some 53) _) (some 55) _ = _
         simp only [Act.put, List.setIfInBounds_toArray, List.set_cons_zero, List.set_cons_succ, i64_w, i32_w]
         rfl
        refine one_ (i := 4) (N := some 56) #[true, true, true, true, true, true, true, true, false, false, false, false] rfl rfl (by kernel_rfl) (by decide) (fun K hK => ?_)
        refine Kd.R_append_step k33 (w0 := w) w.heap.size (by rfl) (.tmp 53) (.tmp 55) 22 33 (.agg #[(.int .i64 0), (.int .i64 0), (.int .i64 0), (.int .i64 0), (.int .i64 0), (.int .i64 0), (.int .i64 0), (.int .i64 0), (.int .i64 0), (.int .i64 0)]) 80 rfl Try.underlying22 info33 rfl (by decide) (by omega) (.slice Ao97 t256.length co97) t256 (⟨a0_0, a1, a0_1, (⟨a2_0, a2_1, a2_2, a2_3, a2_4, a2_5, a2_6⟩ : S26)⟩ : S33) [.int .i64 a0_0, .int .i64 a1, .int .i64 a0_1, .int .i64 a2_0, .int .i64 a2_1, .int .i64 a2_2, .int .i64 a2_3, .int .i64 a2_4, .int .i64 a2_5, .int .i64 a2_6] (fun k_ => k_ ≠ gb249 ∧ k_ ≠ gb253) (fun _ => False) rfl rfl ?aP (fun _ hk => hk.elim) ?aF ?aO ?aB ?aS ?aL ?_
        (case aP => exact k33_mkM _ _ _ (⟨a0_0, a1, a0_1, (⟨a2_0, a2_1, a2_2, a2_3, a2_4, a2_5, a2_6⟩ : S26)⟩ : S33))
        (case aB => exact (GS.lB HB.out))
        (case aF => exact (fun k_ hk => ⟨Kd.freshB (GS.bqX BK249.out) k_ hk, Kd.freshB (GS.bqX BK253.out) k_ hk⟩))
        (case aO => exact (GS.rR HO258.out))
        (case aS => exact (lqZ (GS.lB HB.out)))
        (case aL => have := LMc65.out; omega)
        intro v261 w100 ho hb hg hat
        rw [← Ny260.out] at ho
        have n0_ := Aside0.mk (blk_grown (GS.bqX BK246.out) hg (Kd.R_ne HO258.out BK246.out (by decide)))
        have n1_ := Aside0.mk (blk_grown (GS.bqX BK247.out) hg (Kd.R_ne HO258.out BK247.out (by decide)))
        have n2_ := Aside0.mk (blk_grown (GS.bqX BK248.out) hg (Kd.R_ne HO258.out BK248.out (by decide)))
        have n3_ := Aside0.mk (blk_grown (GS.bqX BK249.out) hg (Kd.R_away HO258.out (fun _ hk => GS.cj hk)))
        have n4_ := Aside0.mk (blk_grown (GS.bqX BK253.out) hg (Kd.R_away HO258.out (fun _ hk => GS.cj hk)))
        have n5_ := Aside0.mk (blk_grown (GS.bqX BK259.out) hg (Kd.R_ne HO258.out BK259.out (by decide)))
        have n6_ := Aside0.mk (hb)
        have n7_ := Aside0.mk (ho)
        clear BK246
        clear BK247
        clear BK248
        clear BK249
        clear BK253
        clear BK259
        clear HB
        clear HO258
        have BK246 := n0_
        have BK247 := n1_
        have BK248 := n2_
        have BK249 := n3_
        have BK253 := n4_
        have BK259 := n5_
        have HB := n6_
        have HO262 := n7_
        clear n0_ n1_ n2_ n3_ n4_ n5_ n6_ n7_
        clear ho hb hg hat
        obtain ⟨Ao101, co101, eo101⟩ := Kd.R_slice HO262.out
        (first | subst eo101 | (injection eo101 with f1_ f2_ f3_; have f4_ := f1_.symm; have f5_ := f3_.symm; clear f1_ f2_ f3_; subst f4_; subst f5_))
        refine hK.out _ _ ⟨(bqC BK253.out 0).trans rfl, (bqC BK253.out 1).trans rfl, (bqC BK253.out 2).trans rfl, (bqC BK253.out 3).trans rfl, (bqC BK253.out 4).trans rfl, (bqC BK253.out 5).trans rfl, (bqC BK253.out 6).trans rfl, (bqC BK253.out 7).trans rfl, (bqC BK253.out 8).trans rfl, (bqC BK253.out 9).trans rfl, (bqC BK246.out 0).trans rfl, (bqC BK246.out 1).trans rfl, (bqC BK246.out 2).trans rfl⟩ (fun hHeld => ?_)
        clear hK K
        refine norm_ (a' := ?_) ?_ ?_
        rotate_left
        ·show Act.put _ (some 56) _ = _
         simp only [Act.put, List.setIfInBounds_toArray, List.set_cons_zero, List.set_cons_succ, i64_w, i32_w]
         rfl
        refine pure_ (i := 8) (N := some 60) (v := ?_) (a' := ?_) #[true, true, true, true, true, true, true, true, true, false, false, false] rfl rfl (by kernel_rfl) (fun _ _ _ h => h) (Or.inl ⟨by rfl, ?_⟩) ?_ ?_
        rotate_left
        ·intro w'
         go_simp
         with_reducible rfl
        rotate_left
        ·simp only [Act.put, List.setIfInBounds_toArray, List.set_cons_zero, List.set_cons_succ, i64_w, i32_w]
         rfl
        refine one_ (i := 9) (N := none) #[true, true, true, true, true, true, true, true, true, true, false, false] rfl rfl (by kernel_rfl) (by decide) (fun K hK => ?_)
        have hs102 : w100.cell? ⟨gb259, 2, none⟩ = some (.slice Ao97 t256.length co97) := (bqC BK259.out 2).trans rfl
        have hfs102 := bqF BK259.out 2
        have hns102_0 := NB246_259.out
        have hns102_1 := NB247_259.out
        have hns102_2 := NB248_259.out
        have hns102_3 := NB249_259.out
        have hns102_4 := NB253_259.out
        have hms102_0 := NB259_246.out
        have hms102_1 := NB259_247.out
        have hms102_2 := NB259_248.out
        have hms102_3 := NB259_249.out
        have hms102_4 := NB259_253.out
        refine skip_ (w1 := ?_) (by rfl) rfl ?_ ?_
        rotate_left
        ·go_simp
         rfl
        refine hK.out _ _ ⟨GS.cf hHeld.1, GS.cf hHeld.2.1, GS.cf hHeld.2.2.1, GS.cf hHeld.2.2.2.1, GS.cf hHeld.2.2.2.2.1, GS.cf hHeld.2.2.2.2.2.1, GS.cf hHeld.2.2.2.2.2.2.1, GS.cf hHeld.2.2.2.2.2.2.2.1, GS.cf hHeld.2.2.2.2.2.2.2.2.1, GS.cf hHeld.2.2.2.2.2.2.2.2.2.1, GS.cf hHeld.2.2.2.2.2.2.2.2.2.2.1, GS.cf hHeld.2.2.2.2.2.2.2.2.2.2.2.1, GS.cf hHeld.2.2.2.2.2.2.2.2.2.2.2.2⟩ (fun hHeld => ?_)
        clear hK K
        refine pure_ (i := 10) (N := some 61) (v := ?_) (a' := ?_) #[true, true, true, true, true, true, true, true, true, true, true, false] rfl rfl (by kernel_rfl) (fun _ _ _ h => h) (Or.inl ⟨by rfl, ?_⟩) ?_ ?_
        rotate_left
        ·intro w'
         go_simp
         with_reducible rfl
        rotate_left
        ·simp only [Act.put, List.setIfInBounds_toArray, List.set_cons_zero, List.set_cons_succ, i64_w, i32_w]
         rfl
        refine one_ (i := 11) (N := none) #[true, true, true, true, true, true, true, true, true, true, true, true] rfl rfl (by kernel_rfl) (by decide) (fun K hK => ?_)
        have hs103 : w100.cell? ⟨gb259, 1, none⟩ = some (.int .i64 t255) := (bqC BK259.out 1).trans rfl
        have hfs103 := bqF BK259.out 1
        have hns103_0 := NB246_259.out
        have hns103_1 := NB247_259.out
        have hns103_2 := NB248_259.out
        have hns103_3 := NB249_259.out
        have hns103_4 := NB253_259.out
        have hms103_0 := NB259_246.out
        have hms103_1 := NB259_247.out
        have hms103_2 := NB259_248.out
        have hms103_3 := NB259_249.out
        have hms103_4 := NB259_253.out
        refine skip_ (w1 := ?_) (by rfl) rfl ?_ ?_
        rotate_left
        ·go_simp
         rfl
        refine hK.out _ _ ⟨GS.cf hHeld.1, GS.cf hHeld.2.1, GS.cf hHeld.2.2.1, GS.cf hHeld.2.2.2.1, GS.cf hHeld.2.2.2.2.1, GS.cf hHeld.2.2.2.2.2.1, GS.cf hHeld.2.2.2.2.2.2.1, GS.cf hHeld.2.2.2.2.2.2.2.1, GS.cf hHeld.2.2.2.2.2.2.2.2.1, GS.cf hHeld.2.2.2.2.2.2.2.2.2.1, GS.cf hHeld.2.2.2.2.2.2.2.2.2.2.1, GS.cf hHeld.2.2.2.2.2.2.2.2.2.2.2.1, GS.cf hHeld.2.2.2.2.2.2.2.2.2.2.2.2⟩ (fun hHeld => ?_)
        clear hK K
        refine done_ (by kernel_rfl) ?_
        try go_wp2
        have n0_ : Aside0 (Kd.R k33 33 ((w100.setCell ⟨gb259, 2, none⟩ (.slice Ao101 y260.length co101)).setCell ⟨gb259, 1, none⟩ (.int .i64 (wrap64 (a0_1 + 1)))) w.heap.size (fun k_ => k_ ≠ gb249 ∧ k_ ≠ gb253) (.slice Ao101 y260.length co101) y260) := ⟨by (with_reducible repeat (first | apply Kd.R_alloc | apply Kd.R_drewN | apply Kd.R_drew)); exact Kd.R_mono (Kd.R_far (p := ⟨gb259, 1, none⟩) (Kd.R_far (p := ⟨gb259, 2, none⟩) (Kd.R_types HO262.out BK259.out (by decide)) (fun _ hk => hk.2) (.slice Ao101 y260.length co101)) (fun _ hk => hk.2) (.int .i64 (wrap64 (a0_1 + 1)))) (fun _ hk => GS.cj hk)⟩
        have n1_ : Aside0 (((w100.setCell ⟨gb259, 2, none⟩ (.slice Ao101 y260.length co101)).setCell ⟨gb259, 1, none⟩ (.int .i64 (wrap64 (a0_1 + 1)))).heap[gb246]? = some (.cells #[.int .i64 a0_0, .int .i64 a0_1, .slice A0_2 l0_2.length c0_2] 24 (0, 0))) := ⟨GS.bqX BK246.out⟩
        have n2_ : Aside0 (((w100.setCell ⟨gb259, 2, none⟩ (.slice Ao101 y260.length co101)).setCell ⟨gb259, 1, none⟩ (.int .i64 (wrap64 (a0_1 + 1)))).heap[gb247]? = some (.cells #[.int .i64 a2_0, .int .i64 a2_1, .int .i64 a2_2, .int .i64 a2_3, .int .i64 a2_4, .int .i64 a2_5, .int .i64 a2_6] 26 (0, 0))) := ⟨GS.bqX BK247.out⟩
        have n3_ : Aside0 (((w100.setCell ⟨gb259, 2, none⟩ (.slice Ao101 y260.length co101)).setCell ⟨gb259, 1, none⟩ (.int .i64 (wrap64 (a0_1 + 1)))).heap[gb248]? = some (.cells #[.int .i64 0, .int .i64 0, .slice none 0 0] 24 (0, 0))) := ⟨GS.bqX BK248.out⟩
        have n4_ : Aside0 (((w100.setCell ⟨gb259, 2, none⟩ (.slice Ao101 y260.length co101)).setCell ⟨gb259, 1, none⟩ (.int .i64 (wrap64 (a0_1 + 1)))).heap[gb249]? = some (.cells #[.int .i64 0, .int .i64 0, .int .i64 0, .int .i64 0, .int .i64 0, .int .i64 0, .int .i64 0, .int .i64 0, .int .i64 0, .int .i64 0] 33 (0, 0))) := ⟨GS.bqX BK249.out⟩
        have n5_ : Aside0 (((w100.setCell ⟨gb259, 2, none⟩ (.slice Ao101 y260.length co101)).setCell ⟨gb259, 1, none⟩ (.int .i64 (wrap64 (a0_1 + 1)))).heap[gb253]? = some (.cells #[.int .i64 a0_0, .int .i64 a1, .int .i64 a0_1, .int .i64 a2_0, .int .i64 a2_1, .int .i64 a2_2, .int .i64 a2_3, .int .i64 a2_4, .int .i64 a2_5, .int .i64 a2_6] 33 (0, 0))) := ⟨GS.bqX BK253.out⟩
        have n6_ : Aside0 (((w100.setCell ⟨gb259, 2, none⟩ (.slice Ao101 y260.length co101)).setCell ⟨gb259, 1, none⟩ (.int .i64 (wrap64 (a0_1 + 1)))).heap[gb259]? = some (.cells #[.int .i64 t254, .int .i64 (wrap64 (a0_1 + 1)), .slice Ao101 y260.length co101] 24 (0, 0))) := ⟨GS.bqZ BK259.out⟩
        have n7_ : Aside0 (Below w.heap.size w ((w100.setCell ⟨gb259, 2, none⟩ (.slice Ao101 y260.length co101)).setCell ⟨gb259, 1, none⟩ (.int .i64 (wrap64 (a0_1 + 1))))) := ⟨GS.lB HB.out⟩
        (try clear HO262)
        (try clear BK246)
        (try clear BK247)
        (try clear BK248)
        (try clear BK249)
        (try clear BK253)
        (try clear BK259)
        (try clear HB)
        generalize ((w100.setCell ⟨gb259, 2, none⟩ (.slice Ao101 y260.length co101)).setCell ⟨gb259, 1, none⟩ (.int .i64 (wrap64 (a0_1 + 1)))) = w104 at n0_ n1_ n2_ n3_ n4_ n5_ n6_ n7_ ⊢
        have HO262 := n0_
        have BK246 := n1_
        have BK247 := n2_
        have BK248 := n3_
        have BK249 := n4_
        have BK253 := n5_
        have BK259 := n6_
        have HB := n7_
        clear n0_ n1_ n2_ n3_ n4_ n5_ n6_ n7_
        have n0_ := Aside0.mk (Kd.R_drew HO262.out)
        have n1_ := Aside0.mk (bqD BK246.out)
        have n2_ := Aside0.mk (bqD BK247.out)
        have n3_ := Aside0.mk (bqD BK248.out)
        have n4_ := Aside0.mk (bqD BK249.out)
        have n5_ := Aside0.mk (bqD BK253.out)
        have n6_ := Aside0.mk (bqD BK259.out)
        have n7_ := Aside0.mk (lqD HB.out)
        clear HO262
        clear BK246
        clear BK247
        clear BK248
        clear BK249
        clear BK253
        clear BK259
        clear HB
        have HO262 := n0_
        have BK246 := n1_
        have BK247 := n2_
        have BK248 := n3_
        have BK249 := n4_
        have BK253 := n5_
        have BK259 := n6_
        have HB := n7_
        clear n0_ n1_ n2_ n3_ n4_ n5_ n6_ n7_
        refine start_ (n := 5) (S := fun w' => w'.cell? ⟨gb259, 0, none⟩ = some (.int .i64 t254) ∧ w'.cell? ⟨gb259, 1, none⟩ = some (.int .i64 (wrap64 (a0_1 + 1))) ∧ w'.cell? ⟨gb259, 2, none⟩ = some (.slice Ao101 y260.length co101) ∧ w'.cell? ⟨gb253, 0, none⟩ = some (.int .i64 a0_0) ∧ w'.cell? ⟨gb253, 1, none⟩ = some (.int .i64 a1) ∧ w'.cell? ⟨gb253, 2, none⟩ = some (.int .i64 a0_1) ∧ w'.cell? ⟨gb253, 3, none⟩ = some (.int .i64 a2_0) ∧ w'.cell? ⟨gb253, 4, none⟩ = some (.int .i64 a2_1) ∧ w'.cell? ⟨gb253, 5, none⟩ = some (.int .i64 a2_2) ∧ w'.cell? ⟨gb253, 6, none⟩ = some (.int .i64 a2_3) ∧ w'.cell? ⟨gb253, 7, none⟩ = some (.int .i64 a2_4) ∧ w'.cell? ⟨gb253, 8, none⟩ = some (.int .i64 a2_5) ∧ w'.cell? ⟨gb253, 9, none⟩ = some (.int .i64 a2_6)) (ds := []) #[false, false, false, false, false] (by kernel_rfl) rfl rfl ⟨(bqC BK259.out 0).trans rfl, (bqC BK259.out 1).trans rfl, (bqC BK259.out 2).trans rfl, (bqC BK253.out 0).trans rfl, (bqC BK253.out 1).trans rfl, (bqC BK253.out 2).trans rfl, (bqC BK253.out 3).trans rfl, (bqC BK253.out 4).trans rfl, (bqC BK253.out 5).trans rfl, (bqC BK253.out 6).trans rfl, (bqC BK253.out 7).trans rfl, (bqC BK253.out 8).trans rfl, (bqC BK253.out 9).trans rfl⟩ (fun hHeld => ?_)
        generalize w104.drew = w105 at HO262 BK246 BK247 BK248 BK249 BK253 BK259 HB hHeld ⊢
        refine take_ (i := 0) (N := some 62) (v := ?_) (a' := ?_) #[true, false, false, false, false] rfl rfl (by kernel_rfl) (fun _ _ _ h => h) (Or.inl ⟨by rfl, ?_⟩) hHeld ?_ ?_
        rotate_left
        ·rintro w' ⟨s0, s1, s2, s3, s4, s5, s6, s7, s8, s9, s10, s11, s12⟩
         go_simp
         with_reducible rfl
        rotate_left
        ·simp only [Act.put, List.setIfInBounds_toArray, List.set_cons_zero, List.set_cons_succ, i64_w, i32_w]
         rfl
        refine take_ (i := 1) (N := some 63) (v := ?_) (a' := ?_) #[true, true, false, false, false] rfl rfl (by kernel_rfl) (fun _ _ _ h => h) (Or.inl ⟨by rfl, ?_⟩) hHeld ?_ ?_
        rotate_left
        ·rintro w' ⟨s0, s1, s2, s3, s4, s5, s6, s7, s8, s9, s10, s11, s12⟩
         go_simp
         with_reducible rfl
        rotate_left
        ·simp only [Act.put, List.setIfInBounds_toArray, List.set_cons_zero, List.set_cons_succ, i64_w, i32_w]
         rfl
        refine one_ (i := 2) (N := none) #[true, true, true, false, false] rfl rfl (by kernel_rfl) (by decide) (fun K hK => ?_)
        have hs106 : w105.cell? ⟨gb248, 0, none⟩ = some (.int .i64 0) := (bqC BK248.out 0).trans rfl
        have hfs106 := bqF BK248.out 0
        have hns106_0 := NB246_248.out
        have hns106_1 := NB247_248.out
        have hns106_3 := NB249_248.out
        have hns106_4 := NB253_248.out
        have hns106_5 := NB259_248.out
        have hms106_0 := NB248_246.out
        have hms106_1 := NB248_247.out
        have hms106_3 := NB248_249.out
        have hms106_4 := NB248_253.out
        have hms106_5 := NB248_259.out
        have hs107 : w105.cell? ⟨gb248, 1, none⟩ = some (.int .i64 0) := (bqC BK248.out 1).trans rfl
        have hfs107 := bqF BK248.out 1
        have hns107_0 := NB246_248.out
        have hns107_1 := NB247_248.out
        have hns107_3 := NB249_248.out
        have hns107_4 := NB253_248.out
        have hns107_5 := NB259_248.out
        have hms107_0 := NB248_246.out
        have hms107_1 := NB248_247.out
        have hms107_3 := NB248_249.out
        have hms107_4 := NB248_253.out
        have hms107_5 := NB248_259.out
        have hs108 : w105.cell? ⟨gb248, 2, none⟩ = some (.slice none 0 0) := (bqC BK248.out 2).trans rfl
        have hfs108 := bqF BK248.out 2
        have hns108_0 := NB246_248.out
        have hns108_1 := NB247_248.out
        have hns108_3 := NB249_248.out
        have hns108_4 := NB253_248.out
        have hns108_5 := NB259_248.out
        have hms108_0 := NB248_246.out
        have hms108_1 := NB248_247.out
        have hms108_3 := NB248_249.out
        have hms108_4 := NB248_253.out
        have hms108_5 := NB248_259.out
        refine skip_ (w1 := ?_) (by rfl) rfl ?_ ?_
        rotate_left
        ·go_simp
         rfl
        refine hK.out _ _ ⟨(GS.cf hHeld.1), (GS.cf hHeld.2.1), (GS.cf hHeld.2.2.1), (GS.cf hHeld.2.2.2.1), (GS.cf hHeld.2.2.2.2.1), (GS.cf hHeld.2.2.2.2.2.1), (GS.cf hHeld.2.2.2.2.2.2.1), (GS.cf hHeld.2.2.2.2.2.2.2.1), (GS.cf hHeld.2.2.2.2.2.2.2.2.1), (GS.cf hHeld.2.2.2.2.2.2.2.2.2.1), (GS.cf hHeld.2.2.2.2.2.2.2.2.2.2.1), (GS.cf hHeld.2.2.2.2.2.2.2.2.2.2.2.1), (GS.cf hHeld.2.2.2.2.2.2.2.2.2.2.2.2)⟩ (fun hHeld => ?_)
        clear hK K
        refine one_ (i := 3) (N := none) #[true, true, true, true, false] rfl rfl (by kernel_rfl) (by decide) (fun K hK => ?_)
        have hs109 : w105.cell? ⟨gb249, 0, none⟩ = some (.int .i64 0) := (bqC BK249.out 0).trans rfl
        have hfs109 := bqF BK249.out 0
        have hns109_0 := NB246_249.out
        have hns109_1 := NB247_249.out
        have hns109_2 := NB248_249.out
        have hns109_4 := NB253_249.out
        have hns109_5 := NB259_249.out
        have hms109_0 := NB249_246.out
        have hms109_1 := NB249_247.out
        have hms109_2 := NB249_248.out
        have hms109_4 := NB249_253.out
        have hms109_5 := NB249_259.out
        have hs110 : w105.cell? ⟨gb249, 1, none⟩ = some (.int .i64 0) := (bqC BK249.out 1).trans rfl
        have hfs110 := bqF BK249.out 1
        have hns110_0 := NB246_249.out
        have hns110_1 := NB247_249.out
        have hns110_2 := NB248_249.out
        have hns110_4 := NB253_249.out
        have hns110_5 := NB259_249.out
        have hms110_0 := NB249_246.out
        have hms110_1 := NB249_247.out
        have hms110_2 := NB249_248.out
        have hms110_4 := NB249_253.out
        have hms110_5 := NB249_259.out
        have hs111 : w105.cell? ⟨gb249, 2, none⟩ = some (.int .i64 0) := (bqC BK249.out 2).trans rfl
        have hfs111 := bqF BK249.out 2
        have hns111_0 := NB246_249.out
        have hns111_1 := NB247_249.out
        have hns111_2 := NB248_249.out
        have hns111_4 := NB253_249.out
        have hns111_5 := NB259_249.out
        have hms111_0 := NB249_246.out
        have hms111_1 := NB249_247.out
        have hms111_2 := NB249_248.out
        have hms111_4 := NB249_253.out
        have hms111_5 := NB249_259.out
        have hs112 : w105.cell? ⟨gb249, 3, none⟩ = some (.int .i64 0) := (bqC BK249.out 3).trans rfl
        have hfs112 := bqF BK249.out 3
        have hns112_0 := NB246_249.out
        have hns112_1 := NB247_249.out
        have hns112_2 := NB248_249.out
        have hns112_4 := NB253_249.out
        have hns112_5 := NB259_249.out
        have hms112_0 := NB249_246.out
        have hms112_1 := NB249_247.out
        have hms112_2 := NB249_248.out
        have hms112_4 := NB249_253.out
        have hms112_5 := NB249_259.out
        have hs113 : w105.cell? ⟨gb249, 4, none⟩ = some (.int .i64 0) := (bqC BK249.out 4).trans rfl
        have hfs113 := bqF BK249.out 4
        have hns113_0 := NB246_249.out
        have hns113_1 := NB247_249.out
        have hns113_2 := NB248_249.out
        have hns113_4 := NB253_249.out
        have hns113_5 := NB259_249.out
        have hms113_0 := NB249_246.out
        have hms113_1 := NB249_247.out
        have hms113_2 := NB249_248.out
        have hms113_4 := NB249_253.out
        have hms113_5 := NB249_259.out
        have hs114 : w105.cell? ⟨gb249, 5, none⟩ = some (.int .i64 0) := (bqC BK249.out 5).trans rfl
        have hfs114 := bqF BK249.out 5
        have hns114_0 := NB246_249.out
        have hns114_1 := NB247_249.out
        have hns114_2 := NB248_249.out
        have hns114_4 := NB253_249.out
        have hns114_5 := NB259_249.out
        have hms114_0 := NB249_246.out
        have hms114_1 := NB249_247.out
        have hms114_2 := NB249_248.out
        have hms114_4 := NB249_253.out
        have hms114_5 := NB249_259.out
        have hs115 : w105.cell? ⟨gb249, 6, none⟩ = some (.int .i64 0) := (bqC BK249.out 6).trans rfl
        have hfs115 := bqF BK249.out 6
        have hns115_0 := NB246_249.out
        have hns115_1 := NB247_249.out
        have hns115_2 := NB248_249.out
        have hns115_4 := NB253_249.out
        have hns115_5 := NB259_249.out
        have hms115_0 := NB249_246.out
        have hms115_1 := NB249_247.out
        have hms115_2 := NB249_248.out
        have hms115_4 := NB249_253.out
        have hms115_5 := NB249_259.out
        have hs116 : w105.cell? ⟨gb249, 7, none⟩ = some (.int .i64 0) := (bqC BK249.out 7).trans rfl
        have hfs116 := bqF BK249.out 7
        have hns116_0 := NB246_249.out
        have hns116_1 := NB247_249.out
        have hns116_2 := NB248_249.out
        have hns116_4 := NB253_249.out
        have hns116_5 := NB259_249.out
        have hms116_0 := NB249_246.out
        have hms116_1 := NB249_247.out
        have hms116_2 := NB249_248.out
        have hms116_4 := NB249_253.out
        have hms116_5 := NB249_259.out
        have hs117 : w105.cell? ⟨gb249, 8, none⟩ = some (.int .i64 0) := (bqC BK249.out 8).trans rfl
        have hfs117 := bqF BK249.out 8
        have hns117_0 := NB246_249.out
        have hns117_1 := NB247_249.out
        have hns117_2 := NB248_249.out
        have hns117_4 := NB253_249.out
        have hns117_5 := NB259_249.out
        have hms117_0 := NB249_246.out
        have hms117_1 := NB249_247.out
        have hms117_2 := NB249_248.out
        have hms117_4 := NB249_253.out
        have hms117_5 := NB249_259.out
        have hs118 : w105.cell? ⟨gb249, 9, none⟩ = some (.int .i64 0) := (bqC BK249.out 9).trans rfl
        have hfs118 := bqF BK249.out 9
        have hns118_0 := NB246_249.out
        have hns118_1 := NB247_249.out
        have hns118_2 := NB248_249.out
        have hns118_4 := NB253_249.out
        have hns118_5 := NB259_249.out
        have hms118_0 := NB249_246.out
        have hms118_1 := NB249_247.out
        have hms118_2 := NB249_248.out
        have hms118_4 := NB249_253.out
        have hms118_5 := NB249_259.out
        refine skip_ (w1 := ?_) (by rfl) rfl ?_ ?_
        rotate_left
        ·go_simp
         rfl
        refine hK.out _ _ ⟨(GS.cf hHeld.1), (GS.cf hHeld.2.1), (GS.cf hHeld.2.2.1), (GS.cf hHeld.2.2.2.1), (GS.cf hHeld.2.2.2.2.1), (GS.cf hHeld.2.2.2.2.2.1), (GS.cf hHeld.2.2.2.2.2.2.1), (GS.cf hHeld.2.2.2.2.2.2.2.1), (GS.cf hHeld.2.2.2.2.2.2.2.2.1), (GS.cf hHeld.2.2.2.2.2.2.2.2.2.1), (GS.cf hHeld.2.2.2.2.2.2.2.2.2.2.1), (GS.cf hHeld.2.2.2.2.2.2.2.2.2.2.2.1), (GS.cf hHeld.2.2.2.2.2.2.2.2.2.2.2.2)⟩ (fun hHeld => ?_)
        clear hK K
        refine pure_ (i := 4) (N := some 8) (v := ?_) (a' := ?_) #[true, true, true, true, true] rfl rfl (by kernel_rfl) (fun _ _ _ h => h) (Or.inl ⟨by rfl, ?_⟩) ?_ ?_
        rotate_left
        ·intro w'
         go_simp
         with_reducible rfl
        rotate_left
        ·simp only [Act.put, List.setIfInBounds_toArray, List.set_cons_zero, List.set_cons_succ, i64_w, i32_w]
         rfl
        refine done_ (by kernel_rfl) ?_
        try go_wp2
        refine bodyPost_ret (results_list (rs := [.cell 6 24, .cell 7 33, .tmp 8]) rfl (by simp) (.cell gb248 24 #[.int .i64 t254, .int .i64 (wrap64 (a0_1 + 1)), .slice Ao101 y260.length co101] (0, 0) _ rfl (GS.bqZ BK248.out) Try.underlying24 rfl (by kernel_rfl) (.cell gb249 33 #[.int .i64 a0_0, .int .i64 a1, .int .i64 a0_1, .int .i64 a2_0, .int .i64 a2_1, .int .i64 a2_2, .int .i64 a2_3, .int .i64 a2_4, .int .i64 a2_5, .int .i64 a2_6] (0, 0) _ rfl (GS.bqZ BK249.out) Try.underlying33 rfl (by kernel_rfl) (.tmp .nil)))) rfl ?_
        exact ⟨_, by first | rfl | (simp [errW_none, errW_some] <;> rfl) | (simp [*, errW_none, errW_some] <;> rfl), by (with_reducible repeat (first | apply Kd.R_alloc | apply Kd.R_drewN | apply Kd.R_drew)); exact Kd.R_mono (Kd.R_far (p := ⟨gb249, 9, none⟩) (Kd.R_far (p := ⟨gb249, 8, none⟩) (Kd.R_far (p := ⟨gb249, 7, none⟩) (Kd.R_far (p := ⟨gb249, 6, none⟩) (Kd.R_far (p := ⟨gb249, 5, none⟩) (Kd.R_far (p := ⟨gb249, 4, none⟩) (Kd.R_far (p := ⟨gb249, 3, none⟩) (Kd.R_far (p := ⟨gb249, 2, none⟩) (Kd.R_far (p := ⟨gb249, 1, none⟩) (Kd.R_far (p := ⟨gb249, 0, none⟩) (Kd.R_far (p := ⟨gb248, 2, none⟩) (Kd.R_far (p := ⟨gb248, 1, none⟩) (Kd.R_far (p := ⟨gb248, 0, none⟩) (Kd.R_mono (Kd.R_types HO262.out BK248.out (by decide)) (fun k_ hk => (⟨hk, GS.cj hk⟩ : _ ∧ k_ ≠ gb249))) (fun _ hk => hk.1.2) (.int .i64 t254)) (fun _ hk => hk.1.2) (.int .i64 (wrap64 (a0_1 + 1)))) (fun _ hk => hk.1.2) (.slice Ao101 y260.length co101)) (fun _ hk => hk.2) (.int .i64 a0_0)) (fun _ hk => hk.2) (.int .i64 a1)) (fun _ hk => hk.2) (.int .i64 a0_1)) (fun _ hk => hk.2) (.int .i64 a2_0)) (fun _ hk => hk.2) (.int .i64 a2_1)) (fun _ hk => hk.2) (.int .i64 a2_2)) (fun _ hk => hk.2) (.int .i64 a2_3)) (fun _ hk => hk.2) (.int .i64 a2_4)) (fun _ hk => hk.2) (.int .i64 a2_5)) (fun _ hk => hk.2) (.int .i64 a2_6)) (fun _ hk => trivial), GS.lB HB.out⟩
       ·rw [if_neg c65] at H
        exact absurd H (by simp)
    ·rw [if_neg c25] at H
     have c25b0 : (t252 == 0) = false := beq_eq_false_iff_ne.mpr c25
     try simp only [beq_self_eq_true, Bool.not_true, Bool.false_or, Bool.true_and] at c25b0
     have c25b1 : (t252 != 0) = true := bne_iff_ne.mpr c25
     simp only [Option.some.injEq, Prod.mk.injEq] at H
     obtain ⟨rfl, rfl, rfl, rfl, rfl, rfl, rfl, rfl, rfl, rfl, rfl, rfl, rfl, rfl⟩ := H
     go_enter Try.func16, Try.ntmps16
     go_wp2_with (first | ((with_reducible refine gqD (N := 3) rfl ?_); refine GS.bx (N := 3) (cs := #[.int .i64 a0_0, .int .i64 a0_1, .slice A0_2 l0_2.length c0_2]) (t := 24) ?_; intro gb246 hg w119 hbox hb; have n0_ := Aside0.mk (lqT (GS.lB HB.out) hb); have n1_ := Aside0.mk (hbox); have n2_ := Aside0.mk ((by rw [hg]; exact (lqZ (GS.lB HB.out)) : w.heap.size ≤ gb246)); have n3_ := Aside0.mk ((by rw [hg]; exact (lqZ (GS.lB HB.out)) : w.heap.size ≤ gb246)); clear HB; have HB := n0_; have BK246 := n1_; have GW246 := n2_; have GE246 := n3_; clear n0_ n1_ n2_ n3_; clear hb hbox hg) | ((with_reducible refine gqD (N := 5) rfl ?_); refine GS.bx (N := 5) (cs := #[.int .i64 a2_0, .int .i64 a2_1, .int .i64 a2_2, .int .i64 a2_3, .int .i64 a2_4, .int .i64 a2_5, .int .i64 a2_6]) (t := 26) ?_; intro gb247 hg w120 hbox hb; have n0_ := Aside0.mk (bqB (GS.bqX BK246.out) hb); have n1_ := Aside0.mk (lqT (GS.lB HB.out) hb); have n2_ := Aside0.mk (hbox); have n3_ := Aside0.mk ((by rw [hg]; exact (lqZ (GS.lB HB.out)) : w.heap.size ≤ gb247)); have n4_ := Aside0.mk ((by rw [hg]; exact (lqZ (GS.lB HB.out)) : w.heap.size ≤ gb247)); have n5_ := Aside0.mk ((by rw [hg]; exact Nat.ne_of_lt (blk_lt (GS.bqX BK246.out)) : gb246 ≠ gb247)); have n6_ := Aside0.mk ((by rw [hg]; exact Nat.ne_of_gt (blk_lt (GS.bqX BK246.out)) : gb247 ≠ gb246)); clear BK246; clear HB; have BK246 := n0_; have HB := n1_; have BK247 := n2_; have GW247 := n3_; have GE247 := n4_; have NB246_247 := n5_; have NB247_246 := n6_; clear n0_ n1_ n2_ n3_ n4_ n5_ n6_; clear hb hbox hg) | ((with_reducible refine gqD (N := 6) rfl ?_); refine GS.bx (N := 6) (cs := #[.int .i64 0, .int .i64 0, .slice none 0 0]) (t := 24) ?_; intro gb248 hg w121 hbox hb; have n0_ := Aside0.mk (bqB (GS.bqX BK246.out) hb); have n1_ := Aside0.mk (bqB (GS.bqX BK247.out) hb); have n2_ := Aside0.mk (lqT (GS.lB HB.out) hb); have n3_ := Aside0.mk (hbox); have n4_ := Aside0.mk ((by rw [hg]; exact (lqZ (GS.lB HB.out)) : w.heap.size ≤ gb248)); have n5_ := Aside0.mk ((by rw [hg]; exact (lqZ (GS.lB HB.out)) : w.heap.size ≤ gb248)); have n6_ := Aside0.mk ((by rw [hg]; exact Nat.ne_of_lt (blk_lt (GS.bqX BK246.out)) : gb246 ≠ gb248)); have n7_ := Aside0.mk ((by rw [hg]; exact Nat.ne_of_gt (blk_lt (GS.bqX BK246.out)) : gb248 ≠ gb246)); have n8_ := Aside0.mk ((by rw [hg]; exact Nat.ne_of_lt (blk_lt (GS.bqX BK247.out)) : gb247 ≠ gb248)); have n9_ := Aside0.mk ((by rw [hg]; exact Nat.ne_of_gt (blk_lt (GS.bqX BK247.out)) : gb248 ≠ gb247)); clear BK246; clear BK247; clear HB; have BK246 := n0_; have BK247 := n1_; have HB := n2_; have BK248 := n3_; have GW248 := n4_; have GE248 := n5_; have NB246_248 := n6_; have NB248_246 := n7_; have NB247_248 := n8_; have NB248_247 := n9_; clear n0_ n1_ n2_ n3_ n4_ n5_ n6_ n7_ n8_ n9_; clear hb hbox hg) | ((with_reducible refine gqD (N := 7) rfl ?_); refine GS.bx (N := 7) (cs := #[.int .i64 0, .int .i64 0, .int .i64 0, .int .i64 0, .int .i64 0, .int .i64 0, .int .i64 0, .int .i64 0, .int .i64 0, .int .i64 0]) (t := 33) ?_; intro gb249 hg w122 hbox hb; have n0_ := Aside0.mk (bqB (GS.bqX BK246.out) hb); have n1_ := Aside0.mk (bqB (GS.bqX BK247.out) hb); have n2_ := Aside0.mk (bqB (GS.bqX BK248.out) hb); have n3_ := Aside0.mk (lqT (GS.lB HB.out) hb); have n4_ := Aside0.mk (hbox); have n5_ := Aside0.mk ((by rw [hg]; exact (lqZ (GS.lB HB.out)) : w.heap.size ≤ gb249)); have n6_ := Aside0.mk ((by rw [hg]; exact (lqZ (GS.lB HB.out)) : w.heap.size ≤ gb249)); have n7_ := Aside0.mk ((by rw [hg]; exact Nat.ne_of_lt (blk_lt (GS.bqX BK246.out)) : gb246 ≠ gb249)); have n8_ := Aside0.mk ((by rw [hg]; exact Nat.ne_of_gt (blk_lt (GS.bqX BK246.out)) : gb249 ≠ gb246)); have n9_ := Aside0.mk ((by rw [hg]; exact Nat.ne_of_lt (blk_lt (GS.bqX BK247.out)) : gb247 ≠ gb249)); have n10_ := Aside0.mk ((by rw [hg]; exact Nat.ne_of_gt (blk_lt (GS.bqX BK247.out)) : gb249 ≠ gb247)); have n11_ := Aside0.mk ((by rw [hg]; exact Nat.ne_of_lt (blk_lt (GS.bqX BK248.out)) : gb248 ≠ gb249)); have n12_ := Aside0.mk ((by rw [hg]; exact Nat.ne_of_gt (blk_lt (GS.bqX BK248.out)) : gb249 ≠ gb248)); clear BK246; clear BK247; clear BK248; clear HB; have BK246 := n0_; have BK247 := n1_; have BK248 := n2_; have HB := n3_; have BK249 := n4_; have GW249 := n5_; have GE249 := n6_; have NB246_249 := n7_; have NB249_246 := n8_; have NB247_249 := n9_; have NB249_247 := n10_; have NB248_249 := n11_; have NB249_248 := n12_; clear n0_ n1_ n2_ n3_ n4_ n5_ n6_ n7_ n8_ n9_ n10_ n11_ n12_; clear hb hbox hg; have hnb123 := NB246_247.out; have hnc123 := NB247_246.out; have hnb124 := NB246_248.out; have hnc124 := NB248_246.out; have hnb125 := NB246_249.out; have hnc125 := NB249_246.out; obtain ⟨hcz126_0, hcz126_1, hcz126_2, hfz126_0, hfz126_1, hfz126_2⟩ := GS.c3 BK246.out) | ((with_reducible refine gqC (f := 18) rfl ?_); refine GS.gL (some 12) Try.func18 #[.agg #[.int .i64 a0_0, .int .i64 a0_1, .slice A0_2 l0_2.length c0_2]] ?_; (with_reducible refine (spileref42_Check.calls k a0_0 a0_1 _ _ l0_2 t250 _ ?side1 ?side2 A4.out).mono ?_); (case side1 => exact GS.rC (Kd.C_below HR0_2.out HB.out)); (case side2 => exact HC0_2.out); rintro e w127 ⟨rfl, hb⟩; refine ⟨_, rfl, ?_⟩; have n0_ := Aside0.mk (bqB (GS.bqX BK246.out) hb); have n1_ := Aside0.mk (bqB (GS.bqX BK247.out) hb); have n2_ := Aside0.mk (bqB (GS.bqX BK248.out) hb); have n3_ := Aside0.mk (bqB (GS.bqX BK249.out) hb); have n4_ := Aside0.mk (lqT (GS.lB HB.out) hb); clear BK246; clear BK247; clear BK248; clear BK249; clear HB; have BK246 := n0_; have BK247 := n1_; have BK248 := n2_; have BK249 := n3_; have HB := n4_; clear n0_ n1_ n2_ n3_ n4_; (try clear hb); (try clear hb2); (try clear hk); (try clear hi)) | ((with_reducible refine gqC (f := 41) rfl ?_); refine GS.gL (some 17) Try.func41 #[.int .i64 a1] ?_; (with_reducible refine (spileref40_Node.calls a1 true _ A6.out).mono ?_); rintro e w' ⟨rfl, ⟨nd, rfl⟩⟩; refine ⟨_, rfl, ?_⟩; (try (rw [drewN_self w127]; generalize hq_ : World.drewN w127 _ = w127; have n0_ : Aside0 (w127.heap[gb246]? = some (.cells #[.int .i64 a0_0, .int .i64 a0_1, .slice A0_2 l0_2.length c0_2] 24 (0, 0))) := ⟨by rw [← hq_]; exact (GS.bqX BK246.out)⟩; have n1_ : Aside0 (w127.heap[gb247]? = some (.cells #[.int .i64 a2_0, .int .i64 a2_1, .int .i64 a2_2, .int .i64 a2_3, .int .i64 a2_4, .int .i64 a2_5, .int .i64 a2_6] 26 (0, 0))) := ⟨by rw [← hq_]; exact (GS.bqX BK247.out)⟩; have n2_ : Aside0 (w127.heap[gb248]? = some (.cells #[.int .i64 0, .int .i64 0, .slice none 0 0] 24 (0, 0))) := ⟨by rw [← hq_]; exact (GS.bqX BK248.out)⟩; have n3_ : Aside0 (w127.heap[gb249]? = some (.cells #[.int .i64 0, .int .i64 0, .int .i64 0, .int .i64 0, .int .i64 0, .int .i64 0, .int .i64 0, .int .i64 0, .int .i64 0, .int .i64 0] 33 (0, 0))) := ⟨by rw [← hq_]; exact (GS.bqX BK249.out)⟩; have n4_ : Aside0 (Below w.heap.size w w127) := ⟨by rw [← hq_]; exact (GS.lB HB.out)⟩; clear BK246 BK247 BK248 BK249 HB hq_; have BK246 := n0_; have BK247 := n1_; have BK248 := n2_; have BK249 := n3_; have HB := n4_; clear n0_ n1_ n2_ n3_ n4_)); obtain ⟨hcz128_0, hcz128_1, hcz128_2, hfz128_0, hfz128_1, hfz128_2⟩ := GS.c3 BK246.out; have hnb129 := NB247_248.out; have hnc129 := NB248_247.out; have hnb130 := NB247_249.out; have hnc130 := NB249_247.out; obtain ⟨hcz131_0, hcz131_1, hcz131_2, hcz131_3, hcz131_4, hcz131_5, hcz131_6, hfz131_0, hfz131_1, hfz131_2, hfz131_3, hfz131_4, hfz131_5, hfz131_6⟩ := GS.c7 BK247.out) | ((with_reducible refine gqC (f := 44) rfl ?_); refine GS.gL (some 28) Try.func44 #[.agg #[.int .i64 a2_0, .int .i64 a2_1, .int .i64 a2_2, .int .i64 a2_3, .int .i64 a2_4, .int .i64 a2_5, .int .i64 a2_6]] ?_; (with_reducible refine (spileref40_Check.calls k a2_0 a2_1 a2_2 a2_3 a2_4 a2_5 a2_6 t252 _ A24.out).mono ?_); rintro e w132 ⟨rfl, hb⟩; refine ⟨_, rfl, ?_⟩; have n0_ := Aside0.mk (bqB (GS.bqX BK246.out) hb); have n1_ := Aside0.mk (bqB (GS.bqX BK247.out) hb); have n2_ := Aside0.mk (bqB (GS.bqX BK248.out) hb); have n3_ := Aside0.mk (bqB (GS.bqX BK249.out) hb); have n4_ := Aside0.mk (lqT (GS.lB HB.out) hb); clear BK246; clear BK247; clear BK248; clear BK249; clear HB; have BK246 := n0_; have BK247 := n1_; have BK248 := n2_; have BK249 := n3_; have HB := n4_; clear n0_ n1_ n2_ n3_ n4_; (try clear hb); (try clear hb2); (try clear hk); (try clear hi); have hnb133 := NB248_249.out; have hnc133 := NB249_248.out; obtain ⟨hcz134_0, hcz134_1, hcz134_2, hfz134_0, hfz134_1, hfz134_2⟩ := GS.c3 BK248.out; obtain ⟨hcz135_0, hcz135_1, hcz135_2, hcz135_3, hcz135_4, hcz135_5, hcz135_6, hcz135_7, hcz135_8, hcz135_9, hfz135_0, hfz135_1, hfz135_2, hfz135_3, hfz135_4, hfz135_5, hfz135_6, hfz135_7, hfz135_8, hfz135_9⟩ := GS.c10 BK249.out))
     refine bodyPost_ret (results_list (rs := [.cell 6 24, .cell 7 33, .tmp 8]) rfl (by simp) (.cell gb248 24 #[.int .i64 0, .int .i64 0, .slice none 0 0] (0, 0) _ rfl (GS.bqZ BK248.out) Try.underlying24 rfl (by kernel_rfl) (.cell gb249 33 #[.int .i64 0, .int .i64 0, .int .i64 0, .int .i64 0, .int .i64 0, .int .i64 0, .int .i64 0, .int .i64 0, .int .i64 0, .int .i64 0] (0, 0) _ rfl (GS.bqZ BK249.out) Try.underlying33 rfl (by kernel_rfl) (.tmp .nil)))) rfl ?_
     exact ⟨_, by first | rfl | (simp [errW_none, errW_some] <;> rfl) | (simp [*, errW_none, errW_some] <;> rfl), by first | exact Kd.R_nil _ _ _ _ _ | exact Kd.N_nil _ _ _ _ _ | exact Kd.V_nil _ _ _ _ _ | exact Kd.Q_nil _ _ _ _ _ | exact Kd.S_nil _ _ _ _ _, GS.lB HB.out⟩
  ·replace c7 := Bool.eq_false_iff.mpr c7
   subst c7
   have H1 : (some (0, 0, ([] : List (S33)), 0, 0, 0, 0, 0, 0, 0, 0, 0, 0, 2)) = some (r1, r2, r3, r4, r5, r6, r7, r8, r9, r10, r11, r12, r13, r14) := by rw [if_neg (show ¬ (false = true) by decide)] at H; exact H
   clear H
   have H := H1
   clear H1
   simp only [Option.some.injEq, Prod.mk.injEq] at H
   obtain ⟨rfl, rfl, rfl, rfl, rfl, rfl, rfl, rfl, rfl, rfl, rfl, rfl, rfl, rfl⟩ := H
   go_enter Try.func16, Try.ntmps16
   go_wp2_with (first | ((with_reducible refine gqD (N := 3) rfl ?_); refine GS.bx (N := 3) (cs := #[.int .i64 a0_0, .int .i64 a0_1, .slice A0_2 l0_2.length c0_2]) (t := 24) ?_; intro gb246 hg w136 hbox hb; have n0_ := Aside0.mk (lqT (GS.lB HB.out) hb); have n1_ := Aside0.mk (hbox); have n2_ := Aside0.mk ((by rw [hg]; exact (lqZ (GS.lB HB.out)) : w.heap.size ≤ gb246)); have n3_ := Aside0.mk ((by rw [hg]; exact (lqZ (GS.lB HB.out)) : w.heap.size ≤ gb246)); clear HB; have HB := n0_; have BK246 := n1_; have GW246 := n2_; have GE246 := n3_; clear n0_ n1_ n2_ n3_; clear hb hbox hg) | ((with_reducible refine gqD (N := 5) rfl ?_); refine GS.bx (N := 5) (cs := #[.int .i64 a2_0, .int .i64 a2_1, .int .i64 a2_2, .int .i64 a2_3, .int .i64 a2_4, .int .i64 a2_5, .int .i64 a2_6]) (t := 26) ?_; intro gb247 hg w137 hbox hb; have n0_ := Aside0.mk (bqB (GS.bqX BK246.out) hb); have n1_ := Aside0.mk (lqT (GS.lB HB.out) hb); have n2_ := Aside0.mk (hbox); have n3_ := Aside0.mk ((by rw [hg]; exact (lqZ (GS.lB HB.out)) : w.heap.size ≤ gb247)); have n4_ := Aside0.mk ((by rw [hg]; exact (lqZ (GS.lB HB.out)) : w.heap.size ≤ gb247)); have n5_ := Aside0.mk ((by rw [hg]; exact Nat.ne_of_lt (blk_lt (GS.bqX BK246.out)) : gb246 ≠ gb247)); have n6_ := Aside0.mk ((by rw [hg]; exact Nat.ne_of_gt (blk_lt (GS.bqX BK246.out)) : gb247 ≠ gb246)); clear BK246; clear HB; have BK246 := n0_; have HB := n1_; have BK247 := n2_; have GW247 := n3_; have GE247 := n4_; have NB246_247 := n5_; have NB247_246 := n6_; clear n0_ n1_ n2_ n3_ n4_ n5_ n6_; clear hb hbox hg) | ((with_reducible refine gqD (N := 6) rfl ?_); refine GS.bx (N := 6) (cs := #[.int .i64 0, .int .i64 0, .slice none 0 0]) (t := 24) ?_; intro gb248 hg w138 hbox hb; have n0_ := Aside0.mk (bqB (GS.bqX BK246.out) hb); have n1_ := Aside0.mk (bqB (GS.bqX BK247.out) hb); have n2_ := Aside0.mk (lqT (GS.lB HB.out) hb); have n3_ := Aside0.mk (hbox); have n4_ := Aside0.mk ((by rw [hg]; exact (lqZ (GS.lB HB.out)) : w.heap.size ≤ gb248)); have n5_ := Aside0.mk ((by rw [hg]; exact (lqZ (GS.lB HB.out)) : w.heap.size ≤ gb248)); have n6_ := Aside0.mk ((by rw [hg]; exact Nat.ne_of_lt (blk_lt (GS.bqX BK246.out)) : gb246 ≠ gb248)); have n7_ := Aside0.mk ((by rw [hg]; exact Nat.ne_of_gt (blk_lt (GS.bqX BK246.out)) : gb248 ≠ gb246)); have n8_ := Aside0.mk ((by rw [hg]; exact Nat.ne_of_lt (blk_lt (GS.bqX BK247.out)) : gb247 ≠ gb248)); have n9_ := Aside0.mk ((by rw [hg]; exact Nat.ne_of_gt (blk_lt (GS.bqX BK247.out)) : gb248 ≠ gb247)); clear BK246; clear BK247; clear HB; have BK246 := n0_; have BK247 := n1_; have HB := n2_; have BK248 := n3_; have GW248 := n4_; have GE248 := n5_; have NB246_248 := n6_; have NB248_246 := n7_; have NB247_248 := n8_; have NB248_247 := n9_; clear n0_ n1_ n2_ n3_ n4_ n5_ n6_ n7_ n8_ n9_; clear hb hbox hg) | ((with_reducible refine gqD (N := 7) rfl ?_); refine GS.bx (N := 7) (cs := #[.int .i64 0, .int .i64 0, .int .i64 0, .int .i64 0, .int .i64 0, .int .i64 0, .int .i64 0, .int .i64 0, .int .i64 0, .int .i64 0]) (t := 33) ?_; intro gb249 hg w139 hbox hb; have n0_ := Aside0.mk (bqB (GS.bqX BK246.out) hb); have n1_ := Aside0.mk (bqB (GS.bqX BK247.out) hb); have n2_ := Aside0.mk (bqB (GS.bqX BK248.out) hb); have n3_ := Aside0.mk (lqT (GS.lB HB.out) hb); have n4_ := Aside0.mk (hbox); have n5_ := Aside0.mk ((by rw [hg]; exact (lqZ (GS.lB HB.out)) : w.heap.size ≤ gb249)); have n6_ := Aside0.mk ((by rw [hg]; exact (lqZ (GS.lB HB.out)) : w.heap.size ≤ gb249)); have n7_ := Aside0.mk ((by rw [hg]; exact Nat.ne_of_lt (blk_lt (GS.bqX BK246.out)) : gb246 ≠ gb249)); have n8_ := Aside0.mk ((by rw [hg]; exact Nat.ne_of_gt (blk_lt (GS.bqX BK246.out)) : gb249 ≠ gb246)); have n9_ := Aside0.mk ((by rw [hg]; exact Nat.ne_of_lt (blk_lt (GS.bqX BK247.out)) : gb247 ≠ gb249)); have n10_ := Aside0.mk ((by rw [hg]; exact Nat.ne_of_gt (blk_lt (GS.bqX BK247.out)) : gb249 ≠ gb247)); have n11_ := Aside0.mk ((by rw [hg]; exact Nat.ne_of_lt (blk_lt (GS.bqX BK248.out)) : gb248 ≠ gb249)); have n12_ := Aside0.mk ((by rw [hg]; exact Nat.ne_of_gt (blk_lt (GS.bqX BK248.out)) : gb249 ≠ gb248)); clear BK246; clear BK247; clear BK248; clear HB; have BK246 := n0_; have BK247 := n1_; have BK248 := n2_; have HB := n3_; have BK249 := n4_; have GW249 := n5_; have GE249 := n6_; have NB246_249 := n7_; have NB249_246 := n8_; have NB247_249 := n9_; have NB249_247 := n10_; have NB248_249 := n11_; have NB249_248 := n12_; clear n0_ n1_ n2_ n3_ n4_ n5_ n6_ n7_ n8_ n9_ n10_ n11_ n12_; clear hb hbox hg; have hnb140 := NB246_247.out; have hnc140 := NB247_246.out; have hnb141 := NB246_248.out; have hnc141 := NB248_246.out; have hnb142 := NB246_249.out; have hnc142 := NB249_246.out; obtain ⟨hcz143_0, hcz143_1, hcz143_2, hfz143_0, hfz143_1, hfz143_2⟩ := GS.c3 BK246.out) | ((with_reducible refine gqC (f := 18) rfl ?_); refine GS.gL (some 12) Try.func18 #[.agg #[.int .i64 a0_0, .int .i64 a0_1, .slice A0_2 l0_2.length c0_2]] ?_; (with_reducible refine (spileref42_Check.calls k a0_0 a0_1 _ _ l0_2 t250 _ ?side1 ?side2 A4.out).mono ?_); (case side1 => exact GS.rC (Kd.C_below HR0_2.out HB.out)); (case side2 => exact HC0_2.out); rintro e w144 ⟨rfl, hb⟩; refine ⟨_, rfl, ?_⟩; have n0_ := Aside0.mk (bqB (GS.bqX BK246.out) hb); have n1_ := Aside0.mk (bqB (GS.bqX BK247.out) hb); have n2_ := Aside0.mk (bqB (GS.bqX BK248.out) hb); have n3_ := Aside0.mk (bqB (GS.bqX BK249.out) hb); have n4_ := Aside0.mk (lqT (GS.lB HB.out) hb); clear BK246; clear BK247; clear BK248; clear BK249; clear HB; have BK246 := n0_; have BK247 := n1_; have BK248 := n2_; have BK249 := n3_; have HB := n4_; clear n0_ n1_ n2_ n3_ n4_; (try clear hb); (try clear hb2); (try clear hk); (try clear hi)) | ((with_reducible refine gqC (f := 41) rfl ?_); refine GS.gL (some 17) Try.func41 #[.int .i64 a1] ?_; (with_reducible refine (spileref40_Node.calls a1 false _ A6.out).mono ?_); rintro e w' ⟨rfl, ⟨nd, rfl⟩⟩; refine ⟨_, rfl, ?_⟩; (try (rw [drewN_self w144]; generalize hq_ : World.drewN w144 _ = w144; have n0_ : Aside0 (w144.heap[gb246]? = some (.cells #[.int .i64 a0_0, .int .i64 a0_1, .slice A0_2 l0_2.length c0_2] 24 (0, 0))) := ⟨by rw [← hq_]; exact (GS.bqX BK246.out)⟩; have n1_ : Aside0 (w144.heap[gb247]? = some (.cells #[.int .i64 a2_0, .int .i64 a2_1, .int .i64 a2_2, .int .i64 a2_3, .int .i64 a2_4, .int .i64 a2_5, .int .i64 a2_6] 26 (0, 0))) := ⟨by rw [← hq_]; exact (GS.bqX BK247.out)⟩; have n2_ : Aside0 (w144.heap[gb248]? = some (.cells #[.int .i64 0, .int .i64 0, .slice none 0 0] 24 (0, 0))) := ⟨by rw [← hq_]; exact (GS.bqX BK248.out)⟩; have n3_ : Aside0 (w144.heap[gb249]? = some (.cells #[.int .i64 0, .int .i64 0, .int .i64 0, .int .i64 0, .int .i64 0, .int .i64 0, .int .i64 0, .int .i64 0, .int .i64 0, .int .i64 0] 33 (0, 0))) := ⟨by rw [← hq_]; exact (GS.bqX BK249.out)⟩; have n4_ : Aside0 (Below w.heap.size w w144) := ⟨by rw [← hq_]; exact (GS.lB HB.out)⟩; clear BK246 BK247 BK248 BK249 HB hq_; have BK246 := n0_; have BK247 := n1_; have BK248 := n2_; have BK249 := n3_; have HB := n4_; clear n0_ n1_ n2_ n3_ n4_)); have hnb145 := NB248_247.out; have hnc145 := NB247_248.out; have hnb146 := NB248_249.out; have hnc146 := NB249_248.out; obtain ⟨hcz147_0, hcz147_1, hcz147_2, hfz147_0, hfz147_1, hfz147_2⟩ := GS.c3 BK248.out; have hnb148 := NB249_247.out; have hnc148 := NB247_249.out; obtain ⟨hcz149_0, hcz149_1, hcz149_2, hcz149_3, hcz149_4, hcz149_5, hcz149_6, hcz149_7, hcz149_8, hcz149_9, hfz149_0, hfz149_1, hfz149_2, hfz149_3, hfz149_4, hfz149_5, hfz149_6, hfz149_7, hfz149_8, hfz149_9⟩ := GS.c10 BK249.out))
   refine bodyPost_ret (results_list (rs := [.cell 6 24, .cell 7 33, .tmp 8]) rfl (by simp) (.cell gb248 24 #[.int .i64 0, .int .i64 0, .slice none 0 0] (0, 0) _ rfl (GS.bqZ BK248.out) Try.underlying24 rfl (by kernel_rfl) (.cell gb249 33 #[.int .i64 0, .int .i64 0, .int .i64 0, .int .i64 0, .int .i64 0, .int .i64 0, .int .i64 0, .int .i64 0, .int .i64 0, .int .i64 0] (0, 0) _ rfl (GS.bqZ BK249.out) Try.underlying33 rfl (by kernel_rfl) (.tmp .nil)))) rfl ?_
   exact ⟨_, by first | rfl | (simp [errW_none, errW_some] <;> rfl) | (simp [*, errW_none, errW_some] <;> rfl), by first | exact Kd.R_nil _ _ _ _ _ | exact Kd.N_nil _ _ _ _ _ | exact Kd.V_nil _ _ _ _ _ | exact Kd.Q_nil _ _ _ _ _ | exact Kd.S_nil _ _ _ _ _, GS.lB HB.out⟩
 ·rw [if_neg c5] at H
  have c5b0 : (t250 == 0) = false := beq_eq_false_iff_ne.mpr c5
  try simp only [beq_self_eq_true, Bool.not_true, Bool.false_or, Bool.true_and] at c5b0
  have c5b1 : (t250 != 0) = true := bne_iff_ne.mpr c5
  simp only [Option.some.injEq, Prod.mk.injEq] at H
  obtain ⟨rfl, rfl, rfl, rfl, rfl, rfl, rfl, rfl, rfl, rfl, rfl, rfl, rfl, rfl⟩ := H
  go_enter Try.func16, Try.ntmps16
  go_wp2_with (first | ((with_reducible refine gqD (N := 3) rfl ?_); refine GS.bx (N := 3) (cs := #[.int .i64 a0_0, .int .i64 a0_1, .slice A0_2 l0_2.length c0_2]) (t := 24) ?_; intro gb246 hg w150 hbox hb; have n0_ := Aside0.mk (lqT (GS.lB HB.out) hb); have n1_ := Aside0.mk (hbox); have n2_ := Aside0.mk ((by rw [hg]; exact (lqZ (GS.lB HB.out)) : w.heap.size ≤ gb246)); have n3_ := Aside0.mk ((by rw [hg]; exact (lqZ (GS.lB HB.out)) : w.heap.size ≤ gb246)); clear HB; have HB := n0_; have BK246 := n1_; have GW246 := n2_; have GE246 := n3_; clear n0_ n1_ n2_ n3_; clear hb hbox hg) | ((with_reducible refine gqD (N := 5) rfl ?_); refine GS.bx (N := 5) (cs := #[.int .i64 a2_0, .int .i64 a2_1, .int .i64 a2_2, .int .i64 a2_3, .int .i64 a2_4, .int .i64 a2_5, .int .i64 a2_6]) (t := 26) ?_; intro gb247 hg w151 hbox hb; have n0_ := Aside0.mk (bqB (GS.bqX BK246.out) hb); have n1_ := Aside0.mk (lqT (GS.lB HB.out) hb); have n2_ := Aside0.mk (hbox); have n3_ := Aside0.mk ((by rw [hg]; exact (lqZ (GS.lB HB.out)) : w.heap.size ≤ gb247)); have n4_ := Aside0.mk ((by rw [hg]; exact (lqZ (GS.lB HB.out)) : w.heap.size ≤ gb247)); have n5_ := Aside0.mk ((by rw [hg]; exact Nat.ne_of_lt (blk_lt (GS.bqX BK246.out)) : gb246 ≠ gb247)); have n6_ := Aside0.mk ((by rw [hg]; exact Nat.ne_of_gt (blk_lt (GS.bqX BK246.out)) : gb247 ≠ gb246)); clear BK246; clear HB; have BK246 := n0_; have HB := n1_; have BK247 := n2_; have GW247 := n3_; have GE247 := n4_; have NB246_247 := n5_; have NB247_246 := n6_; clear n0_ n1_ n2_ n3_ n4_ n5_ n6_; clear hb hbox hg) | ((with_reducible refine gqD (N := 6) rfl ?_); refine GS.bx (N := 6) (cs := #[.int .i64 0, .int .i64 0, .slice none 0 0]) (t := 24) ?_; intro gb248 hg w152 hbox hb; have n0_ := Aside0.mk (bqB (GS.bqX BK246.out) hb); have n1_ := Aside0.mk (bqB (GS.bqX BK247.out) hb); have n2_ := Aside0.mk (lqT (GS.lB HB.out) hb); have n3_ := Aside0.mk (hbox); have n4_ := Aside0.mk ((by rw [hg]; exact (lqZ (GS.lB HB.out)) : w.heap.size ≤ gb248)); have n5_ := Aside0.mk ((by rw [hg]; exact (lqZ (GS.lB HB.out)) : w.heap.size ≤ gb248)); have n6_ := Aside0.mk ((by rw [hg]; exact Nat.ne_of_lt (blk_lt (GS.bqX BK246.out)) : gb246 ≠ gb248)); have n7_ := Aside0.mk ((by rw [hg]; exact Nat.ne_of_gt (blk_lt (GS.bqX BK246.out)) : gb248 ≠ gb246)); have n8_ := Aside0.mk ((by rw [hg]; exact Nat.ne_of_lt (blk_lt (GS.bqX BK247.out)) : gb247 ≠ gb248)); have n9_ := Aside0.mk ((by rw [hg]; exact Nat.ne_of_gt (blk_lt (GS.bqX BK247.out)) : gb248 ≠ gb247)); clear BK246; clear BK247; clear HB; have BK246 := n0_; have BK247 := n1_; have HB := n2_; have BK248 := n3_; have GW248 := n4_; have GE248 := n5_; have NB246_248 := n6_; have NB248_246 := n7_; have NB247_248 := n8_; have NB248_247 := n9_; clear n0_ n1_ n2_ n3_ n4_ n5_ n6_ n7_ n8_ n9_; clear hb hbox hg) | ((with_reducible refine gqD (N := 7) rfl ?_); refine GS.bx (N := 7) (cs := #[.int .i64 0, .int .i64 0, .int .i64 0, .int .i64 0, .int .i64 0, .int .i64 0, .int .i64 0, .int .i64 0, .int .i64 0, .int .i64 0]) (t := 33) ?_; intro gb249 hg w153 hbox hb; have n0_ := Aside0.mk (bqB (GS.bqX BK246.out) hb); have n1_ := Aside0.mk (bqB (GS.bqX BK247.out) hb); have n2_ := Aside0.mk (bqB (GS.bqX BK248.out) hb); have n3_ := Aside0.mk (lqT (GS.lB HB.out) hb); have n4_ := Aside0.mk (hbox); have n5_ := Aside0.mk ((by rw [hg]; exact (lqZ (GS.lB HB.out)) : w.heap.size ≤ gb249)); have n6_ := Aside0.mk ((by rw [hg]; exact (lqZ (GS.lB HB.out)) : w.heap.size ≤ gb249)); have n7_ := Aside0.mk ((by rw [hg]; exact Nat.ne_of_lt (blk_lt (GS.bqX BK246.out)) : gb246 ≠ gb249)); have n8_ := Aside0.mk ((by rw [hg]; exact Nat.ne_of_gt (blk_lt (GS.bqX BK246.out)) : gb249 ≠ gb246)); have n9_ := Aside0.mk ((by rw [hg]; exact Nat.ne_of_lt (blk_lt (GS.bqX BK247.out)) : gb247 ≠ gb249)); have n10_ := Aside0.mk ((by rw [hg]; exact Nat.ne_of_gt (blk_lt (GS.bqX BK247.out)) : gb249 ≠ gb247)); have n11_ := Aside0.mk ((by rw [hg]; exact Nat.ne_of_lt (blk_lt (GS.bqX BK248.out)) : gb248 ≠ gb249)); have n12_ := Aside0.mk ((by rw [hg]; exact Nat.ne_of_gt (blk_lt (GS.bqX BK248.out)) : gb249 ≠ gb248)); clear BK246; clear BK247; clear BK248; clear HB; have BK246 := n0_; have BK247 := n1_; have BK248 := n2_; have HB := n3_; have BK249 := n4_; have GW249 := n5_; have GE249 := n6_; have NB246_249 := n7_; have NB249_246 := n8_; have NB247_249 := n9_; have NB249_247 := n10_; have NB248_249 := n11_; have NB249_248 := n12_; clear n0_ n1_ n2_ n3_ n4_ n5_ n6_ n7_ n8_ n9_ n10_ n11_ n12_; clear hb hbox hg; have hnb154 := NB246_247.out; have hnc154 := NB247_246.out; have hnb155 := NB246_248.out; have hnc155 := NB248_246.out; have hnb156 := NB246_249.out; have hnc156 := NB249_246.out; obtain ⟨hcz157_0, hcz157_1, hcz157_2, hfz157_0, hfz157_1, hfz157_2⟩ := GS.c3 BK246.out) | ((with_reducible refine gqC (f := 18) rfl ?_); refine GS.gL (some 12) Try.func18 #[.agg #[.int .i64 a0_0, .int .i64 a0_1, .slice A0_2 l0_2.length c0_2]] ?_; (with_reducible refine (spileref42_Check.calls k a0_0 a0_1 _ _ l0_2 t250 _ ?side1 ?side2 A4.out).mono ?_); (case side1 => exact GS.rC (Kd.C_below HR0_2.out HB.out)); (case side2 => exact HC0_2.out); rintro e w158 ⟨rfl, hb⟩; refine ⟨_, rfl, ?_⟩; have n0_ := Aside0.mk (bqB (GS.bqX BK246.out) hb); have n1_ := Aside0.mk (bqB (GS.bqX BK247.out) hb); have n2_ := Aside0.mk (bqB (GS.bqX BK248.out) hb); have n3_ := Aside0.mk (bqB (GS.bqX BK249.out) hb); have n4_ := Aside0.mk (lqT (GS.lB HB.out) hb); clear BK246; clear BK247; clear BK248; clear BK249; clear HB; have BK246 := n0_; have BK247 := n1_; have BK248 := n2_; have BK249 := n3_; have HB := n4_; clear n0_ n1_ n2_ n3_ n4_; (try clear hb); (try clear hb2); (try clear hk); (try clear hi); have hnb159 := NB248_247.out; have hnc159 := NB247_248.out; have hnb160 := NB248_249.out; have hnc160 := NB249_248.out; obtain ⟨hcz161_0, hcz161_1, hcz161_2, hfz161_0, hfz161_1, hfz161_2⟩ := GS.c3 BK248.out; have hnb162 := NB249_247.out; have hnc162 := NB247_249.out; obtain ⟨hcz163_0, hcz163_1, hcz163_2, hcz163_3, hcz163_4, hcz163_5, hcz163_6, hcz163_7, hcz163_8, hcz163_9, hfz163_0, hfz163_1, hfz163_2, hfz163_3, hfz163_4, hfz163_5, hfz163_6, hfz163_7, hfz163_8, hfz163_9⟩ := GS.c10 BK249.out))
  refine bodyPost_ret (results_list (rs := [.cell 6 24, .cell 7 33, .tmp 8]) rfl (by simp) (.cell gb248 24 #[.int .i64 0, .int .i64 0, .slice none 0 0] (0, 0) _ rfl (GS.bqZ BK248.out) Try.underlying24 rfl (by kernel_rfl) (.cell gb249 33 #[.int .i64 0, .int .i64 0, .int .i64 0, .int .i64 0, .int .i64 0, .int .i64 0, .int .i64 0, .int .i64 0, .int .i64 0, .int .i64 0] (0, 0) _ rfl (GS.bqZ BK249.out) Try.underlying33 rfl (by kernel_rfl) (.tmp .nil)))) rfl ?_
  exact ⟨_, by first | rfl | (simp [errW_none, errW_some] <;> rfl) | (simp [*, errW_none, errW_some] <;> rfl), by first | exact Kd.R_nil _ _ _ _ _ | exact Kd.N_nil _ _ _ _ _ | exact Kd.V_nil _ _ _ _ _ | exact Kd.Q_nil _ _ _ _ _ | exact Kd.S_nil _ _ _ _ _, GS.lB HB.out⟩

/-! ### spileref41_Same: function 34 -/
def spileref41_Same.l0 : Nat → List (S33) → List (S33) → Int → Option (Bool)
 | 0, _, _, _ => none
 | k + 1, x0, x1, x5 => if x5 < (x0.length : Int) then (if 0 ≤ x5 then (if x5 < (x1.length : Int) then (if (!(((rd_T33 x0 x5).f0) == ((rd_T33 x1 x5).f0)) || (!(((rd_T33 x0 x5).f1) == ((rd_T33 x1 x5).f1)) || (!(((rd_T33 x0 x5).f2) == ((rd_T33 x1 x5).f2)) || ((!(((rd_T33 x0 x5).f3.f0) == ((rd_T33 x1 x5).f3.f0)) || (!(((rd_T33 x0 x5).f3.f1) == ((rd_T33 x1 x5).f3.f1)) || (!(((rd_T33 x0 x5).f3.f2) == ((rd_T33 x1 x5).f3.f2)) || (!(((rd_T33 x0 x5).f3.f3) == ((rd_T33 x1 x5).f3.f3)) || (!(((rd_T33 x0 x5).f3.f4) == ((rd_T33 x1 x5).f3.f4)) || (!(((rd_T33 x0 x5).f3.f5) == ((rd_T33 x1 x5).f3.f5)) || (!(((rd_T33 x0 x5).f3.f6) == ((rd_T33 x1 x5).f3.f6))))))))))))) = true then (some false) else (spileref41_Same.l0 k x0 x1 (wrap64 (x5 + 1)))) else (none)) else (none)) else (some true)
def spileref41_Same.f (k : Nat) (l0 : List (S33)) (l1 : List (S33)) : Option (Bool) := if (l0.length : Int) = (l1.length : Int) then (spileref41_Same.l0 k l0 l1 0) else (some false)
theorem spileref41_Same.mono_l : ∀ k, (∀ y0 y1 y2, LeO (spileref41_Same.l0 k y0 y1 y2) (spileref41_Same.l0 (k + 1) y0 y1 y2))
 | 0 => fun _ _ _ r h => by simp [spileref41_Same.l0] at h
 | k + 1 => by
  have ih0 := spileref41_Same.mono_l k
  ·intro y0 y1 y2
   unfold spileref41_Same.l0
   repeat' first
   | (with_reducible exact ih0 _ _ _)
   | (with_reducible exact LeO.refl _)
   | (with_reducible exact LeO.none _)
   | (with_reducible refine LeO.ite ?_ ?_)
   | (with_reducible refine LeO.bind ?_ (fun _ => ?_))
   | exact ih0 _ _ _
   | exact LeO.none _
   | refine LeO.ite ?_ ?_
   | refine LeO.bind ?_ (fun _ => ?_)
theorem spileref41_Same.mono : ∀ a0 a1 k, LeO (spileref41_Same.f k a0 a1) (spileref41_Same.f (k + 1) a0 a1) := by
 intro a0 a1 k
 have ih0 := spileref41_Same.mono_l k
 unfold spileref41_Same.f
 repeat' first
   | (with_reducible exact ih0 _ _ _)
   | (with_reducible exact LeO.refl _)
   | (with_reducible exact LeO.none _)
   | (with_reducible refine LeO.ite ?_ ?_)
   | (with_reducible refine LeO.bind ?_ (fun _ => ?_))
   | exact ih0 _ _ _
   | exact LeO.none _
   | refine LeO.ite ?_ ?_
   | refine LeO.bind ?_ (fun _ => ?_)
set_option maxHeartbeats 8000000 in
set_option maxRecDepth 100000 in
theorem spileref41_Same.calls (k : Nat) (A0 : Option Addr) (c0 : Nat) (l0 : List (S33)) (A1 : Option Addr) (c1 : Nat) (l1 : List (S33)) (r : Bool) (w : World) (hr0 : Kd.C k33 w A0 l0.length l0) (hc0 : l0.length ≤ c0) (hr1 : Kd.C k33 w A1 l1.length l1) (hc1 : l1.length ≤ c1) (h : spileref41_Same.f k l0 l1 = some r) :
  Calls Try.prog 34 #[.slice A0 l0.length c0, .slice A1 l1.length c1] w fun e w' => e = .returned (.bool r) ∧ Drawn0 w w' := by
 have hu33 := Try.underlying33
 have HR0 := Aside0.mk hr0
 have HC0 := Aside0.mk hc0
 clear hr0 hc0
 have HR1 := Aside0.mk hr1
 have HC1 := Aside0.mk hc1
 clear hr1 hc1
 have H : (if (l0.length : Int) = (l1.length : Int) then (spileref41_Same.l0 k l0 l1 0) else (some false)) = some r := h
 clear h
 by_cases c3 : (l0.length : Int) = (l1.length : Int)
 ·rw [if_pos c3] at H
  have c3b0 : ((l0.length : Int) == (l1.length : Int)) = true := beq_iff_eq.mpr c3
  try simp only [beq_self_eq_true, Bool.not_true, Bool.false_or, Bool.true_and] at c3b0
  have c3b1 : ((l0.length : Int) != (l1.length : Int)) = false := bne_eq_false_iff_eq.mpr c3
  have c3b2 : (l0.length == l1.length) = true := by first | simpa using c3 | (simp at c3 ⊢; omega)
  clear c3
  have H' := Aside0.mk H
  clear H
  go_enter Try.func34, Try.ntmps34
  go_wp2
  repeat (go_quiet (fail); try go_wp2)
  go_loopg [5] k (fun kq v5 w' => ∃ (x5_1 : Int), v5 = .int .i64 x5_1 ∧ Aside0 (spileref41_Same.l0 kq l0 l1 x5_1 = some r) ∧ Aside0 (kq ≤ k) ∧ Drawn0 w w')
  case atStart => exact ⟨(0), (by first | rfl | (simp; done) | (simp [*]; done)), H', ⟨Nat.le_refl _⟩, by repeat (first | exact Drawn0.refl _ | apply Drawn0.step)⟩
  case round =>
   clear H'
   try clear c1
   try clear p2
   try clear c3
   try clear c3b0
   try clear c3b1
   try clear c3b2
   obtain ⟨x5_1, rfl, HA, HK1, ⟨m1, rfl⟩⟩ := hrel
   cases gk with
   | zero => exact absurd HA.out (by simp [spileref41_Same.l0])
   | succ k1 =>
    have H := HA.out
    clear HA
    simp only [spileref41_Same.l0] at H
    by_cases c4 : x5_1 < (l0.length : Int)
    ·rw [if_pos c4] at H
     have c4b0 : decide (x5_1 < (l0.length : Int)) = true := decide_eq_true c4
     clear c4
     by_cases c5 : 0 ≤ x5_1
     ·rw [if_pos c5] at H
      have c5b0 : decide (0 ≤ x5_1) = true := decide_eq_true c5
      clear c5
      by_cases c6 : x5_1 < (l1.length : Int)
      ·rw [if_pos c6] at H
       have c6b0 : decide (x5_1 < (l1.length : Int)) = true := decide_eq_true c6
       clear c6
       by_cases c7 : (!(((rd_T33 l0 x5_1).f0) == ((rd_T33 l1 x5_1).f0)) || (!(((rd_T33 l0 x5_1).f1) == ((rd_T33 l1 x5_1).f1)) || (!(((rd_T33 l0 x5_1).f2) == ((rd_T33 l1 x5_1).f2)) || ((!(((rd_T33 l0 x5_1).f3.f0) == ((rd_T33 l1 x5_1).f3.f0)) || (!(((rd_T33 l0 x5_1).f3.f1) == ((rd_T33 l1 x5_1).f3.f1)) || (!(((rd_T33 l0 x5_1).f3.f2) == ((rd_T33 l1 x5_1).f3.f2)) || (!(((rd_T33 l0 x5_1).f3.f3) == ((rd_T33 l1 x5_1).f3.f3)) || (!(((rd_T33 l0 x5_1).f3.f4) == ((rd_T33 l1 x5_1).f3.f4)) || (!(((rd_T33 l0 x5_1).f3.f5) == ((rd_T33 l1 x5_1).f3.f5)) || (!(((rd_T33 l0 x5_1).f3.f6) == ((rd_T33 l1 x5_1).f3.f6))))))))))))) = true
       ·rw [if_pos c7] at H
        have c7b0 : (!(((rd_T33 l0 x5_1).f0) == ((rd_T33 l1 x5_1).f0)) || (!(((rd_T33 l0 x5_1).f1) == ((rd_T33 l1 x5_1).f1)) || (!(((rd_T33 l0 x5_1).f2) == ((rd_T33 l1 x5_1).f2)) || ((!(((rd_T33 l0 x5_1).f3.f0) == ((rd_T33 l1 x5_1).f3.f0)) || (!(((rd_T33 l0 x5_1).f3.f1) == ((rd_T33 l1 x5_1).f3.f1)) || (!(((rd_T33 l0 x5_1).f3.f2) == ((rd_T33 l1 x5_1).f3.f2)) || (!(((rd_T33 l0 x5_1).f3.f3) == ((rd_T33 l1 x5_1).f3.f3)) || (!(((rd_T33 l0 x5_1).f3.f4) == ((rd_T33 l1 x5_1).f3.f4)) || (!(((rd_T33 l0 x5_1).f3.f5) == ((rd_T33 l1 x5_1).f3.f5)) || (!(((rd_T33 l0 x5_1).f3.f6) == ((rd_T33 l1 x5_1).f3.f6))))))))))))) = true := c7
        try simp only [beq_self_eq_true, Bool.not_true, Bool.false_or, Bool.true_and] at c7b0
        clear c7
        obtain rfl := Option.some.inj H
        have p263 : 0 ≤ (x5_1 : Int) := of_decide_eq_true (by first | (with_reducible assumption) | assumption)
        have q263 : x5_1 < (l0.length : Int) := of_decide_eq_true (by first | (with_reducible assumption) | assumption)
        obtain ⟨ad263, e263, hx263_0, hx263_1, hx263_2, hx263_3, hx263_4, hx263_5, hx263_6, hx263_7, hx263_8, hx263_9⟩ := at_T33 HR0.out x5_1 p263 q263
        cases e263
        replace p263 := eq_true p263
        replace q263 := eq_true q263
        have p264 : 0 ≤ (x5_1 : Int) := of_decide_eq_true (by first | (with_reducible assumption) | assumption)
        have q264 : x5_1 < (l1.length : Int) := of_decide_eq_true (by first | (with_reducible assumption) | assumption)
        obtain ⟨ad264, e264, hx264_0, hx264_1, hx264_2, hx264_3, hx264_4, hx264_5, hx264_6, hx264_7, hx264_8, hx264_9⟩ := at_T33 HR1.out x5_1 p264 q264
        cases e264
        replace p264 := eq_true p264
        replace q264 := eq_true q264
        go_wp2
        repeat (go_quiet (fail); try go_wp2)
        go_ret
        exact ⟨by first | rfl | (simp; done) | (simp [*]; done), by repeat (first | exact Drawn0.refl _ | apply Drawn0.step)⟩
       ·rw [if_neg c7] at H
        have c7b0 : (!(((rd_T33 l0 x5_1).f0) == ((rd_T33 l1 x5_1).f0)) || (!(((rd_T33 l0 x5_1).f1) == ((rd_T33 l1 x5_1).f1)) || (!(((rd_T33 l0 x5_1).f2) == ((rd_T33 l1 x5_1).f2)) || ((!(((rd_T33 l0 x5_1).f3.f0) == ((rd_T33 l1 x5_1).f3.f0)) || (!(((rd_T33 l0 x5_1).f3.f1) == ((rd_T33 l1 x5_1).f3.f1)) || (!(((rd_T33 l0 x5_1).f3.f2) == ((rd_T33 l1 x5_1).f3.f2)) || (!(((rd_T33 l0 x5_1).f3.f3) == ((rd_T33 l1 x5_1).f3.f3)) || (!(((rd_T33 l0 x5_1).f3.f4) == ((rd_T33 l1 x5_1).f3.f4)) || (!(((rd_T33 l0 x5_1).f3.f5) == ((rd_T33 l1 x5_1).f3.f5)) || (!(((rd_T33 l0 x5_1).f3.f6) == ((rd_T33 l1 x5_1).f3.f6))))))))))))) = false := by simpa using c7
        try simp only [beq_self_eq_true, Bool.not_true, Bool.false_or, Bool.true_and] at c7b0
        clear c7
        have H' := Aside0.mk H
        clear H
        have p263 : 0 ≤ (x5_1 : Int) := of_decide_eq_true (by first | (with_reducible assumption) | assumption)
        have q263 : x5_1 < (l0.length : Int) := of_decide_eq_true (by first | (with_reducible assumption) | assumption)
        obtain ⟨ad263, e263, hx263_0, hx263_1, hx263_2, hx263_3, hx263_4, hx263_5, hx263_6, hx263_7, hx263_8, hx263_9⟩ := at_T33 HR0.out x5_1 p263 q263
        cases e263
        replace p263 := eq_true p263
        replace q263 := eq_true q263
        have p264 : 0 ≤ (x5_1 : Int) := of_decide_eq_true (by first | (with_reducible assumption) | assumption)
        have q264 : x5_1 < (l1.length : Int) := of_decide_eq_true (by first | (with_reducible assumption) | assumption)
        obtain ⟨ad264, e264, hx264_0, hx264_1, hx264_2, hx264_3, hx264_4, hx264_5, hx264_6, hx264_7, hx264_8, hx264_9⟩ := at_T33 HR1.out x5_1 p264 q264
        cases e264
        replace p264 := eq_true p264
        replace q264 := eq_true q264
        go_wp2
        repeat (go_quiet (fail); try go_wp2)
        go_roundg k1
        case measure => have := HK1.out; omega
        case rel => exact ⟨(wrap64 (x5_1 + 1)), (by first | rfl | (simp; done) | (simp [*]; done)), H', ⟨by have := HK1.out; omega⟩, by repeat (first | exact Drawn0.refl _ | apply Drawn0.step)⟩
      ·rw [if_neg c6] at H
       exact absurd H (by simp)
     ·rw [if_neg c5] at H
      exact absurd H (by simp)
    ·rw [if_neg c4] at H
     have c4b0 : decide (x5_1 < (l0.length : Int)) = false := decide_eq_false c4
     clear c4
     obtain rfl := Option.some.inj H
     go_wp2
     repeat (go_quiet (fail); try go_wp2)
     go_ret
     exact ⟨by first | rfl | (simp; done) | (simp [*]; done), by repeat (first | exact Drawn0.refl _ | apply Drawn0.step)⟩
 ·rw [if_neg c3] at H
  have c3b0 : ((l0.length : Int) == (l1.length : Int)) = false := beq_eq_false_iff_ne.mpr c3
  try simp only [beq_self_eq_true, Bool.not_true, Bool.false_or, Bool.true_and] at c3b0
  have c3b1 : ((l0.length : Int) != (l1.length : Int)) = true := bne_iff_ne.mpr c3
  have c3b2 : (l0.length == l1.length) = false := by first | simpa using c3 | (simp at c3 ⊢; omega)
  obtain rfl := Option.some.inj H
  go_enter Try.func34, Try.ntmps34
  go_wp2
  repeat (go_quiet (fail); try go_wp2)
  go_ret
  exact ⟨by first | rfl | (simp; done) | (simp [*]; done), by repeat (first | exact Drawn0.refl _ | apply Drawn0.step)⟩

/-! ### spileref42_Same: function 19 -/
def spileref42_Same.f (k : Nat) (a0_0 : Int) (a0_1 : Int) (l0_2 : List (S33)) (a1_0 : Int) (a1_1 : Int) (l1_2 : List (S33)) : Option (Bool) := if a0_0 = a1_0 then (if a0_1 = a1_1 then ((spileref41_Same.f k l0_2 l1_2).bind fun t267 => (some t267)) else (some false)) else (some false)
theorem spileref42_Same.mono : ∀ a0 a1 a2 a3 a4 a5 k, LeO (spileref42_Same.f k a0 a1 a2 a3 a4 a5) (spileref42_Same.f (k + 1) a0 a1 a2 a3 a4 a5) := by
 intro a0 a1 a2 a3 a4 a5 k
 unfold spileref42_Same.f
 repeat' first
   | (with_reducible exact spileref41_Same.mono _ _ _)
   | (with_reducible exact LeO.refl _)
   | (with_reducible exact LeO.none _)
   | (with_reducible refine LeO.ite ?_ ?_)
   | (with_reducible refine LeO.bind ?_ (fun _ => ?_))
   | exact spileref41_Same.mono _ _ _
   | exact LeO.none _
   | refine LeO.ite ?_ ?_
   | refine LeO.bind ?_ (fun _ => ?_)
set_option maxHeartbeats 8000000 in
set_option maxRecDepth 100000 in
theorem spileref42_Same.calls (k : Nat) (a0_0 : Int) (a0_1 : Int) (A0_2 : Option Addr) (c0_2 : Nat) (l0_2 : List (S33)) (a1_0 : Int) (a1_1 : Int) (A1_2 : Option Addr) (c1_2 : Nat) (l1_2 : List (S33)) (r : Bool) (w : World) (hr0_2 : Kd.C k33 w A0_2 l0_2.length l0_2) (hc0_2 : l0_2.length ≤ c0_2) (hr1_2 : Kd.C k33 w A1_2 l1_2.length l1_2) (hc1_2 : l1_2.length ≤ c1_2) (h : spileref42_Same.f k a0_0 a0_1 l0_2 a1_0 a1_1 l1_2 = some r) :
  Calls Try.prog 19 #[.agg #[.int .i64 a0_0, .int .i64 a0_1, .slice A0_2 l0_2.length c0_2], .agg #[.int .i64 a1_0, .int .i64 a1_1, .slice A1_2 l1_2.length c1_2]] w fun e w' => e = .returned (.bool r) ∧ Below w.heap.size w w' := by
 have hu24 := Try.underlying24
 have HR0_2 := Aside0.mk hr0_2
 have HC0_2 := Aside0.mk hc0_2
 clear hr0_2 hc0_2
 have HR1_2 := Aside0.mk hr1_2
 have HC1_2 := Aside0.mk hc1_2
 clear hr1_2 hc1_2
 have HB := Aside0.mk (Below.refl w.heap.size w)
 have H : (if a0_0 = a1_0 then (if a0_1 = a1_1 then ((spileref41_Same.f k l0_2 l1_2).bind fun t267 => (some t267)) else (some false)) else (some false)) = some r := h
 clear h
 by_cases c3 : a0_0 = a1_0
 ·rw [if_pos c3] at H
  have c3b0 : (a0_0 == a1_0) = true := beq_iff_eq.mpr c3
  try simp only [beq_self_eq_true, Bool.not_true, Bool.false_or, Bool.true_and] at c3b0
  have c3b1 : (a0_0 != a1_0) = false := bne_eq_false_iff_eq.mpr c3
  clear c3
  by_cases c4 : a0_1 = a1_1
  ·rw [if_pos c4] at H
   have c4b0 : (a0_1 == a1_1) = true := beq_iff_eq.mpr c4
   try simp only [beq_self_eq_true, Bool.not_true, Bool.false_or, Bool.true_and] at c4b0
   have c4b1 : (a0_1 != a1_1) = false := bne_eq_false_iff_eq.mpr c4
   clear c4
   replace H := Option.bind_eq_some_iff.mp H
   obtain ⟨t267, A50, H⟩ := H
   replace H : (some t267) = some r := H
   have A5 := Aside0.mk A50
   clear A50
   obtain rfl := Option.some.inj H
   go_enter Try.func19, Try.ntmps19
   go_wp2_with (first | ((with_reducible refine gqD (N := 2) rfl ?_); refine GS.bx (N := 2) (cs := #[.int .i64 a0_0, .int .i64 a0_1, .slice A0_2 l0_2.length c0_2]) (t := 24) ?_; intro gb265 hg w6 hbox hb; have n0_ := Aside0.mk (lqT (GS.lB HB.out) hb); have n1_ := Aside0.mk (hbox); have n2_ := Aside0.mk ((by rw [hg]; exact (lqZ (GS.lB HB.out)) : w.heap.size ≤ gb265)); have n3_ := Aside0.mk ((by rw [hg]; exact (lqZ (GS.lB HB.out)) : w.heap.size ≤ gb265)); clear HB; have HB := n0_; have BK265 := n1_; have GW265 := n2_; have GE265 := n3_; clear n0_ n1_ n2_ n3_; clear hb hbox hg) | ((with_reducible refine gqD (N := 3) rfl ?_); refine GS.bx (N := 3) (cs := #[.int .i64 a1_0, .int .i64 a1_1, .slice A1_2 l1_2.length c1_2]) (t := 24) ?_; intro gb266 hg w7 hbox hb; have n0_ := Aside0.mk (bqB (GS.bqX BK265.out) hb); have n1_ := Aside0.mk (lqT (GS.lB HB.out) hb); have n2_ := Aside0.mk (hbox); have n3_ := Aside0.mk ((by rw [hg]; exact (lqZ (GS.lB HB.out)) : w.heap.size ≤ gb266)); have n4_ := Aside0.mk ((by rw [hg]; exact (lqZ (GS.lB HB.out)) : w.heap.size ≤ gb266)); have n5_ := Aside0.mk ((by rw [hg]; exact Nat.ne_of_lt (blk_lt (GS.bqX BK265.out)) : gb265 ≠ gb266)); have n6_ := Aside0.mk ((by rw [hg]; exact Nat.ne_of_gt (blk_lt (GS.bqX BK265.out)) : gb266 ≠ gb265)); clear BK265; clear HB; have BK265 := n0_; have HB := n1_; have BK266 := n2_; have GW266 := n3_; have GE266 := n4_; have NB265_266 := n5_; have NB266_265 := n6_; clear n0_ n1_ n2_ n3_ n4_ n5_ n6_; clear hb hbox hg; have hnb8 := NB265_266.out; have hnc8 := NB266_265.out; obtain ⟨hcz9_0, hcz9_1, hcz9_2, hfz9_0, hfz9_1, hfz9_2⟩ := GS.c3 BK265.out; obtain ⟨hcz10_0, hcz10_1, hcz10_2, hfz10_0, hfz10_1, hfz10_2⟩ := GS.c3 BK266.out) | (go_at_call 34; (with_reducible refine (spileref41_Same.calls k _ _ l0_2 _ _ l1_2 t267 _ ?side1 ?side2 ?side3 ?side4 A5.out).mono ?_); (case side1 => exact GS.rC (Kd.C_below HR0_2.out HB.out)); (case side2 => exact HC0_2.out); (case side3 => exact GS.rC (Kd.C_below HR1_2.out HB.out)); (case side4 => exact HC1_2.out); rintro e w' ⟨rfl, ⟨nd, rfl⟩⟩))
   go_ret
   exact ⟨by first | rfl | (simp [errW_none, errW_some] <;> rfl) | (simp [*, errW_none, errW_some] <;> rfl), GS.lB HB.out⟩
  ·rw [if_neg c4] at H
   have c4b0 : (a0_1 == a1_1) = false := beq_eq_false_iff_ne.mpr c4
   try simp only [beq_self_eq_true, Bool.not_true, Bool.false_or, Bool.true_and] at c4b0
   have c4b1 : (a0_1 != a1_1) = true := bne_iff_ne.mpr c4
   obtain rfl := Option.some.inj H
   go_enter Try.func19, Try.ntmps19
   go_wp2_with (first | ((with_reducible refine gqD (N := 2) rfl ?_); refine GS.bx (N := 2) (cs := #[.int .i64 a0_0, .int .i64 a0_1, .slice A0_2 l0_2.length c0_2]) (t := 24) ?_; intro gb265 hg w11 hbox hb; have n0_ := Aside0.mk (lqT (GS.lB HB.out) hb); have n1_ := Aside0.mk (hbox); have n2_ := Aside0.mk ((by rw [hg]; exact (lqZ (GS.lB HB.out)) : w.heap.size ≤ gb265)); have n3_ := Aside0.mk ((by rw [hg]; exact (lqZ (GS.lB HB.out)) : w.heap.size ≤ gb265)); clear HB; have HB := n0_; have BK265 := n1_; have GW265 := n2_; have GE265 := n3_; clear n0_ n1_ n2_ n3_; clear hb hbox hg) | ((with_reducible refine gqD (N := 3) rfl ?_); refine GS.bx (N := 3) (cs := #[.int .i64 a1_0, .int .i64 a1_1, .slice A1_2 l1_2.length c1_2]) (t := 24) ?_; intro gb266 hg w12 hbox hb; have n0_ := Aside0.mk (bqB (GS.bqX BK265.out) hb); have n1_ := Aside0.mk (lqT (GS.lB HB.out) hb); have n2_ := Aside0.mk (hbox); have n3_ := Aside0.mk ((by rw [hg]; exact (lqZ (GS.lB HB.out)) : w.heap.size ≤ gb266)); have n4_ := Aside0.mk ((by rw [hg]; exact (lqZ (GS.lB HB.out)) : w.heap.size ≤ gb266)); have n5_ := Aside0.mk ((by rw [hg]; exact Nat.ne_of_lt (blk_lt (GS.bqX BK265.out)) : gb265 ≠ gb266)); have n6_ := Aside0.mk ((by rw [hg]; exact Nat.ne_of_gt (blk_lt (GS.bqX BK265.out)) : gb266 ≠ gb265)); clear BK265; clear HB; have BK265 := n0_; have HB := n1_; have BK266 := n2_; have GW266 := n3_; have GE266 := n4_; have NB265_266 := n5_; have NB266_265 := n6_; clear n0_ n1_ n2_ n3_ n4_ n5_ n6_; clear hb hbox hg; have hnb13 := NB265_266.out; have hnc13 := NB266_265.out; obtain ⟨hcz14_0, hcz14_1, hcz14_2, hfz14_0, hfz14_1, hfz14_2⟩ := GS.c3 BK265.out; obtain ⟨hcz15_0, hcz15_1, hcz15_2, hfz15_0, hfz15_1, hfz15_2⟩ := GS.c3 BK266.out))
   go_ret
   exact ⟨by first | rfl | (simp [errW_none, errW_some] <;> rfl) | (simp [*, errW_none, errW_some] <;> rfl), GS.lB HB.out⟩
 ·rw [if_neg c3] at H
  have c3b0 : (a0_0 == a1_0) = false := beq_eq_false_iff_ne.mpr c3
  try simp only [beq_self_eq_true, Bool.not_true, Bool.false_or, Bool.true_and] at c3b0
  have c3b1 : (a0_0 != a1_0) = true := bne_iff_ne.mpr c3
  obtain rfl := Option.some.inj H
  go_enter Try.func19, Try.ntmps19
  go_wp2_with (first | ((with_reducible refine gqD (N := 2) rfl ?_); refine GS.bx (N := 2) (cs := #[.int .i64 a0_0, .int .i64 a0_1, .slice A0_2 l0_2.length c0_2]) (t := 24) ?_; intro gb265 hg w16 hbox hb; have n0_ := Aside0.mk (lqT (GS.lB HB.out) hb); have n1_ := Aside0.mk (hbox); have n2_ := Aside0.mk ((by rw [hg]; exact (lqZ (GS.lB HB.out)) : w.heap.size ≤ gb265)); have n3_ := Aside0.mk ((by rw [hg]; exact (lqZ (GS.lB HB.out)) : w.heap.size ≤ gb265)); clear HB; have HB := n0_; have BK265 := n1_; have GW265 := n2_; have GE265 := n3_; clear n0_ n1_ n2_ n3_; clear hb hbox hg) | ((with_reducible refine gqD (N := 3) rfl ?_); refine GS.bx (N := 3) (cs := #[.int .i64 a1_0, .int .i64 a1_1, .slice A1_2 l1_2.length c1_2]) (t := 24) ?_; intro gb266 hg w17 hbox hb; have n0_ := Aside0.mk (bqB (GS.bqX BK265.out) hb); have n1_ := Aside0.mk (lqT (GS.lB HB.out) hb); have n2_ := Aside0.mk (hbox); have n3_ := Aside0.mk ((by rw [hg]; exact (lqZ (GS.lB HB.out)) : w.heap.size ≤ gb266)); have n4_ := Aside0.mk ((by rw [hg]; exact (lqZ (GS.lB HB.out)) : w.heap.size ≤ gb266)); have n5_ := Aside0.mk ((by rw [hg]; exact Nat.ne_of_lt (blk_lt (GS.bqX BK265.out)) : gb265 ≠ gb266)); have n6_ := Aside0.mk ((by rw [hg]; exact Nat.ne_of_gt (blk_lt (GS.bqX BK265.out)) : gb266 ≠ gb265)); clear BK265; clear HB; have BK265 := n0_; have HB := n1_; have BK266 := n2_; have GW266 := n3_; have GE266 := n4_; have NB265_266 := n5_; have NB266_265 := n6_; clear n0_ n1_ n2_ n3_ n4_ n5_ n6_; clear hb hbox hg; have hnb18 := NB265_266.out; have hnc18 := NB266_265.out; obtain ⟨hcz19_0, hcz19_1, hcz19_2, hfz19_0, hfz19_1, hfz19_2⟩ := GS.c3 BK265.out; obtain ⟨hcz20_0, hcz20_1, hcz20_2, hfz20_0, hfz20_1, hfz20_2⟩ := GS.c3 BK266.out))
  go_ret
  exact ⟨by first | rfl | (simp [errW_none, errW_some] <;> rfl) | (simp [*, errW_none, errW_some] <;> rfl), GS.lB HB.out⟩

end Go.Proofs.Ytfafeeobjlkjnaa.K
