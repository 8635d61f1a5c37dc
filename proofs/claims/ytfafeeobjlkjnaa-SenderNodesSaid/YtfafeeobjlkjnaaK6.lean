-- PRINTED by print.py (a twelfth state) out of the translation. Not trusted: Lean checks it.
import Derived.Test.YtfafeeobjlkjnaaK0
import Derived.Test.YtfafeeobjlkjnaaGShort
import Derived.Test.YtfafeeobjlkjnaaK3
import Derived.Test.YtfafeeobjlkjnaaK4
import Derived.Test.YtfafeeobjlkjnaaK5
namespace Go.Proofs.Ytfafeeobjlkjnaa.K
open Go.RowKit Go.Proofs.YtfafeeobjlkjnaaW.PrintWords Go.Proofs.YtfafeeobjlkjnaaW.PrintLast Go.Proofs.YtfafeeobjlkjnaaW.PrintMore
attribute [local go_sem] max2_int min2_int max_two min_two max_three min_three max_four min_four   -- for this text's walks alone
set_option linter.unusedVariables false
set_option linter.unusedSimpArgs false

/-! ### sender_Send: function 14 -/
def sender_Send.j0 : Nat → Int → Int → Int → Int → List (S33) → Int → Int → Int → Int → Int → Int → Int → Option (Int × Int × (List (S33)) × Int × Int × Int × Int × Int × Int × Int × Int × Int × Int × Int)
 | 0, _, _, _, _, _, _, _, _, _, _, _, _ => none
 | k + 1, x1, x9, x124000, x124001, x124002, x125000, x125001, x125002, x125003, x125004, x125005, x125006 => if x9 = 0 then ((sender_own.f x124000 x124001 x124002).bind fun bt130 => (if bt130.2.2.length < 1759218604441 then (some (bt130.1, wrap64 (bt130.2.1 + 1), (bt130.2.2 ++ [(⟨x124000, x1, x124001, (⟨x125000, x125001, x125002, x125003, x125004, x125005, x125006⟩ : S26)⟩ : S33)]), x124000, x1, x124001, x125000, x125001, x125002, x125003, x125004, x125005, x125006, 0)) else (none))) else (some (0, 0, ([] : List (S33)), 0, 0, 0, 0, 0, 0, 0, 0, 0, 0, x9))
def sender_Send.f (k : Nat) (a0_0 : Int) (a0_1 : Int) (l0_2 : List (S33)) (a1 : Int) (a2_0 : Int) (a2_1 : Int) (a2_2 : Int) (a2_3 : Int) (a2_4 : Int) (a2_5 : Int) (a2_6 : Int) : Option (Int × Int × (List (S33)) × Int × Int × Int × Int × Int × Int × Int × Int × Int × Int × Int) := (sender_Check.f k a0_0 a0_1 l0_2).bind fun t127 => (if t127 = 0 then ((sender_node.f a1).bind fun t128 => (if t128 = true then (if a1 = a0_0 then (sender_Send.j0 k a1 10 a0_0 a0_1 l0_2 a2_0 a2_1 a2_2 a2_3 a2_4 a2_5 a2_6) else ((document_Check.f k a2_0 a2_1 a2_2 a2_3 a2_4 a2_5 a2_6).bind fun t129 => (if t129 = 0 then (if (l0_2.length : Int) = 64 then (sender_Send.j0 k a1 12 a0_0 a0_1 l0_2 a2_0 a2_1 a2_2 a2_3 a2_4 a2_5 a2_6) else (if a0_1 > 1073741824 then (sender_Send.j0 k a1 15 a0_0 a0_1 l0_2 a2_0 a2_1 a2_2 a2_3 a2_4 a2_5 a2_6) else (sender_Send.j0 k a1 0 a0_0 a0_1 l0_2 a2_0 a2_1 a2_2 a2_3 a2_4 a2_5 a2_6))) else (sender_Send.j0 k a1 11 a0_0 a0_1 l0_2 a2_0 a2_1 a2_2 a2_3 a2_4 a2_5 a2_6)))) else (sender_Send.j0 k a1 2 a0_0 a0_1 l0_2 a2_0 a2_1 a2_2 a2_3 a2_4 a2_5 a2_6))) else (sender_Send.j0 k a1 1 a0_0 a0_1 l0_2 a2_0 a2_1 a2_2 a2_3 a2_4 a2_5 a2_6))
theorem sender_Send.mono_l : ∀ k, (∀ y0 y1 y2 y3 y4 y5 y6 y7 y8 y9 y10 y11, LeO (sender_Send.j0 k y0 y1 y2 y3 y4 y5 y6 y7 y8 y9 y10 y11) (sender_Send.j0 (k + 1) y0 y1 y2 y3 y4 y5 y6 y7 y8 y9 y10 y11))
 | 0 => fun _ _ _ _ _ _ _ _ _ _ _ _ r h => by simp [sender_Send.j0] at h
 | k + 1 => by
  have ih0 := sender_Send.mono_l k
  ·intro y0 y1 y2 y3 y4 y5 y6 y7 y8 y9 y10 y11
   unfold sender_Send.j0
   repeat' first
   | (with_reducible exact ih0 _ _ _ _ _ _ _ _ _ _ _ _)
   | (with_reducible exact document_Check.mono _ _ _ _ _ _ _ _)
   | (with_reducible exact sender_Check.mono _ _ _ _)
   | (with_reducible exact LeO.refl _)
   | (with_reducible exact LeO.none _)
   | (with_reducible refine LeO.ite ?_ ?_)
   | (with_reducible refine LeO.bind ?_ (fun _ => ?_))
   | exact ih0 _ _ _ _ _ _ _ _ _ _ _ _
   | exact document_Check.mono _ _ _ _ _ _ _ _
   | exact sender_Check.mono _ _ _ _
   | exact LeO.none _
   | refine LeO.ite ?_ ?_
   | refine LeO.bind ?_ (fun _ => ?_)
theorem sender_Send.mono : ∀ a0 a1 a2 a3 a4 a5 a6 a7 a8 a9 a10 k, LeO (sender_Send.f k a0 a1 a2 a3 a4 a5 a6 a7 a8 a9 a10) (sender_Send.f (k + 1) a0 a1 a2 a3 a4 a5 a6 a7 a8 a9 a10) := by
 intro a0 a1 a2 a3 a4 a5 a6 a7 a8 a9 a10 k
 have ih0 := sender_Send.mono_l k
 unfold sender_Send.f
 repeat' first
   | (with_reducible exact ih0 _ _ _ _ _ _ _ _ _ _ _ _)
   | (with_reducible exact document_Check.mono _ _ _ _ _ _ _ _)
   | (with_reducible exact sender_Check.mono _ _ _ _)
   | (with_reducible exact LeO.refl _)
   | (with_reducible exact LeO.none _)
   | (with_reducible refine LeO.ite ?_ ?_)
   | (with_reducible refine LeO.bind ?_ (fun _ => ?_))
   | exact ih0 _ _ _ _ _ _ _ _ _ _ _ _
   | exact document_Check.mono _ _ _ _ _ _ _ _
   | exact sender_Check.mono _ _ _ _
   | exact LeO.none _
   | refine LeO.ite ?_ ?_
   | refine LeO.bind ?_ (fun _ => ?_)
def sender_Send.T16 : Bool × List (List Nat × List Nat) := (true, [([], []), ([0], [0]), ([], []), ([2], [2]), ([], []), ([], []), ([5], [5]), ([], []), ([3, 4, 6, 7], [3, 4, 6, 7]), ([], []), ([], []), ([9, 1, 1, 0, 1, 9, 10], [1, 9]), ([10, 8, 11, 0, 1, 2, 3, 4, 5, 6, 7, 8, 9, 10, 11], [8, 10])])
def sender_Send.B16 : List Nat := [0, 1, 0, 4, 0, 0, 32, 0, 252, 0, 0, 1539, 4095]
theorem sender_Send.tab16 : rtab .any (opsOf Try.f14 16) = sender_Send.T16 := by kernel_rfl
theorem sender_Send.bits16 : waitsOk sender_Send.T16.2 sender_Send.B16 = true := by kernel_rfl
set_option maxHeartbeats 8000000 in
set_option maxRecDepth 100000 in
theorem sender_Send.calls (k : Nat) (a0_0 : Int) (a0_1 : Int) (A0_2 : Option Addr) (c0_2 : Nat) (l0_2 : List (S33)) (a1 : Int) (a2_0 : Int) (a2_1 : Int) (a2_2 : Int) (a2_3 : Int) (a2_4 : Int) (a2_5 : Int) (a2_6 : Int) (r1 : Int) (r2 : Int) (r3 : List (S33)) (r4 : Int) (r5 : Int) (r6 : Int) (r7 : Int) (r8 : Int) (r9 : Int) (r10 : Int) (r11 : Int) (r12 : Int) (r13 : Int) (r14 : Int) (w : World) (hr0_2 : Kd.C k33 w A0_2 l0_2.length l0_2) (hc0_2 : l0_2.length ≤ c0_2) (h : sender_Send.f k a0_0 a0_1 l0_2 a1 a2_0 a2_1 a2_2 a2_3 a2_4 a2_5 a2_6 = some (r1, r2, r3, r4, r5, r6, r7, r8, r9, r10, r11, r12, r13, r14)) :
  Calls Try.prog 14 #[.agg #[.int .i64 a0_0, .int .i64 a0_1, .slice A0_2 l0_2.length c0_2], .int .i64 a1, .agg #[.int .i64 a2_0, .int .i64 a2_1, .int .i64 a2_2, .int .i64 a2_3, .int .i64 a2_4, .int .i64 a2_5, .int .i64 a2_6]] w fun e w' => ∃ v2_ : Value, e = .returned (.tuple #[.agg #[.int .i64 r1, .int .i64 r2, v2_], .agg #[.int .i64 r4, .int .i64 r5, .int .i64 r6, .int .i64 r7, .int .i64 r8, .int .i64 r9, .int .i64 r10, .int .i64 r11, .int .i64 r12, .int .i64 r13], .int .i64 r14]) ∧ Kd.R k33 33 w' w.heap.size (fun _ => True) v2_ r3 ∧ Below w.heap.size w w' := by
 have hu24 := Try.underlying24
 have hu26 := Try.underlying26
 have hu33 := Try.underlying33
 have HR0_2 := Aside0.mk hr0_2
 have HC0_2 := Aside0.mk hc0_2
 clear hr0_2 hc0_2
 have HB := Aside0.mk (Below.refl w.heap.size w)
 have H : ((sender_Check.f k a0_0 a0_1 l0_2).bind fun t127 => (if t127 = 0 then ((sender_node.f a1).bind fun t128 => (if t128 = true then (if a1 = a0_0 then (sender_Send.j0 k a1 10 a0_0 a0_1 l0_2 a2_0 a2_1 a2_2 a2_3 a2_4 a2_5 a2_6) else ((document_Check.f k a2_0 a2_1 a2_2 a2_3 a2_4 a2_5 a2_6).bind fun t129 => (if t129 = 0 then (if (l0_2.length : Int) = 64 then (sender_Send.j0 k a1 12 a0_0 a0_1 l0_2 a2_0 a2_1 a2_2 a2_3 a2_4 a2_5 a2_6) else (if a0_1 > 1073741824 then (sender_Send.j0 k a1 15 a0_0 a0_1 l0_2 a2_0 a2_1 a2_2 a2_3 a2_4 a2_5 a2_6) else (sender_Send.j0 k a1 0 a0_0 a0_1 l0_2 a2_0 a2_1 a2_2 a2_3 a2_4 a2_5 a2_6))) else (sender_Send.j0 k a1 11 a0_0 a0_1 l0_2 a2_0 a2_1 a2_2 a2_3 a2_4 a2_5 a2_6)))) else (sender_Send.j0 k a1 2 a0_0 a0_1 l0_2 a2_0 a2_1 a2_2 a2_3 a2_4 a2_5 a2_6))) else (sender_Send.j0 k a1 1 a0_0 a0_1 l0_2 a2_0 a2_1 a2_2 a2_3 a2_4 a2_5 a2_6))) = some (r1, r2, r3, r4, r5, r6, r7, r8, r9, r10, r11, r12, r13, r14) := h
 clear h
 have HC4 := Aside0.mk H
 clear H
 go_enter Try.func14, Try.ntmps14
 go_upto_block 0 with (first | ((with_reducible refine gqD (N := 3) rfl ?_); refine GS.bx (N := 3) (cs := #[.int .i64 a0_0, .int .i64 a0_1, .slice A0_2 l0_2.length c0_2]) (t := 24) ?_; intro gb123 hg w5 hbox hb; have n0_ := Aside0.mk (lqT (GS.lB HB.out) hb); have n1_ := Aside0.mk (hbox); have n2_ := Aside0.mk ((by rw [hg]; exact (lqZ (GS.lB HB.out)) : w.heap.size ≤ gb123)); have n3_ := Aside0.mk ((by rw [hg]; exact (lqZ (GS.lB HB.out)) : w.heap.size ≤ gb123)); clear HB; have HB := n0_; have BK123 := n1_; have GW123 := n2_; have GE123 := n3_; clear n0_ n1_ n2_ n3_; clear hb hbox hg) | ((with_reducible refine gqD (N := 5) rfl ?_); refine GS.bx (N := 5) (cs := #[.int .i64 a2_0, .int .i64 a2_1, .int .i64 a2_2, .int .i64 a2_3, .int .i64 a2_4, .int .i64 a2_5, .int .i64 a2_6]) (t := 26) ?_; intro gb124 hg w6 hbox hb; have n0_ := Aside0.mk (bqB (GS.bqX BK123.out) hb); have n1_ := Aside0.mk (lqT (GS.lB HB.out) hb); have n2_ := Aside0.mk (hbox); have n3_ := Aside0.mk ((by rw [hg]; exact (lqZ (GS.lB HB.out)) : w.heap.size ≤ gb124)); have n4_ := Aside0.mk ((by rw [hg]; exact (lqZ (GS.lB HB.out)) : w.heap.size ≤ gb124)); have n5_ := Aside0.mk ((by rw [hg]; exact Nat.ne_of_lt (blk_lt (GS.bqX BK123.out)) : gb123 ≠ gb124)); have n6_ := Aside0.mk ((by rw [hg]; exact Nat.ne_of_gt (blk_lt (GS.bqX BK123.out)) : gb124 ≠ gb123)); clear BK123; clear HB; have BK123 := n0_; have HB := n1_; have BK124 := n2_; have GW124 := n3_; have GE124 := n4_; have NB123_124 := n5_; have NB124_123 := n6_; clear n0_ n1_ n2_ n3_ n4_ n5_ n6_; clear hb hbox hg) | ((with_reducible refine gqD (N := 6) rfl ?_); refine GS.bx (N := 6) (cs := #[.int .i64 0, .int .i64 0, .slice none 0 0]) (t := 24) ?_; intro gb125 hg w7 hbox hb; have n0_ := Aside0.mk (bqB (GS.bqX BK123.out) hb); have n1_ := Aside0.mk (bqB (GS.bqX BK124.out) hb); have n2_ := Aside0.mk (lqT (GS.lB HB.out) hb); have n3_ := Aside0.mk (hbox); have n4_ := Aside0.mk ((by rw [hg]; exact (lqZ (GS.lB HB.out)) : w.heap.size ≤ gb125)); have n5_ := Aside0.mk ((by rw [hg]; exact (lqZ (GS.lB HB.out)) : w.heap.size ≤ gb125)); have n6_ := Aside0.mk ((by rw [hg]; exact Nat.ne_of_lt (blk_lt (GS.bqX BK123.out)) : gb123 ≠ gb125)); have n7_ := Aside0.mk ((by rw [hg]; exact Nat.ne_of_gt (blk_lt (GS.bqX BK123.out)) : gb125 ≠ gb123)); have n8_ := Aside0.mk ((by rw [hg]; exact Nat.ne_of_lt (blk_lt (GS.bqX BK124.out)) : gb124 ≠ gb125)); have n9_ := Aside0.mk ((by rw [hg]; exact Nat.ne_of_gt (blk_lt (GS.bqX BK124.out)) : gb125 ≠ gb124)); clear BK123; clear BK124; clear HB; have BK123 := n0_; have BK124 := n1_; have HB := n2_; have BK125 := n3_; have GW125 := n4_; have GE125 := n5_; have NB123_125 := n6_; have NB125_123 := n7_; have NB124_125 := n8_; have NB125_124 := n9_; clear n0_ n1_ n2_ n3_ n4_ n5_ n6_ n7_ n8_ n9_; clear hb hbox hg) | ((with_reducible refine gqD (N := 7) rfl ?_); refine GS.bx (N := 7) (cs := #[.int .i64 0, .int .i64 0, .int .i64 0, .int .i64 0, .int .i64 0, .int .i64 0, .int .i64 0, .int .i64 0, .int .i64 0, .int .i64 0]) (t := 33) ?_; intro gb126 hg w8 hbox hb; have n0_ := Aside0.mk (bqB (GS.bqX BK123.out) hb); have n1_ := Aside0.mk (bqB (GS.bqX BK124.out) hb); have n2_ := Aside0.mk (bqB (GS.bqX BK125.out) hb); have n3_ := Aside0.mk (lqT (GS.lB HB.out) hb); have n4_ := Aside0.mk (hbox); have n5_ := Aside0.mk ((by rw [hg]; exact (lqZ (GS.lB HB.out)) : w.heap.size ≤ gb126)); have n6_ := Aside0.mk ((by rw [hg]; exact (lqZ (GS.lB HB.out)) : w.heap.size ≤ gb126)); have n7_ := Aside0.mk ((by rw [hg]; exact Nat.ne_of_lt (blk_lt (GS.bqX BK123.out)) : gb123 ≠ gb126)); have n8_ := Aside0.mk ((by rw [hg]; exact Nat.ne_of_gt (blk_lt (GS.bqX BK123.out)) : gb126 ≠ gb123)); have n9_ := Aside0.mk ((by rw [hg]; exact Nat.ne_of_lt (blk_lt (GS.bqX BK124.out)) : gb124 ≠ gb126)); have n10_ := Aside0.mk ((by rw [hg]; exact Nat.ne_of_gt (blk_lt (GS.bqX BK124.out)) : gb126 ≠ gb124)); have n11_ := Aside0.mk ((by rw [hg]; exact Nat.ne_of_lt (blk_lt (GS.bqX BK125.out)) : gb125 ≠ gb126)); have n12_ := Aside0.mk ((by rw [hg]; exact Nat.ne_of_gt (blk_lt (GS.bqX BK125.out)) : gb126 ≠ gb125)); clear BK123; clear BK124; clear BK125; clear HB; have BK123 := n0_; have BK124 := n1_; have BK125 := n2_; have HB := n3_; have BK126 := n4_; have GW126 := n5_; have GE126 := n6_; have NB123_126 := n7_; have NB126_123 := n8_; have NB124_126 := n9_; have NB126_124 := n10_; have NB125_126 := n11_; have NB126_125 := n12_; clear n0_ n1_ n2_ n3_ n4_ n5_ n6_ n7_ n8_ n9_ n10_ n11_ n12_; clear hb hbox hg))
 (try simp only [Act.put, List.setIfInBounds_toArray, List.set_cons_zero, List.set_cons_succ])
 go_cut [9] (fun v9 wc => ∃ (kq : Nat) (x9_3 : Int), v9 = .int .i64 x9_3 ∧ Aside0 (sender_Send.j0 kq a1 x9_3 a0_0 a0_1 l0_2 a2_0 a2_1 a2_2 a2_3 a2_4 a2_5 a2_6 = some (r1, r2, r3, r4, r5, r6, r7, r8, r9, r10, r11, r12, r13, r14)) ∧ Aside0 (kq ≤ k) ∧ Aside0 (wc.heap[gb123]? = some (.cells #[.int .i64 a0_0, .int .i64 a0_1, (.slice A0_2 l0_2.length c0_2)] 24 (0, 0))) ∧ Aside0 (wc.heap[gb124]? = some (.cells #[.int .i64 a2_0, .int .i64 a2_1, .int .i64 a2_2, .int .i64 a2_3, .int .i64 a2_4, .int .i64 a2_5, .int .i64 a2_6] 26 (0, 0))) ∧ Aside0 (wc.heap[gb125]? = some (.cells #[.int .i64 0, .int .i64 0, (.slice none 0 0)] 24 (0, 0))) ∧ Aside0 (wc.heap[gb126]? = some (.cells #[.int .i64 0, .int .i64 0, .int .i64 0, .int .i64 0, .int .i64 0, .int .i64 0, .int .i64 0, .int .i64 0, .int .i64 0, .int .i64 0] 33 (0, 0))) ∧ Aside0 (Below w.heap.size w wc))
 case first =>
  have H := HC4.out
  clear HC4
  replace H := Option.bind_eq_some_iff.mp H
  obtain ⟨t127, A90, H⟩ := H
  replace H : (if t127 = 0 then ((sender_node.f a1).bind fun t128 => (if t128 = true then (if a1 = a0_0 then (sender_Send.j0 k a1 10 a0_0 a0_1 l0_2 a2_0 a2_1 a2_2 a2_3 a2_4 a2_5 a2_6) else ((document_Check.f k a2_0 a2_1 a2_2 a2_3 a2_4 a2_5 a2_6).bind fun t129 => (if t129 = 0 then (if (l0_2.length : Int) = 64 then (sender_Send.j0 k a1 12 a0_0 a0_1 l0_2 a2_0 a2_1 a2_2 a2_3 a2_4 a2_5 a2_6) else (if a0_1 > 1073741824 then (sender_Send.j0 k a1 15 a0_0 a0_1 l0_2 a2_0 a2_1 a2_2 a2_3 a2_4 a2_5 a2_6) else (sender_Send.j0 k a1 0 a0_0 a0_1 l0_2 a2_0 a2_1 a2_2 a2_3 a2_4 a2_5 a2_6))) else (sender_Send.j0 k a1 11 a0_0 a0_1 l0_2 a2_0 a2_1 a2_2 a2_3 a2_4 a2_5 a2_6)))) else (sender_Send.j0 k a1 2 a0_0 a0_1 l0_2 a2_0 a2_1 a2_2 a2_3 a2_4 a2_5 a2_6))) else (sender_Send.j0 k a1 1 a0_0 a0_1 l0_2 a2_0 a2_1 a2_2 a2_3 a2_4 a2_5 a2_6)) = some (r1, r2, r3, r4, r5, r6, r7, r8, r9, r10, r11, r12, r13, r14) := H
  have A9 := Aside0.mk A90
  clear A90
  by_cases c10 : t127 = 0
  ·rw [if_pos c10] at H
   have c10b0 : (t127 == 0) = true := beq_iff_eq.mpr c10
   try simp only [beq_self_eq_true, Bool.not_true, Bool.false_or, Bool.true_and] at c10b0
   have c10b1 : (t127 != 0) = false := bne_eq_false_iff_eq.mpr c10
   clear c10
   (first | rw [c10b0] | (simp only [i64_w, i32_w]; rw [c10b0]) | skip)
   replace H := Option.bind_eq_some_iff.mp H
   obtain ⟨t128, A110, H⟩ := H
   replace H : (if t128 = true then (if a1 = a0_0 then (sender_Send.j0 k a1 10 a0_0 a0_1 l0_2 a2_0 a2_1 a2_2 a2_3 a2_4 a2_5 a2_6) else ((document_Check.f k a2_0 a2_1 a2_2 a2_3 a2_4 a2_5 a2_6).bind fun t129 => (if t129 = 0 then (if (l0_2.length : Int) = 64 then (sender_Send.j0 k a1 12 a0_0 a0_1 l0_2 a2_0 a2_1 a2_2 a2_3 a2_4 a2_5 a2_6) else (if a0_1 > 1073741824 then (sender_Send.j0 k a1 15 a0_0 a0_1 l0_2 a2_0 a2_1 a2_2 a2_3 a2_4 a2_5 a2_6) else (sender_Send.j0 k a1 0 a0_0 a0_1 l0_2 a2_0 a2_1 a2_2 a2_3 a2_4 a2_5 a2_6))) else (sender_Send.j0 k a1 11 a0_0 a0_1 l0_2 a2_0 a2_1 a2_2 a2_3 a2_4 a2_5 a2_6)))) else (sender_Send.j0 k a1 2 a0_0 a0_1 l0_2 a2_0 a2_1 a2_2 a2_3 a2_4 a2_5 a2_6)) = some (r1, r2, r3, r4, r5, r6, r7, r8, r9, r10, r11, r12, r13, r14) := H
   have A11 := Aside0.mk A110
   clear A110
   by_cases c12 : t128 = true
   ·subst c12
    have H1 : (if a1 = a0_0 then (sender_Send.j0 k a1 10 a0_0 a0_1 l0_2 a2_0 a2_1 a2_2 a2_3 a2_4 a2_5 a2_6) else ((document_Check.f k a2_0 a2_1 a2_2 a2_3 a2_4 a2_5 a2_6).bind fun t129 => (if t129 = 0 then (if (l0_2.length : Int) = 64 then (sender_Send.j0 k a1 12 a0_0 a0_1 l0_2 a2_0 a2_1 a2_2 a2_3 a2_4 a2_5 a2_6) else (if a0_1 > 1073741824 then (sender_Send.j0 k a1 15 a0_0 a0_1 l0_2 a2_0 a2_1 a2_2 a2_3 a2_4 a2_5 a2_6) else (sender_Send.j0 k a1 0 a0_0 a0_1 l0_2 a2_0 a2_1 a2_2 a2_3 a2_4 a2_5 a2_6))) else (sender_Send.j0 k a1 11 a0_0 a0_1 l0_2 a2_0 a2_1 a2_2 a2_3 a2_4 a2_5 a2_6)))) = some (r1, r2, r3, r4, r5, r6, r7, r8, r9, r10, r11, r12, r13, r14) := by rw [if_pos rfl] at H; exact H
    clear H
    have H := H1
    clear H1
    by_cases c13 : a1 = a0_0
    ·rw [if_pos c13] at H
     have c13b0 : (a1 == a0_0) = true := beq_iff_eq.mpr c13
     try simp only [beq_self_eq_true, Bool.not_true, Bool.false_or, Bool.true_and] at c13b0
     have c13b1 : (a1 != a0_0) = false := bne_eq_false_iff_eq.mpr c13
     clear c13
     have H' := Aside0.mk H
     clear H
     have hnb14 := NB123_124.out
     have hnc14 := NB124_123.out
     have hnb15 := NB123_125.out
     have hnc15 := NB125_123.out
     have hnb16 := NB123_126.out
     have hnc16 := NB126_123.out
     obtain ⟨hcz17_0, hcz17_1, hcz17_2, hfz17_0, hfz17_1, hfz17_2⟩ := GS.c3 BK123.out
     go_wp2_with (first | ((with_reducible refine gqC (f := 17) rfl ?_); refine GS.gL (some 14) Try.func17 #[.agg #[.int .i64 a0_0, .int .i64 a0_1, .slice A0_2 l0_2.length c0_2]] ?_; (with_reducible refine (sender_Check.calls k a0_0 a0_1 _ _ l0_2 t127 _ ?side1 ?side2 A9.out).mono ?_); (case side1 => exact GS.rC (Kd.C_below HR0_2.out HB.out)); (case side2 => exact HC0_2.out); rintro e w18 ⟨rfl, hb⟩; refine ⟨_, rfl, ?_⟩; have n0_ := Aside0.mk (bqB (GS.bqX BK123.out) hb); have n1_ := Aside0.mk (bqB (GS.bqX BK124.out) hb); have n2_ := Aside0.mk (bqB (GS.bqX BK125.out) hb); have n3_ := Aside0.mk (bqB (GS.bqX BK126.out) hb); have n4_ := Aside0.mk (lqT (GS.lB HB.out) hb); clear BK123; clear BK124; clear BK125; clear BK126; clear HB; have BK123 := n0_; have BK124 := n1_; have BK125 := n2_; have BK126 := n3_; have HB := n4_; clear n0_ n1_ n2_ n3_ n4_; (try clear hb); (try clear hb2); (try clear hk); (try clear hi)) | ((with_reducible refine gqC (f := 40) rfl ?_); refine GS.gL (some 18) Try.func40 #[.int .i64 a1] ?_; (with_reducible refine (sender_node.calls a1 true _ A11.out).mono ?_); rintro e w' ⟨rfl, ⟨nd, rfl⟩⟩; refine ⟨_, rfl, ?_⟩; obtain ⟨hcz19_0, hcz19_1, hcz19_2, hfz19_0, hfz19_1, hfz19_2⟩ := GS.c3 BK123.out))
     go_meet
     case rel => exact ⟨_, (10), (by first | rfl | (simp; done) | (simp [*]; done)), H', ⟨by first | omega | exact Nat.le_refl _⟩, ⟨GS.bqX BK123.out⟩, ⟨GS.bqX BK124.out⟩, ⟨GS.bqX BK125.out⟩, ⟨GS.bqX BK126.out⟩, ⟨GS.lB HB.out⟩⟩
    ·rw [if_neg c13] at H
     have c13b0 : (a1 == a0_0) = false := beq_eq_false_iff_ne.mpr c13
     try simp only [beq_self_eq_true, Bool.not_true, Bool.false_or, Bool.true_and] at c13b0
     have c13b1 : (a1 != a0_0) = true := bne_iff_ne.mpr c13
     replace H := Option.bind_eq_some_iff.mp H
     obtain ⟨t129, A200, H⟩ := H
     replace H : (if t129 = 0 then (if (l0_2.length : Int) = 64 then (sender_Send.j0 k a1 12 a0_0 a0_1 l0_2 a2_0 a2_1 a2_2 a2_3 a2_4 a2_5 a2_6) else (if a0_1 > 1073741824 then (sender_Send.j0 k a1 15 a0_0 a0_1 l0_2 a2_0 a2_1 a2_2 a2_3 a2_4 a2_5 a2_6) else (sender_Send.j0 k a1 0 a0_0 a0_1 l0_2 a2_0 a2_1 a2_2 a2_3 a2_4 a2_5 a2_6))) else (sender_Send.j0 k a1 11 a0_0 a0_1 l0_2 a2_0 a2_1 a2_2 a2_3 a2_4 a2_5 a2_6)) = some (r1, r2, r3, r4, r5, r6, r7, r8, r9, r10, r11, r12, r13, r14) := H
     have A20 := Aside0.mk A200
     clear A200
     by_cases c21 : t129 = 0
     ·rw [if_pos c21] at H
      have c21b0 : (t129 == 0) = true := beq_iff_eq.mpr c21
      try simp only [beq_self_eq_true, Bool.not_true, Bool.false_or, Bool.true_and] at c21b0
      have c21b1 : (t129 != 0) = false := bne_eq_false_iff_eq.mpr c21
      clear c21
      by_cases c22 : (l0_2.length : Int) = 64
      ·rw [if_pos c22] at H
       have c22b0 : ((l0_2.length : Int) == 64) = true := beq_iff_eq.mpr c22
       try simp only [beq_self_eq_true, Bool.not_true, Bool.false_or, Bool.true_and] at c22b0
       have c22b1 : ((l0_2.length : Int) != 64) = false := bne_eq_false_iff_eq.mpr c22
       clear c22
       have H' := Aside0.mk H
       clear H
       have hnb23 := NB123_124.out
       have hnc23 := NB124_123.out
       have hnb24 := NB123_125.out
       have hnc24 := NB125_123.out
       have hnb25 := NB123_126.out
       have hnc25 := NB126_123.out
       obtain ⟨hcz26_0, hcz26_1, hcz26_2, hfz26_0, hfz26_1, hfz26_2⟩ := GS.c3 BK123.out
       go_wp2_with (first | ((with_reducible refine gqC (f := 17) rfl ?_); refine GS.gL (some 14) Try.func17 #[.agg #[.int .i64 a0_0, .int .i64 a0_1, .slice A0_2 l0_2.length c0_2]] ?_; (with_reducible refine (sender_Check.calls k a0_0 a0_1 _ _ l0_2 t127 _ ?side1 ?side2 A9.out).mono ?_); (case side1 => exact GS.rC (Kd.C_below HR0_2.out HB.out)); (case side2 => exact HC0_2.out); rintro e w27 ⟨rfl, hb⟩; refine ⟨_, rfl, ?_⟩; have n0_ := Aside0.mk (bqB (GS.bqX BK123.out) hb); have n1_ := Aside0.mk (bqB (GS.bqX BK124.out) hb); have n2_ := Aside0.mk (bqB (GS.bqX BK125.out) hb); have n3_ := Aside0.mk (bqB (GS.bqX BK126.out) hb); have n4_ := Aside0.mk (lqT (GS.lB HB.out) hb); clear BK123; clear BK124; clear BK125; clear BK126; clear HB; have BK123 := n0_; have BK124 := n1_; have BK125 := n2_; have BK126 := n3_; have HB := n4_; clear n0_ n1_ n2_ n3_ n4_; (try clear hb); (try clear hb2); (try clear hk); (try clear hi)) | ((with_reducible refine gqC (f := 40) rfl ?_); refine GS.gL (some 18) Try.func40 #[.int .i64 a1] ?_; (with_reducible refine (sender_node.calls a1 true _ A11.out).mono ?_); rintro e w' ⟨rfl, ⟨nd, rfl⟩⟩; refine ⟨_, rfl, ?_⟩; obtain ⟨hcz28_0, hcz28_1, hcz28_2, hfz28_0, hfz28_1, hfz28_2⟩ := GS.c3 BK123.out; have hnb29 := NB124_125.out; have hnc29 := NB125_124.out; have hnb30 := NB124_126.out; have hnc30 := NB126_124.out; obtain ⟨hcz31_0, hcz31_1, hcz31_2, hcz31_3, hcz31_4, hcz31_5, hcz31_6, hfz31_0, hfz31_1, hfz31_2, hfz31_3, hfz31_4, hfz31_5, hfz31_6⟩ := GS.c7 BK124.out) | ((with_reducible refine gqC (f := 42) rfl ?_); refine GS.gL (some 27) Try.func42 #[.agg #[.int .i64 a2_0, .int .i64 a2_1, .int .i64 a2_2, .int .i64 a2_3, .int .i64 a2_4, .int .i64 a2_5, .int .i64 a2_6]] ?_; (with_reducible refine (document_Check.calls k a2_0 a2_1 a2_2 a2_3 a2_4 a2_5 a2_6 t129 _ A20.out).mono ?_); rintro e w32 ⟨rfl, hb⟩; refine ⟨_, rfl, ?_⟩; have n0_ := Aside0.mk (bqB (GS.bqX BK123.out) hb); have n1_ := Aside0.mk (bqB (GS.bqX BK124.out) hb); have n2_ := Aside0.mk (bqB (GS.bqX BK125.out) hb); have n3_ := Aside0.mk (bqB (GS.bqX BK126.out) hb); have n4_ := Aside0.mk (lqT (GS.lB HB.out) hb); clear BK123; clear BK124; clear BK125; clear BK126; clear HB; have BK123 := n0_; have BK124 := n1_; have BK125 := n2_; have BK126 := n3_; have HB := n4_; clear n0_ n1_ n2_ n3_ n4_; (try clear hb); (try clear hb2); (try clear hk); (try clear hi); obtain ⟨hcz33_0, hcz33_1, hcz33_2, hfz33_0, hfz33_1, hfz33_2⟩ := GS.c3 BK123.out))
       go_meet
       case rel => exact ⟨_, (12), (by first | rfl | (simp; done) | (simp [*]; done)), H', ⟨by first | omega | exact Nat.le_refl _⟩, ⟨GS.bqX BK123.out⟩, ⟨GS.bqX BK124.out⟩, ⟨GS.bqX BK125.out⟩, ⟨GS.bqX BK126.out⟩, ⟨GS.lB HB.out⟩⟩
      ·rw [if_neg c22] at H
       have c22b0 : ((l0_2.length : Int) == 64) = false := beq_eq_false_iff_ne.mpr c22
       try simp only [beq_self_eq_true, Bool.not_true, Bool.false_or, Bool.true_and] at c22b0
       have c22b1 : ((l0_2.length : Int) != 64) = true := bne_iff_ne.mpr c22
       by_cases c34 : a0_1 > 1073741824
       ·rw [if_pos c34] at H
        have c34b0 : decide (1073741824 < a0_1) = true := decide_eq_true c34
        clear c34
        have H' := Aside0.mk H
        clear H
        have hnb35 := NB123_124.out
        have hnc35 := NB124_123.out
        have hnb36 := NB123_125.out
        have hnc36 := NB125_123.out
        have hnb37 := NB123_126.out
        have hnc37 := NB126_123.out
        obtain ⟨hcz38_0, hcz38_1, hcz38_2, hfz38_0, hfz38_1, hfz38_2⟩ := GS.c3 BK123.out
        go_wp2_with (first | ((with_reducible refine gqC (f := 17) rfl ?_); refine GS.gL (some 14) Try.func17 #[.agg #[.int .i64 a0_0, .int .i64 a0_1, .slice A0_2 l0_2.length c0_2]] ?_; (with_reducible refine (sender_Check.calls k a0_0 a0_1 _ _ l0_2 t127 _ ?side1 ?side2 A9.out).mono ?_); (case side1 => exact GS.rC (Kd.C_below HR0_2.out HB.out)); (case side2 => exact HC0_2.out); rintro e w39 ⟨rfl, hb⟩; refine ⟨_, rfl, ?_⟩; have n0_ := Aside0.mk (bqB (GS.bqX BK123.out) hb); have n1_ := Aside0.mk (bqB (GS.bqX BK124.out) hb); have n2_ := Aside0.mk (bqB (GS.bqX BK125.out) hb); have n3_ := Aside0.mk (bqB (GS.bqX BK126.out) hb); have n4_ := Aside0.mk (lqT (GS.lB HB.out) hb); clear BK123; clear BK124; clear BK125; clear BK126; clear HB; have BK123 := n0_; have BK124 := n1_; have BK125 := n2_; have BK126 := n3_; have HB := n4_; clear n0_ n1_ n2_ n3_ n4_; (try clear hb); (try clear hb2); (try clear hk); (try clear hi)) | ((with_reducible refine gqC (f := 40) rfl ?_); refine GS.gL (some 18) Try.func40 #[.int .i64 a1] ?_; (with_reducible refine (sender_node.calls a1 true _ A11.out).mono ?_); rintro e w' ⟨rfl, ⟨nd, rfl⟩⟩; refine ⟨_, rfl, ?_⟩; obtain ⟨hcz40_0, hcz40_1, hcz40_2, hfz40_0, hfz40_1, hfz40_2⟩ := GS.c3 BK123.out; have hnb41 := NB124_125.out; have hnc41 := NB125_124.out; have hnb42 := NB124_126.out; have hnc42 := NB126_124.out; obtain ⟨hcz43_0, hcz43_1, hcz43_2, hcz43_3, hcz43_4, hcz43_5, hcz43_6, hfz43_0, hfz43_1, hfz43_2, hfz43_3, hfz43_4, hfz43_5, hfz43_6⟩ := GS.c7 BK124.out) | ((with_reducible refine gqC (f := 42) rfl ?_); refine GS.gL (some 27) Try.func42 #[.agg #[.int .i64 a2_0, .int .i64 a2_1, .int .i64 a2_2, .int .i64 a2_3, .int .i64 a2_4, .int .i64 a2_5, .int .i64 a2_6]] ?_; (with_reducible refine (document_Check.calls k a2_0 a2_1 a2_2 a2_3 a2_4 a2_5 a2_6 t129 _ A20.out).mono ?_); rintro e w44 ⟨rfl, hb⟩; refine ⟨_, rfl, ?_⟩; have n0_ := Aside0.mk (bqB (GS.bqX BK123.out) hb); have n1_ := Aside0.mk (bqB (GS.bqX BK124.out) hb); have n2_ := Aside0.mk (bqB (GS.bqX BK125.out) hb); have n3_ := Aside0.mk (bqB (GS.bqX BK126.out) hb); have n4_ := Aside0.mk (lqT (GS.lB HB.out) hb); clear BK123; clear BK124; clear BK125; clear BK126; clear HB; have BK123 := n0_; have BK124 := n1_; have BK125 := n2_; have BK126 := n3_; have HB := n4_; clear n0_ n1_ n2_ n3_ n4_; (try clear hb); (try clear hb2); (try clear hk); (try clear hi); obtain ⟨hcz45_0, hcz45_1, hcz45_2, hfz45_0, hfz45_1, hfz45_2⟩ := GS.c3 BK123.out))
        go_meet
        case rel => exact ⟨_, (15), (by first | rfl | (simp; done) | (simp [*]; done)), H', ⟨by first | omega | exact Nat.le_refl _⟩, ⟨GS.bqX BK123.out⟩, ⟨GS.bqX BK124.out⟩, ⟨GS.bqX BK125.out⟩, ⟨GS.bqX BK126.out⟩, ⟨GS.lB HB.out⟩⟩
       ·rw [if_neg c34] at H
        have c34b0 : decide (1073741824 < a0_1) = false := decide_eq_false c34
        clear c34
        have H' := Aside0.mk H
        clear H
        have hnb46 := NB123_124.out
        have hnc46 := NB124_123.out
        have hnb47 := NB123_125.out
        have hnc47 := NB125_123.out
        have hnb48 := NB123_126.out
        have hnc48 := NB126_123.out
        obtain ⟨hcz49_0, hcz49_1, hcz49_2, hfz49_0, hfz49_1, hfz49_2⟩ := GS.c3 BK123.out
        go_wp2_with (first | ((with_reducible refine gqC (f := 17) rfl ?_); refine GS.gL (some 14) Try.func17 #[.agg #[.int .i64 a0_0, .int .i64 a0_1, .slice A0_2 l0_2.length c0_2]] ?_; (with_reducible refine (sender_Check.calls k a0_0 a0_1 _ _ l0_2 t127 _ ?side1 ?side2 A9.out).mono ?_); (case side1 => exact GS.rC (Kd.C_below HR0_2.out HB.out)); (case side2 => exact HC0_2.out); rintro e w50 ⟨rfl, hb⟩; refine ⟨_, rfl, ?_⟩; have n0_ := Aside0.mk (bqB (GS.bqX BK123.out) hb); have n1_ := Aside0.mk (bqB (GS.bqX BK124.out) hb); have n2_ := Aside0.mk (bqB (GS.bqX BK125.out) hb); have n3_ := Aside0.mk (bqB (GS.bqX BK126.out) hb); have n4_ := Aside0.mk (lqT (GS.lB HB.out) hb); clear BK123; clear BK124; clear BK125; clear BK126; clear HB; have BK123 := n0_; have BK124 := n1_; have BK125 := n2_; have BK126 := n3_; have HB := n4_; clear n0_ n1_ n2_ n3_ n4_; (try clear hb); (try clear hb2); (try clear hk); (try clear hi)) | ((with_reducible refine gqC (f := 40) rfl ?_); refine GS.gL (some 18) Try.func40 #[.int .i64 a1] ?_; (with_reducible refine (sender_node.calls a1 true _ A11.out).mono ?_); rintro e w' ⟨rfl, ⟨nd, rfl⟩⟩; refine ⟨_, rfl, ?_⟩; obtain ⟨hcz51_0, hcz51_1, hcz51_2, hfz51_0, hfz51_1, hfz51_2⟩ := GS.c3 BK123.out; have hnb52 := NB124_125.out; have hnc52 := NB125_124.out; have hnb53 := NB124_126.out; have hnc53 := NB126_124.out; obtain ⟨hcz54_0, hcz54_1, hcz54_2, hcz54_3, hcz54_4, hcz54_5, hcz54_6, hfz54_0, hfz54_1, hfz54_2, hfz54_3, hfz54_4, hfz54_5, hfz54_6⟩ := GS.c7 BK124.out) | ((with_reducible refine gqC (f := 42) rfl ?_); refine GS.gL (some 27) Try.func42 #[.agg #[.int .i64 a2_0, .int .i64 a2_1, .int .i64 a2_2, .int .i64 a2_3, .int .i64 a2_4, .int .i64 a2_5, .int .i64 a2_6]] ?_; (with_reducible refine (document_Check.calls k a2_0 a2_1 a2_2 a2_3 a2_4 a2_5 a2_6 t129 _ A20.out).mono ?_); rintro e w55 ⟨rfl, hb⟩; refine ⟨_, rfl, ?_⟩; have n0_ := Aside0.mk (bqB (GS.bqX BK123.out) hb); have n1_ := Aside0.mk (bqB (GS.bqX BK124.out) hb); have n2_ := Aside0.mk (bqB (GS.bqX BK125.out) hb); have n3_ := Aside0.mk (bqB (GS.bqX BK126.out) hb); have n4_ := Aside0.mk (lqT (GS.lB HB.out) hb); clear BK123; clear BK124; clear BK125; clear BK126; clear HB; have BK123 := n0_; have BK124 := n1_; have BK125 := n2_; have BK126 := n3_; have HB := n4_; clear n0_ n1_ n2_ n3_ n4_; (try clear hb); (try clear hb2); (try clear hk); (try clear hi); obtain ⟨hcz56_0, hcz56_1, hcz56_2, hfz56_0, hfz56_1, hfz56_2⟩ := GS.c3 BK123.out))
        go_meet
        case rel => exact ⟨_, (0), (by first | rfl | (simp; done) | (simp [*]; done)), H', ⟨by first | omega | exact Nat.le_refl _⟩, ⟨GS.bqX BK123.out⟩, ⟨GS.bqX BK124.out⟩, ⟨GS.bqX BK125.out⟩, ⟨GS.bqX BK126.out⟩, ⟨GS.lB HB.out⟩⟩
     ·rw [if_neg c21] at H
      have c21b0 : (t129 == 0) = false := beq_eq_false_iff_ne.mpr c21
      try simp only [beq_self_eq_true, Bool.not_true, Bool.false_or, Bool.true_and] at c21b0
      have c21b1 : (t129 != 0) = true := bne_iff_ne.mpr c21
      have H' := Aside0.mk H
      clear H
      have hnb57 := NB123_124.out
      have hnc57 := NB124_123.out
      have hnb58 := NB123_125.out
      have hnc58 := NB125_123.out
      have hnb59 := NB123_126.out
      have hnc59 := NB126_123.out
      obtain ⟨hcz60_0, hcz60_1, hcz60_2, hfz60_0, hfz60_1, hfz60_2⟩ := GS.c3 BK123.out
      go_wp2_with (first | ((with_reducible refine gqC (f := 17) rfl ?_); refine GS.gL (some 14) Try.func17 #[.agg #[.int .i64 a0_0, .int .i64 a0_1, .slice A0_2 l0_2.length c0_2]] ?_; (with_reducible refine (sender_Check.calls k a0_0 a0_1 _ _ l0_2 t127 _ ?side1 ?side2 A9.out).mono ?_); (case side1 => exact GS.rC (Kd.C_below HR0_2.out HB.out)); (case side2 => exact HC0_2.out); rintro e w61 ⟨rfl, hb⟩; refine ⟨_, rfl, ?_⟩; have n0_ := Aside0.mk (bqB (GS.bqX BK123.out) hb); have n1_ := Aside0.mk (bqB (GS.bqX BK124.out) hb); have n2_ := Aside0.mk (bqB (GS.bqX BK125.out) hb); have n3_ := Aside0.mk (bqB (GS.bqX BK126.out) hb); have n4_ := Aside0.mk (lqT (GS.lB HB.out) hb); clear BK123; clear BK124; clear BK125; clear BK126; clear HB; have BK123 := n0_; have BK124 := n1_; have BK125 := n2_; have BK126 := n3_; have HB := n4_; clear n0_ n1_ n2_ n3_ n4_; (try clear hb); (try clear hb2); (try clear hk); (try clear hi)) | ((with_reducible refine gqC (f := 40) rfl ?_); refine GS.gL (some 18) Try.func40 #[.int .i64 a1] ?_; (with_reducible refine (sender_node.calls a1 true _ A11.out).mono ?_); rintro e w' ⟨rfl, ⟨nd, rfl⟩⟩; refine ⟨_, rfl, ?_⟩; obtain ⟨hcz62_0, hcz62_1, hcz62_2, hfz62_0, hfz62_1, hfz62_2⟩ := GS.c3 BK123.out; have hnb63 := NB124_125.out; have hnc63 := NB125_124.out; have hnb64 := NB124_126.out; have hnc64 := NB126_124.out; obtain ⟨hcz65_0, hcz65_1, hcz65_2, hcz65_3, hcz65_4, hcz65_5, hcz65_6, hfz65_0, hfz65_1, hfz65_2, hfz65_3, hfz65_4, hfz65_5, hfz65_6⟩ := GS.c7 BK124.out) | ((with_reducible refine gqC (f := 42) rfl ?_); refine GS.gL (some 27) Try.func42 #[.agg #[.int .i64 a2_0, .int .i64 a2_1, .int .i64 a2_2, .int .i64 a2_3, .int .i64 a2_4, .int .i64 a2_5, .int .i64 a2_6]] ?_; (with_reducible refine (document_Check.calls k a2_0 a2_1 a2_2 a2_3 a2_4 a2_5 a2_6 t129 _ A20.out).mono ?_); rintro e w66 ⟨rfl, hb⟩; refine ⟨_, rfl, ?_⟩; have n0_ := Aside0.mk (bqB (GS.bqX BK123.out) hb); have n1_ := Aside0.mk (bqB (GS.bqX BK124.out) hb); have n2_ := Aside0.mk (bqB (GS.bqX BK125.out) hb); have n3_ := Aside0.mk (bqB (GS.bqX BK126.out) hb); have n4_ := Aside0.mk (lqT (GS.lB HB.out) hb); clear BK123; clear BK124; clear BK125; clear BK126; clear HB; have BK123 := n0_; have BK124 := n1_; have BK125 := n2_; have BK126 := n3_; have HB := n4_; clear n0_ n1_ n2_ n3_ n4_; (try clear hb); (try clear hb2); (try clear hk); (try clear hi)))
      go_meet
      case rel => exact ⟨_, (11), (by first | rfl | (simp; done) | (simp [*]; done)), H', ⟨by first | omega | exact Nat.le_refl _⟩, ⟨GS.bqX BK123.out⟩, ⟨GS.bqX BK124.out⟩, ⟨GS.bqX BK125.out⟩, ⟨GS.bqX BK126.out⟩, ⟨GS.lB HB.out⟩⟩
   ·replace c12 := Bool.eq_false_iff.mpr c12
    subst c12
    have H1 : (sender_Send.j0 k a1 2 a0_0 a0_1 l0_2 a2_0 a2_1 a2_2 a2_3 a2_4 a2_5 a2_6) = some (r1, r2, r3, r4, r5, r6, r7, r8, r9, r10, r11, r12, r13, r14) := by rw [if_neg (show ¬ (false = true) by decide)] at H; exact H
    clear H
    have H := H1
    clear H1
    have H' := Aside0.mk H
    clear H
    have hnb67 := NB123_124.out
    have hnc67 := NB124_123.out
    have hnb68 := NB123_125.out
    have hnc68 := NB125_123.out
    have hnb69 := NB123_126.out
    have hnc69 := NB126_123.out
    obtain ⟨hcz70_0, hcz70_1, hcz70_2, hfz70_0, hfz70_1, hfz70_2⟩ := GS.c3 BK123.out
    go_wp2_with (first | ((with_reducible refine gqC (f := 17) rfl ?_); refine GS.gL (some 14) Try.func17 #[.agg #[.int .i64 a0_0, .int .i64 a0_1, .slice A0_2 l0_2.length c0_2]] ?_; (with_reducible refine (sender_Check.calls k a0_0 a0_1 _ _ l0_2 t127 _ ?side1 ?side2 A9.out).mono ?_); (case side1 => exact GS.rC (Kd.C_below HR0_2.out HB.out)); (case side2 => exact HC0_2.out); rintro e w71 ⟨rfl, hb⟩; refine ⟨_, rfl, ?_⟩; have n0_ := Aside0.mk (bqB (GS.bqX BK123.out) hb); have n1_ := Aside0.mk (bqB (GS.bqX BK124.out) hb); have n2_ := Aside0.mk (bqB (GS.bqX BK125.out) hb); have n3_ := Aside0.mk (bqB (GS.bqX BK126.out) hb); have n4_ := Aside0.mk (lqT (GS.lB HB.out) hb); clear BK123; clear BK124; clear BK125; clear BK126; clear HB; have BK123 := n0_; have BK124 := n1_; have BK125 := n2_; have BK126 := n3_; have HB := n4_; clear n0_ n1_ n2_ n3_ n4_; (try clear hb); (try clear hb2); (try clear hk); (try clear hi)) | ((with_reducible refine gqC (f := 40) rfl ?_); refine GS.gL (some 18) Try.func40 #[.int .i64 a1] ?_; (with_reducible refine (sender_node.calls a1 false _ A11.out).mono ?_); rintro e w' ⟨rfl, ⟨nd, rfl⟩⟩; refine ⟨_, rfl, ?_⟩))
    go_meet
    case rel => exact ⟨_, (2), (by first | rfl | (simp; done) | (simp [*]; done)), H', ⟨by first | omega | exact Nat.le_refl _⟩, ⟨GS.bqX BK123.out⟩, ⟨GS.bqX BK124.out⟩, ⟨GS.bqX BK125.out⟩, ⟨GS.bqX BK126.out⟩, ⟨GS.lB HB.out⟩⟩
  ·rw [if_neg c10] at H
   have c10b0 : (t127 == 0) = false := beq_eq_false_iff_ne.mpr c10
   try simp only [beq_self_eq_true, Bool.not_true, Bool.false_or, Bool.true_and] at c10b0
   have c10b1 : (t127 != 0) = true := bne_iff_ne.mpr c10
   (first | rw [c10b0] | (simp only [i64_w, i32_w]; rw [c10b0]) | skip)
   have H' := Aside0.mk H
   clear H
   have hnb72 := NB123_124.out
   have hnc72 := NB124_123.out
   have hnb73 := NB123_125.out
   have hnc73 := NB125_123.out
   have hnb74 := NB123_126.out
   have hnc74 := NB126_123.out
   obtain ⟨hcz75_0, hcz75_1, hcz75_2, hfz75_0, hfz75_1, hfz75_2⟩ := GS.c3 BK123.out
   go_wp2_with (first | ((with_reducible refine gqC (f := 17) rfl ?_); refine GS.gL (some 14) Try.func17 #[.agg #[.int .i64 a0_0, .int .i64 a0_1, .slice A0_2 l0_2.length c0_2]] ?_; (with_reducible refine (sender_Check.calls k a0_0 a0_1 _ _ l0_2 t127 _ ?side1 ?side2 A9.out).mono ?_); (case side1 => exact GS.rC (Kd.C_below HR0_2.out HB.out)); (case side2 => exact HC0_2.out); rintro e w76 ⟨rfl, hb⟩; refine ⟨_, rfl, ?_⟩; have n0_ := Aside0.mk (bqB (GS.bqX BK123.out) hb); have n1_ := Aside0.mk (bqB (GS.bqX BK124.out) hb); have n2_ := Aside0.mk (bqB (GS.bqX BK125.out) hb); have n3_ := Aside0.mk (bqB (GS.bqX BK126.out) hb); have n4_ := Aside0.mk (lqT (GS.lB HB.out) hb); clear BK123; clear BK124; clear BK125; clear BK126; clear HB; have BK123 := n0_; have BK124 := n1_; have BK125 := n2_; have BK126 := n3_; have HB := n4_; clear n0_ n1_ n2_ n3_ n4_; (try clear hb); (try clear hb2); (try clear hk); (try clear hi)))
   go_meet
   case rel => exact ⟨_, (1), (by first | rfl | (simp; done) | (simp [*]; done)), H', ⟨by first | omega | exact Nat.le_refl _⟩, ⟨GS.bqX BK123.out⟩, ⟨GS.bqX BK124.out⟩, ⟨GS.bqX BK125.out⟩, ⟨GS.bqX BK126.out⟩, ⟨GS.lB HB.out⟩⟩
 case rest =>
  clear HC4
  try clear c1
  try clear c2
  try clear p2
  try clear c3
  try clear c4
  try clear c5
  try clear c6
  try clear c7
  try clear c10
  try clear c10b0
  try clear c10b1
  try clear c12
  try clear c13
  try clear c13b0
  try clear c13b1
  try clear c14
  try clear c15
  try clear c16
  try clear c17
  try clear c21
  try clear c21b0
  try clear c21b1
  try clear c22
  try clear c22b0
  try clear c22b1
  try clear c23
  try clear c24
  try clear c25
  try clear c29
  try clear c30
  try clear c34
  try clear c34b0
  try clear c35
  try clear c36
  try clear c37
  try clear c40
  try clear c41
  try clear c42
  try clear c46
  try clear c47
  try clear c48
  try clear c52
  try clear c53
  try clear c57
  try clear c58
  try clear c59
  try clear c63
  try clear c64
  try clear c67
  try clear c68
  try clear c69
  try clear c72
  try clear c73
  try clear c74
  try clear hcz17_0
  try clear hcz17_1
  try clear hcz17_2
  try clear hcz19_0
  try clear hcz19_1
  try clear hcz19_2
  try clear hcz26_0
  try clear hcz26_1
  try clear hcz26_2
  try clear hcz28_0
  try clear hcz28_1
  try clear hcz28_2
  try clear hcz31_0
  try clear hcz31_1
  try clear hcz31_2
  try clear hcz31_3
  try clear hcz31_4
  try clear hcz31_5
  try clear hcz31_6
  try clear hcz33_0
  try clear hcz33_1
  try clear hcz33_2
  try clear hcz38_0
  try clear hcz38_1
  try clear hcz38_2
  try clear hcz40_0
  try clear hcz40_1
  try clear hcz40_2
  try clear hcz43_0
  try clear hcz43_1
  try clear hcz43_2
  try clear hcz43_3
  try clear hcz43_4
  try clear hcz43_5
  try clear hcz43_6
  try clear hcz45_0
  try clear hcz45_1
  try clear hcz45_2
  try clear hcz49_0
  try clear hcz49_1
  try clear hcz49_2
  try clear hcz51_0
  try clear hcz51_1
  try clear hcz51_2
  try clear hcz54_0
  try clear hcz54_1
  try clear hcz54_2
  try clear hcz54_3
  try clear hcz54_4
  try clear hcz54_5
  try clear hcz54_6
  try clear hcz56_0
  try clear hcz56_1
  try clear hcz56_2
  try clear hcz60_0
  try clear hcz60_1
  try clear hcz60_2
  try clear hcz62_0
  try clear hcz62_1
  try clear hcz62_2
  try clear hcz65_0
  try clear hcz65_1
  try clear hcz65_2
  try clear hcz65_3
  try clear hcz65_4
  try clear hcz65_5
  try clear hcz65_6
  try clear hcz70_0
  try clear hcz70_1
  try clear hcz70_2
  try clear hcz75_0
  try clear hcz75_1
  try clear hcz75_2
  try clear hfz17_0
  try clear hfz17_1
  try clear hfz17_2
  try clear hfz19_0
  try clear hfz19_1
  try clear hfz19_2
  try clear hfz26_0
  try clear hfz26_1
  try clear hfz26_2
  try clear hfz28_0
  try clear hfz28_1
  try clear hfz28_2
  try clear hfz31_0
  try clear hfz31_1
  try clear hfz31_2
  try clear hfz31_3
  try clear hfz31_4
  try clear hfz31_5
  try clear hfz31_6
  try clear hfz33_0
  try clear hfz33_1
  try clear hfz33_2
  try clear hfz38_0
  try clear hfz38_1
  try clear hfz38_2
  try clear hfz40_0
  try clear hfz40_1
  try clear hfz40_2
  try clear hfz43_0
  try clear hfz43_1
  try clear hfz43_2
  try clear hfz43_3
  try clear hfz43_4
  try clear hfz43_5
  try clear hfz43_6
  try clear hfz45_0
  try clear hfz45_1
  try clear hfz45_2
  try clear hfz49_0
  try clear hfz49_1
  try clear hfz49_2
  try clear hfz51_0
  try clear hfz51_1
  try clear hfz51_2
  try clear hfz54_0
  try clear hfz54_1
  try clear hfz54_2
  try clear hfz54_3
  try clear hfz54_4
  try clear hfz54_5
  try clear hfz54_6
  try clear hfz56_0
  try clear hfz56_1
  try clear hfz56_2
  try clear hfz60_0
  try clear hfz60_1
  try clear hfz60_2
  try clear hfz62_0
  try clear hfz62_1
  try clear hfz62_2
  try clear hfz65_0
  try clear hfz65_1
  try clear hfz65_2
  try clear hfz65_3
  try clear hfz65_4
  try clear hfz65_5
  try clear hfz65_6
  try clear hfz70_0
  try clear hfz70_1
  try clear hfz70_2
  try clear hfz75_0
  try clear hfz75_1
  try clear hfz75_2
  obtain ⟨kq, x9_3, rfl, HA, HJ3, BK123, BK124, BK125, BK126, HB⟩ := hcut
  cases kq with
  | zero => exact absurd HA.out (by simp [sender_Send.j0])
  | succ kj3 =>
   have H := HA.out
   clear HA
   simp only [sender_Send.j0] at H
   by_cases c77 : x9_3 = 0
   ·rw [if_pos c77] at H
    have c77b0 : (x9_3 == 0) = true := beq_iff_eq.mpr c77
    try simp only [beq_self_eq_true, Bool.not_true, Bool.false_or, Bool.true_and] at c77b0
    have c77b1 : (x9_3 != 0) = false := bne_eq_false_iff_eq.mpr c77
    clear c77
    replace H := Option.bind_eq_some_iff.mp H
    obtain ⟨⟨t130, t131, t132⟩, A780, H⟩ := H
    replace H : (if t132.length < 1759218604441 then (some (t130, wrap64 (t131 + 1), (t132 ++ [(⟨a0_0, a1, a0_1, (⟨a2_0, a2_1, a2_2, a2_3, a2_4, a2_5, a2_6⟩ : S26)⟩ : S33)]), a0_0, a1, a0_1, a2_0, a2_1, a2_2, a2_3, a2_4, a2_5, a2_6, 0)) else (none)) = some (r1, r2, r3, r4, r5, r6, r7, r8, r9, r10, r11, r12, r13, r14) := H
    have A78 := Aside0.mk A780
    clear A780
    by_cases c79 : t132.length < 1759218604441
    ·rw [if_pos c79] at H
     have LMc79 := Aside0.mk c79
     clear c79
     obtain ⟨y137, hy137⟩ : ∃ y_ : List (S33), y_ = (t132 ++ [(⟨a0_0, a1, a0_1, (⟨a2_0, a2_1, a2_2, a2_3, a2_4, a2_5, a2_6⟩ : S26)⟩ : S33)]) := ⟨_, rfl⟩
     replace H : (some (t130, wrap64 (t131 + 1), y137, a0_0, a1, a0_1, a2_0, a2_1, a2_2, a2_3, a2_4, a2_5, a2_6, 0)) = some (r1, r2, r3, r4, r5, r6, r7, r8, r9, r10, r11, r12, r13, r14) := by first | (rw [hy137]; with_reducible exact H) | (have H2_ := (Option.bind_some _ _).symm.trans H; rw [hy137]; with_reducible exact H2_) | (have H2_ := (Option.bind_some _ _).symm.trans H; with_reducible exact H2_) | with_reducible exact H | (rw [hy137]; exact H) | exact H
     have Ny137 := Aside0.mk hy137
     clear hy137
     simp only [Option.some.injEq, Prod.mk.injEq] at H
     obtain ⟨rfl, rfl, rfl, rfl, rfl, rfl, rfl, rfl, rfl, rfl, rfl, rfl, rfl, rfl⟩ := H
     try go_wp2
     have n0_ := Aside0.mk (bqD BK123.out)
     have n1_ := Aside0.mk (bqD BK124.out)
     have n2_ := Aside0.mk (bqD BK125.out)
     have n3_ := Aside0.mk (bqD BK126.out)
     have n4_ := Aside0.mk (lqD HB.out)
     clear BK123
     clear BK124
     clear BK125
     clear BK126
     clear HB
     have BK123 := n0_
     have BK124 := n1_
     have BK125 := n2_
     have BK126 := n3_
     have HB := n4_
     clear n0_ n1_ n2_ n3_ n4_
     refine start_ (n := 13) (S := fun w' => w'.cell? ⟨gb123, 0, none⟩ = some (.int .i64 a0_0) ∧ w'.cell? ⟨gb123, 1, none⟩ = some (.int .i64 a0_1) ∧ w'.cell? ⟨gb123, 2, none⟩ = some (.slice A0_2 l0_2.length c0_2) ∧ w'.cell? ⟨gb124, 0, none⟩ = some (.int .i64 a2_0) ∧ w'.cell? ⟨gb124, 1, none⟩ = some (.int .i64 a2_1) ∧ w'.cell? ⟨gb124, 2, none⟩ = some (.int .i64 a2_2) ∧ w'.cell? ⟨gb124, 3, none⟩ = some (.int .i64 a2_3) ∧ w'.cell? ⟨gb124, 4, none⟩ = some (.int .i64 a2_4) ∧ w'.cell? ⟨gb124, 5, none⟩ = some (.int .i64 a2_5) ∧ w'.cell? ⟨gb124, 6, none⟩ = some (.int .i64 a2_6)) (ds := []) #[false, false, false, false, false, false, false, false, false, false, false, false, false] (by kernel_rfl) rfl rfl ⟨(bqC BK123.out 0).trans rfl, (bqC BK123.out 1).trans rfl, (bqC BK123.out 2).trans rfl, (bqC BK124.out 0).trans rfl, (bqC BK124.out 1).trans rfl, (bqC BK124.out 2).trans rfl, (bqC BK124.out 3).trans rfl, (bqC BK124.out 4).trans rfl, (bqC BK124.out 5).trans rfl, (bqC BK124.out 6).trans rfl⟩ (fun hHeld => ?_); refine with_tabW sender_Send.tab16 sender_Send.bits16 (fun HT_ HW_ => ?_)
     generalize wc.drew = w80 at BK123 BK124 BK125 BK126 HB hHeld ⊢
     refine pure_ (i := 2) (N := some 45) (v := ?_) (a' := ?_) #[false, false, true, false, false, false, false, false, false, false, false, false, false] rfl rfl (any_of HT_.out (by kernel_rfl)) (fun _ _ _ h => h) (Or.inl ⟨by rfl, ?_⟩) ?_ ?_
     rotate_left
     ·intro w'
      go_simp
      with_reducible rfl
     rotate_left
     ·simp only [Act.put, List.setIfInBounds_toArray, List.set_cons_zero, List.set_cons_succ, i64_w, i32_w]
      rfl
     refine pure_ (i := 4) (N := some 47) (v := ?_) (a' := ?_) #[false, false, true, false, true, false, false, false, false, false, false, false, false] rfl rfl (any_of HT_.out (by kernel_rfl)) (fun _ _ _ h => h) (Or.inl ⟨by rfl, ?_⟩) ?_ ?_
     rotate_left
     ·intro w'
      go_simp
      with_reducible rfl
     rotate_left
     ·simp only [Act.put, List.setIfInBounds_toArray, List.set_cons_zero, List.set_cons_succ, i64_w, i32_w]
      rfl
     refine pure_ (i := 5) (N := some 48) (v := ?_) (a' := ?_) #[false, false, true, false, true, true, false, false, false, false, false, false, false] rfl rfl (any_of HT_.out (by kernel_rfl)) (fun _ _ _ h => h) (Or.inl ⟨by rfl, ?_⟩) ?_ ?_
     rotate_left
     ·intro w'
      go_simp
      with_reducible rfl
     rotate_left
     ·simp only [Act.put, List.setIfInBounds_toArray, List.set_cons_zero, List.set_cons_succ, i64_w, i32_w]
      rfl
     refine take_ (i := 0) (N := some 43) (v := ?_) (a' := ?_) #[true, false, true, false, true, true, false, false, false, false, false, false, false] rfl rfl (take_ofW HT_.out HW_.out (by kernel_rfl)) (fun _ _ _ h => h) (Or.inl ⟨by rfl, ?_⟩) hHeld ?_ ?_
     rotate_left
     ·rintro w' ⟨s0, s1, s2, s3, s4, s5, s6, s7, s8, s9⟩
      go_simp
      with_reducible rfl
     rotate_left
     ·simp only [Act.put, List.setIfInBounds_toArray, List.set_cons_zero, List.set_cons_succ, i64_w, i32_w]
      rfl
     refine take_ (i := 3) (N := some 46) (v := ?_) (a' := ?_) #[true, false, true, true, true, true, false, false, false, false, false, false, false] rfl rfl (take_ofW HT_.out HW_.out (by kernel_rfl)) (fun _ _ _ h => h) (Or.inl ⟨by rfl, ?_⟩) hHeld ?_ ?_
     rotate_left
     ·rintro w' ⟨s0, s1, s2, s3, s4, s5, s6, s7, s8, s9⟩
      go_simp
      with_reducible rfl
     rotate_left
     ·simp only [Act.put, List.setIfInBounds_toArray, List.set_cons_zero, List.set_cons_succ, i64_w, i32_w]
      rfl
     refine take_ (i := 6) (N := some 49) (v := ?_) (a' := ?_) #[true, false, true, true, true, true, true, false, false, false, false, false, false] rfl rfl (take_ofW HT_.out HW_.out (by kernel_rfl)) (fun _ _ _ h => h) (Or.inl ⟨by rfl, ?_⟩) hHeld ?_ ?_
     rotate_left
     ·rintro w' ⟨s0, s1, s2, s3, s4, s5, s6, s7, s8, s9⟩
      go_simp
      with_reducible rfl
     rotate_left
     ·simp only [Act.put, List.setIfInBounds_toArray, List.set_cons_zero, List.set_cons_succ, i64_w, i32_w]
      rfl
     refine take_ (i := 7) (N := some 50) (v := ?_) (a' := ?_) #[true, false, true, true, true, true, true, true, false, false, false, false, false] rfl rfl (take_ofW HT_.out HW_.out (by kernel_rfl)) (fun _ _ _ h => h) (Or.inl ⟨by rfl, ?_⟩) hHeld ?_ ?_
     rotate_left
     ·rintro w' ⟨s0, s1, s2, s3, s4, s5, s6, s7, s8, s9⟩
      go_simp
      with_reducible rfl
     rotate_left
     ·simp only [Act.put, List.setIfInBounds_toArray, List.set_cons_zero, List.set_cons_succ, i64_w, i32_w]
      rfl
     refine pure_ (i := 8) (N := some 51) (v := ?_) (a' := ?_) #[true, false, true, true, true, true, true, true, true, false, false, false, false] rfl rfl (any_of HT_.out (by kernel_rfl)) (fun _ _ _ h => h) (Or.inl ⟨by rfl, ?_⟩) ?_ ?_
     rotate_left
     ·intro w'
      go_simp
      with_reducible rfl
     rotate_left
     ·simp only [Act.put, List.setIfInBounds_toArray, List.set_cons_zero, List.set_cons_succ, i64_w, i32_w]
      rfl
     refine join_ (σ := Value × Nat × Nat) 2 #[true, true, true, true, true, true, true, true, true, true, true, false, false] (fun s_ => [(44, .agg #[.int .i64 t130, .int .i64 t131, s_.1]), (10, .pointer (some ⟨s_.2.1, 0, none⟩)), (11, .pointer (some ⟨s_.2.2, 0, none⟩))]) (fun s_ w' => (w'.cell? ⟨gb123, 0, none⟩ = some (.int .i64 a0_0) ∧ w'.cell? ⟨gb123, 1, none⟩ = some (.int .i64 a0_1) ∧ w'.cell? ⟨gb123, 2, none⟩ = some (.slice A0_2 l0_2.length c0_2) ∧ w'.cell? ⟨gb124, 0, none⟩ = some (.int .i64 a2_0) ∧ w'.cell? ⟨gb124, 1, none⟩ = some (.int .i64 a2_1) ∧ w'.cell? ⟨gb124, 2, none⟩ = some (.int .i64 a2_2) ∧ w'.cell? ⟨gb124, 3, none⟩ = some (.int .i64 a2_3) ∧ w'.cell? ⟨gb124, 4, none⟩ = some (.int .i64 a2_4) ∧ w'.cell? ⟨gb124, 5, none⟩ = some (.int .i64 a2_5) ∧ w'.cell? ⟨gb124, 6, none⟩ = some (.int .i64 a2_6)) ∧ (Kd.R k33 33 w' w.heap.size (fun k_ => k_ ≠ gb126 ∧ k_ ≠ s_.2.2) s_.1 t132) ∧ (w'.heap[gb123]? = some (.cells #[.int .i64 a0_0, .int .i64 a0_1, .slice A0_2 l0_2.length c0_2] 24 (0, 0))) ∧ (w'.heap[gb124]? = some (.cells #[.int .i64 a2_0, .int .i64 a2_1, .int .i64 a2_2, .int .i64 a2_3, .int .i64 a2_4, .int .i64 a2_5, .int .i64 a2_6] 26 (0, 0))) ∧ (w'.heap[gb125]? = some (.cells #[.int .i64 0, .int .i64 0, .slice none 0 0] 24 (0, 0))) ∧ (w'.heap[gb126]? = some (.cells #[.int .i64 0, .int .i64 0, .int .i64 0, .int .i64 0, .int .i64 0, .int .i64 0, .int .i64 0, .int .i64 0, .int .i64 0, .int .i64 0] 33 (0, 0))) ∧ (w'.heap[s_.2.1]? = some (.cells #[.int .i64 0, .int .i64 0, .slice none 0 0] 24 (0, 0))) ∧ (w'.heap[s_.2.2]? = some (.cells #[.int .i64 0, .int .i64 0, .int .i64 0, .int .i64 0, .int .i64 0, .int .i64 0, .int .i64 0, .int .i64 0, .int .i64 0, .int .i64 0] 33 (0, 0))) ∧ (w.heap.size ≤ s_.2.1) ∧ (w.heap.size ≤ s_.2.1) ∧ (gb123 ≠ s_.2.1) ∧ (s_.2.1 ≠ gb123) ∧ (gb124 ≠ s_.2.1) ∧ (s_.2.1 ≠ gb124) ∧ (gb125 ≠ s_.2.1) ∧ (s_.2.1 ≠ gb125) ∧ (gb126 ≠ s_.2.1) ∧ (s_.2.1 ≠ gb126) ∧ (s_.2.2 ≠ s_.2.1) ∧ (s_.2.1 ≠ s_.2.2) ∧ (w.heap.size ≤ s_.2.2) ∧ (w.heap.size ≤ s_.2.2) ∧ (gb123 ≠ s_.2.2) ∧ (s_.2.2 ≠ gb123) ∧ (gb124 ≠ s_.2.2) ∧ (s_.2.2 ≠ gb124) ∧ (gb125 ≠ s_.2.2) ∧ (s_.2.2 ≠ gb125) ∧ (gb126 ≠ s_.2.2) ∧ (s_.2.2 ≠ gb126) ∧ (Below w.heap.size w w')) ?_ ?_
     rotate_left
     ·intro hJ1_9_10
      refine join_ (σ := Value × Nat) 3 #[true, true, true, true, true, true, true, true, true, true, false, false, false] (fun s_ => [(44, .agg #[.int .i64 t130, .int .i64 t131, s_.1]), (10, .pointer (some ⟨s_.2, 0, none⟩))]) (fun s_ w' => (w'.cell? ⟨gb123, 0, none⟩ = some (.int .i64 a0_0) ∧ w'.cell? ⟨gb123, 1, none⟩ = some (.int .i64 a0_1) ∧ w'.cell? ⟨gb123, 2, none⟩ = some (.slice A0_2 l0_2.length c0_2) ∧ w'.cell? ⟨gb124, 0, none⟩ = some (.int .i64 a2_0) ∧ w'.cell? ⟨gb124, 1, none⟩ = some (.int .i64 a2_1) ∧ w'.cell? ⟨gb124, 2, none⟩ = some (.int .i64 a2_2) ∧ w'.cell? ⟨gb124, 3, none⟩ = some (.int .i64 a2_3) ∧ w'.cell? ⟨gb124, 4, none⟩ = some (.int .i64 a2_4) ∧ w'.cell? ⟨gb124, 5, none⟩ = some (.int .i64 a2_5) ∧ w'.cell? ⟨gb124, 6, none⟩ = some (.int .i64 a2_6)) ∧ (Kd.R k33 33 w' w.heap.size (fun k_ => k_ ≠ gb126) s_.1 t132) ∧ (w'.heap[gb123]? = some (.cells #[.int .i64 a0_0, .int .i64 a0_1, .slice A0_2 l0_2.length c0_2] 24 (0, 0))) ∧ (w'.heap[gb124]? = some (.cells #[.int .i64 a2_0, .int .i64 a2_1, .int .i64 a2_2, .int .i64 a2_3, .int .i64 a2_4, .int .i64 a2_5, .int .i64 a2_6] 26 (0, 0))) ∧ (w'.heap[gb125]? = some (.cells #[.int .i64 0, .int .i64 0, .slice none 0 0] 24 (0, 0))) ∧ (w'.heap[gb126]? = some (.cells #[.int .i64 0, .int .i64 0, .int .i64 0, .int .i64 0, .int .i64 0, .int .i64 0, .int .i64 0, .int .i64 0, .int .i64 0, .int .i64 0] 33 (0, 0))) ∧ (w'.heap[s_.2]? = some (.cells #[.int .i64 0, .int .i64 0, .slice none 0 0] 24 (0, 0))) ∧ (w.heap.size ≤ s_.2) ∧ (w.heap.size ≤ s_.2) ∧ (gb123 ≠ s_.2) ∧ (s_.2 ≠ gb123) ∧ (gb124 ≠ s_.2) ∧ (s_.2 ≠ gb124) ∧ (gb125 ≠ s_.2) ∧ (s_.2 ≠ gb125) ∧ (gb126 ≠ s_.2) ∧ (s_.2 ≠ gb126) ∧ (Below w.heap.size w w')) ?_ ?_
      rotate_left
      ·intro hJ1_9
       refine join_ (σ := Value × Nat) 3 #[true, true, true, true, true, true, true, true, true, false, true, false, false] (fun s_ => [(44, .agg #[.int .i64 t130, .int .i64 t131, s_.1]), (11, .pointer (some ⟨s_.2, 0, none⟩))]) (fun s_ w' => (w'.cell? ⟨gb123, 0, none⟩ = some (.int .i64 a0_0) ∧ w'.cell? ⟨gb123, 1, none⟩ = some (.int .i64 a0_1) ∧ w'.cell? ⟨gb123, 2, none⟩ = some (.slice A0_2 l0_2.length c0_2) ∧ w'.cell? ⟨gb124, 0, none⟩ = some (.int .i64 a2_0) ∧ w'.cell? ⟨gb124, 1, none⟩ = some (.int .i64 a2_1) ∧ w'.cell? ⟨gb124, 2, none⟩ = some (.int .i64 a2_2) ∧ w'.cell? ⟨gb124, 3, none⟩ = some (.int .i64 a2_3) ∧ w'.cell? ⟨gb124, 4, none⟩ = some (.int .i64 a2_4) ∧ w'.cell? ⟨gb124, 5, none⟩ = some (.int .i64 a2_5) ∧ w'.cell? ⟨gb124, 6, none⟩ = some (.int .i64 a2_6)) ∧ (Kd.R k33 33 w' w.heap.size (fun k_ => k_ ≠ gb126 ∧ k_ ≠ s_.2) s_.1 t132) ∧ (w'.heap[gb123]? = some (.cells #[.int .i64 a0_0, .int .i64 a0_1, .slice A0_2 l0_2.length c0_2] 24 (0, 0))) ∧ (w'.heap[gb124]? = some (.cells #[.int .i64 a2_0, .int .i64 a2_1, .int .i64 a2_2, .int .i64 a2_3, .int .i64 a2_4, .int .i64 a2_5, .int .i64 a2_6] 26 (0, 0))) ∧ (w'.heap[gb125]? = some (.cells #[.int .i64 0, .int .i64 0, .slice none 0 0] 24 (0, 0))) ∧ (w'.heap[gb126]? = some (.cells #[.int .i64 0, .int .i64 0, .int .i64 0, .int .i64 0, .int .i64 0, .int .i64 0, .int .i64 0, .int .i64 0, .int .i64 0, .int .i64 0] 33 (0, 0))) ∧ (w'.heap[s_.2]? = some (.cells #[.int .i64 0, .int .i64 0, .int .i64 0, .int .i64 0, .int .i64 0, .int .i64 0, .int .i64 0, .int .i64 0, .int .i64 0, .int .i64 0] 33 (0, 0))) ∧ (w.heap.size ≤ s_.2) ∧ (w.heap.size ≤ s_.2) ∧ (gb123 ≠ s_.2) ∧ (s_.2 ≠ gb123) ∧ (gb124 ≠ s_.2) ∧ (s_.2 ≠ gb124) ∧ (gb125 ≠ s_.2) ∧ (s_.2 ≠ gb125) ∧ (gb126 ≠ s_.2) ∧ (s_.2 ≠ gb126) ∧ (Below w.heap.size w w')) ?_ ?_
       rotate_left
       ·intro hJ1_10
        refine join_ (σ := Nat × Nat) 3 #[true, false, true, true, true, true, true, true, true, true, true, false, false] (fun s_ => [(10, .pointer (some ⟨s_.1, 0, none⟩)), (11, .pointer (some ⟨s_.2, 0, none⟩))]) (fun s_ w' => (w'.cell? ⟨gb123, 0, none⟩ = some (.int .i64 a0_0) ∧ w'.cell? ⟨gb123, 1, none⟩ = some (.int .i64 a0_1) ∧ w'.cell? ⟨gb123, 2, none⟩ = some (.slice A0_2 l0_2.length c0_2) ∧ w'.cell? ⟨gb124, 0, none⟩ = some (.int .i64 a2_0) ∧ w'.cell? ⟨gb124, 1, none⟩ = some (.int .i64 a2_1) ∧ w'.cell? ⟨gb124, 2, none⟩ = some (.int .i64 a2_2) ∧ w'.cell? ⟨gb124, 3, none⟩ = some (.int .i64 a2_3) ∧ w'.cell? ⟨gb124, 4, none⟩ = some (.int .i64 a2_4) ∧ w'.cell? ⟨gb124, 5, none⟩ = some (.int .i64 a2_5) ∧ w'.cell? ⟨gb124, 6, none⟩ = some (.int .i64 a2_6)) ∧ (w'.heap[gb123]? = some (.cells #[.int .i64 a0_0, .int .i64 a0_1, .slice A0_2 l0_2.length c0_2] 24 (0, 0))) ∧ (w'.heap[gb124]? = some (.cells #[.int .i64 a2_0, .int .i64 a2_1, .int .i64 a2_2, .int .i64 a2_3, .int .i64 a2_4, .int .i64 a2_5, .int .i64 a2_6] 26 (0, 0))) ∧ (w'.heap[gb125]? = some (.cells #[.int .i64 0, .int .i64 0, .slice none 0 0] 24 (0, 0))) ∧ (w'.heap[gb126]? = some (.cells #[.int .i64 0, .int .i64 0, .int .i64 0, .int .i64 0, .int .i64 0, .int .i64 0, .int .i64 0, .int .i64 0, .int .i64 0, .int .i64 0] 33 (0, 0))) ∧ (w'.heap[s_.1]? = some (.cells #[.int .i64 0, .int .i64 0, .slice none 0 0] 24 (0, 0))) ∧ (w'.heap[s_.2]? = some (.cells #[.int .i64 0, .int .i64 0, .int .i64 0, .int .i64 0, .int .i64 0, .int .i64 0, .int .i64 0, .int .i64 0, .int .i64 0, .int .i64 0] 33 (0, 0))) ∧ (w.heap.size ≤ s_.1) ∧ (w.heap.size ≤ s_.1) ∧ (gb123 ≠ s_.1) ∧ (s_.1 ≠ gb123) ∧ (gb124 ≠ s_.1) ∧ (s_.1 ≠ gb124) ∧ (gb125 ≠ s_.1) ∧ (s_.1 ≠ gb125) ∧ (gb126 ≠ s_.1) ∧ (s_.1 ≠ gb126) ∧ (s_.2 ≠ s_.1) ∧ (s_.1 ≠ s_.2) ∧ (w.heap.size ≤ s_.2) ∧ (w.heap.size ≤ s_.2) ∧ (gb123 ≠ s_.2) ∧ (s_.2 ≠ gb123) ∧ (gb124 ≠ s_.2) ∧ (s_.2 ≠ gb124) ∧ (gb125 ≠ s_.2) ∧ (s_.2 ≠ gb125) ∧ (gb126 ≠ s_.2) ∧ (s_.2 ≠ gb126) ∧ (Below w.heap.size w w')) ?_ ?_
        rotate_left
        ·intro hJ9_10
         refine join_ (σ := Value) 4 #[true, true, true, true, true, true, true, true, true, false, false, false, false] (fun s_ => [(44, .agg #[.int .i64 t130, .int .i64 t131, s_])]) (fun s_ w' => (w'.cell? ⟨gb123, 0, none⟩ = some (.int .i64 a0_0) ∧ w'.cell? ⟨gb123, 1, none⟩ = some (.int .i64 a0_1) ∧ w'.cell? ⟨gb123, 2, none⟩ = some (.slice A0_2 l0_2.length c0_2) ∧ w'.cell? ⟨gb124, 0, none⟩ = some (.int .i64 a2_0) ∧ w'.cell? ⟨gb124, 1, none⟩ = some (.int .i64 a2_1) ∧ w'.cell? ⟨gb124, 2, none⟩ = some (.int .i64 a2_2) ∧ w'.cell? ⟨gb124, 3, none⟩ = some (.int .i64 a2_3) ∧ w'.cell? ⟨gb124, 4, none⟩ = some (.int .i64 a2_4) ∧ w'.cell? ⟨gb124, 5, none⟩ = some (.int .i64 a2_5) ∧ w'.cell? ⟨gb124, 6, none⟩ = some (.int .i64 a2_6)) ∧ (Kd.R k33 33 w' w.heap.size (fun k_ => k_ ≠ gb126) s_ t132) ∧ (w'.heap[gb123]? = some (.cells #[.int .i64 a0_0, .int .i64 a0_1, .slice A0_2 l0_2.length c0_2] 24 (0, 0))) ∧ (w'.heap[gb124]? = some (.cells #[.int .i64 a2_0, .int .i64 a2_1, .int .i64 a2_2, .int .i64 a2_3, .int .i64 a2_4, .int .i64 a2_5, .int .i64 a2_6] 26 (0, 0))) ∧ (w'.heap[gb125]? = some (.cells #[.int .i64 0, .int .i64 0, .slice none 0 0] 24 (0, 0))) ∧ (w'.heap[gb126]? = some (.cells #[.int .i64 0, .int .i64 0, .int .i64 0, .int .i64 0, .int .i64 0, .int .i64 0, .int .i64 0, .int .i64 0, .int .i64 0, .int .i64 0] 33 (0, 0))) ∧ (Below w.heap.size w w')) ?_ ?_
         rotate_left
         ·intro hJ1
          refine join_ (σ := Nat) 4 #[true, false, true, true, true, true, true, true, true, true, false, false, false] (fun s_ => [(10, .pointer (some ⟨s_, 0, none⟩))]) (fun s_ w' => (w'.cell? ⟨gb123, 0, none⟩ = some (.int .i64 a0_0) ∧ w'.cell? ⟨gb123, 1, none⟩ = some (.int .i64 a0_1) ∧ w'.cell? ⟨gb123, 2, none⟩ = some (.slice A0_2 l0_2.length c0_2) ∧ w'.cell? ⟨gb124, 0, none⟩ = some (.int .i64 a2_0) ∧ w'.cell? ⟨gb124, 1, none⟩ = some (.int .i64 a2_1) ∧ w'.cell? ⟨gb124, 2, none⟩ = some (.int .i64 a2_2) ∧ w'.cell? ⟨gb124, 3, none⟩ = some (.int .i64 a2_3) ∧ w'.cell? ⟨gb124, 4, none⟩ = some (.int .i64 a2_4) ∧ w'.cell? ⟨gb124, 5, none⟩ = some (.int .i64 a2_5) ∧ w'.cell? ⟨gb124, 6, none⟩ = some (.int .i64 a2_6)) ∧ (w'.heap[gb123]? = some (.cells #[.int .i64 a0_0, .int .i64 a0_1, .slice A0_2 l0_2.length c0_2] 24 (0, 0))) ∧ (w'.heap[gb124]? = some (.cells #[.int .i64 a2_0, .int .i64 a2_1, .int .i64 a2_2, .int .i64 a2_3, .int .i64 a2_4, .int .i64 a2_5, .int .i64 a2_6] 26 (0, 0))) ∧ (w'.heap[gb125]? = some (.cells #[.int .i64 0, .int .i64 0, .slice none 0 0] 24 (0, 0))) ∧ (w'.heap[gb126]? = some (.cells #[.int .i64 0, .int .i64 0, .int .i64 0, .int .i64 0, .int .i64 0, .int .i64 0, .int .i64 0, .int .i64 0, .int .i64 0, .int .i64 0] 33 (0, 0))) ∧ (w'.heap[s_]? = some (.cells #[.int .i64 0, .int .i64 0, .slice none 0 0] 24 (0, 0))) ∧ (w.heap.size ≤ s_) ∧ (w.heap.size ≤ s_) ∧ (gb123 ≠ s_) ∧ (s_ ≠ gb123) ∧ (gb124 ≠ s_) ∧ (s_ ≠ gb124) ∧ (gb125 ≠ s_) ∧ (s_ ≠ gb125) ∧ (gb126 ≠ s_) ∧ (s_ ≠ gb126) ∧ (Below w.heap.size w w')) ?_ ?_
          rotate_left
          ·intro hJ9
           refine join_ (σ := Nat) 4 #[true, false, true, true, true, true, true, true, true, false, true, false, false] (fun s_ => [(11, .pointer (some ⟨s_, 0, none⟩))]) (fun s_ w' => (w'.cell? ⟨gb123, 0, none⟩ = some (.int .i64 a0_0) ∧ w'.cell? ⟨gb123, 1, none⟩ = some (.int .i64 a0_1) ∧ w'.cell? ⟨gb123, 2, none⟩ = some (.slice A0_2 l0_2.length c0_2) ∧ w'.cell? ⟨gb124, 0, none⟩ = some (.int .i64 a2_0) ∧ w'.cell? ⟨gb124, 1, none⟩ = some (.int .i64 a2_1) ∧ w'.cell? ⟨gb124, 2, none⟩ = some (.int .i64 a2_2) ∧ w'.cell? ⟨gb124, 3, none⟩ = some (.int .i64 a2_3) ∧ w'.cell? ⟨gb124, 4, none⟩ = some (.int .i64 a2_4) ∧ w'.cell? ⟨gb124, 5, none⟩ = some (.int .i64 a2_5) ∧ w'.cell? ⟨gb124, 6, none⟩ = some (.int .i64 a2_6)) ∧ (w'.heap[gb123]? = some (.cells #[.int .i64 a0_0, .int .i64 a0_1, .slice A0_2 l0_2.length c0_2] 24 (0, 0))) ∧ (w'.heap[gb124]? = some (.cells #[.int .i64 a2_0, .int .i64 a2_1, .int .i64 a2_2, .int .i64 a2_3, .int .i64 a2_4, .int .i64 a2_5, .int .i64 a2_6] 26 (0, 0))) ∧ (w'.heap[gb125]? = some (.cells #[.int .i64 0, .int .i64 0, .slice none 0 0] 24 (0, 0))) ∧ (w'.heap[gb126]? = some (.cells #[.int .i64 0, .int .i64 0, .int .i64 0, .int .i64 0, .int .i64 0, .int .i64 0, .int .i64 0, .int .i64 0, .int .i64 0, .int .i64 0] 33 (0, 0))) ∧ (w'.heap[s_]? = some (.cells #[.int .i64 0, .int .i64 0, .int .i64 0, .int .i64 0, .int .i64 0, .int .i64 0, .int .i64 0, .int .i64 0, .int .i64 0, .int .i64 0] 33 (0, 0))) ∧ (w.heap.size ≤ s_) ∧ (w.heap.size ≤ s_) ∧ (gb123 ≠ s_) ∧ (s_ ≠ gb123) ∧ (gb124 ≠ s_) ∧ (s_ ≠ gb124) ∧ (gb125 ≠ s_) ∧ (s_ ≠ gb125) ∧ (gb126 ≠ s_) ∧ (s_ ≠ gb126) ∧ (Below w.heap.size w w')) ?_ ?_
           rotate_left
           ·intro hJ10
            refine three_ (i := 1) (j := 9) (k := 10) (Ni := some 44) (Nj := some 10) (Nk := some 11) #[true, true, true, true, true, true, true, true, true, false, false, false, false] #[true, false, true, true, true, true, true, true, true, true, false, false, false] #[true, false, true, true, true, true, true, true, true, false, true, false, false] rfl rfl rfl rfl rfl rfl (three_of HT_.out (by kernel_rfl)) (by decide) (by decide) (by decide) (fun K hK => ?_) (fun K hK => ?_) (fun K hK => ?_)
            ·skip
             refine goes_ Try.func43 (by kernel_rfl) rfl #[.agg #[.int .i64 a0_0, .int .i64 a0_1, .slice A0_2 l0_2.length c0_2]] (by rfl) rfl rfl (by (try simp only [List.map_toArray, List.map_cons, List.map_nil]); first | done | rfl | (simp only [List.length_drop, List.length_take]; rfl)) ?_
             with_reducible refine (sender_own.calls a0_0 a0_1 _ _ l0_2 t130 t131 t132 _ ?side1 ?side2 A78.out).mono ?_
             (case side1 => exact GS.rC (Kd.C_below HR0_2.out HB.out))
             (case side2 => exact HC0_2.out)
             rintro e w81 ⟨v133, rfl, ho0, hb⟩
             refine ⟨_, rfl, ?_⟩
             have n0_ := Aside0.mk (Kd.R_lower (Kd.R_newB ho0 (GS.bqX BK126.out)) (lqZ (GS.lB HB.out)))
             have n1_ := Aside0.mk (bqB (GS.bqX BK123.out) hb)
             have n2_ := Aside0.mk (bqB (GS.bqX BK124.out) hb)
             have n3_ := Aside0.mk (bqB (GS.bqX BK125.out) hb)
             have n4_ := Aside0.mk (bqB (GS.bqX BK126.out) hb)
             have n5_ := Aside0.mk (lqT (GS.lB HB.out) hb)
             clear BK123
             clear BK124
             clear BK125
             clear BK126
             clear HB
             have HO134 := n0_
             have BK123 := n1_
             have BK124 := n2_
             have BK125 := n3_
             have BK126 := n4_
             have HB := n5_
             clear n0_ n1_ n2_ n3_ n4_ n5_
             (try clear hb)
             (try clear hb2)
             (try clear hk)
             (try clear hi)
             (try clear ho0)
             refine hK.out _ _ ⟨(bqC BK123.out 0).trans rfl, (bqC BK123.out 1).trans rfl, (bqC BK123.out 2).trans rfl, (bqC BK124.out 0).trans rfl, (bqC BK124.out 1).trans rfl, (bqC BK124.out 2).trans rfl, (bqC BK124.out 3).trans rfl, (bqC BK124.out 4).trans rfl, (bqC BK124.out 5).trans rfl, (bqC BK124.out 6).trans rfl⟩ (fun hHeld => ?_)
             clear hK K
             refine norm_ (a' := ?_) ?_ ?_
             rotate_left
             ·show Act.put _ (some 44) _ = _
              simp only [Act.put, List.setIfInBounds_toArray, List.set_cons_zero, List.set_cons_succ, i64_w, i32_w]
              rfl
             exact norm_ (by first | (simp only [putAll, Act.put, List.setIfInBounds_toArray, List.set_cons_zero, List.set_cons_succ]; done) | (simp only [putAll, Act.put, List.setIfInBounds_toArray, List.set_cons_zero, List.set_cons_succ]; rfl)) (hJ1 (v133) _ ⟨hHeld, (by (with_reducible repeat (first | apply Kd.R_alloc | apply Kd.R_drewN | apply Kd.R_drew)); exact Kd.R_mono HO134.out (fun _ hk => hk.2)), (GS.bqX BK123.out), (GS.bqX BK124.out), (GS.bqX BK125.out), (GS.bqX BK126.out), (GS.lB HB.out)⟩)
            ·skip
             refine box_step ?hg (N := 10) ?hd (cs := #[.int .i64 0, .int .i64 0, .slice none 0 0]) (t := 24) ?hr ?_; (case hd => rfl); (case hg => rfl); (case hr => first | (go_simp; done) | (go_simp; rfl))
             intro gb135 hg w81 hbox hb
             have n0_ := Aside0.mk (bqB (GS.bqX BK123.out) hb)
             have n1_ := Aside0.mk (bqB (GS.bqX BK124.out) hb)
             have n2_ := Aside0.mk (bqB (GS.bqX BK125.out) hb)
             have n3_ := Aside0.mk (bqB (GS.bqX BK126.out) hb)
             have n4_ := Aside0.mk (lqT (GS.lB HB.out) hb)
             have n5_ := Aside0.mk (hbox)
             have n6_ := Aside0.mk ((by rw [hg]; exact (lqZ (GS.lB HB.out)) : w.heap.size ≤ gb135))
             have n7_ := Aside0.mk ((by rw [hg]; exact (lqZ (GS.lB HB.out)) : w.heap.size ≤ gb135))
             have n8_ := Aside0.mk ((by rw [hg]; exact Nat.ne_of_lt (blk_lt (GS.bqX BK123.out)) : gb123 ≠ gb135))
             have n9_ := Aside0.mk ((by rw [hg]; exact Nat.ne_of_gt (blk_lt (GS.bqX BK123.out)) : gb135 ≠ gb123))
             have n10_ := Aside0.mk ((by rw [hg]; exact Nat.ne_of_lt (blk_lt (GS.bqX BK124.out)) : gb124 ≠ gb135))
             have n11_ := Aside0.mk ((by rw [hg]; exact Nat.ne_of_gt (blk_lt (GS.bqX BK124.out)) : gb135 ≠ gb124))
             have n12_ := Aside0.mk ((by rw [hg]; exact Nat.ne_of_lt (blk_lt (GS.bqX BK125.out)) : gb125 ≠ gb135))
             have n13_ := Aside0.mk ((by rw [hg]; exact Nat.ne_of_gt (blk_lt (GS.bqX BK125.out)) : gb135 ≠ gb125))
             have n14_ := Aside0.mk ((by rw [hg]; exact Nat.ne_of_lt (blk_lt (GS.bqX BK126.out)) : gb126 ≠ gb135))
             have n15_ := Aside0.mk ((by rw [hg]; exact Nat.ne_of_gt (blk_lt (GS.bqX BK126.out)) : gb135 ≠ gb126))
             clear BK123
             clear BK124
             clear BK125
             clear BK126
             clear HB
             have BK123 := n0_
             have BK124 := n1_
             have BK125 := n2_
             have BK126 := n3_
             have HB := n4_
             have BK135 := n5_
             have GW135 := n6_
             have GE135 := n7_
             have NB123_135 := n8_
             have NB135_123 := n9_
             have NB124_135 := n10_
             have NB135_124 := n11_
             have NB125_135 := n12_
             have NB135_125 := n13_
             have NB126_135 := n14_
             have NB135_126 := n15_
             clear n0_ n1_ n2_ n3_ n4_ n5_ n6_ n7_ n8_ n9_ n10_ n11_ n12_ n13_ n14_ n15_
             clear hb hbox hg
             refine hK.out _ _ ⟨(bqC BK123.out 0).trans rfl, (bqC BK123.out 1).trans rfl, (bqC BK123.out 2).trans rfl, (bqC BK124.out 0).trans rfl, (bqC BK124.out 1).trans rfl, (bqC BK124.out 2).trans rfl, (bqC BK124.out 3).trans rfl, (bqC BK124.out 4).trans rfl, (bqC BK124.out 5).trans rfl, (bqC BK124.out 6).trans rfl⟩ (fun hHeld => ?_)
             clear hK K
             refine norm_ (a' := ?_) ?_ ?_
             rotate_left
             ·show Act.put _ (some 10) _ = _
              simp only [Act.put, List.setIfInBounds_toArray, List.set_cons_zero, List.set_cons_succ, i64_w, i32_w]
              rfl
             exact norm_ (by first | (simp only [putAll, Act.put, List.setIfInBounds_toArray, List.set_cons_zero, List.set_cons_succ]; done) | (simp only [putAll, Act.put, List.setIfInBounds_toArray, List.set_cons_zero, List.set_cons_succ]; rfl)) (hJ9 (gb135) _ ⟨hHeld, (GS.bqX BK123.out), (GS.bqX BK124.out), (GS.bqX BK125.out), (GS.bqX BK126.out), (GS.bqX BK135.out), GW135.out, GE135.out, NB123_135.out, NB135_123.out, NB124_135.out, NB135_124.out, NB125_135.out, NB135_125.out, NB126_135.out, NB135_126.out, (GS.lB HB.out)⟩)
            ·skip
             refine box_step ?hg (N := 11) ?hd (cs := #[.int .i64 0, .int .i64 0, .int .i64 0, .int .i64 0, .int .i64 0, .int .i64 0, .int .i64 0, .int .i64 0, .int .i64 0, .int .i64 0]) (t := 33) ?hr ?_; (case hd => rfl); (case hg => rfl); (case hr => first | (go_simp; done) | (go_simp; rfl))
             intro gb136 hg w81 hbox hb
             have n0_ := Aside0.mk (bqB (GS.bqX BK123.out) hb)
             have n1_ := Aside0.mk (bqB (GS.bqX BK124.out) hb)
             have n2_ := Aside0.mk (bqB (GS.bqX BK125.out) hb)
             have n3_ := Aside0.mk (bqB (GS.bqX BK126.out) hb)
             have n4_ := Aside0.mk (lqT (GS.lB HB.out) hb)
             have n5_ := Aside0.mk (hbox)
             have n6_ := Aside0.mk ((by rw [hg]; exact (lqZ (GS.lB HB.out)) : w.heap.size ≤ gb136))
             have n7_ := Aside0.mk ((by rw [hg]; exact (lqZ (GS.lB HB.out)) : w.heap.size ≤ gb136))
             have n8_ := Aside0.mk ((by rw [hg]; exact Nat.ne_of_lt (blk_lt (GS.bqX BK123.out)) : gb123 ≠ gb136))
             have n9_ := Aside0.mk ((by rw [hg]; exact Nat.ne_of_gt (blk_lt (GS.bqX BK123.out)) : gb136 ≠ gb123))
             have n10_ := Aside0.mk ((by rw [hg]; exact Nat.ne_of_lt (blk_lt (GS.bqX BK124.out)) : gb124 ≠ gb136))
             have n11_ := Aside0.mk ((by rw [hg]; exact Nat.ne_of_gt (blk_lt (GS.bqX BK124.out)) : gb136 ≠ gb124))
             have n12_ := Aside0.mk ((by rw [hg]; exact Nat.ne_of_lt (blk_lt (GS.bqX BK125.out)) : gb125 ≠ gb136))
             have n13_ := Aside0.mk ((by rw [hg]; exact Nat.ne_of_gt (blk_lt (GS.bqX BK125.out)) : gb136 ≠ gb125))
             have n14_ := Aside0.mk ((by rw [hg]; exact Nat.ne_of_lt (blk_lt (GS.bqX BK126.out)) : gb126 ≠ gb136))
             have n15_ := Aside0.mk ((by rw [hg]; exact Nat.ne_of_gt (blk_lt (GS.bqX BK126.out)) : gb136 ≠ gb126))
             clear BK123
             clear BK124
             clear BK125
             clear BK126
             clear HB
             have BK123 := n0_
             have BK124 := n1_
             have BK125 := n2_
             have BK126 := n3_
             have HB := n4_
             have BK136 := n5_
             have GW136 := n6_
             have GE136 := n7_
             have NB123_136 := n8_
             have NB136_123 := n9_
             have NB124_136 := n10_
             have NB136_124 := n11_
             have NB125_136 := n12_
             have NB136_125 := n13_
             have NB126_136 := n14_
             have NB136_126 := n15_
             clear n0_ n1_ n2_ n3_ n4_ n5_ n6_ n7_ n8_ n9_ n10_ n11_ n12_ n13_ n14_ n15_
             clear hb hbox hg
             refine hK.out _ _ ⟨(bqC BK123.out 0).trans rfl, (bqC BK123.out 1).trans rfl, (bqC BK123.out 2).trans rfl, (bqC BK124.out 0).trans rfl, (bqC BK124.out 1).trans rfl, (bqC BK124.out 2).trans rfl, (bqC BK124.out 3).trans rfl, (bqC BK124.out 4).trans rfl, (bqC BK124.out 5).trans rfl, (bqC BK124.out 6).trans rfl⟩ (fun hHeld => ?_)
             clear hK K
             refine norm_ (a' := ?_) ?_ ?_
             rotate_left
             ·show Act.put _ (some 11) _ = _
              simp only [Act.put, List.setIfInBounds_toArray, List.set_cons_zero, List.set_cons_succ, i64_w, i32_w]
              rfl
             exact norm_ (by first | (simp only [putAll, Act.put, List.setIfInBounds_toArray, List.set_cons_zero, List.set_cons_succ]; done) | (simp only [putAll, Act.put, List.setIfInBounds_toArray, List.set_cons_zero, List.set_cons_succ]; rfl)) (hJ10 (gb136) _ ⟨hHeld, (GS.bqX BK123.out), (GS.bqX BK124.out), (GS.bqX BK125.out), (GS.bqX BK126.out), (GS.bqX BK136.out), GW136.out, GE136.out, NB123_136.out, NB136_123.out, NB124_136.out, NB136_124.out, NB125_136.out, NB136_125.out, NB126_136.out, NB136_126.out, (GS.lB HB.out)⟩)
           ·skip
            rintro gb136 w82 ⟨hS_, h0_, h1_, h2_, h3_, h4_, h5_, h6_, h7_, h8_, h9_, h10_, h11_, h12_, h13_, h14_, h15_⟩
            have n0_ : Aside0 (w82.heap[gb123]? = some (.cells #[.int .i64 a0_0, .int .i64 a0_1, .slice A0_2 l0_2.length c0_2] 24 (0, 0))) := ⟨h0_⟩
            have n1_ : Aside0 (w82.heap[gb124]? = some (.cells #[.int .i64 a2_0, .int .i64 a2_1, .int .i64 a2_2, .int .i64 a2_3, .int .i64 a2_4, .int .i64 a2_5, .int .i64 a2_6] 26 (0, 0))) := ⟨h1_⟩
            have n2_ : Aside0 (w82.heap[gb125]? = some (.cells #[.int .i64 0, .int .i64 0, .slice none 0 0] 24 (0, 0))) := ⟨h2_⟩
            have n3_ : Aside0 (w82.heap[gb126]? = some (.cells #[.int .i64 0, .int .i64 0, .int .i64 0, .int .i64 0, .int .i64 0, .int .i64 0, .int .i64 0, .int .i64 0, .int .i64 0, .int .i64 0] 33 (0, 0))) := ⟨h3_⟩
            have n4_ : Aside0 (w82.heap[gb136]? = some (.cells #[.int .i64 0, .int .i64 0, .int .i64 0, .int .i64 0, .int .i64 0, .int .i64 0, .int .i64 0, .int .i64 0, .int .i64 0, .int .i64 0] 33 (0, 0))) := ⟨h4_⟩
            have n5_ : Aside0 (w.heap.size ≤ gb136) := ⟨h5_⟩
            have n6_ : Aside0 (w.heap.size ≤ gb136) := ⟨h6_⟩
            have n7_ : Aside0 (gb123 ≠ gb136) := ⟨h7_⟩
            have n8_ : Aside0 (gb136 ≠ gb123) := ⟨h8_⟩
            have n9_ : Aside0 (gb124 ≠ gb136) := ⟨h9_⟩
            have n10_ : Aside0 (gb136 ≠ gb124) := ⟨h10_⟩
            have n11_ : Aside0 (gb125 ≠ gb136) := ⟨h11_⟩
            have n12_ : Aside0 (gb136 ≠ gb125) := ⟨h12_⟩
            have n13_ : Aside0 (gb126 ≠ gb136) := ⟨h13_⟩
            have n14_ : Aside0 (gb136 ≠ gb126) := ⟨h14_⟩
            have n15_ : Aside0 (Below w.heap.size w w82) := ⟨h15_⟩
            clear BK123
            clear BK124
            clear BK125
            clear BK126
            clear HB
            clear h0_ h1_ h2_ h3_ h4_ h5_ h6_ h7_ h8_ h9_ h10_ h11_ h12_ h13_ h14_ h15_
            have BK123 := n0_
            have BK124 := n1_
            have BK125 := n2_
            have BK126 := n3_
            have BK136 := n4_
            have GW136 := n5_
            have GE136 := n6_
            have NB123_136 := n7_
            have NB136_123 := n8_
            have NB124_136 := n9_
            have NB136_124 := n10_
            have NB125_136 := n11_
            have NB136_125 := n12_
            have NB126_136 := n13_
            have NB136_126 := n14_
            have HB := n15_
            clear n0_ n1_ n2_ n3_ n4_ n5_ n6_ n7_ n8_ n9_ n10_ n11_ n12_ n13_ n14_ n15_
            have hHeld : w82.cell? ⟨gb123, 0, none⟩ = some (.int .i64 a0_0) ∧ w82.cell? ⟨gb123, 1, none⟩ = some (.int .i64 a0_1) ∧ w82.cell? ⟨gb123, 2, none⟩ = some (.slice A0_2 l0_2.length c0_2) ∧ w82.cell? ⟨gb124, 0, none⟩ = some (.int .i64 a2_0) ∧ w82.cell? ⟨gb124, 1, none⟩ = some (.int .i64 a2_1) ∧ w82.cell? ⟨gb124, 2, none⟩ = some (.int .i64 a2_2) ∧ w82.cell? ⟨gb124, 3, none⟩ = some (.int .i64 a2_3) ∧ w82.cell? ⟨gb124, 4, none⟩ = some (.int .i64 a2_4) ∧ w82.cell? ⟨gb124, 5, none⟩ = some (.int .i64 a2_5) ∧ w82.cell? ⟨gb124, 6, none⟩ = some (.int .i64 a2_6) := hS_
            refine norm_ (a' := ?_) ?_ ?_
            rotate_left
            ·simp only [putAll, Act.put, List.setIfInBounds_toArray, List.set_cons_zero, List.set_cons_succ]
             rfl
            refine two_ (i := 1) (j := 9) (Ni := some 44) (Nj := some 10) #[true, true, true, true, true, true, true, true, true, false, true, false, false] #[true, false, true, true, true, true, true, true, true, true, true, false, false] rfl rfl rfl rfl (two_of HT_.out (by kernel_rfl)) (by decide) (by decide) (fun K hK => ?_) (fun K hK => ?_)
            ·skip
             refine goes_ Try.func43 (by kernel_rfl) rfl #[.agg #[.int .i64 a0_0, .int .i64 a0_1, .slice A0_2 l0_2.length c0_2]] (by rfl) rfl rfl (by (try simp only [List.map_toArray, List.map_cons, List.map_nil]); first | done | rfl | (simp only [List.length_drop, List.length_take]; rfl)) ?_
             with_reducible refine (sender_own.calls a0_0 a0_1 _ _ l0_2 t130 t131 t132 _ ?side1 ?side2 A78.out).mono ?_
             (case side1 => exact GS.rC (Kd.C_below HR0_2.out HB.out))
             (case side2 => exact HC0_2.out)
             rintro e w83 ⟨v133, rfl, ho0, hb⟩
             refine ⟨_, rfl, ?_⟩
             have n0_ := Aside0.mk (Kd.R_lower (Kd.R_newB (Kd.R_newB ho0 (GS.bqX BK126.out)) (GS.bqX BK136.out)) (lqZ (GS.lB HB.out)))
             have n1_ := Aside0.mk (bqB (GS.bqX BK123.out) hb)
             have n2_ := Aside0.mk (bqB (GS.bqX BK124.out) hb)
             have n3_ := Aside0.mk (bqB (GS.bqX BK125.out) hb)
             have n4_ := Aside0.mk (bqB (GS.bqX BK126.out) hb)
             have n5_ := Aside0.mk (bqB (GS.bqX BK136.out) hb)
             have n6_ := Aside0.mk (lqT (GS.lB HB.out) hb)
             clear BK123
             clear BK124
             clear BK125
             clear BK126
             clear BK136
             clear HB
             have HO134 := n0_
             have BK123 := n1_
             have BK124 := n2_
             have BK125 := n3_
             have BK126 := n4_
             have BK136 := n5_
             have HB := n6_
             clear n0_ n1_ n2_ n3_ n4_ n5_ n6_
             (try clear hb)
             (try clear hb2)
             (try clear hk)
             (try clear hi)
             (try clear ho0)
             refine hK.out _ _ ⟨(bqC BK123.out 0).trans rfl, (bqC BK123.out 1).trans rfl, (bqC BK123.out 2).trans rfl, (bqC BK124.out 0).trans rfl, (bqC BK124.out 1).trans rfl, (bqC BK124.out 2).trans rfl, (bqC BK124.out 3).trans rfl, (bqC BK124.out 4).trans rfl, (bqC BK124.out 5).trans rfl, (bqC BK124.out 6).trans rfl⟩ (fun hHeld => ?_)
             clear hK K
             refine norm_ (a' := ?_) ?_ ?_
             rotate_left
             ·show Act.put _ (some 44) _ = _
              simp only [Act.put, List.setIfInBounds_toArray, List.set_cons_zero, List.set_cons_succ, i64_w, i32_w]
              rfl
             exact norm_ (by first | (simp only [putAll, Act.put, List.setIfInBounds_toArray, List.set_cons_zero, List.set_cons_succ]; done) | (simp only [putAll, Act.put, List.setIfInBounds_toArray, List.set_cons_zero, List.set_cons_succ]; rfl)) (hJ1_10 (v133, gb136) _ ⟨hHeld, (by (with_reducible repeat (first | apply Kd.R_alloc | apply Kd.R_drewN | apply Kd.R_drew)); exact Kd.R_mono HO134.out (fun _ hk => ⟨hk.1.2, hk.2⟩)), (GS.bqX BK123.out), (GS.bqX BK124.out), (GS.bqX BK125.out), (GS.bqX BK126.out), (GS.bqX BK136.out), GW136.out, GE136.out, NB123_136.out, NB136_123.out, NB124_136.out, NB136_124.out, NB125_136.out, NB136_125.out, NB126_136.out, NB136_126.out, (GS.lB HB.out)⟩)
            ·skip
             refine box_step ?hg (N := 10) ?hd (cs := #[.int .i64 0, .int .i64 0, .slice none 0 0]) (t := 24) ?hr ?_; (case hd => rfl); (case hg => rfl); (case hr => first | (go_simp; done) | (go_simp; rfl))
             intro gb135 hg w83 hbox hb
             have n0_ := Aside0.mk (bqB (GS.bqX BK123.out) hb)
             have n1_ := Aside0.mk (bqB (GS.bqX BK124.out) hb)
             have n2_ := Aside0.mk (bqB (GS.bqX BK125.out) hb)
             have n3_ := Aside0.mk (bqB (GS.bqX BK126.out) hb)
             have n4_ := Aside0.mk (bqB (GS.bqX BK136.out) hb)
             have n5_ := Aside0.mk (lqT (GS.lB HB.out) hb)
             have n6_ := Aside0.mk (hbox)
             have n7_ := Aside0.mk ((by rw [hg]; exact (lqZ (GS.lB HB.out)) : w.heap.size ≤ gb135))
             have n8_ := Aside0.mk ((by rw [hg]; exact (lqZ (GS.lB HB.out)) : w.heap.size ≤ gb135))
             have n9_ := Aside0.mk ((by rw [hg]; exact Nat.ne_of_lt (blk_lt (GS.bqX BK123.out)) : gb123 ≠ gb135))
             have n10_ := Aside0.mk ((by rw [hg]; exact Nat.ne_of_gt (blk_lt (GS.bqX BK123.out)) : gb135 ≠ gb123))
             have n11_ := Aside0.mk ((by rw [hg]; exact Nat.ne_of_lt (blk_lt (GS.bqX BK124.out)) : gb124 ≠ gb135))
             have n12_ := Aside0.mk ((by rw [hg]; exact Nat.ne_of_gt (blk_lt (GS.bqX BK124.out)) : gb135 ≠ gb124))
             have n13_ := Aside0.mk ((by rw [hg]; exact Nat.ne_of_lt (blk_lt (GS.bqX BK125.out)) : gb125 ≠ gb135))
             have n14_ := Aside0.mk ((by rw [hg]; exact Nat.ne_of_gt (blk_lt (GS.bqX BK125.out)) : gb135 ≠ gb125))
             have n15_ := Aside0.mk ((by rw [hg]; exact Nat.ne_of_lt (blk_lt (GS.bqX BK126.out)) : gb126 ≠ gb135))
             have n16_ := Aside0.mk ((by rw [hg]; exact Nat.ne_of_gt (blk_lt (GS.bqX BK126.out)) : gb135 ≠ gb126))
             have n17_ := Aside0.mk ((by rw [hg]; exact Nat.ne_of_lt (blk_lt (GS.bqX BK136.out)) : gb136 ≠ gb135))
             have n18_ := Aside0.mk ((by rw [hg]; exact Nat.ne_of_gt (blk_lt (GS.bqX BK136.out)) : gb135 ≠ gb136))
             clear BK123
             clear BK124
             clear BK125
             clear BK126
             clear BK136
             clear HB
             have BK123 := n0_
             have BK124 := n1_
             have BK125 := n2_
             have BK126 := n3_
             have BK136 := n4_
             have HB := n5_
             have BK135 := n6_
             have GW135 := n7_
             have GE135 := n8_
             have NB123_135 := n9_
             have NB135_123 := n10_
             have NB124_135 := n11_
             have NB135_124 := n12_
             have NB125_135 := n13_
             have NB135_125 := n14_
             have NB126_135 := n15_
             have NB135_126 := n16_
             have NB136_135 := n17_
             have NB135_136 := n18_
             clear n0_ n1_ n2_ n3_ n4_ n5_ n6_ n7_ n8_ n9_ n10_ n11_ n12_ n13_ n14_ n15_ n16_ n17_ n18_
             clear hb hbox hg
             refine hK.out _ _ ⟨(bqC BK123.out 0).trans rfl, (bqC BK123.out 1).trans rfl, (bqC BK123.out 2).trans rfl, (bqC BK124.out 0).trans rfl, (bqC BK124.out 1).trans rfl, (bqC BK124.out 2).trans rfl, (bqC BK124.out 3).trans rfl, (bqC BK124.out 4).trans rfl, (bqC BK124.out 5).trans rfl, (bqC BK124.out 6).trans rfl⟩ (fun hHeld => ?_)
             clear hK K
             refine norm_ (a' := ?_) ?_ ?_
             rotate_left
             ·show Act.put _ (some 10) _ = _
              simp only [Act.put, List.setIfInBounds_toArray, List.set_cons_zero, List.set_cons_succ, i64_w, i32_w]
              rfl
             exact norm_ (by first | (simp only [putAll, Act.put, List.setIfInBounds_toArray, List.set_cons_zero, List.set_cons_succ]; done) | (simp only [putAll, Act.put, List.setIfInBounds_toArray, List.set_cons_zero, List.set_cons_succ]; rfl)) (hJ9_10 (gb135, gb136) _ ⟨hHeld, (GS.bqX BK123.out), (GS.bqX BK124.out), (GS.bqX BK125.out), (GS.bqX BK126.out), (GS.bqX BK135.out), (GS.bqX BK136.out), GW135.out, GE135.out, NB123_135.out, NB135_123.out, NB124_135.out, NB135_124.out, NB125_135.out, NB135_125.out, NB126_135.out, NB135_126.out, NB136_135.out, NB135_136.out, GW136.out, GE136.out, NB123_136.out, NB136_123.out, NB124_136.out, NB136_124.out, NB125_136.out, NB136_125.out, NB126_136.out, NB136_126.out, (GS.lB HB.out)⟩)
          ·skip
           rintro gb135 w82 ⟨hS_, h0_, h1_, h2_, h3_, h4_, h5_, h6_, h7_, h8_, h9_, h10_, h11_, h12_, h13_, h14_, h15_⟩
           have n0_ : Aside0 (w82.heap[gb123]? = some (.cells #[.int .i64 a0_0, .int .i64 a0_1, .slice A0_2 l0_2.length c0_2] 24 (0, 0))) := ⟨h0_⟩
           have n1_ : Aside0 (w82.heap[gb124]? = some (.cells #[.int .i64 a2_0, .int .i64 a2_1, .int .i64 a2_2, .int .i64 a2_3, .int .i64 a2_4, .int .i64 a2_5, .int .i64 a2_6] 26 (0, 0))) := ⟨h1_⟩
           have n2_ : Aside0 (w82.heap[gb125]? = some (.cells #[.int .i64 0, .int .i64 0, .slice none 0 0] 24 (0, 0))) := ⟨h2_⟩
           have n3_ : Aside0 (w82.heap[gb126]? = some (.cells #[.int .i64 0, .int .i64 0, .int .i64 0, .int .i64 0, .int .i64 0, .int .i64 0, .int .i64 0, .int .i64 0, .int .i64 0, .int .i64 0] 33 (0, 0))) := ⟨h3_⟩
           have n4_ : Aside0 (w82.heap[gb135]? = some (.cells #[.int .i64 0, .int .i64 0, .slice none 0 0] 24 (0, 0))) := ⟨h4_⟩
           have n5_ : Aside0 (w.heap.size ≤ gb135) := ⟨h5_⟩
           have n6_ : Aside0 (w.heap.size ≤ gb135) := ⟨h6_⟩
           have n7_ : Aside0 (gb123 ≠ gb135) := ⟨h7_⟩
           have n8_ : Aside0 (gb135 ≠ gb123) := ⟨h8_⟩
           have n9_ : Aside0 (gb124 ≠ gb135) := ⟨h9_⟩
           have n10_ : Aside0 (gb135 ≠ gb124) := ⟨h10_⟩
           have n11_ : Aside0 (gb125 ≠ gb135) := ⟨h11_⟩
           have n12_ : Aside0 (gb135 ≠ gb125) := ⟨h12_⟩
           have n13_ : Aside0 (gb126 ≠ gb135) := ⟨h13_⟩
           have n14_ : Aside0 (gb135 ≠ gb126) := ⟨h14_⟩
           have n15_ : Aside0 (Below w.heap.size w w82) := ⟨h15_⟩
           clear BK123
           clear BK124
           clear BK125
           clear BK126
           clear HB
           clear h0_ h1_ h2_ h3_ h4_ h5_ h6_ h7_ h8_ h9_ h10_ h11_ h12_ h13_ h14_ h15_
           have BK123 := n0_
           have BK124 := n1_
           have BK125 := n2_
           have BK126 := n3_
           have BK135 := n4_
           have GW135 := n5_
           have GE135 := n6_
           have NB123_135 := n7_
           have NB135_123 := n8_
           have NB124_135 := n9_
           have NB135_124 := n10_
           have NB125_135 := n11_
           have NB135_125 := n12_
           have NB126_135 := n13_
           have NB135_126 := n14_
           have HB := n15_
           clear n0_ n1_ n2_ n3_ n4_ n5_ n6_ n7_ n8_ n9_ n10_ n11_ n12_ n13_ n14_ n15_
           have hHeld : w82.cell? ⟨gb123, 0, none⟩ = some (.int .i64 a0_0) ∧ w82.cell? ⟨gb123, 1, none⟩ = some (.int .i64 a0_1) ∧ w82.cell? ⟨gb123, 2, none⟩ = some (.slice A0_2 l0_2.length c0_2) ∧ w82.cell? ⟨gb124, 0, none⟩ = some (.int .i64 a2_0) ∧ w82.cell? ⟨gb124, 1, none⟩ = some (.int .i64 a2_1) ∧ w82.cell? ⟨gb124, 2, none⟩ = some (.int .i64 a2_2) ∧ w82.cell? ⟨gb124, 3, none⟩ = some (.int .i64 a2_3) ∧ w82.cell? ⟨gb124, 4, none⟩ = some (.int .i64 a2_4) ∧ w82.cell? ⟨gb124, 5, none⟩ = some (.int .i64 a2_5) ∧ w82.cell? ⟨gb124, 6, none⟩ = some (.int .i64 a2_6) := hS_
           refine norm_ (a' := ?_) ?_ ?_
           rotate_left
           ·simp only [putAll, Act.put, List.setIfInBounds_toArray, List.set_cons_zero, List.set_cons_succ]
            rfl
           refine two_ (i := 1) (j := 10) (Ni := some 44) (Nj := some 11) #[true, true, true, true, true, true, true, true, true, true, false, false, false] #[true, false, true, true, true, true, true, true, true, true, true, false, false] rfl rfl rfl rfl (two_of HT_.out (by kernel_rfl)) (by decide) (by decide) (fun K hK => ?_) (fun K hK => ?_)
           ·skip
            refine goes_ Try.func43 (by kernel_rfl) rfl #[.agg #[.int .i64 a0_0, .int .i64 a0_1, .slice A0_2 l0_2.length c0_2]] (by rfl) rfl rfl (by (try simp only [List.map_toArray, List.map_cons, List.map_nil]); first | done | rfl | (simp only [List.length_drop, List.length_take]; rfl)) ?_
            with_reducible refine (sender_own.calls a0_0 a0_1 _ _ l0_2 t130 t131 t132 _ ?side1 ?side2 A78.out).mono ?_
            (case side1 => exact GS.rC (Kd.C_below HR0_2.out HB.out))
            (case side2 => exact HC0_2.out)
            rintro e w83 ⟨v133, rfl, ho0, hb⟩
            refine ⟨_, rfl, ?_⟩
            have n0_ := Aside0.mk (Kd.R_lower (Kd.R_newB ho0 (GS.bqX BK126.out)) (lqZ (GS.lB HB.out)))
            have n1_ := Aside0.mk (bqB (GS.bqX BK123.out) hb)
            have n2_ := Aside0.mk (bqB (GS.bqX BK124.out) hb)
            have n3_ := Aside0.mk (bqB (GS.bqX BK125.out) hb)
            have n4_ := Aside0.mk (bqB (GS.bqX BK126.out) hb)
            have n5_ := Aside0.mk (bqB (GS.bqX BK135.out) hb)
            have n6_ := Aside0.mk (lqT (GS.lB HB.out) hb)
            clear BK123
            clear BK124
            clear BK125
            clear BK126
            clear BK135
            clear HB
            have HO134 := n0_
            have BK123 := n1_
            have BK124 := n2_
            have BK125 := n3_
            have BK126 := n4_
            have BK135 := n5_
            have HB := n6_
            clear n0_ n1_ n2_ n3_ n4_ n5_ n6_
            (try clear hb)
            (try clear hb2)
            (try clear hk)
            (try clear hi)
            (try clear ho0)
            refine hK.out _ _ ⟨(bqC BK123.out 0).trans rfl, (bqC BK123.out 1).trans rfl, (bqC BK123.out 2).trans rfl, (bqC BK124.out 0).trans rfl, (bqC BK124.out 1).trans rfl, (bqC BK124.out 2).trans rfl, (bqC BK124.out 3).trans rfl, (bqC BK124.out 4).trans rfl, (bqC BK124.out 5).trans rfl, (bqC BK124.out 6).trans rfl⟩ (fun hHeld => ?_)
            clear hK K
            refine norm_ (a' := ?_) ?_ ?_
            rotate_left
            ·show Act.put _ (some 44) _ = _
             simp only [Act.put, List.setIfInBounds_toArray, List.set_cons_zero, List.set_cons_succ, i64_w, i32_w]
             rfl
            exact norm_ (by first | (simp only [putAll, Act.put, List.setIfInBounds_toArray, List.set_cons_zero, List.set_cons_succ]; done) | (simp only [putAll, Act.put, List.setIfInBounds_toArray, List.set_cons_zero, List.set_cons_succ]; rfl)) (hJ1_9 (v133, gb135) _ ⟨hHeld, (by (with_reducible repeat (first | apply Kd.R_alloc | apply Kd.R_drewN | apply Kd.R_drew)); exact Kd.R_mono HO134.out (fun _ hk => hk.2)), (GS.bqX BK123.out), (GS.bqX BK124.out), (GS.bqX BK125.out), (GS.bqX BK126.out), (GS.bqX BK135.out), GW135.out, GE135.out, NB123_135.out, NB135_123.out, NB124_135.out, NB135_124.out, NB125_135.out, NB135_125.out, NB126_135.out, NB135_126.out, (GS.lB HB.out)⟩)
           ·skip
            refine box_step ?hg (N := 11) ?hd (cs := #[.int .i64 0, .int .i64 0, .int .i64 0, .int .i64 0, .int .i64 0, .int .i64 0, .int .i64 0, .int .i64 0, .int .i64 0, .int .i64 0]) (t := 33) ?hr ?_; (case hd => rfl); (case hg => rfl); (case hr => first | (go_simp; done) | (go_simp; rfl))
            intro gb136 hg w83 hbox hb
            have n0_ := Aside0.mk (bqB (GS.bqX BK123.out) hb)
            have n1_ := Aside0.mk (bqB (GS.bqX BK124.out) hb)
            have n2_ := Aside0.mk (bqB (GS.bqX BK125.out) hb)
            have n3_ := Aside0.mk (bqB (GS.bqX BK126.out) hb)
            have n4_ := Aside0.mk (bqB (GS.bqX BK135.out) hb)
            have n5_ := Aside0.mk (lqT (GS.lB HB.out) hb)
            have n6_ := Aside0.mk (hbox)
            have n7_ := Aside0.mk ((by rw [hg]; exact (lqZ (GS.lB HB.out)) : w.heap.size ≤ gb136))
            have n8_ := Aside0.mk ((by rw [hg]; exact (lqZ (GS.lB HB.out)) : w.heap.size ≤ gb136))
            have n9_ := Aside0.mk ((by rw [hg]; exact Nat.ne_of_lt (blk_lt (GS.bqX BK123.out)) : gb123 ≠ gb136))
            have n10_ := Aside0.mk ((by rw [hg]; exact Nat.ne_of_gt (blk_lt (GS.bqX BK123.out)) : gb136 ≠ gb123))
            have n11_ := Aside0.mk ((by rw [hg]; exact Nat.ne_of_lt (blk_lt (GS.bqX BK124.out)) : gb124 ≠ gb136))
            have n12_ := Aside0.mk ((by rw [hg]; exact Nat.ne_of_gt (blk_lt (GS.bqX BK124.out)) : gb136 ≠ gb124))
            have n13_ := Aside0.mk ((by rw [hg]; exact Nat.ne_of_lt (blk_lt (GS.bqX BK125.out)) : gb125 ≠ gb136))
            have n14_ := Aside0.mk ((by rw [hg]; exact Nat.ne_of_gt (blk_lt (GS.bqX BK125.out)) : gb136 ≠ gb125))
            have n15_ := Aside0.mk ((by rw [hg]; exact Nat.ne_of_lt (blk_lt (GS.bqX BK126.out)) : gb126 ≠ gb136))
            have n16_ := Aside0.mk ((by rw [hg]; exact Nat.ne_of_gt (blk_lt (GS.bqX BK126.out)) : gb136 ≠ gb126))
            have n17_ := Aside0.mk ((by rw [hg]; exact Nat.ne_of_lt (blk_lt (GS.bqX BK135.out)) : gb135 ≠ gb136))
            have n18_ := Aside0.mk ((by rw [hg]; exact Nat.ne_of_gt (blk_lt (GS.bqX BK135.out)) : gb136 ≠ gb135))
            clear BK123
            clear BK124
            clear BK125
            clear BK126
            clear BK135
            clear HB
            have BK123 := n0_
            have BK124 := n1_
            have BK125 := n2_
            have BK126 := n3_
            have BK135 := n4_
            have HB := n5_
            have BK136 := n6_
            have GW136 := n7_
            have GE136 := n8_
            have NB123_136 := n9_
            have NB136_123 := n10_
            have NB124_136 := n11_
            have NB136_124 := n12_
            have NB125_136 := n13_
            have NB136_125 := n14_
            have NB126_136 := n15_
            have NB136_126 := n16_
            have NB135_136 := n17_
            have NB136_135 := n18_
            clear n0_ n1_ n2_ n3_ n4_ n5_ n6_ n7_ n8_ n9_ n10_ n11_ n12_ n13_ n14_ n15_ n16_ n17_ n18_
            clear hb hbox hg
            refine hK.out _ _ ⟨(bqC BK123.out 0).trans rfl, (bqC BK123.out 1).trans rfl, (bqC BK123.out 2).trans rfl, (bqC BK124.out 0).trans rfl, (bqC BK124.out 1).trans rfl, (bqC BK124.out 2).trans rfl, (bqC BK124.out 3).trans rfl, (bqC BK124.out 4).trans rfl, (bqC BK124.out 5).trans rfl, (bqC BK124.out 6).trans rfl⟩ (fun hHeld => ?_)
            clear hK K
            refine norm_ (a' := ?_) ?_ ?_
            rotate_left
            ·show Act.put _ (some 11) _ = _
             simp only [Act.put, List.setIfInBounds_toArray, List.set_cons_zero, List.set_cons_succ, i64_w, i32_w]
             rfl
            exact norm_ (by first | (simp only [putAll, Act.put, List.setIfInBounds_toArray, List.set_cons_zero, List.set_cons_succ]; done) | (simp only [putAll, Act.put, List.setIfInBounds_toArray, List.set_cons_zero, List.set_cons_succ]; rfl)) (hJ9_10 (gb135, gb136) _ ⟨hHeld, (GS.bqX BK123.out), (GS.bqX BK124.out), (GS.bqX BK125.out), (GS.bqX BK126.out), (GS.bqX BK135.out), (GS.bqX BK136.out), GW135.out, GE135.out, NB123_135.out, NB135_123.out, NB124_135.out, NB135_124.out, NB125_135.out, NB135_125.out, NB126_135.out, NB135_126.out, NB136_135.out, NB135_136.out, GW136.out, GE136.out, NB123_136.out, NB136_123.out, NB124_136.out, NB136_124.out, NB125_136.out, NB136_125.out, NB126_136.out, NB136_126.out, (GS.lB HB.out)⟩)
         ·skip
          rintro v133 w82 ⟨hS_, h0_, h1_, h2_, h3_, h4_, h5_⟩
          have n0_ : Aside0 (Kd.R k33 33 w82 w.heap.size (fun k_ => k_ ≠ gb126) v133 t132) := ⟨h0_⟩
          have n1_ : Aside0 (w82.heap[gb123]? = some (.cells #[.int .i64 a0_0, .int .i64 a0_1, .slice A0_2 l0_2.length c0_2] 24 (0, 0))) := ⟨h1_⟩
          have n2_ : Aside0 (w82.heap[gb124]? = some (.cells #[.int .i64 a2_0, .int .i64 a2_1, .int .i64 a2_2, .int .i64 a2_3, .int .i64 a2_4, .int .i64 a2_5, .int .i64 a2_6] 26 (0, 0))) := ⟨h2_⟩
          have n3_ : Aside0 (w82.heap[gb125]? = some (.cells #[.int .i64 0, .int .i64 0, .slice none 0 0] 24 (0, 0))) := ⟨h3_⟩
          have n4_ : Aside0 (w82.heap[gb126]? = some (.cells #[.int .i64 0, .int .i64 0, .int .i64 0, .int .i64 0, .int .i64 0, .int .i64 0, .int .i64 0, .int .i64 0, .int .i64 0, .int .i64 0] 33 (0, 0))) := ⟨h4_⟩
          have n5_ : Aside0 (Below w.heap.size w w82) := ⟨h5_⟩
          clear BK123
          clear BK124
          clear BK125
          clear BK126
          clear HB
          clear h0_ h1_ h2_ h3_ h4_ h5_
          have HO134 := n0_
          have BK123 := n1_
          have BK124 := n2_
          have BK125 := n3_
          have BK126 := n4_
          have HB := n5_
          clear n0_ n1_ n2_ n3_ n4_ n5_
          have hHeld : w82.cell? ⟨gb123, 0, none⟩ = some (.int .i64 a0_0) ∧ w82.cell? ⟨gb123, 1, none⟩ = some (.int .i64 a0_1) ∧ w82.cell? ⟨gb123, 2, none⟩ = some (.slice A0_2 l0_2.length c0_2) ∧ w82.cell? ⟨gb124, 0, none⟩ = some (.int .i64 a2_0) ∧ w82.cell? ⟨gb124, 1, none⟩ = some (.int .i64 a2_1) ∧ w82.cell? ⟨gb124, 2, none⟩ = some (.int .i64 a2_2) ∧ w82.cell? ⟨gb124, 3, none⟩ = some (.int .i64 a2_3) ∧ w82.cell? ⟨gb124, 4, none⟩ = some (.int .i64 a2_4) ∧ w82.cell? ⟨gb124, 5, none⟩ = some (.int .i64 a2_5) ∧ w82.cell? ⟨gb124, 6, none⟩ = some (.int .i64 a2_6) := hS_
          refine norm_ (a' := ?_) ?_ ?_
          rotate_left
          ·simp only [putAll, Act.put, List.setIfInBounds_toArray, List.set_cons_zero, List.set_cons_succ]
           rfl
          refine two_ (i := 9) (j := 10) (Ni := some 10) (Nj := some 11) #[true, true, true, true, true, true, true, true, true, true, false, false, false] #[true, true, true, true, true, true, true, true, true, false, true, false, false] rfl rfl rfl rfl (two_of HT_.out (by kernel_rfl)) (by decide) (by decide) (fun K hK => ?_) (fun K hK => ?_)
          ·skip
           refine box_step ?hg (N := 10) ?hd (cs := #[.int .i64 0, .int .i64 0, .slice none 0 0]) (t := 24) ?hr ?_; (case hd => rfl); (case hg => rfl); (case hr => first | (go_simp; done) | (go_simp; rfl))
           intro gb135 hg w83 hbox hb
           have n0_ := Aside0.mk (Kd.R_below (GS.rR HO134.out) hb)
           have n1_ := Aside0.mk (bqB (GS.bqX BK123.out) hb)
           have n2_ := Aside0.mk (bqB (GS.bqX BK124.out) hb)
           have n3_ := Aside0.mk (bqB (GS.bqX BK125.out) hb)
           have n4_ := Aside0.mk (bqB (GS.bqX BK126.out) hb)
           have n5_ := Aside0.mk (lqT (GS.lB HB.out) hb)
           have n6_ := Aside0.mk (hbox)
           have n7_ := Aside0.mk ((by rw [hg]; exact (lqZ (GS.lB HB.out)) : w.heap.size ≤ gb135))
           have n8_ := Aside0.mk ((by rw [hg]; exact (lqZ (GS.lB HB.out)) : w.heap.size ≤ gb135))
           have n9_ := Aside0.mk ((by rw [hg]; exact Nat.ne_of_lt (blk_lt (GS.bqX BK123.out)) : gb123 ≠ gb135))
           have n10_ := Aside0.mk ((by rw [hg]; exact Nat.ne_of_gt (blk_lt (GS.bqX BK123.out)) : gb135 ≠ gb123))
           have n11_ := Aside0.mk ((by rw [hg]; exact Nat.ne_of_lt (blk_lt (GS.bqX BK124.out)) : gb124 ≠ gb135))
           have n12_ := Aside0.mk ((by rw [hg]; exact Nat.ne_of_gt (blk_lt (GS.bqX BK124.out)) : gb135 ≠ gb124))
           have n13_ := Aside0.mk ((by rw [hg]; exact Nat.ne_of_lt (blk_lt (GS.bqX BK125.out)) : gb125 ≠ gb135))
           have n14_ := Aside0.mk ((by rw [hg]; exact Nat.ne_of_gt (blk_lt (GS.bqX BK125.out)) : gb135 ≠ gb125))
           have n15_ := Aside0.mk ((by rw [hg]; exact Nat.ne_of_lt (blk_lt (GS.bqX BK126.out)) : gb126 ≠ gb135))
           have n16_ := Aside0.mk ((by rw [hg]; exact Nat.ne_of_gt (blk_lt (GS.bqX BK126.out)) : gb135 ≠ gb126))
           clear HO134
           clear BK123
           clear BK124
           clear BK125
           clear BK126
           clear HB
           have HO134 := n0_
           have BK123 := n1_
           have BK124 := n2_
           have BK125 := n3_
           have BK126 := n4_
           have HB := n5_
           have BK135 := n6_
           have GW135 := n7_
           have GE135 := n8_
           have NB123_135 := n9_
           have NB135_123 := n10_
           have NB124_135 := n11_
           have NB135_124 := n12_
           have NB125_135 := n13_
           have NB135_125 := n14_
           have NB126_135 := n15_
           have NB135_126 := n16_
           clear n0_ n1_ n2_ n3_ n4_ n5_ n6_ n7_ n8_ n9_ n10_ n11_ n12_ n13_ n14_ n15_ n16_
           clear hb hbox hg
           refine hK.out _ _ ⟨(bqC BK123.out 0).trans rfl, (bqC BK123.out 1).trans rfl, (bqC BK123.out 2).trans rfl, (bqC BK124.out 0).trans rfl, (bqC BK124.out 1).trans rfl, (bqC BK124.out 2).trans rfl, (bqC BK124.out 3).trans rfl, (bqC BK124.out 4).trans rfl, (bqC BK124.out 5).trans rfl, (bqC BK124.out 6).trans rfl⟩ (fun hHeld => ?_)
           clear hK K
           refine norm_ (a' := ?_) ?_ ?_
           rotate_left
           ·show Act.put _ (some 10) _ = _
            simp only [Act.put, List.setIfInBounds_toArray, List.set_cons_zero, List.set_cons_succ, i64_w, i32_w]
            rfl
           exact norm_ (by first | (simp only [putAll, Act.put, List.setIfInBounds_toArray, List.set_cons_zero, List.set_cons_succ]; done) | (simp only [putAll, Act.put, List.setIfInBounds_toArray, List.set_cons_zero, List.set_cons_succ]; rfl)) (hJ1_9 (v133, gb135) _ ⟨hHeld, (GS.rR HO134.out), (GS.bqX BK123.out), (GS.bqX BK124.out), (GS.bqX BK125.out), (GS.bqX BK126.out), (GS.bqX BK135.out), GW135.out, GE135.out, NB123_135.out, NB135_123.out, NB124_135.out, NB135_124.out, NB125_135.out, NB135_125.out, NB126_135.out, NB135_126.out, (GS.lB HB.out)⟩)
          ·skip
           refine box_step ?hg (N := 11) ?hd (cs := #[.int .i64 0, .int .i64 0, .int .i64 0, .int .i64 0, .int .i64 0, .int .i64 0, .int .i64 0, .int .i64 0, .int .i64 0, .int .i64 0]) (t := 33) ?hr ?_; (case hd => rfl); (case hg => rfl); (case hr => first | (go_simp; done) | (go_simp; rfl))
           intro gb136 hg w83 hbox hb
           have n0_ := Aside0.mk (Kd.R_below (Kd.R_elderB (GS.rR HO134.out) gb136 (Nat.le_of_eq hg.symm)) hb)
           have n1_ := Aside0.mk (bqB (GS.bqX BK123.out) hb)
           have n2_ := Aside0.mk (bqB (GS.bqX BK124.out) hb)
           have n3_ := Aside0.mk (bqB (GS.bqX BK125.out) hb)
           have n4_ := Aside0.mk (bqB (GS.bqX BK126.out) hb)
           have n5_ := Aside0.mk (lqT (GS.lB HB.out) hb)
           have n6_ := Aside0.mk (hbox)
           have n7_ := Aside0.mk ((by rw [hg]; exact (lqZ (GS.lB HB.out)) : w.heap.size ≤ gb136))
           have n8_ := Aside0.mk ((by rw [hg]; exact (lqZ (GS.lB HB.out)) : w.heap.size ≤ gb136))
           have n9_ := Aside0.mk ((by rw [hg]; exact Nat.ne_of_lt (blk_lt (GS.bqX BK123.out)) : gb123 ≠ gb136))
           have n10_ := Aside0.mk ((by rw [hg]; exact Nat.ne_of_gt (blk_lt (GS.bqX BK123.out)) : gb136 ≠ gb123))
           have n11_ := Aside0.mk ((by rw [hg]; exact Nat.ne_of_lt (blk_lt (GS.bqX BK124.out)) : gb124 ≠ gb136))
           have n12_ := Aside0.mk ((by rw [hg]; exact Nat.ne_of_gt (blk_lt (GS.bqX BK124.out)) : gb136 ≠ gb124))
           have n13_ := Aside0.mk ((by rw [hg]; exact Nat.ne_of_lt (blk_lt (GS.bqX BK125.out)) : gb125 ≠ gb136))
           have n14_ := Aside0.mk ((by rw [hg]; exact Nat.ne_of_gt (blk_lt (GS.bqX BK125.out)) : gb136 ≠ gb125))
           have n15_ := Aside0.mk ((by rw [hg]; exact Nat.ne_of_lt (blk_lt (GS.bqX BK126.out)) : gb126 ≠ gb136))
           have n16_ := Aside0.mk ((by rw [hg]; exact Nat.ne_of_gt (blk_lt (GS.bqX BK126.out)) : gb136 ≠ gb126))
           clear HO134
           clear BK123
           clear BK124
           clear BK125
           clear BK126
           clear HB
           have HO134 := n0_
           have BK123 := n1_
           have BK124 := n2_
           have BK125 := n3_
           have BK126 := n4_
           have HB := n5_
           have BK136 := n6_
           have GW136 := n7_
           have GE136 := n8_
           have NB123_136 := n9_
           have NB136_123 := n10_
           have NB124_136 := n11_
           have NB136_124 := n12_
           have NB125_136 := n13_
           have NB136_125 := n14_
           have NB126_136 := n15_
           have NB136_126 := n16_
           clear n0_ n1_ n2_ n3_ n4_ n5_ n6_ n7_ n8_ n9_ n10_ n11_ n12_ n13_ n14_ n15_ n16_
           clear hb hbox hg
           refine hK.out _ _ ⟨(bqC BK123.out 0).trans rfl, (bqC BK123.out 1).trans rfl, (bqC BK123.out 2).trans rfl, (bqC BK124.out 0).trans rfl, (bqC BK124.out 1).trans rfl, (bqC BK124.out 2).trans rfl, (bqC BK124.out 3).trans rfl, (bqC BK124.out 4).trans rfl, (bqC BK124.out 5).trans rfl, (bqC BK124.out 6).trans rfl⟩ (fun hHeld => ?_)
           clear hK K
           refine norm_ (a' := ?_) ?_ ?_
           rotate_left
           ·show Act.put _ (some 11) _ = _
            simp only [Act.put, List.setIfInBounds_toArray, List.set_cons_zero, List.set_cons_succ, i64_w, i32_w]
            rfl
           exact norm_ (by first | (simp only [putAll, Act.put, List.setIfInBounds_toArray, List.set_cons_zero, List.set_cons_succ]; done) | (simp only [putAll, Act.put, List.setIfInBounds_toArray, List.set_cons_zero, List.set_cons_succ]; rfl)) (hJ1_10 (v133, gb136) _ ⟨hHeld, (GS.rR HO134.out), (GS.bqX BK123.out), (GS.bqX BK124.out), (GS.bqX BK125.out), (GS.bqX BK126.out), (GS.bqX BK136.out), GW136.out, GE136.out, NB123_136.out, NB136_123.out, NB124_136.out, NB136_124.out, NB125_136.out, NB136_125.out, NB126_136.out, NB136_126.out, (GS.lB HB.out)⟩)
        ·skip
         rintro ⟨gb135, gb136⟩ w83 ⟨hS_, h0_, h1_, h2_, h3_, h4_, h5_, h6_, h7_, h8_, h9_, h10_, h11_, h12_, h13_, h14_, h15_, h16_, h17_, h18_, h19_, h20_, h21_, h22_, h23_, h24_, h25_, h26_, h27_, h28_⟩
         have n0_ : Aside0 (w83.heap[gb123]? = some (.cells #[.int .i64 a0_0, .int .i64 a0_1, .slice A0_2 l0_2.length c0_2] 24 (0, 0))) := ⟨h0_⟩
         have n1_ : Aside0 (w83.heap[gb124]? = some (.cells #[.int .i64 a2_0, .int .i64 a2_1, .int .i64 a2_2, .int .i64 a2_3, .int .i64 a2_4, .int .i64 a2_5, .int .i64 a2_6] 26 (0, 0))) := ⟨h1_⟩
         have n2_ : Aside0 (w83.heap[gb125]? = some (.cells #[.int .i64 0, .int .i64 0, .slice none 0 0] 24 (0, 0))) := ⟨h2_⟩
         have n3_ : Aside0 (w83.heap[gb126]? = some (.cells #[.int .i64 0, .int .i64 0, .int .i64 0, .int .i64 0, .int .i64 0, .int .i64 0, .int .i64 0, .int .i64 0, .int .i64 0, .int .i64 0] 33 (0, 0))) := ⟨h3_⟩
         have n4_ : Aside0 (w83.heap[gb135]? = some (.cells #[.int .i64 0, .int .i64 0, .slice none 0 0] 24 (0, 0))) := ⟨h4_⟩
         have n5_ : Aside0 (w83.heap[gb136]? = some (.cells #[.int .i64 0, .int .i64 0, .int .i64 0, .int .i64 0, .int .i64 0, .int .i64 0, .int .i64 0, .int .i64 0, .int .i64 0, .int .i64 0] 33 (0, 0))) := ⟨h5_⟩
         have n6_ : Aside0 (w.heap.size ≤ gb135) := ⟨h6_⟩
         have n7_ : Aside0 (w.heap.size ≤ gb135) := ⟨h7_⟩
         have n8_ : Aside0 (gb123 ≠ gb135) := ⟨h8_⟩
         have n9_ : Aside0 (gb135 ≠ gb123) := ⟨h9_⟩
         have n10_ : Aside0 (gb124 ≠ gb135) := ⟨h10_⟩
         have n11_ : Aside0 (gb135 ≠ gb124) := ⟨h11_⟩
         have n12_ : Aside0 (gb125 ≠ gb135) := ⟨h12_⟩
         have n13_ : Aside0 (gb135 ≠ gb125) := ⟨h13_⟩
         have n14_ : Aside0 (gb126 ≠ gb135) := ⟨h14_⟩
         have n15_ : Aside0 (gb135 ≠ gb126) := ⟨h15_⟩
         have n16_ : Aside0 (gb136 ≠ gb135) := ⟨h16_⟩
         have n17_ : Aside0 (gb135 ≠ gb136) := ⟨h17_⟩
         have n18_ : Aside0 (w.heap.size ≤ gb136) := ⟨h18_⟩
         have n19_ : Aside0 (w.heap.size ≤ gb136) := ⟨h19_⟩
         have n20_ : Aside0 (gb123 ≠ gb136) := ⟨h20_⟩
         have n21_ : Aside0 (gb136 ≠ gb123) := ⟨h21_⟩
         have n22_ : Aside0 (gb124 ≠ gb136) := ⟨h22_⟩
         have n23_ : Aside0 (gb136 ≠ gb124) := ⟨h23_⟩
         have n24_ : Aside0 (gb125 ≠ gb136) := ⟨h24_⟩
         have n25_ : Aside0 (gb136 ≠ gb125) := ⟨h25_⟩
         have n26_ : Aside0 (gb126 ≠ gb136) := ⟨h26_⟩
         have n27_ : Aside0 (gb136 ≠ gb126) := ⟨h27_⟩
         have n28_ : Aside0 (Below w.heap.size w w83) := ⟨h28_⟩
         clear BK123
         clear BK124
         clear BK125
         clear BK126
         clear HB
         clear h0_ h1_ h2_ h3_ h4_ h5_ h6_ h7_ h8_ h9_ h10_ h11_ h12_ h13_ h14_ h15_ h16_ h17_ h18_ h19_ h20_ h21_ h22_ h23_ h24_ h25_ h26_ h27_ h28_
         have BK123 := n0_
         have BK124 := n1_
         have BK125 := n2_
         have BK126 := n3_
         have BK135 := n4_
         have BK136 := n5_
         have GW135 := n6_
         have GE135 := n7_
         have NB123_135 := n8_
         have NB135_123 := n9_
         have NB124_135 := n10_
         have NB135_124 := n11_
         have NB125_135 := n12_
         have NB135_125 := n13_
         have NB126_135 := n14_
         have NB135_126 := n15_
         have NB136_135 := n16_
         have NB135_136 := n17_
         have GW136 := n18_
         have GE136 := n19_
         have NB123_136 := n20_
         have NB136_123 := n21_
         have NB124_136 := n22_
         have NB136_124 := n23_
         have NB125_136 := n24_
         have NB136_125 := n25_
         have NB126_136 := n26_
         have NB136_126 := n27_
         have HB := n28_
         clear n0_ n1_ n2_ n3_ n4_ n5_ n6_ n7_ n8_ n9_ n10_ n11_ n12_ n13_ n14_ n15_ n16_ n17_ n18_ n19_ n20_ n21_ n22_ n23_ n24_ n25_ n26_ n27_ n28_
         have hHeld : w83.cell? ⟨gb123, 0, none⟩ = some (.int .i64 a0_0) ∧ w83.cell? ⟨gb123, 1, none⟩ = some (.int .i64 a0_1) ∧ w83.cell? ⟨gb123, 2, none⟩ = some (.slice A0_2 l0_2.length c0_2) ∧ w83.cell? ⟨gb124, 0, none⟩ = some (.int .i64 a2_0) ∧ w83.cell? ⟨gb124, 1, none⟩ = some (.int .i64 a2_1) ∧ w83.cell? ⟨gb124, 2, none⟩ = some (.int .i64 a2_2) ∧ w83.cell? ⟨gb124, 3, none⟩ = some (.int .i64 a2_3) ∧ w83.cell? ⟨gb124, 4, none⟩ = some (.int .i64 a2_4) ∧ w83.cell? ⟨gb124, 5, none⟩ = some (.int .i64 a2_5) ∧ w83.cell? ⟨gb124, 6, none⟩ = some (.int .i64 a2_6) := hS_
         refine norm_ (a' := ?_) ?_ ?_
         rotate_left
         ·simp only [putAll, Act.put, List.setIfInBounds_toArray, List.set_cons_zero, List.set_cons_succ]
          rfl
         refine one_ (i := 1) (N := some 44) #[true, true, true, true, true, true, true, true, true, true, true, false, false] rfl rfl (one_of HT_.out (by kernel_rfl)) (by decide) (fun K hK => ?_)
         refine goes_ Try.func43 (by kernel_rfl) rfl #[.agg #[.int .i64 a0_0, .int .i64 a0_1, .slice A0_2 l0_2.length c0_2]] (by rfl) rfl rfl (by (try simp only [List.map_toArray, List.map_cons, List.map_nil]); first | done | rfl | (simp only [List.length_drop, List.length_take]; rfl)) ?_
         with_reducible refine (sender_own.calls a0_0 a0_1 _ _ l0_2 t130 t131 t132 _ ?side1 ?side2 A78.out).mono ?_
         (case side1 => exact GS.rC (Kd.C_below HR0_2.out HB.out))
         (case side2 => exact HC0_2.out)
         rintro e w84 ⟨v133, rfl, ho0, hb⟩
         refine ⟨_, rfl, ?_⟩
         have n0_ := Aside0.mk (Kd.R_lower (Kd.R_newB (Kd.R_newB ho0 (GS.bqX BK126.out)) (GS.bqX BK136.out)) (lqZ (GS.lB HB.out)))
         have n1_ := Aside0.mk (bqB (GS.bqX BK123.out) hb)
         have n2_ := Aside0.mk (bqB (GS.bqX BK124.out) hb)
         have n3_ := Aside0.mk (bqB (GS.bqX BK125.out) hb)
         have n4_ := Aside0.mk (bqB (GS.bqX BK126.out) hb)
         have n5_ := Aside0.mk (bqB (GS.bqX BK135.out) hb)
         have n6_ := Aside0.mk (bqB (GS.bqX BK136.out) hb)
         have n7_ := Aside0.mk (lqT (GS.lB HB.out) hb)
         clear BK123
         clear BK124
         clear BK125
         clear BK126
         clear BK135
         clear BK136
         clear HB
         have HO134 := n0_
         have BK123 := n1_
         have BK124 := n2_
         have BK125 := n3_
         have BK126 := n4_
         have BK135 := n5_
         have BK136 := n6_
         have HB := n7_
         clear n0_ n1_ n2_ n3_ n4_ n5_ n6_ n7_
         (try clear hb)
         (try clear hb2)
         (try clear hk)
         (try clear hi)
         (try clear ho0)
         refine hK.out _ _ ⟨(bqC BK123.out 0).trans rfl, (bqC BK123.out 1).trans rfl, (bqC BK123.out 2).trans rfl, (bqC BK124.out 0).trans rfl, (bqC BK124.out 1).trans rfl, (bqC BK124.out 2).trans rfl, (bqC BK124.out 3).trans rfl, (bqC BK124.out 4).trans rfl, (bqC BK124.out 5).trans rfl, (bqC BK124.out 6).trans rfl⟩ (fun hHeld => ?_)
         clear hK K
         refine norm_ (a' := ?_) ?_ ?_
         rotate_left
         ·show Act.put _ (some 44) _ = _
          simp only [Act.put, List.setIfInBounds_toArray, List.set_cons_zero, List.set_cons_succ, i64_w, i32_w]
          rfl
         exact norm_ (by first | (simp only [putAll, Act.put, List.setIfInBounds_toArray, List.set_cons_zero, List.set_cons_succ]; done) | (simp only [putAll, Act.put, List.setIfInBounds_toArray, List.set_cons_zero, List.set_cons_succ]; rfl)) (hJ1_9_10 (v133, gb135, gb136) _ ⟨hHeld, (by (with_reducible repeat (first | apply Kd.R_alloc | apply Kd.R_drewN | apply Kd.R_drew)); exact Kd.R_mono HO134.out (fun _ hk => ⟨hk.1.2, hk.2⟩)), (GS.bqX BK123.out), (GS.bqX BK124.out), (GS.bqX BK125.out), (GS.bqX BK126.out), (GS.bqX BK135.out), (GS.bqX BK136.out), GW135.out, GE135.out, NB123_135.out, NB135_123.out, NB124_135.out, NB135_124.out, NB125_135.out, NB135_125.out, NB126_135.out, NB135_126.out, NB136_135.out, NB135_136.out, GW136.out, GE136.out, NB123_136.out, NB136_123.out, NB124_136.out, NB136_124.out, NB125_136.out, NB136_125.out, NB126_136.out, NB136_126.out, (GS.lB HB.out)⟩)
       ·skip
        rintro ⟨v133, gb136⟩ w83 ⟨hS_, h0_, h1_, h2_, h3_, h4_, h5_, h6_, h7_, h8_, h9_, h10_, h11_, h12_, h13_, h14_, h15_, h16_⟩
        have n0_ : Aside0 (Kd.R k33 33 w83 w.heap.size (fun k_ => k_ ≠ gb126 ∧ k_ ≠ gb136) v133 t132) := ⟨h0_⟩
        have n1_ : Aside0 (w83.heap[gb123]? = some (.cells #[.int .i64 a0_0, .int .i64 a0_1, .slice A0_2 l0_2.length c0_2] 24 (0, 0))) := ⟨h1_⟩
        have n2_ : Aside0 (w83.heap[gb124]? = some (.cells #[.int .i64 a2_0, .int .i64 a2_1, .int .i64 a2_2, .int .i64 a2_3, .int .i64 a2_4, .int .i64 a2_5, .int .i64 a2_6] 26 (0, 0))) := ⟨h2_⟩
        have n3_ : Aside0 (w83.heap[gb125]? = some (.cells #[.int .i64 0, .int .i64 0, .slice none 0 0] 24 (0, 0))) := ⟨h3_⟩
        have n4_ : Aside0 (w83.heap[gb126]? = some (.cells #[.int .i64 0, .int .i64 0, .int .i64 0, .int .i64 0, .int .i64 0, .int .i64 0, .int .i64 0, .int .i64 0, .int .i64 0, .int .i64 0] 33 (0, 0))) := ⟨h4_⟩
        have n5_ : Aside0 (w83.heap[gb136]? = some (.cells #[.int .i64 0, .int .i64 0, .int .i64 0, .int .i64 0, .int .i64 0, .int .i64 0, .int .i64 0, .int .i64 0, .int .i64 0, .int .i64 0] 33 (0, 0))) := ⟨h5_⟩
        have n6_ : Aside0 (w.heap.size ≤ gb136) := ⟨h6_⟩
        have n7_ : Aside0 (w.heap.size ≤ gb136) := ⟨h7_⟩
        have n8_ : Aside0 (gb123 ≠ gb136) := ⟨h8_⟩
        have n9_ : Aside0 (gb136 ≠ gb123) := ⟨h9_⟩
        have n10_ : Aside0 (gb124 ≠ gb136) := ⟨h10_⟩
        have n11_ : Aside0 (gb136 ≠ gb124) := ⟨h11_⟩
        have n12_ : Aside0 (gb125 ≠ gb136) := ⟨h12_⟩
        have n13_ : Aside0 (gb136 ≠ gb125) := ⟨h13_⟩
        have n14_ : Aside0 (gb126 ≠ gb136) := ⟨h14_⟩
        have n15_ : Aside0 (gb136 ≠ gb126) := ⟨h15_⟩
        have n16_ : Aside0 (Below w.heap.size w w83) := ⟨h16_⟩
        clear BK123
        clear BK124
        clear BK125
        clear BK126
        clear HB
        clear h0_ h1_ h2_ h3_ h4_ h5_ h6_ h7_ h8_ h9_ h10_ h11_ h12_ h13_ h14_ h15_ h16_
        have HO134 := n0_
        have BK123 := n1_
        have BK124 := n2_
        have BK125 := n3_
        have BK126 := n4_
        have BK136 := n5_
        have GW136 := n6_
        have GE136 := n7_
        have NB123_136 := n8_
        have NB136_123 := n9_
        have NB124_136 := n10_
        have NB136_124 := n11_
        have NB125_136 := n12_
        have NB136_125 := n13_
        have NB126_136 := n14_
        have NB136_126 := n15_
        have HB := n16_
        clear n0_ n1_ n2_ n3_ n4_ n5_ n6_ n7_ n8_ n9_ n10_ n11_ n12_ n13_ n14_ n15_ n16_
        have hHeld : w83.cell? ⟨gb123, 0, none⟩ = some (.int .i64 a0_0) ∧ w83.cell? ⟨gb123, 1, none⟩ = some (.int .i64 a0_1) ∧ w83.cell? ⟨gb123, 2, none⟩ = some (.slice A0_2 l0_2.length c0_2) ∧ w83.cell? ⟨gb124, 0, none⟩ = some (.int .i64 a2_0) ∧ w83.cell? ⟨gb124, 1, none⟩ = some (.int .i64 a2_1) ∧ w83.cell? ⟨gb124, 2, none⟩ = some (.int .i64 a2_2) ∧ w83.cell? ⟨gb124, 3, none⟩ = some (.int .i64 a2_3) ∧ w83.cell? ⟨gb124, 4, none⟩ = some (.int .i64 a2_4) ∧ w83.cell? ⟨gb124, 5, none⟩ = some (.int .i64 a2_5) ∧ w83.cell? ⟨gb124, 6, none⟩ = some (.int .i64 a2_6) := hS_
        refine norm_ (a' := ?_) ?_ ?_
        rotate_left
        ·simp only [putAll, Act.put, List.setIfInBounds_toArray, List.set_cons_zero, List.set_cons_succ]
         rfl
        refine one_ (i := 9) (N := some 10) #[true, true, true, true, true, true, true, true, true, true, true, false, false] rfl rfl (one_of HT_.out (by kernel_rfl)) (by decide) (fun K hK => ?_)
        refine box_step ?hg (N := 10) ?hd (cs := #[.int .i64 0, .int .i64 0, .slice none 0 0]) (t := 24) ?hr ?_; (case hd => rfl); (case hg => rfl); (case hr => first | (go_simp; done) | (go_simp; rfl))
        intro gb135 hg w84 hbox hb
        have n0_ := Aside0.mk (Kd.R_below (GS.rR HO134.out) hb)
        have n1_ := Aside0.mk (bqB (GS.bqX BK123.out) hb)
        have n2_ := Aside0.mk (bqB (GS.bqX BK124.out) hb)
        have n3_ := Aside0.mk (bqB (GS.bqX BK125.out) hb)
        have n4_ := Aside0.mk (bqB (GS.bqX BK126.out) hb)
        have n5_ := Aside0.mk (bqB (GS.bqX BK136.out) hb)
        have n6_ := Aside0.mk (lqT (GS.lB HB.out) hb)
        have n7_ := Aside0.mk (hbox)
        have n8_ := Aside0.mk ((by rw [hg]; exact (lqZ (GS.lB HB.out)) : w.heap.size ≤ gb135))
        have n9_ := Aside0.mk ((by rw [hg]; exact (lqZ (GS.lB HB.out)) : w.heap.size ≤ gb135))
        have n10_ := Aside0.mk ((by rw [hg]; exact Nat.ne_of_lt (blk_lt (GS.bqX BK123.out)) : gb123 ≠ gb135))
        have n11_ := Aside0.mk ((by rw [hg]; exact Nat.ne_of_gt (blk_lt (GS.bqX BK123.out)) : gb135 ≠ gb123))
        have n12_ := Aside0.mk ((by rw [hg]; exact Nat.ne_of_lt (blk_lt (GS.bqX BK124.out)) : gb124 ≠ gb135))
        have n13_ := Aside0.mk ((by rw [hg]; exact Nat.ne_of_gt (blk_lt (GS.bqX BK124.out)) : gb135 ≠ gb124))
        have n14_ := Aside0.mk ((by rw [hg]; exact Nat.ne_of_lt (blk_lt (GS.bqX BK125.out)) : gb125 ≠ gb135))
        have n15_ := Aside0.mk ((by rw [hg]; exact Nat.ne_of_gt (blk_lt (GS.bqX BK125.out)) : gb135 ≠ gb125))
        have n16_ := Aside0.mk ((by rw [hg]; exact Nat.ne_of_lt (blk_lt (GS.bqX BK126.out)) : gb126 ≠ gb135))
        have n17_ := Aside0.mk ((by rw [hg]; exact Nat.ne_of_gt (blk_lt (GS.bqX BK126.out)) : gb135 ≠ gb126))
        have n18_ := Aside0.mk ((by rw [hg]; exact Nat.ne_of_lt (blk_lt (GS.bqX BK136.out)) : gb136 ≠ gb135))
        have n19_ := Aside0.mk ((by rw [hg]; exact Nat.ne_of_gt (blk_lt (GS.bqX BK136.out)) : gb135 ≠ gb136))
        clear HO134
        clear BK123
        clear BK124
        clear BK125
        clear BK126
        clear BK136
        clear HB
        have HO134 := n0_
        have BK123 := n1_
        have BK124 := n2_
        have BK125 := n3_
        have BK126 := n4_
        have BK136 := n5_
        have HB := n6_
        have BK135 := n7_
        have GW135 := n8_
        have GE135 := n9_
        have NB123_135 := n10_
        have NB135_123 := n11_
        have NB124_135 := n12_
        have NB135_124 := n13_
        have NB125_135 := n14_
        have NB135_125 := n15_
        have NB126_135 := n16_
        have NB135_126 := n17_
        have NB136_135 := n18_
        have NB135_136 := n19_
        clear n0_ n1_ n2_ n3_ n4_ n5_ n6_ n7_ n8_ n9_ n10_ n11_ n12_ n13_ n14_ n15_ n16_ n17_ n18_ n19_
        clear hb hbox hg
        refine hK.out _ _ ⟨(bqC BK123.out 0).trans rfl, (bqC BK123.out 1).trans rfl, (bqC BK123.out 2).trans rfl, (bqC BK124.out 0).trans rfl, (bqC BK124.out 1).trans rfl, (bqC BK124.out 2).trans rfl, (bqC BK124.out 3).trans rfl, (bqC BK124.out 4).trans rfl, (bqC BK124.out 5).trans rfl, (bqC BK124.out 6).trans rfl⟩ (fun hHeld => ?_)
        clear hK K
        refine norm_ (a' := ?_) ?_ ?_
        rotate_left
        ·show Act.put _ (some 10) _ = _
         simp only [Act.put, List.setIfInBounds_toArray, List.set_cons_zero, List.set_cons_succ, i64_w, i32_w]
         rfl
        exact norm_ (by first | (simp only [putAll, Act.put, List.setIfInBounds_toArray, List.set_cons_zero, List.set_cons_succ]; done) | (simp only [putAll, Act.put, List.setIfInBounds_toArray, List.set_cons_zero, List.set_cons_succ]; rfl)) (hJ1_9_10 (v133, gb135, gb136) _ ⟨hHeld, (GS.rR HO134.out), (GS.bqX BK123.out), (GS.bqX BK124.out), (GS.bqX BK125.out), (GS.bqX BK126.out), (GS.bqX BK135.out), (GS.bqX BK136.out), GW135.out, GE135.out, NB123_135.out, NB135_123.out, NB124_135.out, NB135_124.out, NB125_135.out, NB135_125.out, NB126_135.out, NB135_126.out, NB136_135.out, NB135_136.out, GW136.out, GE136.out, NB123_136.out, NB136_123.out, NB124_136.out, NB136_124.out, NB125_136.out, NB136_125.out, NB126_136.out, NB136_126.out, (GS.lB HB.out)⟩)
      ·skip
       rintro ⟨v133, gb135⟩ w83 ⟨hS_, h0_, h1_, h2_, h3_, h4_, h5_, h6_, h7_, h8_, h9_, h10_, h11_, h12_, h13_, h14_, h15_, h16_⟩
       have n0_ : Aside0 (Kd.R k33 33 w83 w.heap.size (fun k_ => k_ ≠ gb126) v133 t132) := ⟨h0_⟩
       have n1_ : Aside0 (w83.heap[gb123]? = some (.cells #[.int .i64 a0_0, .int .i64 a0_1, .slice A0_2 l0_2.length c0_2] 24 (0, 0))) := ⟨h1_⟩
       have n2_ : Aside0 (w83.heap[gb124]? = some (.cells #[.int .i64 a2_0, .int .i64 a2_1, .int .i64 a2_2, .int .i64 a2_3, .int .i64 a2_4, .int .i64 a2_5, .int .i64 a2_6] 26 (0, 0))) := ⟨h2_⟩
       have n3_ : Aside0 (w83.heap[gb125]? = some (.cells #[.int .i64 0, .int .i64 0, .slice none 0 0] 24 (0, 0))) := ⟨h3_⟩
       have n4_ : Aside0 (w83.heap[gb126]? = some (.cells #[.int .i64 0, .int .i64 0, .int .i64 0, .int .i64 0, .int .i64 0, .int .i64 0, .int .i64 0, .int .i64 0, .int .i64 0, .int .i64 0] 33 (0, 0))) := ⟨h4_⟩
       have n5_ : Aside0 (w83.heap[gb135]? = some (.cells #[.int .i64 0, .int .i64 0, .slice none 0 0] 24 (0, 0))) := ⟨h5_⟩
       have n6_ : Aside0 (w.heap.size ≤ gb135) := ⟨h6_⟩
       have n7_ : Aside0 (w.heap.size ≤ gb135) := ⟨h7_⟩
       have n8_ : Aside0 (gb123 ≠ gb135) := ⟨h8_⟩
       have n9_ : Aside0 (gb135 ≠ gb123) := ⟨h9_⟩
       have n10_ : Aside0 (gb124 ≠ gb135) := ⟨h10_⟩
       have n11_ : Aside0 (gb135 ≠ gb124) := ⟨h11_⟩
       have n12_ : Aside0 (gb125 ≠ gb135) := ⟨h12_⟩
       have n13_ : Aside0 (gb135 ≠ gb125) := ⟨h13_⟩
       have n14_ : Aside0 (gb126 ≠ gb135) := ⟨h14_⟩
       have n15_ : Aside0 (gb135 ≠ gb126) := ⟨h15_⟩
       have n16_ : Aside0 (Below w.heap.size w w83) := ⟨h16_⟩
       clear BK123
       clear BK124
       clear BK125
       clear BK126
       clear HB
       clear h0_ h1_ h2_ h3_ h4_ h5_ h6_ h7_ h8_ h9_ h10_ h11_ h12_ h13_ h14_ h15_ h16_
       have HO134 := n0_
       have BK123 := n1_
       have BK124 := n2_
       have BK125 := n3_
       have BK126 := n4_
       have BK135 := n5_
       have GW135 := n6_
       have GE135 := n7_
       have NB123_135 := n8_
       have NB135_123 := n9_
       have NB124_135 := n10_
       have NB135_124 := n11_
       have NB125_135 := n12_
       have NB135_125 := n13_
       have NB126_135 := n14_
       have NB135_126 := n15_
       have HB := n16_
       clear n0_ n1_ n2_ n3_ n4_ n5_ n6_ n7_ n8_ n9_ n10_ n11_ n12_ n13_ n14_ n15_ n16_
       have hHeld : w83.cell? ⟨gb123, 0, none⟩ = some (.int .i64 a0_0) ∧ w83.cell? ⟨gb123, 1, none⟩ = some (.int .i64 a0_1) ∧ w83.cell? ⟨gb123, 2, none⟩ = some (.slice A0_2 l0_2.length c0_2) ∧ w83.cell? ⟨gb124, 0, none⟩ = some (.int .i64 a2_0) ∧ w83.cell? ⟨gb124, 1, none⟩ = some (.int .i64 a2_1) ∧ w83.cell? ⟨gb124, 2, none⟩ = some (.int .i64 a2_2) ∧ w83.cell? ⟨gb124, 3, none⟩ = some (.int .i64 a2_3) ∧ w83.cell? ⟨gb124, 4, none⟩ = some (.int .i64 a2_4) ∧ w83.cell? ⟨gb124, 5, none⟩ = some (.int .i64 a2_5) ∧ w83.cell? ⟨gb124, 6, none⟩ = some (.int .i64 a2_6) := hS_
       refine norm_ (a' := ?_) ?_ ?_
       rotate_left
       ·simp only [putAll, Act.put, List.setIfInBounds_toArray, List.set_cons_zero, List.set_cons_succ]
        rfl
       refine one_ (i := 10) (N := some 11) #[true, true, true, true, true, true, true, true, true, true, true, false, false] rfl rfl (one_of HT_.out (by kernel_rfl)) (by decide) (fun K hK => ?_)
       refine box_step ?hg (N := 11) ?hd (cs := #[.int .i64 0, .int .i64 0, .int .i64 0, .int .i64 0, .int .i64 0, .int .i64 0, .int .i64 0, .int .i64 0, .int .i64 0, .int .i64 0]) (t := 33) ?hr ?_; (case hd => rfl); (case hg => rfl); (case hr => first | (go_simp; done) | (go_simp; rfl))
       intro gb136 hg w84 hbox hb
       have n0_ := Aside0.mk (Kd.R_below (Kd.R_elderB (GS.rR HO134.out) gb136 (Nat.le_of_eq hg.symm)) hb)
       have n1_ := Aside0.mk (bqB (GS.bqX BK123.out) hb)
       have n2_ := Aside0.mk (bqB (GS.bqX BK124.out) hb)
       have n3_ := Aside0.mk (bqB (GS.bqX BK125.out) hb)
       have n4_ := Aside0.mk (bqB (GS.bqX BK126.out) hb)
       have n5_ := Aside0.mk (bqB (GS.bqX BK135.out) hb)
       have n6_ := Aside0.mk (lqT (GS.lB HB.out) hb)
       have n7_ := Aside0.mk (hbox)
       have n8_ := Aside0.mk ((by rw [hg]; exact (lqZ (GS.lB HB.out)) : w.heap.size ≤ gb136))
       have n9_ := Aside0.mk ((by rw [hg]; exact (lqZ (GS.lB HB.out)) : w.heap.size ≤ gb136))
       have n10_ := Aside0.mk ((by rw [hg]; exact Nat.ne_of_lt (blk_lt (GS.bqX BK123.out)) : gb123 ≠ gb136))
       have n11_ := Aside0.mk ((by rw [hg]; exact Nat.ne_of_gt (blk_lt (GS.bqX BK123.out)) : gb136 ≠ gb123))
       have n12_ := Aside0.mk ((by rw [hg]; exact Nat.ne_of_lt (blk_lt (GS.bqX BK124.out)) : gb124 ≠ gb136))
       have n13_ := Aside0.mk ((by rw [hg]; exact Nat.ne_of_gt (blk_lt (GS.bqX BK124.out)) : gb136 ≠ gb124))
       have n14_ := Aside0.mk ((by rw [hg]; exact Nat.ne_of_lt (blk_lt (GS.bqX BK125.out)) : gb125 ≠ gb136))
       have n15_ := Aside0.mk ((by rw [hg]; exact Nat.ne_of_gt (blk_lt (GS.bqX BK125.out)) : gb136 ≠ gb125))
       have n16_ := Aside0.mk ((by rw [hg]; exact Nat.ne_of_lt (blk_lt (GS.bqX BK126.out)) : gb126 ≠ gb136))
       have n17_ := Aside0.mk ((by rw [hg]; exact Nat.ne_of_gt (blk_lt (GS.bqX BK126.out)) : gb136 ≠ gb126))
       have n18_ := Aside0.mk ((by rw [hg]; exact Nat.ne_of_lt (blk_lt (GS.bqX BK135.out)) : gb135 ≠ gb136))
       have n19_ := Aside0.mk ((by rw [hg]; exact Nat.ne_of_gt (blk_lt (GS.bqX BK135.out)) : gb136 ≠ gb135))
       clear HO134
       clear BK123
       clear BK124
       clear BK125
       clear BK126
       clear BK135
       clear HB
       have HO134 := n0_
       have BK123 := n1_
       have BK124 := n2_
       have BK125 := n3_
       have BK126 := n4_
       have BK135 := n5_
       have HB := n6_
       have BK136 := n7_
       have GW136 := n8_
       have GE136 := n9_
       have NB123_136 := n10_
       have NB136_123 := n11_
       have NB124_136 := n12_
       have NB136_124 := n13_
       have NB125_136 := n14_
       have NB136_125 := n15_
       have NB126_136 := n16_
       have NB136_126 := n17_
       have NB135_136 := n18_
       have NB136_135 := n19_
       clear n0_ n1_ n2_ n3_ n4_ n5_ n6_ n7_ n8_ n9_ n10_ n11_ n12_ n13_ n14_ n15_ n16_ n17_ n18_ n19_
       clear hb hbox hg
       refine hK.out _ _ ⟨(bqC BK123.out 0).trans rfl, (bqC BK123.out 1).trans rfl, (bqC BK123.out 2).trans rfl, (bqC BK124.out 0).trans rfl, (bqC BK124.out 1).trans rfl, (bqC BK124.out 2).trans rfl, (bqC BK124.out 3).trans rfl, (bqC BK124.out 4).trans rfl, (bqC BK124.out 5).trans rfl, (bqC BK124.out 6).trans rfl⟩ (fun hHeld => ?_)
       clear hK K
       refine norm_ (a' := ?_) ?_ ?_
       rotate_left
       ·show Act.put _ (some 11) _ = _
        simp only [Act.put, List.setIfInBounds_toArray, List.set_cons_zero, List.set_cons_succ, i64_w, i32_w]
        rfl
       exact norm_ (by first | (simp only [putAll, Act.put, List.setIfInBounds_toArray, List.set_cons_zero, List.set_cons_succ]; done) | (simp only [putAll, Act.put, List.setIfInBounds_toArray, List.set_cons_zero, List.set_cons_succ]; rfl)) (hJ1_9_10 (v133, gb135, gb136) _ ⟨hHeld, (GS.rR HO134.out), (GS.bqX BK123.out), (GS.bqX BK124.out), (GS.bqX BK125.out), (GS.bqX BK126.out), (GS.bqX BK135.out), (GS.bqX BK136.out), GW135.out, GE135.out, NB123_135.out, NB135_123.out, NB124_135.out, NB135_124.out, NB125_135.out, NB135_125.out, NB126_135.out, NB135_126.out, NB136_135.out, NB135_136.out, GW136.out, GE136.out, NB123_136.out, NB136_123.out, NB124_136.out, NB136_124.out, NB125_136.out, NB136_125.out, NB126_136.out, NB136_126.out, (GS.lB HB.out)⟩)
     rintro ⟨v133, gb135, gb136⟩ w84 ⟨hS_, h0_, h1_, h2_, h3_, h4_, h5_, h6_, h7_, h8_, h9_, h10_, h11_, h12_, h13_, h14_, h15_, h16_, h17_, h18_, h19_, h20_, h21_, h22_, h23_, h24_, h25_, h26_, h27_, h28_, h29_⟩
     have n0_ : Aside0 (Kd.R k33 33 w84 w.heap.size (fun k_ => k_ ≠ gb126 ∧ k_ ≠ gb136) v133 t132) := ⟨h0_⟩
     have n1_ : Aside0 (w84.heap[gb123]? = some (.cells #[.int .i64 a0_0, .int .i64 a0_1, .slice A0_2 l0_2.length c0_2] 24 (0, 0))) := ⟨h1_⟩
     have n2_ : Aside0 (w84.heap[gb124]? = some (.cells #[.int .i64 a2_0, .int .i64 a2_1, .int .i64 a2_2, .int .i64 a2_3, .int .i64 a2_4, .int .i64 a2_5, .int .i64 a2_6] 26 (0, 0))) := ⟨h2_⟩
     have n3_ : Aside0 (w84.heap[gb125]? = some (.cells #[.int .i64 0, .int .i64 0, .slice none 0 0] 24 (0, 0))) := ⟨h3_⟩
     have n4_ : Aside0 (w84.heap[gb126]? = some (.cells #[.int .i64 0, .int .i64 0, .int .i64 0, .int .i64 0, .int .i64 0, .int .i64 0, .int .i64 0, .int .i64 0, .int .i64 0, .int .i64 0] 33 (0, 0))) := ⟨h4_⟩
     have n5_ : Aside0 (w84.heap[gb135]? = some (.cells #[.int .i64 0, .int .i64 0, .slice none 0 0] 24 (0, 0))) := ⟨h5_⟩
     have n6_ : Aside0 (w84.heap[gb136]? = some (.cells #[.int .i64 0, .int .i64 0, .int .i64 0, .int .i64 0, .int .i64 0, .int .i64 0, .int .i64 0, .int .i64 0, .int .i64 0, .int .i64 0] 33 (0, 0))) := ⟨h6_⟩
     have n7_ : Aside0 (w.heap.size ≤ gb135) := ⟨h7_⟩
     have n8_ : Aside0 (w.heap.size ≤ gb135) := ⟨h8_⟩
     have n9_ : Aside0 (gb123 ≠ gb135) := ⟨h9_⟩
     have n10_ : Aside0 (gb135 ≠ gb123) := ⟨h10_⟩
     have n11_ : Aside0 (gb124 ≠ gb135) := ⟨h11_⟩
     have n12_ : Aside0 (gb135 ≠ gb124) := ⟨h12_⟩
     have n13_ : Aside0 (gb125 ≠ gb135) := ⟨h13_⟩
     have n14_ : Aside0 (gb135 ≠ gb125) := ⟨h14_⟩
     have n15_ : Aside0 (gb126 ≠ gb135) := ⟨h15_⟩
     have n16_ : Aside0 (gb135 ≠ gb126) := ⟨h16_⟩
     have n17_ : Aside0 (gb136 ≠ gb135) := ⟨h17_⟩
     have n18_ : Aside0 (gb135 ≠ gb136) := ⟨h18_⟩
     have n19_ : Aside0 (w.heap.size ≤ gb136) := ⟨h19_⟩
     have n20_ : Aside0 (w.heap.size ≤ gb136) := ⟨h20_⟩
     have n21_ : Aside0 (gb123 ≠ gb136) := ⟨h21_⟩
     have n22_ : Aside0 (gb136 ≠ gb123) := ⟨h22_⟩
     have n23_ : Aside0 (gb124 ≠ gb136) := ⟨h23_⟩
     have n24_ : Aside0 (gb136 ≠ gb124) := ⟨h24_⟩
     have n25_ : Aside0 (gb125 ≠ gb136) := ⟨h25_⟩
     have n26_ : Aside0 (gb136 ≠ gb125) := ⟨h26_⟩
     have n27_ : Aside0 (gb126 ≠ gb136) := ⟨h27_⟩
     have n28_ : Aside0 (gb136 ≠ gb126) := ⟨h28_⟩
     have n29_ : Aside0 (Below w.heap.size w w84) := ⟨h29_⟩
     clear BK123
     clear BK124
     clear BK125
     clear BK126
     clear HB
     clear h0_ h1_ h2_ h3_ h4_ h5_ h6_ h7_ h8_ h9_ h10_ h11_ h12_ h13_ h14_ h15_ h16_ h17_ h18_ h19_ h20_ h21_ h22_ h23_ h24_ h25_ h26_ h27_ h28_ h29_
     have HO134 := n0_
     have BK123 := n1_
     have BK124 := n2_
     have BK125 := n3_
     have BK126 := n4_
     have BK135 := n5_
     have BK136 := n6_
     have GW135 := n7_
     have GE135 := n8_
     have NB123_135 := n9_
     have NB135_123 := n10_
     have NB124_135 := n11_
     have NB135_124 := n12_
     have NB125_135 := n13_
     have NB135_125 := n14_
     have NB126_135 := n15_
     have NB135_126 := n16_
     have NB136_135 := n17_
     have NB135_136 := n18_
     have GW136 := n19_
     have GE136 := n20_
     have NB123_136 := n21_
     have NB136_123 := n22_
     have NB124_136 := n23_
     have NB136_124 := n24_
     have NB125_136 := n25_
     have NB136_125 := n26_
     have NB126_136 := n27_
     have NB136_126 := n28_
     have HB := n29_
     clear n0_ n1_ n2_ n3_ n4_ n5_ n6_ n7_ n8_ n9_ n10_ n11_ n12_ n13_ n14_ n15_ n16_ n17_ n18_ n19_ n20_ n21_ n22_ n23_ n24_ n25_ n26_ n27_ n28_ n29_
     have hHeld : w84.cell? ⟨gb123, 0, none⟩ = some (.int .i64 a0_0) ∧ w84.cell? ⟨gb123, 1, none⟩ = some (.int .i64 a0_1) ∧ w84.cell? ⟨gb123, 2, none⟩ = some (.slice A0_2 l0_2.length c0_2) ∧ w84.cell? ⟨gb124, 0, none⟩ = some (.int .i64 a2_0) ∧ w84.cell? ⟨gb124, 1, none⟩ = some (.int .i64 a2_1) ∧ w84.cell? ⟨gb124, 2, none⟩ = some (.int .i64 a2_2) ∧ w84.cell? ⟨gb124, 3, none⟩ = some (.int .i64 a2_3) ∧ w84.cell? ⟨gb124, 4, none⟩ = some (.int .i64 a2_4) ∧ w84.cell? ⟨gb124, 5, none⟩ = some (.int .i64 a2_5) ∧ w84.cell? ⟨gb124, 6, none⟩ = some (.int .i64 a2_6) := hS_
     obtain ⟨Ao87, co87, eo87⟩ := Kd.R_slice HO134.out
     (first | subst eo87 | (injection eo87 with f1_ f2_ f3_; have f4_ := f1_.symm; have f5_ := f3_.symm; clear f1_ f2_ f3_; subst f4_; subst f5_))
     refine norm_ (a' := ?_) ?_ ?_
     rotate_left
     ·simp only [putAll, Act.put, List.setIfInBounds_toArray, List.set_cons_zero, List.set_cons_succ]
      rfl
     refine one_ (i := 11) (N := none) #[true, true, true, true, true, true, true, true, true, true, true, true, false] rfl rfl (one_of HT_.out (by kernel_rfl)) (by decide) (fun K hK => ?_)
     have hs85 : w84.cell? ⟨gb135, 0, none⟩ = some (.int .i64 0) := (bqC BK135.out 0).trans rfl
     have hfs85 := bqF BK135.out 0
     have hns85_0 := NB123_135.out
     have hns85_1 := NB124_135.out
     have hns85_2 := NB125_135.out
     have hns85_3 := NB126_135.out
     have hns85_5 := NB136_135.out
     have hms85_0 := NB135_123.out
     have hms85_1 := NB135_124.out
     have hms85_2 := NB135_125.out
     have hms85_3 := NB135_126.out
     have hms85_5 := NB135_136.out
     have hs86 : w84.cell? ⟨gb135, 1, none⟩ = some (.int .i64 0) := (bqC BK135.out 1).trans rfl
     have hfs86 := bqF BK135.out 1
     have hns86_0 := NB123_135.out
     have hns86_1 := NB124_135.out
     have hns86_2 := NB125_135.out
     have hns86_3 := NB126_135.out
     have hns86_5 := NB136_135.out
     have hms86_0 := NB135_123.out
     have hms86_1 := NB135_124.out
     have hms86_2 := NB135_125.out
     have hms86_3 := NB135_126.out
     have hms86_5 := NB135_136.out
     have hs88 : w84.cell? ⟨gb135, 2, none⟩ = some (.slice none 0 0) := (bqC BK135.out 2).trans rfl
     have hfs88 := bqF BK135.out 2
     have hns88_0 := NB123_135.out
     have hns88_1 := NB124_135.out
     have hns88_2 := NB125_135.out
     have hns88_3 := NB126_135.out
     have hns88_5 := NB136_135.out
     have hms88_0 := NB135_123.out
     have hms88_1 := NB135_124.out
     have hms88_2 := NB135_125.out
     have hms88_3 := NB135_126.out
     have hms88_5 := NB135_136.out
     refine skip_ (w1 := ?_) (by rfl) rfl ?_ ?_
     rotate_left
     ·go_simp
      rfl
     refine hK.out _ _ ⟨(GS.cf hHeld.1), (GS.cf hHeld.2.1), (GS.cf hHeld.2.2.1), (GS.cf hHeld.2.2.2.1), (GS.cf hHeld.2.2.2.2.1), (GS.cf hHeld.2.2.2.2.2.1), (GS.cf hHeld.2.2.2.2.2.2.1), (GS.cf hHeld.2.2.2.2.2.2.2.1), (GS.cf hHeld.2.2.2.2.2.2.2.2.1), (GS.cf hHeld.2.2.2.2.2.2.2.2.2)⟩ (fun hHeld => ?_)
     clear hK K
     refine one_ (i := 12) (N := none) #[true, true, true, true, true, true, true, true, true, true, true, true, true] rfl rfl (one_of HT_.out (by kernel_rfl)) (by decide) (fun K hK => ?_)
     have hs89 : w84.cell? ⟨gb136, 0, none⟩ = some (.int .i64 0) := (bqC BK136.out 0).trans rfl
     have hfs89 := bqF BK136.out 0
     have hns89_0 := NB123_136.out
     have hns89_1 := NB124_136.out
     have hns89_2 := NB125_136.out
     have hns89_3 := NB126_136.out
     have hns89_4 := NB135_136.out
     have hms89_0 := NB136_123.out
     have hms89_1 := NB136_124.out
     have hms89_2 := NB136_125.out
     have hms89_3 := NB136_126.out
     have hms89_4 := NB136_135.out
     have hs90 : w84.cell? ⟨gb136, 1, none⟩ = some (.int .i64 0) := (bqC BK136.out 1).trans rfl
     have hfs90 := bqF BK136.out 1
     have hns90_0 := NB123_136.out
     have hns90_1 := NB124_136.out
     have hns90_2 := NB125_136.out
     have hns90_3 := NB126_136.out
     have hns90_4 := NB135_136.out
     have hms90_0 := NB136_123.out
     have hms90_1 := NB136_124.out
     have hms90_2 := NB136_125.out
     have hms90_3 := NB136_126.out
     have hms90_4 := NB136_135.out
     have hs91 : w84.cell? ⟨gb136, 2, none⟩ = some (.int .i64 0) := (bqC BK136.out 2).trans rfl
     have hfs91 := bqF BK136.out 2
     have hns91_0 := NB123_136.out
     have hns91_1 := NB124_136.out
     have hns91_2 := NB125_136.out
     have hns91_3 := NB126_136.out
     have hns91_4 := NB135_136.out
     have hms91_0 := NB136_123.out
     have hms91_1 := NB136_124.out
     have hms91_2 := NB136_125.out
     have hms91_3 := NB136_126.out
     have hms91_4 := NB136_135.out
     have hs92 : w84.cell? ⟨gb136, 3, none⟩ = some (.int .i64 0) := (bqC BK136.out 3).trans rfl
     have hfs92 := bqF BK136.out 3
     have hns92_0 := NB123_136.out
     have hns92_1 := NB124_136.out
     have hns92_2 := NB125_136.out
     have hns92_3 := NB126_136.out
     have hns92_4 := NB135_136.out
     have hms92_0 := NB136_123.out
     have hms92_1 := NB136_124.out
     have hms92_2 := NB136_125.out
     have hms92_3 := NB136_126.out
     have hms92_4 := NB136_135.out
     have hs93 : w84.cell? ⟨gb136, 4, none⟩ = some (.int .i64 0) := (bqC BK136.out 4).trans rfl
     have hfs93 := bqF BK136.out 4
     have hns93_0 := NB123_136.out
     have hns93_1 := NB124_136.out
     have hns93_2 := NB125_136.out
     have hns93_3 := NB126_136.out
     have hns93_4 := NB135_136.out
     have hms93_0 := NB136_123.out
     have hms93_1 := NB136_124.out
     have hms93_2 := NB136_125.out
     have hms93_3 := NB136_126.out
     have hms93_4 := NB136_135.out
     have hs94 : w84.cell? ⟨gb136, 5, none⟩ = some (.int .i64 0) := (bqC BK136.out 5).trans rfl
     have hfs94 := bqF BK136.out 5
     have hns94_0 := NB123_136.out
     have hns94_1 := NB124_136.out
     have hns94_2 := NB125_136.out
     have hns94_3 := NB126_136.out
     have hns94_4 := NB135_136.out
     have hms94_0 := NB136_123.out
     have hms94_1 := NB136_124.out
     have hms94_2 := NB136_125.out
     have hms94_3 := NB136_126.out
     have hms94_4 := NB136_135.out
     have hs95 : w84.cell? ⟨gb136, 6, none⟩ = some (.int .i64 0) := (bqC BK136.out 6).trans rfl
     have hfs95 := bqF BK136.out 6
     have hns95_0 := NB123_136.out
     have hns95_1 := NB124_136.out
     have hns95_2 := NB125_136.out
     have hns95_3 := NB126_136.out
     have hns95_4 := NB135_136.out
     have hms95_0 := NB136_123.out
     have hms95_1 := NB136_124.out
     have hms95_2 := NB136_125.out
     have hms95_3 := NB136_126.out
     have hms95_4 := NB136_135.out
     have hs96 : w84.cell? ⟨gb136, 7, none⟩ = some (.int .i64 0) := (bqC BK136.out 7).trans rfl
     have hfs96 := bqF BK136.out 7
     have hns96_0 := NB123_136.out
     have hns96_1 := NB124_136.out
     have hns96_2 := NB125_136.out
     have hns96_3 := NB126_136.out
     have hns96_4 := NB135_136.out
     have hms96_0 := NB136_123.out
     have hms96_1 := NB136_124.out
     have hms96_2 := NB136_125.out
     have hms96_3 := NB136_126.out
     have hms96_4 := NB136_135.out
     have hs97 : w84.cell? ⟨gb136, 8, none⟩ = some (.int .i64 0) := (bqC BK136.out 8).trans rfl
     have hfs97 := bqF BK136.out 8
     have hns97_0 := NB123_136.out
     have hns97_1 := NB124_136.out
     have hns97_2 := NB125_136.out
     have hns97_3 := NB126_136.out
     have hns97_4 := NB135_136.out
     have hms97_0 := NB136_123.out
     have hms97_1 := NB136_124.out
     have hms97_2 := NB136_125.out
     have hms97_3 := NB136_126.out
     have hms97_4 := NB136_135.out
     have hs98 : w84.cell? ⟨gb136, 9, none⟩ = some (.int .i64 0) := (bqC BK136.out 9).trans rfl
     have hfs98 := bqF BK136.out 9
     have hns98_0 := NB123_136.out
     have hns98_1 := NB124_136.out
     have hns98_2 := NB125_136.out
     have hns98_3 := NB126_136.out
     have hns98_4 := NB135_136.out
     have hms98_0 := NB136_123.out
     have hms98_1 := NB136_124.out
     have hms98_2 := NB136_125.out
     have hms98_3 := NB136_126.out
     have hms98_4 := NB136_135.out
     refine skip_ (w1 := ?_) (by rfl) rfl ?_ ?_
     rotate_left
     ·go_simp
      rfl
     refine hK.out _ _ ⟨(GS.cf hHeld.1), (GS.cf hHeld.2.1), (GS.cf hHeld.2.2.1), (GS.cf hHeld.2.2.2.1), (GS.cf hHeld.2.2.2.2.1), (GS.cf hHeld.2.2.2.2.2.1), (GS.cf hHeld.2.2.2.2.2.2.1), (GS.cf hHeld.2.2.2.2.2.2.2.1), (GS.cf hHeld.2.2.2.2.2.2.2.2.1), (GS.cf hHeld.2.2.2.2.2.2.2.2.2)⟩ (fun hHeld => ?_)
     clear hK K
     refine done_ (done_of HT_.out (by kernel_rfl)) ?_
     have hnb99 := NB135_123.out
     have hnc99 := NB123_135.out
     have hnb100 := NB135_124.out
     have hnc100 := NB124_135.out
     have hnb101 := NB135_125.out
     have hnc101 := NB125_135.out
     have hnb102 := NB135_126.out
     have hnc102 := NB126_135.out
     have hnb103 := NB135_136.out
     have hnc103 := NB136_135.out
     obtain ⟨hcz104_0, hcz104_1, hcz104_2, hfz104_0, hfz104_1, hfz104_2⟩ := GS.c3 BK135.out
     have hnb105 := NB136_123.out
     have hnc105 := NB123_136.out
     have hnb106 := NB136_124.out
     have hnc106 := NB124_136.out
     have hnb107 := NB136_125.out
     have hnc107 := NB125_136.out
     have hnb108 := NB136_126.out
     have hnc108 := NB126_136.out
     obtain ⟨hcz109_0, hcz109_1, hcz109_2, hcz109_3, hcz109_4, hcz109_5, hcz109_6, hcz109_7, hcz109_8, hcz109_9, hfz109_0, hfz109_1, hfz109_2, hfz109_3, hfz109_4, hfz109_5, hfz109_6, hfz109_7, hfz109_8, hfz109_9⟩ := GS.c10 BK136.out
     try go_wp2_with (first | ((with_reducible refine gate_builtin (b := .append) (xs := #[.tmp 53, .tmp 55]) rfl ?_); at_builtin; refine Kd.R_append k33 (w0 := w) w.heap.size rfl (.tmp 53) (.tmp 55) 22 33 (.agg #[(.int .i64 0), (.int .i64 0), (.int .i64 0), (.int .i64 0), (.int .i64 0), (.int .i64 0), (.int .i64 0), (.int .i64 0), (.int .i64 0), (.int .i64 0)]) 80 rfl Try.underlying22 info33 rfl (by decide) (by omega) (.slice Ao87 t132.length co87) t132 (⟨a0_0, a1, a0_1, (⟨a2_0, a2_1, a2_2, a2_3, a2_4, a2_5, a2_6⟩ : S26)⟩ : S33) [.int .i64 a0_0, .int .i64 a1, .int .i64 a0_1, .int .i64 a2_0, .int .i64 a2_1, .int .i64 a2_2, .int .i64 a2_3, .int .i64 a2_4, .int .i64 a2_5, .int .i64 a2_6] (fun k_ => k_ ≠ gb126 ∧ k_ ≠ gb136) (fun _ => False) rfl (by first | (go_simp; done) | (go_simp; rfl)) ?aP (fun _ hk => hk.elim) ?aF ?aO ?aB ?aS ?aL ?_; (case aP => exact k33_mkM _ _ _ (⟨a0_0, a1, a0_1, (⟨a2_0, a2_1, a2_2, a2_3, a2_4, a2_5, a2_6⟩ : S26)⟩ : S33)); (case aB => exact (GS.lB HB.out)); (case aF => exact (fun k_ hk => ⟨Kd.freshB (GS.bqX BK126.out) k_ hk, Kd.freshB (g := gb136) (o := .cells #[.int .i64 a0_0, .int .i64 a1, .int .i64 a0_1, .int .i64 a2_0, .int .i64 a2_1, .int .i64 a2_2, .int .i64 a2_3, .int .i64 a2_4, .int .i64 a2_5, .int .i64 a2_6] 33 (0, 0)) (GS.bqZ BK136.out) k_ hk⟩)); (case aO => exact (by (with_reducible repeat (first | apply Kd.R_alloc | apply Kd.R_drewN | apply Kd.R_drew)); exact Kd.R_mono (Kd.R_far (p := ⟨gb136, 9, none⟩) (Kd.R_far (p := ⟨gb136, 8, none⟩) (Kd.R_far (p := ⟨gb136, 7, none⟩) (Kd.R_far (p := ⟨gb136, 6, none⟩) (Kd.R_far (p := ⟨gb136, 5, none⟩) (Kd.R_far (p := ⟨gb136, 4, none⟩) (Kd.R_far (p := ⟨gb136, 3, none⟩) (Kd.R_far (p := ⟨gb136, 2, none⟩) (Kd.R_far (p := ⟨gb136, 1, none⟩) (Kd.R_far (p := ⟨gb136, 0, none⟩) (Kd.R_far (p := ⟨gb135, 2, none⟩) (Kd.R_far (p := ⟨gb135, 1, none⟩) (Kd.R_far (p := ⟨gb135, 0, none⟩) (Kd.R_mono (Kd.R_types HO134.out BK135.out (by decide)) (fun k_ hk => (⟨hk, hk.1.2⟩ : _ ∧ k_ ≠ gb136))) (fun _ hk => hk.1.2) (.int .i64 t130)) (fun _ hk => hk.1.2) (.int .i64 t131)) (fun _ hk => hk.1.2) (.slice Ao87 t132.length co87)) (fun _ hk => hk.2) (.int .i64 a0_0)) (fun _ hk => hk.2) (.int .i64 a1)) (fun _ hk => hk.2) (.int .i64 a0_1)) (fun _ hk => hk.2) (.int .i64 a2_0)) (fun _ hk => hk.2) (.int .i64 a2_1)) (fun _ hk => hk.2) (.int .i64 a2_2)) (fun _ hk => hk.2) (.int .i64 a2_3)) (fun _ hk => hk.2) (.int .i64 a2_4)) (fun _ hk => hk.2) (.int .i64 a2_5)) (fun _ hk => hk.2) (.int .i64 a2_6)) (fun _ hk => ⟨hk.1.1.1, hk.1.1.2⟩))); (case aS => exact (lqZ (GS.lB HB.out))); (case aL => have := LMc79.out; omega); intro v138 w110 ho hb hg hat; rw [← Ny137.out] at ho; have n0_ := Aside0.mk (blk_grown (GS.bqX BK123.out) hg (Kd.R_ne HO134.out BK123.out (by decide))); have n1_ := Aside0.mk (blk_grown (GS.bqX BK124.out) hg (Kd.R_ne HO134.out BK124.out (by decide))); have n2_ := Aside0.mk (blk_grown (GS.bqX BK125.out) hg (Kd.R_ne HO134.out BK125.out (by decide))); have n3_ := Aside0.mk (blk_grown (GS.bqX BK126.out) hg (Kd.R_away HO134.out (fun _ hk => hk.1))); have n4_ := Aside0.mk (blk_grown (g := gb135) (o := .cells #[.int .i64 t130, .int .i64 t131, .slice Ao87 t132.length co87] 24 (0, 0)) (GS.bqZ BK135.out) hg (Kd.R_ne HO134.out BK135.out (by decide))); have n5_ := Aside0.mk (blk_grown (g := gb136) (o := .cells #[.int .i64 a0_0, .int .i64 a1, .int .i64 a0_1, .int .i64 a2_0, .int .i64 a2_1, .int .i64 a2_2, .int .i64 a2_3, .int .i64 a2_4, .int .i64 a2_5, .int .i64 a2_6] 33 (0, 0)) (GS.bqZ BK136.out) hg (Kd.R_away HO134.out (fun _ hk => hk.2))); have n6_ := Aside0.mk (hb); have n7_ := Aside0.mk (ho); clear BK123; clear BK124; clear BK125; clear BK126; clear BK135; clear BK136; clear HB; clear HO134; have BK123 := n0_; have BK124 := n1_; have BK125 := n2_; have BK126 := n3_; have BK135 := n4_; have BK136 := n5_; have HB := n6_; have HO139 := n7_; clear n0_ n1_ n2_ n3_ n4_ n5_ n6_ n7_; clear ho hb hg hat; obtain ⟨Ao111, co111, eo111⟩ := Kd.R_slice HO139.out; subst eo111; obtain ⟨hcz112_0, hcz112_1, hcz112_2, hfz112_0, hfz112_1, hfz112_2⟩ := GS.c3 BK135.out))
     have n0_ : Aside0 (Kd.R k33 33 ((w110.setCell ⟨gb135, 2, none⟩ (.slice Ao111 y137.length co111)).setCell ⟨gb135, 1, none⟩ (.int .i64 (wrap64 (t131 + 1)))) w.heap.size (fun k_ => k_ ≠ gb126 ∧ k_ ≠ gb136) (.slice Ao111 y137.length co111) y137) := ⟨by (with_reducible repeat (first | apply Kd.R_alloc | apply Kd.R_drewN | apply Kd.R_drew)); exact Kd.R_mono (Kd.R_far (p := ⟨gb135, 1, none⟩) (Kd.R_far (p := ⟨gb135, 2, none⟩) (Kd.R_types HO139.out BK135.out (by decide)) (fun _ hk => hk.2) (.slice Ao111 y137.length co111)) (fun _ hk => hk.2) (.int .i64 (wrap64 (t131 + 1)))) (fun _ hk => ⟨hk.1.1, hk.1.2⟩)⟩
     have n1_ : Aside0 (((w110.setCell ⟨gb135, 2, none⟩ (.slice Ao111 y137.length co111)).setCell ⟨gb135, 1, none⟩ (.int .i64 (wrap64 (t131 + 1)))).heap[gb123]? = some (.cells #[.int .i64 a0_0, .int .i64 a0_1, .slice A0_2 l0_2.length c0_2] 24 (0, 0))) := ⟨GS.bqX BK123.out⟩
     have n2_ : Aside0 (((w110.setCell ⟨gb135, 2, none⟩ (.slice Ao111 y137.length co111)).setCell ⟨gb135, 1, none⟩ (.int .i64 (wrap64 (t131 + 1)))).heap[gb124]? = some (.cells #[.int .i64 a2_0, .int .i64 a2_1, .int .i64 a2_2, .int .i64 a2_3, .int .i64 a2_4, .int .i64 a2_5, .int .i64 a2_6] 26 (0, 0))) := ⟨GS.bqX BK124.out⟩
     have n3_ : Aside0 (((w110.setCell ⟨gb135, 2, none⟩ (.slice Ao111 y137.length co111)).setCell ⟨gb135, 1, none⟩ (.int .i64 (wrap64 (t131 + 1)))).heap[gb125]? = some (.cells #[.int .i64 0, .int .i64 0, .slice none 0 0] 24 (0, 0))) := ⟨GS.bqX BK125.out⟩
     have n4_ : Aside0 (((w110.setCell ⟨gb135, 2, none⟩ (.slice Ao111 y137.length co111)).setCell ⟨gb135, 1, none⟩ (.int .i64 (wrap64 (t131 + 1)))).heap[gb126]? = some (.cells #[.int .i64 0, .int .i64 0, .int .i64 0, .int .i64 0, .int .i64 0, .int .i64 0, .int .i64 0, .int .i64 0, .int .i64 0, .int .i64 0] 33 (0, 0))) := ⟨GS.bqX BK126.out⟩
     have n5_ : Aside0 (((w110.setCell ⟨gb135, 2, none⟩ (.slice Ao111 y137.length co111)).setCell ⟨gb135, 1, none⟩ (.int .i64 (wrap64 (t131 + 1)))).heap[gb135]? = some (.cells #[.int .i64 t130, .int .i64 (wrap64 (t131 + 1)), .slice Ao111 y137.length co111] 24 (0, 0))) := ⟨GS.bqZ BK135.out⟩
     have n6_ : Aside0 (((w110.setCell ⟨gb135, 2, none⟩ (.slice Ao111 y137.length co111)).setCell ⟨gb135, 1, none⟩ (.int .i64 (wrap64 (t131 + 1)))).heap[gb136]? = some (.cells #[.int .i64 a0_0, .int .i64 a1, .int .i64 a0_1, .int .i64 a2_0, .int .i64 a2_1, .int .i64 a2_2, .int .i64 a2_3, .int .i64 a2_4, .int .i64 a2_5, .int .i64 a2_6] 33 (0, 0))) := ⟨GS.bqX BK136.out⟩
     have n7_ : Aside0 (Below w.heap.size w ((w110.setCell ⟨gb135, 2, none⟩ (.slice Ao111 y137.length co111)).setCell ⟨gb135, 1, none⟩ (.int .i64 (wrap64 (t131 + 1))))) := ⟨GS.lB HB.out⟩
     (try clear HO139)
     (try clear BK123)
     (try clear BK124)
     (try clear BK125)
     (try clear BK126)
     (try clear BK135)
     (try clear BK136)
     (try clear HB)
     generalize ((w110.setCell ⟨gb135, 2, none⟩ (.slice Ao111 y137.length co111)).setCell ⟨gb135, 1, none⟩ (.int .i64 (wrap64 (t131 + 1)))) = w113 at n0_ n1_ n2_ n3_ n4_ n5_ n6_ n7_ ⊢
     have HO139 := n0_
     have BK123 := n1_
     have BK124 := n2_
     have BK125 := n3_
     have BK126 := n4_
     have BK135 := n5_
     have BK136 := n6_
     have HB := n7_
     clear n0_ n1_ n2_ n3_ n4_ n5_ n6_ n7_
     have n0_ := Aside0.mk (Kd.R_drew HO139.out)
     have n1_ := Aside0.mk (bqD BK123.out)
     have n2_ := Aside0.mk (bqD BK124.out)
     have n3_ := Aside0.mk (bqD BK125.out)
     have n4_ := Aside0.mk (bqD BK126.out)
     have n5_ := Aside0.mk (bqD BK135.out)
     have n6_ := Aside0.mk (bqD BK136.out)
     have n7_ := Aside0.mk (lqD HB.out)
     clear HO139
     clear BK123
     clear BK124
     clear BK125
     clear BK126
     clear BK135
     clear BK136
     clear HB
     have HO139 := n0_
     have BK123 := n1_
     have BK124 := n2_
     have BK125 := n3_
     have BK126 := n4_
     have BK135 := n5_
     have BK136 := n6_
     have HB := n7_
     clear n0_ n1_ n2_ n3_ n4_ n5_ n6_ n7_
     refine start_ (n := 5) (S := fun w' => w'.cell? ⟨gb135, 0, none⟩ = some (.int .i64 t130) ∧ w'.cell? ⟨gb135, 1, none⟩ = some (.int .i64 (wrap64 (t131 + 1))) ∧ w'.cell? ⟨gb135, 2, none⟩ = some (.slice Ao111 y137.length co111) ∧ w'.cell? ⟨gb136, 0, none⟩ = some (.int .i64 a0_0) ∧ w'.cell? ⟨gb136, 1, none⟩ = some (.int .i64 a1) ∧ w'.cell? ⟨gb136, 2, none⟩ = some (.int .i64 a0_1) ∧ w'.cell? ⟨gb136, 3, none⟩ = some (.int .i64 a2_0) ∧ w'.cell? ⟨gb136, 4, none⟩ = some (.int .i64 a2_1) ∧ w'.cell? ⟨gb136, 5, none⟩ = some (.int .i64 a2_2) ∧ w'.cell? ⟨gb136, 6, none⟩ = some (.int .i64 a2_3) ∧ w'.cell? ⟨gb136, 7, none⟩ = some (.int .i64 a2_4) ∧ w'.cell? ⟨gb136, 8, none⟩ = some (.int .i64 a2_5) ∧ w'.cell? ⟨gb136, 9, none⟩ = some (.int .i64 a2_6)) (ds := []) #[false, false, false, false, false] (by kernel_rfl) rfl rfl ⟨(bqC BK135.out 0).trans rfl, (bqC BK135.out 1).trans rfl, (bqC BK135.out 2).trans rfl, (bqC BK136.out 0).trans rfl, (bqC BK136.out 1).trans rfl, (bqC BK136.out 2).trans rfl, (bqC BK136.out 3).trans rfl, (bqC BK136.out 4).trans rfl, (bqC BK136.out 5).trans rfl, (bqC BK136.out 6).trans rfl, (bqC BK136.out 7).trans rfl, (bqC BK136.out 8).trans rfl, (bqC BK136.out 9).trans rfl⟩ (fun hHeld => ?_)
     generalize w113.drew = w114 at HO139 BK123 BK124 BK125 BK126 BK135 BK136 HB hHeld ⊢
     refine take_ (i := 0) (N := some 62) (v := ?_) (a' := ?_) #[true, false, false, false, false] rfl rfl (by kernel_rfl) (fun _ _ _ h => h) (Or.inl ⟨by rfl, ?_⟩) hHeld ?_ ?_
     rotate_left
     ·rintro w' ⟨s0, s1, s2, s3, s4, s5, s6, s7, s8, s9, s10, s11, s12⟩
      go_simp
      with_reducible rfl
     rotate_left
     ·simp only [Act.put, List.setIfInBounds_toArray, List.set_cons_zero, List.set_cons_succ, i64_w, i32_w]
      rfl
     refine take_ (i := 1) (N := some 63) (v := ?_) (a' := ?_) #[true, true, false, false, false] rfl rfl (by kernel_rfl) (fun _ _ _ h => h) (Or.inl ⟨by rfl, ?_⟩) hHeld ?_ ?_
     rotate_left
     ·rintro w' ⟨s0, s1, s2, s3, s4, s5, s6, s7, s8, s9, s10, s11, s12⟩
      go_simp
      with_reducible rfl
     rotate_left
     ·simp only [Act.put, List.setIfInBounds_toArray, List.set_cons_zero, List.set_cons_succ, i64_w, i32_w]
      rfl
     refine one_ (i := 2) (N := none) #[true, true, true, false, false] rfl rfl (by kernel_rfl) (by decide) (fun K hK => ?_)
     have hs115 : w114.cell? ⟨gb125, 0, none⟩ = some (.int .i64 0) := (bqC BK125.out 0).trans rfl
     have hfs115 := bqF BK125.out 0
     have hns115_0 := NB123_125.out
     have hns115_1 := NB124_125.out
     have hns115_3 := NB126_125.out
     have hns115_4 := NB135_125.out
     have hns115_5 := NB136_125.out
     have hms115_0 := NB125_123.out
     have hms115_1 := NB125_124.out
     have hms115_3 := NB125_126.out
     have hms115_4 := NB125_135.out
     have hms115_5 := NB125_136.out
     have hs116 : w114.cell? ⟨gb125, 1, none⟩ = some (.int .i64 0) := (bqC BK125.out 1).trans rfl
     have hfs116 := bqF BK125.out 1
     have hns116_0 := NB123_125.out
     have hns116_1 := NB124_125.out
     have hns116_3 := NB126_125.out
     have hns116_4 := NB135_125.out
     have hns116_5 := NB136_125.out
     have hms116_0 := NB125_123.out
     have hms116_1 := NB125_124.out
     have hms116_3 := NB125_126.out
     have hms116_4 := NB125_135.out
     have hms116_5 := NB125_136.out
     have hs117 : w114.cell? ⟨gb125, 2, none⟩ = some (.slice none 0 0) := (bqC BK125.out 2).trans rfl
     have hfs117 := bqF BK125.out 2
     have hns117_0 := NB123_125.out
     have hns117_1 := NB124_125.out
     have hns117_3 := NB126_125.out
     have hns117_4 := NB135_125.out
     have hns117_5 := NB136_125.out
     have hms117_0 := NB125_123.out
     have hms117_1 := NB125_124.out
     have hms117_3 := NB125_126.out
     have hms117_4 := NB125_135.out
     have hms117_5 := NB125_136.out
     refine skip_ (w1 := ?_) (by rfl) rfl ?_ ?_
     rotate_left
     ·go_simp
      rfl
     refine hK.out _ _ ⟨(GS.cf hHeld.1), (GS.cf hHeld.2.1), (GS.cf hHeld.2.2.1), (GS.cf hHeld.2.2.2.1), (GS.cf hHeld.2.2.2.2.1), (GS.cf hHeld.2.2.2.2.2.1), (GS.cf hHeld.2.2.2.2.2.2.1), (GS.cf hHeld.2.2.2.2.2.2.2.1), (GS.cf hHeld.2.2.2.2.2.2.2.2.1), (GS.cf hHeld.2.2.2.2.2.2.2.2.2.1), (GS.cf hHeld.2.2.2.2.2.2.2.2.2.2.1), (GS.cf hHeld.2.2.2.2.2.2.2.2.2.2.2.1), (GS.cf hHeld.2.2.2.2.2.2.2.2.2.2.2.2)⟩ (fun hHeld => ?_)
     clear hK K
     refine one_ (i := 3) (N := none) #[true, true, true, true, false] rfl rfl (by kernel_rfl) (by decide) (fun K hK => ?_)
     have hs118 : w114.cell? ⟨gb126, 0, none⟩ = some (.int .i64 0) := (bqC BK126.out 0).trans rfl
     have hfs118 := bqF BK126.out 0
     have hns118_0 := NB123_126.out
     have hns118_1 := NB124_126.out
     have hns118_2 := NB125_126.out
     have hns118_4 := NB135_126.out
     have hns118_5 := NB136_126.out
     have hms118_0 := NB126_123.out
     have hms118_1 := NB126_124.out
     have hms118_2 := NB126_125.out
     have hms118_4 := NB126_135.out
     have hms118_5 := NB126_136.out
     have hs119 : w114.cell? ⟨gb126, 1, none⟩ = some (.int .i64 0) := (bqC BK126.out 1).trans rfl
     have hfs119 := bqF BK126.out 1
     have hns119_0 := NB123_126.out
     have hns119_1 := NB124_126.out
     have hns119_2 := NB125_126.out
     have hns119_4 := NB135_126.out
     have hns119_5 := NB136_126.out
     have hms119_0 := NB126_123.out
     have hms119_1 := NB126_124.out
     have hms119_2 := NB126_125.out
     have hms119_4 := NB126_135.out
     have hms119_5 := NB126_136.out
     have hs120 : w114.cell? ⟨gb126, 2, none⟩ = some (.int .i64 0) := (bqC BK126.out 2).trans rfl
     have hfs120 := bqF BK126.out 2
     have hns120_0 := NB123_126.out
     have hns120_1 := NB124_126.out
     have hns120_2 := NB125_126.out
     have hns120_4 := NB135_126.out
     have hns120_5 := NB136_126.out
     have hms120_0 := NB126_123.out
     have hms120_1 := NB126_124.out
     have hms120_2 := NB126_125.out
     have hms120_4 := NB126_135.out
     have hms120_5 := NB126_136.out
     have hs121 : w114.cell? ⟨gb126, 3, none⟩ = some (.int .i64 0) := (bqC BK126.out 3).trans rfl
     have hfs121 := bqF BK126.out 3
     have hns121_0 := NB123_126.out
     have hns121_1 := NB124_126.out
     have hns121_2 := NB125_126.out
     have hns121_4 := NB135_126.out
     have hns121_5 := NB136_126.out
     have hms121_0 := NB126_123.out
     have hms121_1 := NB126_124.out
     have hms121_2 := NB126_125.out
     have hms121_4 := NB126_135.out
     have hms121_5 := NB126_136.out
     have hs122 : w114.cell? ⟨gb126, 4, none⟩ = some (.int .i64 0) := (bqC BK126.out 4).trans rfl
     have hfs122 := bqF BK126.out 4
     have hns122_0 := NB123_126.out
     have hns122_1 := NB124_126.out
     have hns122_2 := NB125_126.out
     have hns122_4 := NB135_126.out
     have hns122_5 := NB136_126.out
     have hms122_0 := NB126_123.out
     have hms122_1 := NB126_124.out
     have hms122_2 := NB126_125.out
     have hms122_4 := NB126_135.out
     have hms122_5 := NB126_136.out
     have hs123 : w114.cell? ⟨gb126, 5, none⟩ = some (.int .i64 0) := (bqC BK126.out 5).trans rfl
     have hfs123 := bqF BK126.out 5
     have hns123_0 := NB123_126.out
     have hns123_1 := NB124_126.out
     have hns123_2 := NB125_126.out
     have hns123_4 := NB135_126.out
     have hns123_5 := NB136_126.out
     have hms123_0 := NB126_123.out
     have hms123_1 := NB126_124.out
     have hms123_2 := NB126_125.out
     have hms123_4 := NB126_135.out
     have hms123_5 := NB126_136.out
     have hs124 : w114.cell? ⟨gb126, 6, none⟩ = some (.int .i64 0) := (bqC BK126.out 6).trans rfl
     have hfs124 := bqF BK126.out 6
     have hns124_0 := NB123_126.out
     have hns124_1 := NB124_126.out
     have hns124_2 := NB125_126.out
     have hns124_4 := NB135_126.out
     have hns124_5 := NB136_126.out
     have hms124_0 := NB126_123.out
     have hms124_1 := NB126_124.out
     have hms124_2 := NB126_125.out
     have hms124_4 := NB126_135.out
     have hms124_5 := NB126_136.out
     have hs125 : w114.cell? ⟨gb126, 7, none⟩ = some (.int .i64 0) := (bqC BK126.out 7).trans rfl
     have hfs125 := bqF BK126.out 7
     have hns125_0 := NB123_126.out
     have hns125_1 := NB124_126.out
     have hns125_2 := NB125_126.out
     have hns125_4 := NB135_126.out
     have hns125_5 := NB136_126.out
     have hms125_0 := NB126_123.out
     have hms125_1 := NB126_124.out
     have hms125_2 := NB126_125.out
     have hms125_4 := NB126_135.out
     have hms125_5 := NB126_136.out
     have hs126 : w114.cell? ⟨gb126, 8, none⟩ = some (.int .i64 0) := (bqC BK126.out 8).trans rfl
     have hfs126 := bqF BK126.out 8
     have hns126_0 := NB123_126.out
     have hns126_1 := NB124_126.out
     have hns126_2 := NB125_126.out
     have hns126_4 := NB135_126.out
     have hns126_5 := NB136_126.out
     have hms126_0 := NB126_123.out
     have hms126_1 := NB126_124.out
     have hms126_2 := NB126_125.out
     have hms126_4 := NB126_135.out
     have hms126_5 := NB126_136.out
     have hs127 : w114.cell? ⟨gb126, 9, none⟩ = some (.int .i64 0) := (bqC BK126.out 9).trans rfl
     have hfs127 := bqF BK126.out 9
     have hns127_0 := NB123_126.out
     have hns127_1 := NB124_126.out
     have hns127_2 := NB125_126.out
     have hns127_4 := NB135_126.out
     have hns127_5 := NB136_126.out
     have hms127_0 := NB126_123.out
     have hms127_1 := NB126_124.out
     have hms127_2 := NB126_125.out
     have hms127_4 := NB126_135.out
     have hms127_5 := NB126_136.out
     refine skip_ (w1 := ?_) (by rfl) rfl ?_ ?_
     rotate_left
     ·go_simp
      rfl
     refine hK.out _ _ ⟨(GS.cf hHeld.1), (GS.cf hHeld.2.1), (GS.cf hHeld.2.2.1), (GS.cf hHeld.2.2.2.1), (GS.cf hHeld.2.2.2.2.1), (GS.cf hHeld.2.2.2.2.2.1), (GS.cf hHeld.2.2.2.2.2.2.1), (GS.cf hHeld.2.2.2.2.2.2.2.1), (GS.cf hHeld.2.2.2.2.2.2.2.2.1), (GS.cf hHeld.2.2.2.2.2.2.2.2.2.1), (GS.cf hHeld.2.2.2.2.2.2.2.2.2.2.1), (GS.cf hHeld.2.2.2.2.2.2.2.2.2.2.2.1), (GS.cf hHeld.2.2.2.2.2.2.2.2.2.2.2.2)⟩ (fun hHeld => ?_)
     clear hK K
     refine pure_ (i := 4) (N := some 8) (v := ?_) (a' := ?_) #[true, true, true, true, true] rfl rfl (by kernel_rfl) (fun _ _ _ h => h) (Or.inl ⟨by rfl, ?_⟩) ?_ ?_
     rotate_left
     ·intro w'
      go_simp
      with_reducible rfl
     rotate_left
     ·simp only [Act.put, List.setIfInBounds_toArray, List.set_cons_zero, List.set_cons_succ, i64_w, i32_w]
      rfl
     refine done_ (by kernel_rfl) ?_
     try go_wp2
     refine bodyPost_ret (results_list (rs := [.cell 6 24, .cell 7 33, .tmp 8]) rfl (by simp) (.cell gb125 24 #[.int .i64 t130, .int .i64 (wrap64 (t131 + 1)), .slice Ao111 y137.length co111] (0, 0) _ rfl (GS.bqZ BK125.out) Try.underlying24 rfl (by kernel_rfl) (.cell gb126 33 #[.int .i64 a0_0, .int .i64 a1, .int .i64 a0_1, .int .i64 a2_0, .int .i64 a2_1, .int .i64 a2_2, .int .i64 a2_3, .int .i64 a2_4, .int .i64 a2_5, .int .i64 a2_6] (0, 0) _ rfl (GS.bqZ BK126.out) Try.underlying33 rfl (by kernel_rfl) (.tmp .nil)))) rfl ?_
     exact ⟨_, by first | rfl | (simp [errW_none, errW_some] <;> rfl) | (simp [*, errW_none, errW_some] <;> rfl), by (with_reducible repeat (first | apply Kd.R_alloc | apply Kd.R_drewN | apply Kd.R_drew)); exact Kd.R_mono (Kd.R_far (p := ⟨gb126, 9, none⟩) (Kd.R_far (p := ⟨gb126, 8, none⟩) (Kd.R_far (p := ⟨gb126, 7, none⟩) (Kd.R_far (p := ⟨gb126, 6, none⟩) (Kd.R_far (p := ⟨gb126, 5, none⟩) (Kd.R_far (p := ⟨gb126, 4, none⟩) (Kd.R_far (p := ⟨gb126, 3, none⟩) (Kd.R_far (p := ⟨gb126, 2, none⟩) (Kd.R_far (p := ⟨gb126, 1, none⟩) (Kd.R_far (p := ⟨gb126, 0, none⟩) (Kd.R_far (p := ⟨gb125, 2, none⟩) (Kd.R_far (p := ⟨gb125, 1, none⟩) (Kd.R_far (p := ⟨gb125, 0, none⟩) (Kd.R_mono (Kd.R_types HO139.out BK125.out (by decide)) (fun k_ hk => (⟨hk, hk.1.1⟩ : _ ∧ k_ ≠ gb126))) (fun _ hk => hk.1.2) (.int .i64 t130)) (fun _ hk => hk.1.2) (.int .i64 (wrap64 (t131 + 1)))) (fun _ hk => hk.1.2) (.slice Ao111 y137.length co111)) (fun _ hk => hk.2) (.int .i64 a0_0)) (fun _ hk => hk.2) (.int .i64 a1)) (fun _ hk => hk.2) (.int .i64 a0_1)) (fun _ hk => hk.2) (.int .i64 a2_0)) (fun _ hk => hk.2) (.int .i64 a2_1)) (fun _ hk => hk.2) (.int .i64 a2_2)) (fun _ hk => hk.2) (.int .i64 a2_3)) (fun _ hk => hk.2) (.int .i64 a2_4)) (fun _ hk => hk.2) (.int .i64 a2_5)) (fun _ hk => hk.2) (.int .i64 a2_6)) (fun _ hk => trivial), GS.lB HB.out⟩
    ·rw [if_neg c79] at H
     exact absurd H (by simp)
   ·rw [if_neg c77] at H
    have c77b0 : (x9_3 == 0) = false := beq_eq_false_iff_ne.mpr c77
    try simp only [beq_self_eq_true, Bool.not_true, Bool.false_or, Bool.true_and] at c77b0
    have c77b1 : (x9_3 != 0) = true := bne_iff_ne.mpr c77
    simp only [Option.some.injEq, Prod.mk.injEq] at H
    obtain ⟨rfl, rfl, rfl, rfl, rfl, rfl, rfl, rfl, rfl, rfl, rfl, rfl, rfl, rfl⟩ := H
    have hnb128 := NB125_123.out
    have hnc128 := NB123_125.out
    have hnb129 := NB125_124.out
    have hnc129 := NB124_125.out
    have hnb130 := NB125_126.out
    have hnc130 := NB126_125.out
    obtain ⟨hcz131_0, hcz131_1, hcz131_2, hfz131_0, hfz131_1, hfz131_2⟩ := GS.c3 BK125.out
    have hnb132 := NB126_123.out
    have hnc132 := NB123_126.out
    have hnb133 := NB126_124.out
    have hnc133 := NB124_126.out
    obtain ⟨hcz134_0, hcz134_1, hcz134_2, hcz134_3, hcz134_4, hcz134_5, hcz134_6, hcz134_7, hcz134_8, hcz134_9, hfz134_0, hfz134_1, hfz134_2, hfz134_3, hfz134_4, hfz134_5, hfz134_6, hfz134_7, hfz134_8, hfz134_9⟩ := GS.c10 BK126.out
    go_wp2
    refine bodyPost_ret (results_list (rs := [.cell 6 24, .cell 7 33, .tmp 8]) rfl (by simp) (.cell gb125 24 #[.int .i64 0, .int .i64 0, .slice none 0 0] (0, 0) _ rfl (GS.bqZ BK125.out) Try.underlying24 rfl (by kernel_rfl) (.cell gb126 33 #[.int .i64 0, .int .i64 0, .int .i64 0, .int .i64 0, .int .i64 0, .int .i64 0, .int .i64 0, .int .i64 0, .int .i64 0, .int .i64 0] (0, 0) _ rfl (GS.bqZ BK126.out) Try.underlying33 rfl (by kernel_rfl) (.tmp .nil)))) rfl ?_
    exact ⟨_, by first | rfl | (simp [errW_none, errW_some] <;> rfl) | (simp [*, errW_none, errW_some] <;> rfl), by first | exact Kd.R_nil _ _ _ _ _ | exact Kd.N_nil _ _ _ _ _ | exact Kd.V_nil _ _ _ _ _ | exact Kd.Q_nil _ _ _ _ _ | exact Kd.S_nil _ _ _ _ _, GS.lB HB.out⟩

end Go.Proofs.Ytfafeeobjlkjnaa.K
