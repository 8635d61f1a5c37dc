-- PRINTED by print.py (a twelfth state) out of the translation. Not trusted: Lean checks it.
import Derived.Test.YtfafeeobjlkjnaaK0
import Derived.Test.YtfafeeobjlkjnaaGShort
import Derived.Test.YtfafeeobjlkjnaaGSym
import Derived.Test.YtfafeeobjlkjnaaK9
import Derived.Test.YtfafeeobjlkjnaaGHeard
namespace Go.Proofs.Ytfafeeobjlkjnaa.K
open Go.RowKit Go.Proofs.YtfafeeobjlkjnaaW.PrintWords Go.Proofs.YtfafeeobjlkjnaaW.PrintLast Go.Proofs.YtfafeeobjlkjnaaW.PrintMore
attribute [local go_sem] max2_int min2_int max_two min_two max_three min_three max_four min_four   -- for this text's walks alone
set_option linter.unusedVariables false
set_option linter.unusedSimpArgs false

/-! ### spilelaw42_SenderOrder_1: function 26 -/
def spilelaw42_SenderOrder_1.l0 : Nat → List Int → Int → Int → Int → Int → List (S33) → Int → Int → List (S33) → Option (Int × Int × (List (S33)))
 | 0, _, _, _, _, _, _, _, _, _ => none
 | k + 1, x11, x12, x13, x422000, x422001, x422002, x429000, x429001, x429002 => if x13 < x12 then (if 0 ≤ x13 then (if x13 < (x11.length : Int) then ((spileref42_Copy.f x429000 x429001 x429002).bind fun bt430 => ((sender_Heard.f k bt430.1 bt430.2.1 bt430.2.2 x422000 (rd x11 x13)).bind fun bt435 => (if bt435.2.2.2 = 0 then (spilelaw42_SenderOrder_1.l0 k x11 x12 (wrap64 (x13 + 1)) x422000 x422001 x422002 bt435.1 bt435.2.1 bt435.2.2.1) else (spilelaw42_SenderOrder_1.l0 k x11 x12 (wrap64 (x13 + 1)) x422000 x422001 x422002 x429000 x429001 x429002)))) else (none)) else (none)) else (some (x429000, x429001, x429002))
def spilelaw42_SenderOrder_1.f (k : Nat) (l0 : List Int) (a1_0 : Int) (a1_1 : Int) (l1_2 : List (S33)) : Option (Int × Int × (List (S33))) := (spileref42_Copy.f a1_0 a1_1 l1_2).bind fun bt423 => (spilelaw42_SenderOrder_1.l0 k l0 (l0.length : Int) 0 a1_0 a1_1 l1_2 bt423.1 bt423.2.1 bt423.2.2)
theorem spilelaw42_SenderOrder_1.mono_l : ∀ k, (∀ y0 y1 y2 y3 y4 y5 y6 y7 y8, LeO (spilelaw42_SenderOrder_1.l0 k y0 y1 y2 y3 y4 y5 y6 y7 y8) (spilelaw42_SenderOrder_1.l0 (k + 1) y0 y1 y2 y3 y4 y5 y6 y7 y8))
 | 0 => fun _ _ _ _ _ _ _ _ _ r h => by simp [spilelaw42_SenderOrder_1.l0] at h
 | k + 1 => by
  have ih0 := spilelaw42_SenderOrder_1.mono_l k
  ·intro y0 y1 y2 y3 y4 y5 y6 y7 y8
   unfold spilelaw42_SenderOrder_1.l0
   repeat' first
   | (with_reducible exact ih0 _ _ _ _ _ _ _ _ _)
   | (with_reducible exact sender_Heard.mono _ _ _ _ _ _)
   | (with_reducible exact LeO.refl _)
   | (with_reducible exact LeO.none _)
   | (with_reducible refine LeO.ite ?_ ?_)
   | (with_reducible refine LeO.bind ?_ (fun _ => ?_))
   | exact ih0 _ _ _ _ _ _ _ _ _
   | exact sender_Heard.mono _ _ _ _ _ _
   | exact LeO.none _
   | refine LeO.ite ?_ ?_
   | refine LeO.bind ?_ (fun _ => ?_)
theorem spilelaw42_SenderOrder_1.mono : ∀ a0 a1 a2 a3 k, LeO (spilelaw42_SenderOrder_1.f k a0 a1 a2 a3) (spilelaw42_SenderOrder_1.f (k + 1) a0 a1 a2 a3) := by
 intro a0 a1 a2 a3 k
 have ih0 := spilelaw42_SenderOrder_1.mono_l k
 unfold spilelaw42_SenderOrder_1.f
 repeat' first
   | (with_reducible exact ih0 _ _ _ _ _ _ _ _ _)
   | (with_reducible exact sender_Heard.mono _ _ _ _ _ _)
   | (with_reducible exact LeO.refl _)
   | (with_reducible exact LeO.none _)
   | (with_reducible refine LeO.ite ?_ ?_)
   | (with_reducible refine LeO.bind ?_ (fun _ => ?_))
   | exact ih0 _ _ _ _ _ _ _ _ _
   | exact sender_Heard.mono _ _ _ _ _ _
   | exact LeO.none _
   | refine LeO.ite ?_ ?_
   | refine LeO.bind ?_ (fun _ => ?_)
def spilelaw42_SenderOrder_1.T5 : Bool × List (List Nat × List Nat) := (true, [([], []), ([0], [0]), ([], []), ([2], [2]), ([], []), ([3, 4], [3, 4]), ([1, 5, 1], [1, 5]), ([6], [6]), ([7], [7]), ([7], [7]), ([], []), ([10, 8, 6, 0, 1, 2, 3, 4, 5, 6, 7, 8, 10], [8, 10]), ([9, 11, 0, 1, 2, 3, 4, 5, 6, 7, 8, 9, 10, 11], [9])])
def spilelaw42_SenderOrder_1.B5 : List Nat := [0, 1, 0, 4, 0, 28, 63, 127, 255, 255, 0, 1535, 4095]
theorem spilelaw42_SenderOrder_1.tab5 : rtab .any (opsOf Try.f26 5) = spilelaw42_SenderOrder_1.T5 := by kernel_rfl
theorem spilelaw42_SenderOrder_1.bits5 : waitsOk spilelaw42_SenderOrder_1.T5.2 spilelaw42_SenderOrder_1.B5 = true := by kernel_rfl
set_option maxHeartbeats 8000000 in
set_option maxRecDepth 100000 in
theorem spilelaw42_SenderOrder_1.calls (k : Nat) (gb421 : Nat) (A0 : Option Addr) (c0 : Nat) (l0 : List Int) (a1_0 : Int) (a1_1 : Int) (A1_2 : Option Addr) (c1_2 : Nat) (l1_2 : List (S33)) (r1 : Int) (r2 : Int) (r3 : List (S33)) (w : World) (hr0 : Kd.C (Kd.int .i64) w A0 l0.length l0) (hc0 : l0.length ≤ c0) (hr1_2 : Kd.C k33 w A1_2 l1_2.length l1_2) (hc1_2 : l1_2.length ≤ c1_2) (hbk : w.heap[gb421]? = some (.cells #[.int .i64 a1_0, .int .i64 a1_1, .slice A1_2 l1_2.length c1_2] 24 (0, 0))) (h : spilelaw42_SenderOrder_1.f k l0 a1_0 a1_1 l1_2 = some (r1, r2, r3)) :
  Calls Try.prog 26 #[.slice A0 l0.length c0, .pointer (some ⟨gb421, 0, none⟩)] w fun e w' => ∃ v2_ : Value, e = .returned (.agg #[.int .i64 r1, .int .i64 r2, v2_]) ∧ Kd.R k33 33 w' w.heap.size (fun _ => True) v2_ r3 ∧ Below w.heap.size w w' := by
 have hu24 := Try.underlying24
 have hu44 := Try.underlying44
 have HR0 := Aside0.mk hr0
 have HC0 := Aside0.mk hc0
 clear hr0 hc0
 have HR1_2 := Aside0.mk hr1_2
 have HC1_2 := Aside0.mk hc1_2
 clear hr1_2 hc1_2
 have HB := Aside0.mk (Below.refl w.heap.size w)
 have BK421 := Aside0.mk hbk
 clear hbk
 have H : ((spileref42_Copy.f a1_0 a1_1 l1_2).bind fun bt423 => (spilelaw42_SenderOrder_1.l0 k l0 (l0.length : Int) 0 a1_0 a1_1 l1_2 bt423.1 bt423.2.1 bt423.2.2)) = some (r1, r2, r3) := h
 clear h
 replace H := Option.bind_eq_some_iff.mp H
 obtain ⟨⟨t423, t424, t425⟩, A30, H⟩ := H
 replace H : (spilelaw42_SenderOrder_1.l0 k l0 (l0.length : Int) 0 a1_0 a1_1 l1_2 t423 t424 t425) = some (r1, r2, r3) := H
 have A3 := Aside0.mk A30
 clear A30
 have H' := Aside0.mk H
 clear H
 go_enter Try.func26, Try.ntmps26
 go_wp2_with (first | ((with_reducible refine gqD (N := 3) rfl ?_); refine box_event ?hg (N := 3) ?hd (cs := #[.int .i64 0, .int .i64 0, .slice none 0 0]) (t := 24) ?hr ?_; (case hd => rfl); (case hg => rfl); (case hr => first | (go_simp; done) | (go_simp; rfl)); intro gb422 hg w5 hbox hb; have n0_ := Aside0.mk (bqB (GS.bqX BK421.out) hb); have n1_ := Aside0.mk (lqT (by repeat (first | (with_reducible first | exact HB.out | apply lqA | apply lqN | apply lqD) | exact HB.out)) hb); have n2_ := Aside0.mk (hbox); have n3_ := Aside0.mk ((by rw [hg]; exact (lqZ (by repeat (first | (with_reducible first | exact HB.out | apply lqA | apply lqN | apply lqD) | exact HB.out))) : w.heap.size ≤ gb422)); have n4_ := Aside0.mk ((by rw [hg]; exact (lqZ (by repeat (first | (with_reducible first | exact HB.out | apply lqA | apply lqN | apply lqD) | exact HB.out))) : w.heap.size ≤ gb422)); have n5_ := Aside0.mk ((by rw [hg]; exact Nat.ne_of_lt (blk_lt (GS.bqX BK421.out)) : gb421 ≠ gb422)); have n6_ := Aside0.mk ((by rw [hg]; exact Nat.ne_of_gt (blk_lt (GS.bqX BK421.out)) : gb422 ≠ gb421)); clear BK421; clear HB; have BK421 := n0_; have HB := n1_; have BK422 := n2_; have GW422 := n3_; have GE422 := n4_; have NB421_422 := n5_; have NB422_421 := n6_; clear n0_ n1_ n2_ n3_ n4_ n5_ n6_; clear hb hbox hg; have hnb6 := NB421_422.out; have hnc6 := NB422_421.out; have hcz7_0 : w5.cell? ⟨gb421, 0, none⟩ = some (.int .i64 a1_0) := (bqC BK421.out 0).trans rfl; have hcz7_1 : w5.cell? ⟨gb421, 1, none⟩ = some (.int .i64 a1_1) := (bqC BK421.out 1).trans rfl; have hcz7_2 : w5.cell? ⟨gb421, 2, none⟩ = some (.slice A1_2 l1_2.length c1_2) := (bqC BK421.out 2).trans rfl; have hfz7_0 := bqF BK421.out 0; have hfz7_1 := bqF BK421.out 1; have hfz7_2 := bqF BK421.out 2) | ((with_reducible refine gqC (f := 15) rfl ?_); refine goesL_ (some 10) rfl rfl Try.func15 (by kernel_rfl) rfl #[.agg #[.int .i64 a1_0, .int .i64 a1_1, .slice A1_2 l1_2.length c1_2]] rfl (by (try simp only [List.map_toArray, List.map_cons, List.map_nil]); first | done | rfl | (simp only [List.length_drop, List.length_take]; rfl)) ?_; (with_reducible refine (spileref42_Copy.calls a1_0 a1_1 _ _ l1_2 t423 t424 t425 _ ?side1 ?side2 A3.out).mono ?_); (case side1 => repeat (first | exact (Kd.C_below HR1_2.out HB.out) | (with_reducible refine Kd.C_alloc ?_ _) | (with_reducible refine Kd.C_drewN ?_ _) | (with_reducible refine Kd.C_drew ?_))); (case side2 => exact HC1_2.out); rintro e w8 ⟨v426, rfl, ho0, hb⟩; refine ⟨_, rfl, ?_⟩; have n0_ := Aside0.mk (Kd.R_lower ho0 (lqZ (by repeat (first | (with_reducible first | exact HB.out | apply lqA | apply lqN | apply lqD | refine lqS ?_ GE422.out) | exact HB.out)))); have n1_ := Aside0.mk (bqB (GS.bqX BK421.out) hb); have n2_ := Aside0.mk (bqB (GS.bqX BK422.out) hb); have n3_ := Aside0.mk (lqT (by repeat (first | (with_reducible first | exact HB.out | apply lqA | apply lqN | apply lqD | refine lqS ?_ GE422.out) | exact HB.out)) hb); clear BK421; clear BK422; clear HB; have HO427 := n0_; have BK421 := n1_; have BK422 := n2_; have HB := n3_; clear n0_ n1_ n2_ n3_; (try clear hb); (try clear hb2); (try clear hk); (try clear hi); (try clear ho0)) | ((with_reducible refine gqD (N := 4) rfl ?_); refine box_event ?hg (N := 4) ?hd (cs := #[.int .i64 0, .int .i64 0, .slice none 0 0]) (t := 24) ?hr ?_; (case hd => rfl); (case hg => rfl); (case hr => first | (go_simp; done) | (go_simp; rfl)); intro gb428 hg w9 hbox hb; have n0_ := Aside0.mk (Kd.R_below (by (with_reducible repeat (first | apply Kd.R_alloc | apply Kd.R_drewN | apply Kd.R_drew)); exact HO427.out) hb); have n1_ := Aside0.mk (bqB (GS.bqX BK421.out) hb); have n2_ := Aside0.mk (bqB (GS.bqX BK422.out) hb); have n3_ := Aside0.mk (lqT (by repeat (first | (with_reducible first | exact HB.out | apply lqA | apply lqN | apply lqD | refine lqS ?_ GE422.out) | exact HB.out)) hb); have n4_ := Aside0.mk (hbox); have n5_ := Aside0.mk ((by rw [hg]; exact (lqZ (by repeat (first | (with_reducible first | exact HB.out | apply lqA | apply lqN | apply lqD | refine lqS ?_ GE422.out) | exact HB.out))) : w.heap.size ≤ gb428)); have n6_ := Aside0.mk ((by rw [hg]; exact (lqZ (by repeat (first | (with_reducible first | exact HB.out | apply lqA | apply lqN | apply lqD | refine lqS ?_ GE422.out) | exact HB.out))) : w.heap.size ≤ gb428)); have n7_ := Aside0.mk ((by rw [hg]; exact Nat.ne_of_lt (blk_lt (GS.bqX BK421.out)) : gb421 ≠ gb428)); have n8_ := Aside0.mk ((by rw [hg]; exact Nat.ne_of_gt (blk_lt (GS.bqX BK421.out)) : gb428 ≠ gb421)); have n9_ := Aside0.mk ((by rw [hg]; exact Nat.ne_of_lt (blk_lt (GS.bqX BK422.out)) : gb422 ≠ gb428)); have n10_ := Aside0.mk ((by rw [hg]; exact Nat.ne_of_gt (blk_lt (GS.bqX BK422.out)) : gb428 ≠ gb422)); clear HO427; clear BK421; clear BK422; clear HB; have HO427 := n0_; have BK421 := n1_; have BK422 := n2_; have HB := n3_; have BK428 := n4_; have GW428 := n5_; have GE428 := n6_; have NB421_428 := n7_; have NB428_421 := n8_; have NB422_428 := n9_; have NB428_422 := n10_; clear n0_ n1_ n2_ n3_ n4_ n5_ n6_ n7_ n8_ n9_ n10_; clear hb hbox hg; have hnb10 := NB428_421.out; have hnc10 := NB421_428.out; have hnb11 := NB428_422.out; have hnc11 := NB422_428.out; have hcz12_0 : w9.cell? ⟨gb428, 0, none⟩ = some (.int .i64 0) := (bqC BK428.out 0).trans rfl; have hcz12_1 : w9.cell? ⟨gb428, 1, none⟩ = some (.int .i64 0) := (bqC BK428.out 1).trans rfl; have hcz12_2 : w9.cell? ⟨gb428, 2, none⟩ = some (.slice none 0 0) := (bqC BK428.out 2).trans rfl; have hfz12_0 := bqF BK428.out 0; have hfz12_1 := bqF BK428.out 1; have hfz12_2 := bqF BK428.out 2; obtain ⟨Ao13, co13, eo13⟩ := Kd.R_slice HO427.out; subst eo13))
 go_loopg [13] k (fun kq v13 w' => ∃ (x13_1 : Int) (x429000_1 : Int) (x429001_1 : Int) (x429002_1 : List (S33)) (u429002 : Value), v13 = .int .i64 x13_1 ∧ Aside0 (spilelaw42_SenderOrder_1.l0 kq l0 (l0.length : Int) x13_1 a1_0 a1_1 l1_2 x429000_1 x429001_1 x429002_1 = some (r1, r2, r3)) ∧ Aside0 (kq ≤ k) ∧ Aside0 (Kd.R k33 33 w' w.heap.size (fun _ => True) u429002 x429002_1) ∧ Aside0 (w'.heap[gb421]? = some (.cells #[.int .i64 a1_0, .int .i64 a1_1, (.slice A1_2 l1_2.length c1_2)] 24 (0, 0))) ∧ Aside0 (w'.heap[gb422]? = some (.cells #[.int .i64 0, .int .i64 0, (.slice none 0 0)] 24 (0, 0))) ∧ Aside0 (w'.heap[gb428]? = some (.cells #[.int .i64 x429000_1, .int .i64 x429001_1, u429002] 24 (0, 0))) ∧ Aside0 (Below w.heap.size w w'))
 case atStart => exact ⟨(0), (t423), (t424), (t425), (.slice Ao13 t425.length co13), (by first | rfl | (simp; done) | (simp [*]; done)), H', ⟨Nat.le_refl _⟩, ⟨by (with_reducible repeat (first | apply Kd.R_alloc | apply Kd.R_drewN | apply Kd.R_drew)); exact Kd.R_mono (Kd.R_far (p := ⟨gb428, 2, none⟩) (Kd.R_far (p := ⟨gb428, 1, none⟩) (Kd.R_far (p := ⟨gb428, 0, none⟩) (Kd.R_types HO427.out BK428.out (by decide)) (fun _ hk => hk.2) (.int .i64 t423)) (fun _ hk => hk.2) (.int .i64 t424)) (fun _ hk => hk.2) (.slice Ao13 t425.length co13)) (fun _ hk => trivial)⟩, ⟨GS.bqX BK421.out⟩, ⟨GS.bqX BK422.out⟩, ⟨GS.bqZ BK428.out⟩, ⟨by repeat (first | (with_reducible first | exact HB.out | apply lqA | apply lqN | apply lqD | refine lqS ?_ GE422.out | refine lqS ?_ GE428.out) | exact HB.out)⟩⟩
 case round =>
  clear H'
  try clear c1
  try clear c2
  try clear p2
  try clear c6
  try clear c10
  try clear c11
  try clear hcz12_0
  try clear hcz12_1
  try clear hcz12_2
  try clear hcz7_0
  try clear hcz7_1
  try clear hcz7_2
  try clear hfz12_0
  try clear hfz12_1
  try clear hfz12_2
  try clear hfz7_0
  try clear hfz7_1
  try clear hfz7_2
  obtain ⟨x13_1, x429000_1, x429001_1, x429002_1, u429002, rfl, HA, HK1, HO_429002, BK421, BK422, BK428, HB⟩ := hrel
  cases gk with
  | zero => exact absurd HA.out (by simp [spilelaw42_SenderOrder_1.l0])
  | succ k1 =>
   have H := HA.out
   clear HA
   simp only [spilelaw42_SenderOrder_1.l0] at H
   by_cases c14 : x13_1 < (l0.length : Int)
   ·rw [if_pos c14] at H
    have c14b0 : decide (x13_1 < (l0.length : Int)) = true := decide_eq_true c14
    clear c14
    by_cases c15 : 0 ≤ x13_1
    ·rw [if_pos c15] at H
     have c15b0 : decide (0 ≤ x13_1) = true := decide_eq_true c15
     clear c15
     by_cases c16 : x13_1 < (l0.length : Int)
     ·rw [if_pos c16] at H
      have c16b0 : decide (x13_1 < (l0.length : Int)) = true := decide_eq_true c16
      clear c16
      replace H := Option.bind_eq_some_iff.mp H
      obtain ⟨⟨t430, t431, t432⟩, A170, H⟩ := H
      replace H : ((sender_Heard.f k1 t430 t431 t432 a1_0 (rd l0 x13_1)).bind fun bt435 => (if bt435.2.2.2 = 0 then (spilelaw42_SenderOrder_1.l0 k1 l0 (l0.length : Int) (wrap64 (x13_1 + 1)) a1_0 a1_1 l1_2 bt435.1 bt435.2.1 bt435.2.2.1) else (spilelaw42_SenderOrder_1.l0 k1 l0 (l0.length : Int) (wrap64 (x13_1 + 1)) a1_0 a1_1 l1_2 x429000_1 x429001_1 x429002_1))) = some (r1, r2, r3) := H
      have A17 := Aside0.mk A170
      clear A170
      replace H := Option.bind_eq_some_iff.mp H
      obtain ⟨⟨t435, t436, t437, t440⟩, A180, H⟩ := H
      replace H : (if t440 = 0 then (spilelaw42_SenderOrder_1.l0 k1 l0 (l0.length : Int) (wrap64 (x13_1 + 1)) a1_0 a1_1 l1_2 t435 t436 t437) else (spilelaw42_SenderOrder_1.l0 k1 l0 (l0.length : Int) (wrap64 (x13_1 + 1)) a1_0 a1_1 l1_2 x429000_1 x429001_1 x429002_1)) = some (r1, r2, r3) := H
      have A18 := Aside0.mk A180
      clear A180
      by_cases c19 : t440 = 0
      ·rw [if_pos c19] at H
       have c19b0 : (t440 == 0) = true := beq_iff_eq.mpr c19
       try simp only [beq_self_eq_true, Bool.not_true, Bool.false_or, Bool.true_and] at c19b0
       have c19b1 : (t440 != 0) = false := bne_eq_false_iff_eq.mpr c19
       clear c19
       have H' := Aside0.mk H
       clear H
       have p429 : 0 ≤ (x13_1 : Int) := of_decide_eq_true (by first | (with_reducible assumption) | assumption)
       have q429 : x13_1 < (l0.length : Int) := of_decide_eq_true (by first | (with_reducible assumption) | assumption)
       obtain ⟨ad429, e429, hx429_0⟩ := Kd.at_int HR0.out x13_1 p429 q429
       cases e429
       replace hx429_0 := (HB.out.cell (World.block_lt_of_cell? w _ hx429_0)).trans hx429_0
       replace p429 := eq_true p429
       replace q429 := eq_true q429
       obtain ⟨Ao20, co20, eo20⟩ := Kd.R_slice HO_429002.out
       subst eo20
       try go_wp2
       have n0_ := Aside0.mk (Kd.R_drew HO_429002.out)
       have n1_ := Aside0.mk (bqD BK421.out)
       have n2_ := Aside0.mk (bqD BK422.out)
       have n3_ := Aside0.mk (bqD BK428.out)
       have n4_ := Aside0.mk (lqD HB.out)
       clear HO_429002
       clear BK421
       clear BK422
       clear BK428
       clear HB
       have HO_429002 := n0_
       have BK421 := n1_
       have BK422 := n2_
       have BK428 := n3_
       have HB := n4_
       clear n0_ n1_ n2_ n3_ n4_
       refine start_ (n := 13) (S := fun w' => True) (ds := []) #[false, false, false, false, false, false, false, false, false, false, false, false, false] (by kernel_rfl) rfl rfl trivial (fun hHeld => ?_); refine with_tabW spilelaw42_SenderOrder_1.tab5 spilelaw42_SenderOrder_1.bits5 (fun HT_ HW_ => ?_)
       generalize wr.drew = w21 at HO_429002 BK421 BK422 BK428 HB hHeld ⊢
       refine pure_ (i := 2) (N := some 20) (v := ?_) (a' := ?_) #[false, false, true, false, false, false, false, false, false, false, false, false, false] rfl rfl (any_of HT_.out (by kernel_rfl)) (fun _ _ _ h => h) (Or.inl ⟨by rfl, ?_⟩) ?_ ?_
       rotate_left
       ·intro w'
        go_simp
        with_reducible rfl
       rotate_left
       ·simp only [Act.put, List.setIfInBounds_toArray, List.set_cons_zero, List.set_cons_succ, i64_w, i32_w]
        rfl
       refine pure_ (i := 4) (N := some 22) (v := ?_) (a' := ?_) #[false, false, true, false, true, false, false, false, false, false, false, false, false] rfl rfl (any_of HT_.out (by kernel_rfl)) (fun _ _ _ h => h) (Or.inl ⟨by rfl, ?_⟩) ?_ ?_
       rotate_left
       ·intro w'
        go_simp
        with_reducible rfl
       rotate_left
       ·simp only [Act.put, List.setIfInBounds_toArray, List.set_cons_zero, List.set_cons_succ, i64_w, i32_w]
        rfl
       refine inv_at [0, 1, 3, 5, 6, 7, 8, 9, 10, 11, 12] (fun a0_ b a w' => ∃ (v433 : Value) (v438 : Value) (gb441 : Nat) (m1_ : Value) (m6_ : Value) (m7_ : Value) (m8_ : Value) (m10_ : Value), a = putSel a0_ b [(0, 18, .agg #[.int .i64 x429000_1, .int .i64 x429001_1, .slice Ao20 x429002_1.length co20]), (1, 19, m1_), (3, 21, .int .i64 a1_0), (5, 23, .agg #[.int .i64 a1_0, .int .i64 (rd l0 x13_1)]), (6, 24, m6_), (7, 17, m7_), (8, 25, m8_), (9, 26, .int .i64 t440), (10, 7, m10_), (12, 8, .int .i64 t440)] ∧ (Kd.R k33 33 w' w.heap.size (fun _ => True) (.slice Ao20 x429002_1.length co20) x429002_1) ∧ (w'.heap[gb421]? = some (.cells #[.int .i64 a1_0, .int .i64 a1_1, .slice A1_2 l1_2.length c1_2] 24 (0, 0))) ∧ (w'.heap[gb422]? = some (.cells #[.int .i64 0, .int .i64 0, .slice none 0 0] 24 (0, 0))) ∧ (w'.heap[gb428]? = some (.cells #[.int .i64 x429000_1, .int .i64 x429001_1, .slice Ao20 x429002_1.length co20] 24 (0, 0))) ∧ (Below w.heap.size w w') ∧ (b 10 = true → b 11 = false → w'.heap[gb441]? = some (.cells #[.int .i64 0, .int .i64 0, .slice none 0 0] 24 (0, 0))) ∧ (b 10 = true → w.heap.size ≤ gb441) ∧ (b 10 = true → w.heap.size ≤ gb441) ∧ (b 10 = true → gb421 ≠ gb441) ∧ (b 10 = true → gb441 ≠ gb421) ∧ (b 10 = true → gb422 ≠ gb441) ∧ (b 10 = true → gb441 ≠ gb422) ∧ (b 10 = true → gb428 ≠ gb441) ∧ (b 10 = true → gb441 ≠ gb428) ∧ (b 11 = true → w'.heap[gb441]? = some (.cells #[.int .i64 t435, .int .i64 t436, v438] 24 (0, 0))) ∧ (b 1 = true → Kd.R k33 33 w' w.heap.size (fun k_ => some k_ ≠ (.slice Ao20 x429002_1.length co20 : Value).ownBlock) v433 t432) ∧ (b 6 = true → Kd.R k33 33 w' w.heap.size (fun k_ => some k_ ≠ (.slice Ao20 x429002_1.length co20 : Value).ownBlock) v438 t437) ∧ (b 1 = true → (m1_ : Value) = .agg #[.int .i64 t430, .int .i64 t431, v433]) ∧ (b 6 = true → (m6_ : Value) = .tuple #[.agg #[.int .i64 t435, .int .i64 t436, v438], .int .i64 t440]) ∧ (b 7 = true → (m7_ : Value) = .tuple #[.agg #[.int .i64 t435, .int .i64 t436, v438], .int .i64 t440]) ∧ (b 8 = true → (m8_ : Value) = .agg #[.int .i64 t435, .int .i64 t436, v438]) ∧ (b 10 = true → (m10_ : Value) = .pointer (some ⟨gb441, 0, none⟩))) HT_.out HW_.out (by kernel_rfl) (by kernel_rfl) ?_ ?_ ?_
       ·exact ⟨.bool false, .bool false, 0, .bool false, .bool false, .bool false, .bool false, .bool false, by simp only [putSel, Bool.false_eq_true, if_false], HO_429002.out, BK421.out, BK422.out, BK428.out, HB.out, fun h_ => absurd h_ (by decide), fun h_ => absurd h_ (by decide), fun h_ => absurd h_ (by decide), fun h_ => absurd h_ (by decide), fun h_ => absurd h_ (by decide), fun h_ => absurd h_ (by decide), fun h_ => absurd h_ (by decide), fun h_ => absurd h_ (by decide), fun h_ => absurd h_ (by decide), fun h_ => absurd h_ (by decide), fun h_ => absurd h_ (by decide), fun h_ => absurd h_ (by decide), fun h_ => absurd h_ (by decide), fun h_ => absurd h_ (by decide), fun h_ => absurd h_ (by decide), fun h_ => absurd h_ (by decide), fun h_ => absurd h_ (by decide)⟩
       ·skip
        clear BK421 BK422 BK428 HB HO_429002
        refine steps_cons ?_ ?_
        ·rintro b a w' ⟨v433, v438, gb441, m1_, m6_, m7_, m8_, m10_, ha, Q_HO_429002, Q_BK421, Q_BK422, Q_BK428, Q_HB, Q_BK441, Q_GW441, Q_GE441, Q_NB421_441, Q_NB441_421, Q_NB422_441, Q_NB441_422, Q_NB428_441, Q_NB441_428, Q_BK441_e11, Q_HO434, Q_HO439, Q_X1_, Q_X6_, Q_X7_, Q_X8_, Q_X10_⟩ hb_ hon hoff
         refine ⟨_, rfl, fun K hK => ?_⟩
         have e4 : a.tmps[4]? = some (.pointer (some ⟨gb428, 0, none⟩)) := by rw [ha]; exact (putSel_off rfl).trans rfl
         replace ha := Aside0.mk ha
         have HO_429002 := Aside0.mk Q_HO_429002
         have BK421 := Aside0.mk Q_BK421
         have BK422 := Aside0.mk Q_BK422
         have BK428 := Aside0.mk Q_BK428
         have HB := Aside0.mk Q_HB
         have hc0_ : w'.cell? ⟨gb428, 0, none⟩ = some (.int .i64 x429000_1) := (bqC BK428.out 0).trans rfl
         have hc1_ : w'.cell? ⟨gb428, 1, none⟩ = some (.int .i64 x429001_1) := (bqC BK428.out 1).trans rfl
         have hc2_ : w'.cell? ⟨gb428, 2, none⟩ = some (.slice Ao20 x429002_1.length co20) := (bqC BK428.out 2).trans rfl
         refine value_ (w1 := w') (v := .agg #[.int .i64 x429000_1, .int .i64 x429001_1, .slice Ao20 x429002_1.length co20]) (by rfl) rfl ?_ ?_
         ·go_simp
          (try simp only [i64_w])
          try rfl
         refine hK.out _ _ ⟨v433, v438, gb441, m1_, m6_, m7_, m8_, m10_, (by rw [ha.out]; exact putSel_upk 0 hb_ rfl rfl rfl), Q_HO_429002, Q_BK421, Q_BK422, Q_BK428, Q_HB, Q_BK441, Q_GW441, Q_GE441, Q_NB421_441, Q_NB441_421, Q_NB422_441, Q_NB441_422, Q_NB428_441, Q_NB441_428, fun h0_ => absurd ((hoff 11 (by kernel_rfl)).symm.trans h0_) (by decide), fun h0_ => absurd ((hoff 1 (by kernel_rfl)).symm.trans h0_) (by decide), fun h0_ => absurd ((hoff 6 (by kernel_rfl)).symm.trans h0_) (by decide), fun h0_ => absurd ((hoff 1 (by kernel_rfl)).symm.trans h0_) (by decide), fun h0_ => absurd ((hoff 6 (by kernel_rfl)).symm.trans h0_) (by decide), fun h0_ => absurd ((hoff 7 (by kernel_rfl)).symm.trans h0_) (by decide), fun h0_ => absurd ((hoff 8 (by kernel_rfl)).symm.trans h0_) (by decide), Q_X10_⟩
        refine steps_cons ?_ ?_
        ·rintro b a w' ⟨v433, v438, gb441, m1_, m6_, m7_, m8_, m10_, ha, Q_HO_429002, Q_BK421, Q_BK422, Q_BK428, Q_HB, Q_BK441, Q_GW441, Q_GE441, Q_NB421_441, Q_NB441_421, Q_NB422_441, Q_NB441_422, Q_NB428_441, Q_NB441_428, Q_BK441_e11, Q_HO434, Q_HO439, Q_X1_, Q_X6_, Q_X7_, Q_X8_, Q_X10_⟩ hb_ hon hoff
         refine ⟨_, rfl, fun K hK => ?_⟩
         have e18 : a.tmps[18]? = some (.agg #[.int .i64 x429000_1, .int .i64 x429001_1, .slice Ao20 x429002_1.length co20]) := by rw [ha]; exact putSel_on (e := (0, 18, .agg #[.int .i64 x429000_1, .int .i64 x429001_1, .slice Ao20 x429002_1.length co20])) 0 rfl rfl (hon 0 (by kernel_rfl)) rfl
         replace ha := Aside0.mk ha
         have HO_429002 := Aside0.mk Q_HO_429002
         have BK421 := Aside0.mk Q_BK421
         have BK422 := Aside0.mk Q_BK422
         have BK428 := Aside0.mk Q_BK428
         have HB := Aside0.mk Q_HB
         refine goes_ Try.func15 (by kernel_rfl) rfl #[.agg #[.int .i64 x429000_1, .int .i64 x429001_1, .slice Ao20 x429002_1.length co20]] (by rfl) rfl rfl (by first | (simp only [List.map_toArray, List.map_cons, List.map_nil, Act.eval, Array.getD_eq_getD_getElem?, Option.getD_some, e18]; done) | (simp only [List.map_toArray, List.map_cons, List.map_nil, Act.eval, Array.getD_eq_getD_getElem?, Option.getD_some, e18]; rfl)) ?_
         with_reducible refine (spileref42_Copy.calls x429000_1 x429001_1 _ _ x429002_1 t430 t431 t432 _ ?side1 ?side2 A17.out).mono ?_
         (case side1 => repeat (first | exact (Kd.R_reads' HO_429002.out).2.2 | (with_reducible refine Kd.C_alloc ?_ _) | (with_reducible refine Kd.C_drewN ?_ _) | (with_reducible refine Kd.C_drew ?_)))
         (case side2 => exact (Kd.R_reads' HO_429002.out).2.1)
         rintro e w22 ⟨v433, rfl, ho0, hb⟩
         refine ⟨_, rfl, ?_⟩
         have n0_ := Aside0.mk (Kd.R_elder' (by (with_reducible repeat (first | apply Kd.R_alloc | apply Kd.R_drewN | apply Kd.R_drew)); exact HO_429002.out) (Kd.R_base ho0) hb)
         have n1_ := Aside0.mk (Kd.R_lower (Kd.R_new' ho0 (Kd.R_lt (by (with_reducible repeat (first | apply Kd.R_alloc | apply Kd.R_drewN | apply Kd.R_drew)); exact HO_429002.out))) (lqZ (by repeat (first | (with_reducible first | exact HB.out | apply lqA | apply lqN | apply lqD | refine lqS ?_ GE422.out | refine lqS ?_ GE428.out) | exact HB.out))))
         have n2_ := Aside0.mk (bqB (GS.bqX BK421.out) hb)
         have n3_ := Aside0.mk (bqB (GS.bqX BK422.out) hb)
         have n4_ := Aside0.mk (bqB (GS.bqX BK428.out) hb)
         have n5_ := Aside0.mk (lqT (by repeat (first | (with_reducible first | exact HB.out | apply lqA | apply lqN | apply lqD | refine lqS ?_ GE422.out | refine lqS ?_ GE428.out) | exact HB.out)) hb)
         have z_BK441 := fun (h0_ : b 10 = true) (h1_ : b 11 = false) => (show w22.heap[gb441]? = some (.cells #[.int .i64 0, .int .i64 0, .slice none 0 0] 24 (0, 0)) from by first | exact (bqB (GS.bqX (Q_BK441 h0_ h1_)) hb))
         clear HO_429002
         clear BK421
         clear BK422
         clear BK428
         clear HB
         have HO_429002 := n0_
         have HO434 := n1_
         have BK421 := n2_
         have BK422 := n3_
         have BK428 := n4_
         have HB := n5_
         clear n0_ n1_ n2_ n3_ n4_ n5_
         (try clear hb)
         (try clear hb2)
         (try clear hk)
         (try clear hi)
         (try clear ho0)
         refine hK.out _ _ ⟨v433, v438, gb441, (.agg #[.int .i64 t430, .int .i64 t431, v433]), m6_, m7_, m8_, m10_, (by rw [ha.out]; exact putSel_upk 1 hb_ rfl rfl rfl), (by (with_reducible repeat (first | apply Kd.R_alloc | apply Kd.R_drewN | apply Kd.R_drew)); exact Kd.R_mono HO_429002.out (fun _ hk => GS.cj hk)), (GS.bqX BK421.out), (GS.bqX BK422.out), (GS.bqX BK428.out), (by repeat (first | (with_reducible first | exact HB.out | apply lqA | apply lqN | apply lqD | refine lqS ?_ GE422.out | refine lqS ?_ GE428.out) | exact HB.out)), z_BK441, Q_GW441, Q_GE441, Q_NB421_441, Q_NB441_421, Q_NB422_441, Q_NB441_422, Q_NB428_441, Q_NB441_428, fun h0_ => absurd ((hoff 11 (by kernel_rfl)).symm.trans h0_) (by decide), fun _ => (by (with_reducible repeat (first | apply Kd.R_alloc | apply Kd.R_drewN | apply Kd.R_drew)); exact Kd.R_mono HO434.out (fun _ hk => GS.cj hk)), fun h0_ => absurd ((hoff 6 (by kernel_rfl)).symm.trans h0_) (by decide), fun _ => rfl, fun h0_ => absurd ((hoff 6 (by kernel_rfl)).symm.trans h0_) (by decide), fun h0_ => absurd ((hoff 7 (by kernel_rfl)).symm.trans h0_) (by decide), fun h0_ => absurd ((hoff 8 (by kernel_rfl)).symm.trans h0_) (by decide), Q_X10_⟩
        refine steps_cons ?_ ?_
        ·rintro b a w' ⟨v433, v438, gb441, m1_, m6_, m7_, m8_, m10_, ha, Q_HO_429002, Q_BK421, Q_BK422, Q_BK428, Q_HB, Q_BK441, Q_GW441, Q_GE441, Q_NB421_441, Q_NB441_421, Q_NB422_441, Q_NB441_422, Q_NB428_441, Q_NB441_428, Q_BK441_e11, Q_HO434, Q_HO439, Q_X1_, Q_X6_, Q_X7_, Q_X8_, Q_X10_⟩ hb_ hon hoff
         refine ⟨_, rfl, fun K hK => ?_⟩
         have e20 : a.tmps[20]? = some (.pointer (some ⟨gb421, 0, none⟩)) := by rw [ha]; exact (putSel_off rfl).trans rfl
         replace ha := Aside0.mk ha
         have HO_429002 := Aside0.mk Q_HO_429002
         have BK421 := Aside0.mk Q_BK421
         have BK422 := Aside0.mk Q_BK422
         have BK428 := Aside0.mk Q_BK428
         have HB := Aside0.mk Q_HB
         have hc0_ : w'.cell? ⟨gb421, 0, none⟩ = some (.int .i64 a1_0) := (bqC BK421.out 0).trans rfl
         have hc1_ : w'.cell? ⟨gb421, 1, none⟩ = some (.int .i64 a1_1) := (bqC BK421.out 1).trans rfl
         have hc2_ : w'.cell? ⟨gb421, 2, none⟩ = some (.slice A1_2 l1_2.length c1_2) := (bqC BK421.out 2).trans rfl
         refine value_ (w1 := w') (v := .int .i64 a1_0) (by rfl) rfl ?_ ?_
         ·go_simp
          (try simp only [i64_w])
          try rfl
         refine hK.out _ _ ⟨v433, v438, gb441, m1_, m6_, m7_, m8_, m10_, (by rw [ha.out]; exact putSel_upk 2 hb_ rfl rfl rfl), Q_HO_429002, Q_BK421, Q_BK422, Q_BK428, Q_HB, Q_BK441, Q_GW441, Q_GE441, Q_NB421_441, Q_NB441_421, Q_NB422_441, Q_NB441_422, Q_NB428_441, Q_NB441_428, fun h0_ => absurd ((hoff 11 (by kernel_rfl)).symm.trans h0_) (by decide), Q_HO434, fun h0_ => absurd ((hoff 6 (by kernel_rfl)).symm.trans h0_) (by decide), Q_X1_, fun h0_ => absurd ((hoff 6 (by kernel_rfl)).symm.trans h0_) (by decide), fun h0_ => absurd ((hoff 7 (by kernel_rfl)).symm.trans h0_) (by decide), fun h0_ => absurd ((hoff 8 (by kernel_rfl)).symm.trans h0_) (by decide), Q_X10_⟩
        refine steps_cons ?_ ?_
        ·rintro b a w' ⟨v433, v438, gb441, m1_, m6_, m7_, m8_, m10_, ha, Q_HO_429002, Q_BK421, Q_BK422, Q_BK428, Q_HB, Q_BK441, Q_GW441, Q_GE441, Q_NB421_441, Q_NB441_421, Q_NB422_441, Q_NB441_422, Q_NB428_441, Q_NB441_428, Q_BK441_e11, Q_HO434, Q_HO439, Q_X1_, Q_X6_, Q_X7_, Q_X8_, Q_X10_⟩ hb_ hon hoff
         refine ⟨_, rfl, fun K hK => ?_⟩
         have e21 : a.tmps[21]? = some (.int .i64 a1_0) := by rw [ha]; exact putSel_on (e := (3, 21, .int .i64 a1_0)) 2 rfl rfl (hon 3 (by kernel_rfl)) rfl
         have e22 : a.tmps[22]? = some (.int .i64 (rd l0 x13_1)) := by rw [ha]; exact (putSel_off rfl).trans rfl
         replace ha := Aside0.mk ha
         have HO_429002 := Aside0.mk Q_HO_429002
         have BK421 := Aside0.mk Q_BK421
         have BK422 := Aside0.mk Q_BK422
         have BK428 := Aside0.mk Q_BK428
         have HB := Aside0.mk Q_HB
         refine value_ (w1 := w') (v := .agg #[.int .i64 a1_0, .int .i64 (rd l0 x13_1)]) (by rfl) rfl ?_ ?_
         ·go_simp
          (try simp only [i64_w])
          try rfl
         refine hK.out _ _ ⟨v433, v438, gb441, m1_, m6_, m7_, m8_, m10_, (by rw [ha.out]; exact putSel_upk 3 hb_ rfl rfl rfl), Q_HO_429002, Q_BK421, Q_BK422, Q_BK428, Q_HB, Q_BK441, Q_GW441, Q_GE441, Q_NB421_441, Q_NB441_421, Q_NB422_441, Q_NB441_422, Q_NB428_441, Q_NB441_428, fun h0_ => absurd ((hoff 11 (by kernel_rfl)).symm.trans h0_) (by decide), Q_HO434, fun h0_ => absurd ((hoff 6 (by kernel_rfl)).symm.trans h0_) (by decide), Q_X1_, fun h0_ => absurd ((hoff 6 (by kernel_rfl)).symm.trans h0_) (by decide), fun h0_ => absurd ((hoff 7 (by kernel_rfl)).symm.trans h0_) (by decide), fun h0_ => absurd ((hoff 8 (by kernel_rfl)).symm.trans h0_) (by decide), Q_X10_⟩
        refine steps_cons ?_ ?_
        ·rintro b a w' ⟨v433, v438, gb441, m1_, m6_, m7_, m8_, m10_, ha, Q_HO_429002, Q_BK421, Q_BK422, Q_BK428, Q_HB, Q_BK441, Q_GW441, Q_GE441, Q_NB421_441, Q_NB441_421, Q_NB422_441, Q_NB441_422, Q_NB428_441, Q_NB441_428, Q_BK441_e11, Q_HO434, Q_HO439, Q_X1_, Q_X6_, Q_X7_, Q_X8_, Q_X10_⟩ hb_ hon hoff
         refine ⟨_, rfl, fun K hK => ?_⟩
         have e19 : a.tmps[19]? = some (m1_) := by rw [ha]; exact putSel_on (e := (1, 19, m1_)) 1 rfl rfl (hon 1 (by kernel_rfl)) rfl
         rw [Q_X1_ (hon 1 (by kernel_rfl))] at e19
         have e23 : a.tmps[23]? = some (.agg #[.int .i64 a1_0, .int .i64 (rd l0 x13_1)]) := by rw [ha]; exact putSel_on (e := (5, 23, .agg #[.int .i64 a1_0, .int .i64 (rd l0 x13_1)])) 3 rfl rfl (hon 5 (by kernel_rfl)) rfl
         replace ha := Aside0.mk ha
         have HO_429002 := Aside0.mk Q_HO_429002
         have BK421 := Aside0.mk Q_BK421
         have BK422 := Aside0.mk Q_BK422
         have BK428 := Aside0.mk Q_BK428
         have HB := Aside0.mk Q_HB
         have HO434 := Aside0.mk (Q_HO434 (hon 1 (by kernel_rfl)))
         obtain ⟨Ao24, co24, eo24⟩ := Kd.R_slice HO434.out
         (first | subst eo24 | (injection eo24 with f1_ f2_ f3_; have f4_ := f1_.symm; have f5_ := f3_.symm; clear f1_ f2_ f3_; subst f4_; subst f5_))
         refine goes_ Try.func22 (by kernel_rfl) rfl #[.agg #[.int .i64 t430, .int .i64 t431, .slice Ao24 t432.length co24], .agg #[.int .i64 a1_0, .int .i64 (rd l0 x13_1)]] (by rfl) rfl rfl (by first | (simp only [List.map_toArray, List.map_cons, List.map_nil, Act.eval, Array.getD_eq_getD_getElem?, Option.getD_some, e19, e23]; done) | (simp only [List.map_toArray, List.map_cons, List.map_nil, Act.eval, Array.getD_eq_getD_getElem?, Option.getD_some, e19, e23]; rfl)) ?_
         with_reducible refine (sender_Heard.calls k1 t430 t431 _ _ t432 a1_0 (rd l0 x13_1) t435 t436 t437 t440 _ ?side1 ?side2 A18.out).mono ?_
         (case side1 => repeat (first | exact (Kd.R_reads' HO434.out).2.2 | (with_reducible refine Kd.C_alloc ?_ _) | (with_reducible refine Kd.C_drewN ?_ _) | (with_reducible refine Kd.C_drew ?_)))
         (case side2 => exact (Kd.R_reads' HO434.out).2.1)
         rintro e w25 ⟨v438, rfl, ho0, hb⟩
         refine ⟨_, rfl, ?_⟩
         have n0_ := Aside0.mk (Kd.R_elder' (by (with_reducible repeat (first | apply Kd.R_alloc | apply Kd.R_drewN | apply Kd.R_drew)); exact HO_429002.out) (Kd.R_base ho0) hb)
         have n1_ := Aside0.mk (Kd.R_elder' (by (with_reducible repeat (first | apply Kd.R_alloc | apply Kd.R_drewN | apply Kd.R_drew)); exact HO434.out) (Kd.R_base ho0) hb)
         have n2_ := Aside0.mk (Kd.R_lower (Kd.R_new' (Kd.R_new' ho0 (Kd.R_lt (by (with_reducible repeat (first | apply Kd.R_alloc | apply Kd.R_drewN | apply Kd.R_drew)); exact HO_429002.out))) (Kd.R_lt (by (with_reducible repeat (first | apply Kd.R_alloc | apply Kd.R_drewN | apply Kd.R_drew)); exact HO434.out))) (lqZ (by repeat (first | (with_reducible first | exact HB.out | apply lqA | apply lqN | apply lqD | refine lqS ?_ GE422.out | refine lqS ?_ GE428.out) | exact HB.out))))
         have n3_ := Aside0.mk (bqB (GS.bqX BK421.out) hb)
         have n4_ := Aside0.mk (bqB (GS.bqX BK422.out) hb)
         have n5_ := Aside0.mk (bqB (GS.bqX BK428.out) hb)
         have n6_ := Aside0.mk (lqT (by repeat (first | (with_reducible first | exact HB.out | apply lqA | apply lqN | apply lqD | refine lqS ?_ GE422.out | refine lqS ?_ GE428.out) | exact HB.out)) hb)
         have z_BK441 := fun (h0_ : b 10 = true) (h1_ : b 11 = false) => (show w25.heap[gb441]? = some (.cells #[.int .i64 0, .int .i64 0, .slice none 0 0] 24 (0, 0)) from by first | exact (bqB (GS.bqX (Q_BK441 h0_ h1_)) hb))
         clear HO_429002
         clear HO434
         clear BK421
         clear BK422
         clear BK428
         clear HB
         have HO_429002 := n0_
         have HO434 := n1_
         have HO439 := n2_
         have BK421 := n3_
         have BK422 := n4_
         have BK428 := n5_
         have HB := n6_
         clear n0_ n1_ n2_ n3_ n4_ n5_ n6_
         (try clear hb)
         (try clear hb2)
         (try clear hk)
         (try clear hi)
         (try clear ho0)
         refine hK.out _ _ ⟨.slice Ao24 t432.length co24, v438, gb441, m1_, (.tuple #[.agg #[.int .i64 t435, .int .i64 t436, v438], .int .i64 t440]), m7_, m8_, m10_, (by rw [ha.out]; exact putSel_upk 4 hb_ rfl rfl rfl), (by (with_reducible repeat (first | apply Kd.R_alloc | apply Kd.R_drewN | apply Kd.R_drew)); exact Kd.R_mono HO_429002.out (fun _ _ => trivial)), (GS.bqX BK421.out), (GS.bqX BK422.out), (GS.bqX BK428.out), (by repeat (first | (with_reducible first | exact HB.out | apply lqA | apply lqN | apply lqD | refine lqS ?_ GE422.out | refine lqS ?_ GE428.out) | exact HB.out)), z_BK441, Q_GW441, Q_GE441, Q_NB421_441, Q_NB441_421, Q_NB422_441, Q_NB441_422, Q_NB428_441, Q_NB441_428, fun h0_ => absurd ((hoff 11 (by kernel_rfl)).symm.trans h0_) (by decide), fun _ => (by (with_reducible repeat (first | apply Kd.R_alloc | apply Kd.R_drewN | apply Kd.R_drew)); exact Kd.R_mono HO434.out (fun _ hk => GS.cj hk)), fun _ => (by (with_reducible repeat (first | apply Kd.R_alloc | apply Kd.R_drewN | apply Kd.R_drew)); exact Kd.R_mono HO439.out (fun _ hk => GS.cj hk)), Q_X1_, fun _ => rfl, fun h0_ => absurd ((hoff 7 (by kernel_rfl)).symm.trans h0_) (by decide), fun h0_ => absurd ((hoff 8 (by kernel_rfl)).symm.trans h0_) (by decide), Q_X10_⟩
        refine steps_cons ?_ ?_
        ·rintro b a w' ⟨v433, v438, gb441, m1_, m6_, m7_, m8_, m10_, ha, Q_HO_429002, Q_BK421, Q_BK422, Q_BK428, Q_HB, Q_BK441, Q_GW441, Q_GE441, Q_NB421_441, Q_NB441_421, Q_NB422_441, Q_NB441_422, Q_NB428_441, Q_NB441_428, Q_BK441_e11, Q_HO434, Q_HO439, Q_X1_, Q_X6_, Q_X7_, Q_X8_, Q_X10_⟩ hb_ hon hoff
         refine ⟨_, rfl, fun K hK => ?_⟩
         have e24 : a.tmps[24]? = some (m6_) := by rw [ha]; exact putSel_on (e := (6, 24, m6_)) 4 rfl rfl (hon 6 (by kernel_rfl)) rfl
         rw [Q_X6_ (hon 6 (by kernel_rfl))] at e24
         replace ha := Aside0.mk ha
         have HO_429002 := Aside0.mk Q_HO_429002
         have BK421 := Aside0.mk Q_BK421
         have BK422 := Aside0.mk Q_BK422
         have BK428 := Aside0.mk Q_BK428
         have HB := Aside0.mk Q_HB
         have HO434 := Aside0.mk (Q_HO434 (hon 1 (by kernel_rfl)))
         have HO439 := Aside0.mk (Q_HO439 (hon 6 (by kernel_rfl)))
         refine value_ (w1 := w') (v := .tuple #[.agg #[.int .i64 t435, .int .i64 t436, v438], .int .i64 t440]) (by rfl) rfl ?_ ?_
         ·go_simp
          (try simp only [i64_w])
          try rfl
         refine hK.out _ _ ⟨v433, v438, gb441, m1_, m6_, (.tuple #[.agg #[.int .i64 t435, .int .i64 t436, v438], .int .i64 t440]), m8_, m10_, (by rw [ha.out]; exact putSel_upk 5 hb_ rfl rfl rfl), Q_HO_429002, Q_BK421, Q_BK422, Q_BK428, Q_HB, Q_BK441, Q_GW441, Q_GE441, Q_NB421_441, Q_NB441_421, Q_NB422_441, Q_NB441_422, Q_NB428_441, Q_NB441_428, fun h0_ => absurd ((hoff 11 (by kernel_rfl)).symm.trans h0_) (by decide), Q_HO434, Q_HO439, Q_X1_, Q_X6_, fun _ => rfl, fun h0_ => absurd ((hoff 8 (by kernel_rfl)).symm.trans h0_) (by decide), Q_X10_⟩
        refine steps_cons ?_ ?_
        ·rintro b a w' ⟨v433, v438, gb441, m1_, m6_, m7_, m8_, m10_, ha, Q_HO_429002, Q_BK421, Q_BK422, Q_BK428, Q_HB, Q_BK441, Q_GW441, Q_GE441, Q_NB421_441, Q_NB441_421, Q_NB422_441, Q_NB441_422, Q_NB428_441, Q_NB441_428, Q_BK441_e11, Q_HO434, Q_HO439, Q_X1_, Q_X6_, Q_X7_, Q_X8_, Q_X10_⟩ hb_ hon hoff
         refine ⟨_, rfl, fun K hK => ?_⟩
         have e17 : a.tmps[17]? = some (m7_) := by rw [ha]; exact putSel_on (e := (7, 17, m7_)) 5 rfl rfl (hon 7 (by kernel_rfl)) rfl
         rw [Q_X7_ (hon 7 (by kernel_rfl))] at e17
         replace ha := Aside0.mk ha
         have HO_429002 := Aside0.mk Q_HO_429002
         have BK421 := Aside0.mk Q_BK421
         have BK422 := Aside0.mk Q_BK422
         have BK428 := Aside0.mk Q_BK428
         have HB := Aside0.mk Q_HB
         have HO434 := Aside0.mk (Q_HO434 (hon 1 (by kernel_rfl)))
         have HO439 := Aside0.mk (Q_HO439 (hon 6 (by kernel_rfl)))
         refine value_ (w1 := w') (v := .agg #[.int .i64 t435, .int .i64 t436, v438]) (by rfl) rfl ?_ ?_
         ·go_simp
          (try simp only [i64_w])
          try rfl
         refine hK.out _ _ ⟨v433, v438, gb441, m1_, m6_, m7_, (.agg #[.int .i64 t435, .int .i64 t436, v438]), m10_, (by rw [ha.out]; exact putSel_upk 6 hb_ rfl rfl rfl), Q_HO_429002, Q_BK421, Q_BK422, Q_BK428, Q_HB, Q_BK441, Q_GW441, Q_GE441, Q_NB421_441, Q_NB441_421, Q_NB422_441, Q_NB441_422, Q_NB428_441, Q_NB441_428, fun h0_ => absurd ((hoff 11 (by kernel_rfl)).symm.trans h0_) (by decide), Q_HO434, Q_HO439, Q_X1_, Q_X6_, Q_X7_, fun _ => rfl, Q_X10_⟩
        refine steps_cons ?_ ?_
        ·rintro b a w' ⟨v433, v438, gb441, m1_, m6_, m7_, m8_, m10_, ha, Q_HO_429002, Q_BK421, Q_BK422, Q_BK428, Q_HB, Q_BK441, Q_GW441, Q_GE441, Q_NB421_441, Q_NB441_421, Q_NB422_441, Q_NB441_422, Q_NB428_441, Q_NB441_428, Q_BK441_e11, Q_HO434, Q_HO439, Q_X1_, Q_X6_, Q_X7_, Q_X8_, Q_X10_⟩ hb_ hon hoff
         refine ⟨_, rfl, fun K hK => ?_⟩
         have e17 : a.tmps[17]? = some (m7_) := by rw [ha]; exact putSel_on (e := (7, 17, m7_)) 5 rfl rfl (hon 7 (by kernel_rfl)) rfl
         rw [Q_X7_ (hon 7 (by kernel_rfl))] at e17
         replace ha := Aside0.mk ha
         have HO_429002 := Aside0.mk Q_HO_429002
         have BK421 := Aside0.mk Q_BK421
         have BK422 := Aside0.mk Q_BK422
         have BK428 := Aside0.mk Q_BK428
         have HB := Aside0.mk Q_HB
         have HO434 := Aside0.mk (Q_HO434 (hon 1 (by kernel_rfl)))
         have HO439 := Aside0.mk (Q_HO439 (hon 6 (by kernel_rfl)))
         refine value_ (w1 := w') (v := .int .i64 t440) (by rfl) rfl ?_ ?_
         ·go_simp
          (try simp only [i64_w])
          try rfl
         refine hK.out _ _ ⟨v433, v438, gb441, m1_, m6_, m7_, m8_, m10_, (by rw [ha.out]; exact putSel_upk 7 hb_ rfl rfl rfl), Q_HO_429002, Q_BK421, Q_BK422, Q_BK428, Q_HB, Q_BK441, Q_GW441, Q_GE441, Q_NB421_441, Q_NB441_421, Q_NB422_441, Q_NB441_422, Q_NB428_441, Q_NB441_428, Q_BK441_e11, Q_HO434, Q_HO439, Q_X1_, Q_X6_, Q_X7_, Q_X8_, Q_X10_⟩
        refine steps_cons ?_ ?_
        ·rintro b a w' ⟨v433, v438, gb441, m1_, m6_, m7_, m8_, m10_, ha, Q_HO_429002, Q_BK421, Q_BK422, Q_BK428, Q_HB, Q_BK441, Q_GW441, Q_GE441, Q_NB421_441, Q_NB441_421, Q_NB422_441, Q_NB441_422, Q_NB428_441, Q_NB441_428, Q_BK441_e11, Q_HO434, Q_HO439, Q_X1_, Q_X6_, Q_X7_, Q_X8_, Q_X10_⟩ hb_ hon hoff
         refine ⟨_, rfl, fun K hK => ?_⟩
         replace ha := Aside0.mk ha
         have HO_429002 := Aside0.mk Q_HO_429002
         have BK421 := Aside0.mk Q_BK421
         have BK422 := Aside0.mk Q_BK422
         have BK428 := Aside0.mk Q_BK428
         have HB := Aside0.mk Q_HB
         refine box_step ?hg (N := 7) ?hd (cs := #[.int .i64 0, .int .i64 0, .slice none 0 0]) (t := 24) ?hr ?_; (case hd => rfl); (case hg => rfl); (case hr => first | (go_simp; done) | (go_simp; rfl))
         intro gb441 hg w22 hbox hb
         have n0_ := Aside0.mk (Kd.R_below (by (with_reducible repeat (first | apply Kd.R_alloc | apply Kd.R_drewN | apply Kd.R_drew)); exact HO_429002.out) hb)
         have n1_ := Aside0.mk (bqB (GS.bqX BK421.out) hb)
         have n2_ := Aside0.mk (bqB (GS.bqX BK422.out) hb)
         have n3_ := Aside0.mk (bqB (GS.bqX BK428.out) hb)
         have n4_ := Aside0.mk (lqT (by repeat (first | (with_reducible first | exact HB.out | apply lqA | apply lqN | apply lqD | refine lqS ?_ GE422.out | refine lqS ?_ GE428.out) | exact HB.out)) hb)
         have n5_ := Aside0.mk (hbox)
         have n6_ := Aside0.mk ((by rw [hg]; exact (lqZ (by repeat (first | (with_reducible first | exact HB.out | apply lqA | apply lqN | apply lqD | refine lqS ?_ GE422.out | refine lqS ?_ GE428.out) | exact HB.out))) : w.heap.size ≤ gb441))
         have n7_ := Aside0.mk ((by rw [hg]; exact (lqZ (by repeat (first | (with_reducible first | exact HB.out | apply lqA | apply lqN | apply lqD | refine lqS ?_ GE422.out | refine lqS ?_ GE428.out) | exact HB.out))) : w.heap.size ≤ gb441))
         have n8_ := Aside0.mk ((by rw [hg]; exact Nat.ne_of_lt (blk_lt (GS.bqX BK421.out)) : gb421 ≠ gb441))
         have n9_ := Aside0.mk ((by rw [hg]; exact Nat.ne_of_gt (blk_lt (GS.bqX BK421.out)) : gb441 ≠ gb421))
         have n10_ := Aside0.mk ((by rw [hg]; exact Nat.ne_of_lt (blk_lt (GS.bqX BK422.out)) : gb422 ≠ gb441))
         have n11_ := Aside0.mk ((by rw [hg]; exact Nat.ne_of_gt (blk_lt (GS.bqX BK422.out)) : gb441 ≠ gb422))
         have n12_ := Aside0.mk ((by rw [hg]; exact Nat.ne_of_lt (blk_lt (GS.bqX BK428.out)) : gb428 ≠ gb441))
         have n13_ := Aside0.mk ((by rw [hg]; exact Nat.ne_of_gt (blk_lt (GS.bqX BK428.out)) : gb441 ≠ gb428))
         have z_HO434 := fun (h0_ : b 1 = true) => (show Kd.R k33 33 w22 w.heap.size (fun k_ => some k_ ≠ (.slice Ao20 x429002_1.length co20 : Value).ownBlock) v433 t432 from by first | exact (Kd.R_below (by (with_reducible repeat (first | apply Kd.R_alloc | apply Kd.R_drewN | apply Kd.R_drew)); exact (Q_HO434 h0_)) hb) | exact Kd.R_mono (Kd.R_below (by (with_reducible repeat (first | apply Kd.R_alloc | apply Kd.R_drewN | apply Kd.R_drew)); exact (Q_HO434 h0_)) hb) (fun _ hk => GS.cj hk))
         have z_HO439 := fun (h0_ : b 6 = true) => (show Kd.R k33 33 w22 w.heap.size (fun k_ => some k_ ≠ (.slice Ao20 x429002_1.length co20 : Value).ownBlock) v438 t437 from by first | exact (Kd.R_below (by (with_reducible repeat (first | apply Kd.R_alloc | apply Kd.R_drewN | apply Kd.R_drew)); exact (Q_HO439 h0_)) hb) | exact Kd.R_mono (Kd.R_below (by (with_reducible repeat (first | apply Kd.R_alloc | apply Kd.R_drewN | apply Kd.R_drew)); exact (Q_HO439 h0_)) hb) (fun _ hk => GS.cj hk))
         clear HO_429002
         clear BK421
         clear BK422
         clear BK428
         clear HB
         have HO_429002 := n0_
         have BK421 := n1_
         have BK422 := n2_
         have BK428 := n3_
         have HB := n4_
         have BK441 := n5_
         have GW441 := n6_
         have GE441 := n7_
         have NB421_441 := n8_
         have NB441_421 := n9_
         have NB422_441 := n10_
         have NB441_422 := n11_
         have NB428_441 := n12_
         have NB441_428 := n13_
         clear n0_ n1_ n2_ n3_ n4_ n5_ n6_ n7_ n8_ n9_ n10_ n11_ n12_ n13_
         clear hb hbox hg
         refine hK.out _ _ ⟨v433, v438, gb441, m1_, m6_, m7_, m8_, (.pointer (some ⟨gb441, 0, none⟩)), (by rw [ha.out]; exact putSel_upk 8 hb_ rfl rfl rfl), (by (with_reducible repeat (first | apply Kd.R_alloc | apply Kd.R_drewN | apply Kd.R_drew)); exact HO_429002.out), (GS.bqX BK421.out), (GS.bqX BK422.out), (GS.bqX BK428.out), (by repeat (first | (with_reducible first | exact HB.out | apply lqA | apply lqN | apply lqD | refine lqS ?_ GE422.out | refine lqS ?_ GE428.out | refine lqS ?_ GE441.out) | exact HB.out)), fun _ _ => (GS.bqX BK441.out), fun _ => GW441.out, fun _ => GE441.out, fun _ => NB421_441.out, fun _ => NB441_421.out, fun _ => NB422_441.out, fun _ => NB441_422.out, fun _ => NB428_441.out, fun _ => NB441_428.out, fun h0_ => absurd ((hoff 11 (by kernel_rfl)).symm.trans h0_) (by decide), z_HO434, z_HO439, Q_X1_, Q_X6_, Q_X7_, Q_X8_, fun _ => rfl⟩
        refine steps_cons ?_ ?_
        ·rintro b a w' ⟨v433, v438, gb441, m1_, m6_, m7_, m8_, m10_, ha, Q_HO_429002, Q_BK421, Q_BK422, Q_BK428, Q_HB, Q_BK441, Q_GW441, Q_GE441, Q_NB421_441, Q_NB441_421, Q_NB422_441, Q_NB441_422, Q_NB428_441, Q_NB441_428, Q_BK441_e11, Q_HO434, Q_HO439, Q_X1_, Q_X6_, Q_X7_, Q_X8_, Q_X10_⟩ hb_ hon hoff
         refine ⟨_, rfl, fun K hK => ?_⟩
         have e7 : a.tmps[7]? = some (m10_) := by rw [ha]; exact putSel_on (e := (10, 7, m10_)) 8 rfl rfl (hon 10 (by kernel_rfl)) rfl
         rw [Q_X10_ (hon 10 (by kernel_rfl))] at e7
         have e25 : a.tmps[25]? = some (m8_) := by rw [ha]; exact putSel_on (e := (8, 25, m8_)) 6 rfl rfl (hon 8 (by kernel_rfl)) rfl
         rw [Q_X8_ (hon 8 (by kernel_rfl))] at e25
         replace ha := Aside0.mk ha
         have HO_429002 := Aside0.mk Q_HO_429002
         have BK421 := Aside0.mk Q_BK421
         have BK422 := Aside0.mk Q_BK422
         have BK428 := Aside0.mk Q_BK428
         have HB := Aside0.mk Q_HB
         have BK441 := Aside0.mk (Q_BK441 (hon 10 (by kernel_rfl)) hb_)
         have GW441 := Aside0.mk (Q_GW441 (hon 10 (by kernel_rfl)))
         have GE441 := Aside0.mk (Q_GE441 (hon 10 (by kernel_rfl)))
         have NB421_441 := Aside0.mk (Q_NB421_441 (hon 10 (by kernel_rfl)))
         have NB441_421 := Aside0.mk (Q_NB441_421 (hon 10 (by kernel_rfl)))
         have NB422_441 := Aside0.mk (Q_NB422_441 (hon 10 (by kernel_rfl)))
         have NB441_422 := Aside0.mk (Q_NB441_422 (hon 10 (by kernel_rfl)))
         have NB428_441 := Aside0.mk (Q_NB428_441 (hon 10 (by kernel_rfl)))
         have NB441_428 := Aside0.mk (Q_NB441_428 (hon 10 (by kernel_rfl)))
         have HO434 := Aside0.mk (Q_HO434 (hon 1 (by kernel_rfl)))
         have HO439 := Aside0.mk (Q_HO439 (hon 6 (by kernel_rfl)))
         obtain ⟨Ao29, co29, eo29⟩ := Kd.R_slice HO439.out
         (first | subst eo29 | (injection eo29 with f1_ f2_ f3_; have f4_ := f1_.symm; have f5_ := f3_.symm; clear f1_ f2_ f3_; subst f4_; subst f5_))
         have hs27 : w'.cell? ⟨gb441, 0, none⟩ = some (.int .i64 0) := (bqC BK441.out 0).trans rfl
         have hfs27 := bqF BK441.out 0
         have hns27_0 := NB421_441.out
         have hns27_1 := NB422_441.out
         have hns27_2 := NB428_441.out
         have hms27_0 := NB441_421.out
         have hms27_1 := NB441_422.out
         have hms27_2 := NB441_428.out
         have hs28 : w'.cell? ⟨gb441, 1, none⟩ = some (.int .i64 0) := (bqC BK441.out 1).trans rfl
         have hfs28 := bqF BK441.out 1
         have hns28_0 := NB421_441.out
         have hns28_1 := NB422_441.out
         have hns28_2 := NB428_441.out
         have hms28_0 := NB441_421.out
         have hms28_1 := NB441_422.out
         have hms28_2 := NB441_428.out
         have hs30 : w'.cell? ⟨gb441, 2, none⟩ = some (.slice none 0 0) := (bqC BK441.out 2).trans rfl
         have hfs30 := bqF BK441.out 2
         have hns30_0 := NB421_441.out
         have hns30_1 := NB422_441.out
         have hns30_2 := NB428_441.out
         have hms30_0 := NB441_421.out
         have hms30_1 := NB441_422.out
         have hms30_2 := NB441_428.out
         refine skip_ (w1 := ?_) (by rfl) rfl ?_ ?_
         rotate_left
         ·go_simp
          rfl
         refine hK.out _ _ ⟨v433, .slice Ao29 t437.length co29, gb441, m1_, m6_, m7_, m8_, m10_, (by rw [ha.out]; exact putSel_none (v := undef) rfl), (by (with_reducible repeat (first | apply Kd.R_alloc | apply Kd.R_drewN | apply Kd.R_drew)); exact Kd.R_mono (Kd.R_far (p := ⟨gb441, 2, none⟩) (Kd.R_far (p := ⟨gb441, 1, none⟩) (Kd.R_far (p := ⟨gb441, 0, none⟩) (Kd.R_types HO_429002.out BK441.out (by decide)) (fun _ hk => hk.2) (.int .i64 t435)) (fun _ hk => hk.2) (.int .i64 t436)) (fun _ hk => hk.2) (.slice Ao29 t437.length co29)) (fun _ hk => GS.cj hk)), (GS.bqX BK421.out), (GS.bqX BK422.out), (GS.bqX BK428.out), (by repeat (first | (with_reducible first | exact HB.out | apply lqA | apply lqN | apply lqD | refine lqS ?_ GE422.out | refine lqS ?_ GE428.out | refine lqS ?_ GE441.out) | exact HB.out)), fun _ h1_ => absurd ((up_self b 11).symm.trans h1_) (by decide), fun _ => GW441.out, fun _ => GE441.out, fun _ => NB421_441.out, fun _ => NB441_421.out, fun _ => NB422_441.out, fun _ => NB441_422.out, fun _ => NB428_441.out, fun _ => NB441_428.out, fun _ => (GS.bqZ BK441.out), fun _ => (by (with_reducible repeat (first | apply Kd.R_alloc | apply Kd.R_drewN | apply Kd.R_drew)); exact Kd.R_mono (Kd.R_far (p := ⟨gb441, 2, none⟩) (Kd.R_far (p := ⟨gb441, 1, none⟩) (Kd.R_far (p := ⟨gb441, 0, none⟩) (Kd.R_types HO434.out BK441.out (by decide)) (fun _ hk => hk.2) (.int .i64 t435)) (fun _ hk => hk.2) (.int .i64 t436)) (fun _ hk => hk.2) (.slice Ao29 t437.length co29)) (fun _ hk => GS.cj hk)), fun _ => (by (with_reducible repeat (first | apply Kd.R_alloc | apply Kd.R_drewN | apply Kd.R_drew)); exact Kd.R_mono (Kd.R_far (p := ⟨gb441, 2, none⟩) (Kd.R_far (p := ⟨gb441, 1, none⟩) (Kd.R_far (p := ⟨gb441, 0, none⟩) (Kd.R_types HO439.out BK441.out (by decide)) (fun _ hk => hk.2) (.int .i64 t435)) (fun _ hk => hk.2) (.int .i64 t436)) (fun _ hk => hk.2) (.slice Ao29 t437.length co29)) (fun _ hk => GS.cj hk)), Q_X1_, Q_X6_, Q_X7_, Q_X8_, Q_X10_⟩
        refine steps_cons ?_ ?_
        ·rintro b a w' ⟨v433, v438, gb441, m1_, m6_, m7_, m8_, m10_, ha, Q_HO_429002, Q_BK421, Q_BK422, Q_BK428, Q_HB, Q_BK441, Q_GW441, Q_GE441, Q_NB421_441, Q_NB441_421, Q_NB422_441, Q_NB441_422, Q_NB428_441, Q_NB441_428, Q_BK441_e11, Q_HO434, Q_HO439, Q_X1_, Q_X6_, Q_X7_, Q_X8_, Q_X10_⟩ hb_ hon hoff
         refine ⟨_, rfl, fun K hK => ?_⟩
         have e26 : a.tmps[26]? = some (.int .i64 t440) := by rw [ha]; exact putSel_on (e := (9, 26, .int .i64 t440)) 7 rfl rfl (hon 9 (by kernel_rfl)) rfl
         replace ha := Aside0.mk ha
         have HO_429002 := Aside0.mk Q_HO_429002
         have BK421 := Aside0.mk Q_BK421
         have BK422 := Aside0.mk Q_BK422
         have BK428 := Aside0.mk Q_BK428
         have HB := Aside0.mk Q_HB
         have GW441 := Aside0.mk (Q_GW441 (hon 10 (by kernel_rfl)))
         have GE441 := Aside0.mk (Q_GE441 (hon 10 (by kernel_rfl)))
         have NB421_441 := Aside0.mk (Q_NB421_441 (hon 10 (by kernel_rfl)))
         have NB441_421 := Aside0.mk (Q_NB441_421 (hon 10 (by kernel_rfl)))
         have NB422_441 := Aside0.mk (Q_NB422_441 (hon 10 (by kernel_rfl)))
         have NB441_422 := Aside0.mk (Q_NB441_422 (hon 10 (by kernel_rfl)))
         have NB428_441 := Aside0.mk (Q_NB428_441 (hon 10 (by kernel_rfl)))
         have NB441_428 := Aside0.mk (Q_NB441_428 (hon 10 (by kernel_rfl)))
         have BK441 := Aside0.mk (Q_BK441_e11 (hon 11 (by kernel_rfl)))
         have HO434 := Aside0.mk (Q_HO434 (hon 1 (by kernel_rfl)))
         have HO439 := Aside0.mk (Q_HO439 (hon 6 (by kernel_rfl)))
         refine value_ (w1 := w') (v := .int .i64 t440) (by rfl) rfl ?_ ?_
         ·go_simp
          (try simp only [i64_w])
          try rfl
         refine hK.out _ _ ⟨v433, v438, gb441, m1_, m6_, m7_, m8_, m10_, (by rw [ha.out]; exact putSel_upk 9 hb_ rfl rfl rfl), Q_HO_429002, Q_BK421, Q_BK422, Q_BK428, Q_HB, fun _ h1_ => absurd ((hon 11 (by kernel_rfl)).symm.trans h1_) (by decide), Q_GW441, Q_GE441, Q_NB421_441, Q_NB441_421, Q_NB422_441, Q_NB441_422, Q_NB428_441, Q_NB441_428, Q_BK441_e11, Q_HO434, Q_HO439, Q_X1_, Q_X6_, Q_X7_, Q_X8_, Q_X10_⟩
        exact steps_nil
       rintro b a w30 hall ⟨v433, v438, gb441, m1_, m6_, m7_, m8_, m10_, ha, Q_HO_429002, Q_BK421, Q_BK422, Q_BK428, Q_HB, Q_BK441, Q_GW441, Q_GE441, Q_NB421_441, Q_NB441_421, Q_NB422_441, Q_NB441_422, Q_NB428_441, Q_NB441_428, Q_BK441_e11, Q_HO434, Q_HO439, Q_X1_, Q_X6_, Q_X7_, Q_X8_, Q_X10_⟩
       clear BK421 BK422 BK428 HB HO_429002
       have hb0_ := hall 0 (by kernel_rfl)
       have hb1_ := hall 1 (by kernel_rfl)
       have hb3_ := hall 3 (by kernel_rfl)
       have hb5_ := hall 5 (by kernel_rfl)
       have hb6_ := hall 6 (by kernel_rfl)
       have hb7_ := hall 7 (by kernel_rfl)
       have hb8_ := hall 8 (by kernel_rfl)
       have hb9_ := hall 9 (by kernel_rfl)
       have hb10_ := hall 10 (by kernel_rfl)
       have hb11_ := hall 11 (by kernel_rfl)
       have hb12_ := hall 12 (by kernel_rfl)
       subst ha
       obtain rfl := Q_X1_ hb1_
       obtain rfl := Q_X6_ hb6_
       obtain rfl := Q_X7_ hb7_
       obtain rfl := Q_X8_ hb8_
       obtain rfl := Q_X10_ hb10_
       simp only [putSel, hb0_, hb1_, hb3_, hb5_, hb6_, hb7_, hb8_, hb9_, hb10_, hb11_, hb12_, if_true, Act.put, List.setIfInBounds_toArray, List.set_cons_zero, List.set_cons_succ]
       have HO_429002 := Aside0.mk Q_HO_429002
       clear Q_HO_429002
       have BK421 := Aside0.mk Q_BK421
       clear Q_BK421
       have BK422 := Aside0.mk Q_BK422
       clear Q_BK422
       have BK428 := Aside0.mk Q_BK428
       clear Q_BK428
       have HB := Aside0.mk Q_HB
       clear Q_HB
       clear Q_BK441
       have GW441 := Aside0.mk (Q_GW441 hb10_)
       clear Q_GW441
       have GE441 := Aside0.mk (Q_GE441 hb10_)
       clear Q_GE441
       have NB421_441 := Aside0.mk (Q_NB421_441 hb10_)
       clear Q_NB421_441
       have NB441_421 := Aside0.mk (Q_NB441_421 hb10_)
       clear Q_NB441_421
       have NB422_441 := Aside0.mk (Q_NB422_441 hb10_)
       clear Q_NB422_441
       have NB441_422 := Aside0.mk (Q_NB441_422 hb10_)
       clear Q_NB441_422
       have NB428_441 := Aside0.mk (Q_NB428_441 hb10_)
       clear Q_NB428_441
       have NB441_428 := Aside0.mk (Q_NB441_428 hb10_)
       clear Q_NB441_428
       have BK441 := Aside0.mk (Q_BK441_e11 hb11_)
       clear Q_BK441_e11
       have HO434 := Aside0.mk (Q_HO434 hb1_)
       clear Q_HO434
       have HO439 := Aside0.mk (Q_HO439 hb6_)
       clear Q_HO439
       clear hall hb0_ hb1_ hb3_ hb5_ hb6_ hb7_ hb8_ hb9_ hb10_ hb11_ hb12_
       have hnb31 := NB441_421.out
       have hnc31 := NB421_441.out
       have hnb32 := NB441_422.out
       have hnc32 := NB422_441.out
       have hnb33 := NB441_428.out
       have hnc33 := NB428_441.out
       have hcz34_0 : w30.cell? ⟨gb441, 0, none⟩ = some (.int .i64 t435) := (bqC BK441.out 0).trans rfl
       have hcz34_1 : w30.cell? ⟨gb441, 1, none⟩ = some (.int .i64 t436) := (bqC BK441.out 1).trans rfl
       have hcz34_2 : w30.cell? ⟨gb441, 2, none⟩ = some (v438) := (bqC BK441.out 2).trans rfl
       have hfz34_0 := bqF BK441.out 0
       have hfz34_1 := bqF BK441.out 1
       have hfz34_2 := bqF BK441.out 2
       have hnb35 := NB428_421.out
       have hnc35 := NB421_428.out
       have hnb36 := NB428_422.out
       have hnc36 := NB422_428.out
       have hcz37_0 : w30.cell? ⟨gb428, 0, none⟩ = some (.int .i64 x429000_1) := (bqC BK428.out 0).trans rfl
       have hcz37_1 : w30.cell? ⟨gb428, 1, none⟩ = some (.int .i64 x429001_1) := (bqC BK428.out 1).trans rfl
       have hcz37_2 : w30.cell? ⟨gb428, 2, none⟩ = some (.slice Ao20 x429002_1.length co20) := (bqC BK428.out 2).trans rfl
       have hfz37_0 := bqF BK428.out 0
       have hfz37_1 := bqF BK428.out 1
       have hfz37_2 := bqF BK428.out 2
       obtain ⟨Ao38, co38, eo38⟩ := Kd.R_slice HO439.out
       subst eo38
       try go_wp2
       go_roundg k1
       case measure => have := HK1.out; omega
       case rel => exact ⟨(wrap64 (x13_1 + 1)), (t435), (t436), (t437), (.slice Ao38 t437.length co38), (by first | rfl | (simp; done) | (simp [*]; done)), H', ⟨by have := HK1.out; omega⟩, ⟨by (with_reducible repeat (first | apply Kd.R_alloc | apply Kd.R_drewN | apply Kd.R_drew)); exact Kd.R_mono (Kd.R_far (p := ⟨gb428, 2, none⟩) (Kd.R_far (p := ⟨gb428, 1, none⟩) (Kd.R_far (p := ⟨gb428, 0, none⟩) (Kd.R_types HO439.out BK428.out (by decide)) (fun _ hk => hk.2) (.int .i64 t435)) (fun _ hk => hk.2) (.int .i64 t436)) (fun _ hk => hk.2) (.slice Ao38 t437.length co38)) (fun _ hk => trivial)⟩, ⟨GS.bqX BK421.out⟩, ⟨GS.bqX BK422.out⟩, ⟨GS.bqZ BK428.out⟩, ⟨by repeat (first | (with_reducible first | exact HB.out | apply lqA | apply lqN | apply lqD | refine lqS ?_ GE422.out | refine lqS ?_ GE428.out | refine lqS ?_ GE441.out) | exact HB.out)⟩⟩
      ·rw [if_neg c19] at H
       have c19b0 : (t440 == 0) = false := beq_eq_false_iff_ne.mpr c19
       try simp only [beq_self_eq_true, Bool.not_true, Bool.false_or, Bool.true_and] at c19b0
       have c19b1 : (t440 != 0) = true := bne_iff_ne.mpr c19
       have H' := Aside0.mk H
       clear H
       have p429 : 0 ≤ (x13_1 : Int) := of_decide_eq_true (by first | (with_reducible assumption) | assumption)
       have q429 : x13_1 < (l0.length : Int) := of_decide_eq_true (by first | (with_reducible assumption) | assumption)
       obtain ⟨ad429, e429, hx429_0⟩ := Kd.at_int HR0.out x13_1 p429 q429
       cases e429
       replace hx429_0 := (HB.out.cell (World.block_lt_of_cell? w _ hx429_0)).trans hx429_0
       replace p429 := eq_true p429
       replace q429 := eq_true q429
       obtain ⟨Ao39, co39, eo39⟩ := Kd.R_slice HO_429002.out
       subst eo39
       try go_wp2
       have n0_ := Aside0.mk (Kd.R_drew HO_429002.out)
       have n1_ := Aside0.mk (bqD BK421.out)
       have n2_ := Aside0.mk (bqD BK422.out)
       have n3_ := Aside0.mk (bqD BK428.out)
       have n4_ := Aside0.mk (lqD HB.out)
       clear HO_429002
       clear BK421
       clear BK422
       clear BK428
       clear HB
       have HO_429002 := n0_
       have BK421 := n1_
       have BK422 := n2_
       have BK428 := n3_
       have HB := n4_
       clear n0_ n1_ n2_ n3_ n4_
       refine start_ (n := 13) (S := fun w' => True) (ds := []) #[false, false, false, false, false, false, false, false, false, false, false, false, false] (by kernel_rfl) rfl rfl trivial (fun hHeld => ?_); refine with_tabW spilelaw42_SenderOrder_1.tab5 spilelaw42_SenderOrder_1.bits5 (fun HT_ HW_ => ?_)
       generalize wr.drew = w40 at HO_429002 BK421 BK422 BK428 HB hHeld ⊢
       refine pure_ (i := 2) (N := some 20) (v := ?_) (a' := ?_) #[false, false, true, false, false, false, false, false, false, false, false, false, false] rfl rfl (any_of HT_.out (by kernel_rfl)) (fun _ _ _ h => h) (Or.inl ⟨by rfl, ?_⟩) ?_ ?_
       rotate_left
       ·intro w'
        go_simp
        with_reducible rfl
       rotate_left
       ·simp only [Act.put, List.setIfInBounds_toArray, List.set_cons_zero, List.set_cons_succ, i64_w, i32_w]
        rfl
       refine pure_ (i := 4) (N := some 22) (v := ?_) (a' := ?_) #[false, false, true, false, true, false, false, false, false, false, false, false, false] rfl rfl (any_of HT_.out (by kernel_rfl)) (fun _ _ _ h => h) (Or.inl ⟨by rfl, ?_⟩) ?_ ?_
       rotate_left
       ·intro w'
        go_simp
        with_reducible rfl
       rotate_left
       ·simp only [Act.put, List.setIfInBounds_toArray, List.set_cons_zero, List.set_cons_succ, i64_w, i32_w]
        rfl
       refine inv_at [0, 1, 3, 5, 6, 7, 8, 9, 10, 11, 12] (fun a0_ b a w' => ∃ (v433 : Value) (v438 : Value) (gb441 : Nat) (m1_ : Value) (m6_ : Value) (m7_ : Value) (m8_ : Value) (m10_ : Value), a = putSel a0_ b [(0, 18, .agg #[.int .i64 x429000_1, .int .i64 x429001_1, .slice Ao39 x429002_1.length co39]), (1, 19, m1_), (3, 21, .int .i64 a1_0), (5, 23, .agg #[.int .i64 a1_0, .int .i64 (rd l0 x13_1)]), (6, 24, m6_), (7, 17, m7_), (8, 25, m8_), (9, 26, .int .i64 t440), (10, 7, m10_), (12, 8, .int .i64 t440)] ∧ (Kd.R k33 33 w' w.heap.size (fun _ => True) (.slice Ao39 x429002_1.length co39) x429002_1) ∧ (w'.heap[gb421]? = some (.cells #[.int .i64 a1_0, .int .i64 a1_1, .slice A1_2 l1_2.length c1_2] 24 (0, 0))) ∧ (w'.heap[gb422]? = some (.cells #[.int .i64 0, .int .i64 0, .slice none 0 0] 24 (0, 0))) ∧ (w'.heap[gb428]? = some (.cells #[.int .i64 x429000_1, .int .i64 x429001_1, .slice Ao39 x429002_1.length co39] 24 (0, 0))) ∧ (Below w.heap.size w w') ∧ (b 10 = true → b 11 = false → w'.heap[gb441]? = some (.cells #[.int .i64 0, .int .i64 0, .slice none 0 0] 24 (0, 0))) ∧ (b 10 = true → w.heap.size ≤ gb441) ∧ (b 10 = true → w.heap.size ≤ gb441) ∧ (b 10 = true → gb421 ≠ gb441) ∧ (b 10 = true → gb441 ≠ gb421) ∧ (b 10 = true → gb422 ≠ gb441) ∧ (b 10 = true → gb441 ≠ gb422) ∧ (b 10 = true → gb428 ≠ gb441) ∧ (b 10 = true → gb441 ≠ gb428) ∧ (b 11 = true → w'.heap[gb441]? = some (.cells #[.int .i64 t435, .int .i64 t436, v438] 24 (0, 0))) ∧ (b 1 = true → Kd.R k33 33 w' w.heap.size (fun k_ => some k_ ≠ (.slice Ao39 x429002_1.length co39 : Value).ownBlock) v433 t432) ∧ (b 6 = true → Kd.R k33 33 w' w.heap.size (fun k_ => some k_ ≠ (.slice Ao39 x429002_1.length co39 : Value).ownBlock) v438 t437) ∧ (b 1 = true → (m1_ : Value) = .agg #[.int .i64 t430, .int .i64 t431, v433]) ∧ (b 6 = true → (m6_ : Value) = .tuple #[.agg #[.int .i64 t435, .int .i64 t436, v438], .int .i64 t440]) ∧ (b 7 = true → (m7_ : Value) = .tuple #[.agg #[.int .i64 t435, .int .i64 t436, v438], .int .i64 t440]) ∧ (b 8 = true → (m8_ : Value) = .agg #[.int .i64 t435, .int .i64 t436, v438]) ∧ (b 10 = true → (m10_ : Value) = .pointer (some ⟨gb441, 0, none⟩))) HT_.out HW_.out (by kernel_rfl) (by kernel_rfl) ?_ ?_ ?_
       ·exact ⟨.bool false, .bool false, 0, .bool false, .bool false, .bool false, .bool false, .bool false, by simp only [putSel, Bool.false_eq_true, if_false], HO_429002.out, BK421.out, BK422.out, BK428.out, HB.out, fun h_ => absurd h_ (by decide), fun h_ => absurd h_ (by decide), fun h_ => absurd h_ (by decide), fun h_ => absurd h_ (by decide), fun h_ => absurd h_ (by decide), fun h_ => absurd h_ (by decide), fun h_ => absurd h_ (by decide), fun h_ => absurd h_ (by decide), fun h_ => absurd h_ (by decide), fun h_ => absurd h_ (by decide), fun h_ => absurd h_ (by decide), fun h_ => absurd h_ (by decide), fun h_ => absurd h_ (by decide), fun h_ => absurd h_ (by decide), fun h_ => absurd h_ (by decide), fun h_ => absurd h_ (by decide), fun h_ => absurd h_ (by decide)⟩
       ·skip
        clear BK421 BK422 BK428 HB HO_429002
        refine steps_cons ?_ ?_
        ·rintro b a w' ⟨v433, v438, gb441, m1_, m6_, m7_, m8_, m10_, ha, Q_HO_429002, Q_BK421, Q_BK422, Q_BK428, Q_HB, Q_BK441, Q_GW441, Q_GE441, Q_NB421_441, Q_NB441_421, Q_NB422_441, Q_NB441_422, Q_NB428_441, Q_NB441_428, Q_BK441_e11, Q_HO434, Q_HO439, Q_X1_, Q_X6_, Q_X7_, Q_X8_, Q_X10_⟩ hb_ hon hoff
         refine ⟨_, rfl, fun K hK => ?_⟩
         have e4 : a.tmps[4]? = some (.pointer (some ⟨gb428, 0, none⟩)) := by rw [ha]; exact (putSel_off rfl).trans rfl
         replace ha := Aside0.mk ha
         have HO_429002 := Aside0.mk Q_HO_429002
         have BK421 := Aside0.mk Q_BK421
         have BK422 := Aside0.mk Q_BK422
         have BK428 := Aside0.mk Q_BK428
         have HB := Aside0.mk Q_HB
         have hc0_ : w'.cell? ⟨gb428, 0, none⟩ = some (.int .i64 x429000_1) := (bqC BK428.out 0).trans rfl
         have hc1_ : w'.cell? ⟨gb428, 1, none⟩ = some (.int .i64 x429001_1) := (bqC BK428.out 1).trans rfl
         have hc2_ : w'.cell? ⟨gb428, 2, none⟩ = some (.slice Ao39 x429002_1.length co39) := (bqC BK428.out 2).trans rfl
         refine value_ (w1 := w') (v := .agg #[.int .i64 x429000_1, .int .i64 x429001_1, .slice Ao39 x429002_1.length co39]) (by rfl) rfl ?_ ?_
         ·go_simp
          (try simp only [i64_w])
          try rfl
         refine hK.out _ _ ⟨v433, v438, gb441, m1_, m6_, m7_, m8_, m10_, (by rw [ha.out]; exact putSel_upk 0 hb_ rfl rfl rfl), Q_HO_429002, Q_BK421, Q_BK422, Q_BK428, Q_HB, Q_BK441, Q_GW441, Q_GE441, Q_NB421_441, Q_NB441_421, Q_NB422_441, Q_NB441_422, Q_NB428_441, Q_NB441_428, fun h0_ => absurd ((hoff 11 (by kernel_rfl)).symm.trans h0_) (by decide), fun h0_ => absurd ((hoff 1 (by kernel_rfl)).symm.trans h0_) (by decide), fun h0_ => absurd ((hoff 6 (by kernel_rfl)).symm.trans h0_) (by decide), fun h0_ => absurd ((hoff 1 (by kernel_rfl)).symm.trans h0_) (by decide), fun h0_ => absurd ((hoff 6 (by kernel_rfl)).symm.trans h0_) (by decide), fun h0_ => absurd ((hoff 7 (by kernel_rfl)).symm.trans h0_) (by decide), fun h0_ => absurd ((hoff 8 (by kernel_rfl)).symm.trans h0_) (by decide), Q_X10_⟩
        refine steps_cons ?_ ?_
        ·rintro b a w' ⟨v433, v438, gb441, m1_, m6_, m7_, m8_, m10_, ha, Q_HO_429002, Q_BK421, Q_BK422, Q_BK428, Q_HB, Q_BK441, Q_GW441, Q_GE441, Q_NB421_441, Q_NB441_421, Q_NB422_441, Q_NB441_422, Q_NB428_441, Q_NB441_428, Q_BK441_e11, Q_HO434, Q_HO439, Q_X1_, Q_X6_, Q_X7_, Q_X8_, Q_X10_⟩ hb_ hon hoff
         refine ⟨_, rfl, fun K hK => ?_⟩
         have e18 : a.tmps[18]? = some (.agg #[.int .i64 x429000_1, .int .i64 x429001_1, .slice Ao39 x429002_1.length co39]) := by rw [ha]; exact putSel_on (e := (0, 18, .agg #[.int .i64 x429000_1, .int .i64 x429001_1, .slice Ao39 x429002_1.length co39])) 0 rfl rfl (hon 0 (by kernel_rfl)) rfl
         replace ha := Aside0.mk ha
         have HO_429002 := Aside0.mk Q_HO_429002
         have BK421 := Aside0.mk Q_BK421
         have BK422 := Aside0.mk Q_BK422
         have BK428 := Aside0.mk Q_BK428
         have HB := Aside0.mk Q_HB
         refine goes_ Try.func15 (by kernel_rfl) rfl #[.agg #[.int .i64 x429000_1, .int .i64 x429001_1, .slice Ao39 x429002_1.length co39]] (by rfl) rfl rfl (by first | (simp only [List.map_toArray, List.map_cons, List.map_nil, Act.eval, Array.getD_eq_getD_getElem?, Option.getD_some, e18]; done) | (simp only [List.map_toArray, List.map_cons, List.map_nil, Act.eval, Array.getD_eq_getD_getElem?, Option.getD_some, e18]; rfl)) ?_
         with_reducible refine (spileref42_Copy.calls x429000_1 x429001_1 _ _ x429002_1 t430 t431 t432 _ ?side1 ?side2 A17.out).mono ?_
         (case side1 => repeat (first | exact (Kd.R_reads' HO_429002.out).2.2 | (with_reducible refine Kd.C_alloc ?_ _) | (with_reducible refine Kd.C_drewN ?_ _) | (with_reducible refine Kd.C_drew ?_)))
         (case side2 => exact (Kd.R_reads' HO_429002.out).2.1)
         rintro e w41 ⟨v433, rfl, ho0, hb⟩
         refine ⟨_, rfl, ?_⟩
         have n0_ := Aside0.mk (Kd.R_elder' (by (with_reducible repeat (first | apply Kd.R_alloc | apply Kd.R_drewN | apply Kd.R_drew)); exact HO_429002.out) (Kd.R_base ho0) hb)
         have n1_ := Aside0.mk (Kd.R_lower (Kd.R_new' ho0 (Kd.R_lt (by (with_reducible repeat (first | apply Kd.R_alloc | apply Kd.R_drewN | apply Kd.R_drew)); exact HO_429002.out))) (lqZ (by repeat (first | (with_reducible first | exact HB.out | apply lqA | apply lqN | apply lqD | refine lqS ?_ GE422.out | refine lqS ?_ GE428.out) | exact HB.out))))
         have n2_ := Aside0.mk (bqB (GS.bqX BK421.out) hb)
         have n3_ := Aside0.mk (bqB (GS.bqX BK422.out) hb)
         have n4_ := Aside0.mk (bqB (GS.bqX BK428.out) hb)
         have n5_ := Aside0.mk (lqT (by repeat (first | (with_reducible first | exact HB.out | apply lqA | apply lqN | apply lqD | refine lqS ?_ GE422.out | refine lqS ?_ GE428.out) | exact HB.out)) hb)
         have z_BK441 := fun (h0_ : b 10 = true) (h1_ : b 11 = false) => (show w41.heap[gb441]? = some (.cells #[.int .i64 0, .int .i64 0, .slice none 0 0] 24 (0, 0)) from by first | exact (bqB (GS.bqX (Q_BK441 h0_ h1_)) hb))
         clear HO_429002
         clear BK421
         clear BK422
         clear BK428
         clear HB
         have HO_429002 := n0_
         have HO434 := n1_
         have BK421 := n2_
         have BK422 := n3_
         have BK428 := n4_
         have HB := n5_
         clear n0_ n1_ n2_ n3_ n4_ n5_
         (try clear hb)
         (try clear hb2)
         (try clear hk)
         (try clear hi)
         (try clear ho0)
         refine hK.out _ _ ⟨v433, v438, gb441, (.agg #[.int .i64 t430, .int .i64 t431, v433]), m6_, m7_, m8_, m10_, (by rw [ha.out]; exact putSel_upk 1 hb_ rfl rfl rfl), (by (with_reducible repeat (first | apply Kd.R_alloc | apply Kd.R_drewN | apply Kd.R_drew)); exact Kd.R_mono HO_429002.out (fun _ hk => GS.cj hk)), (GS.bqX BK421.out), (GS.bqX BK422.out), (GS.bqX BK428.out), (by repeat (first | (with_reducible first | exact HB.out | apply lqA | apply lqN | apply lqD | refine lqS ?_ GE422.out | refine lqS ?_ GE428.out) | exact HB.out)), z_BK441, Q_GW441, Q_GE441, Q_NB421_441, Q_NB441_421, Q_NB422_441, Q_NB441_422, Q_NB428_441, Q_NB441_428, fun h0_ => absurd ((hoff 11 (by kernel_rfl)).symm.trans h0_) (by decide), fun _ => (by (with_reducible repeat (first | apply Kd.R_alloc | apply Kd.R_drewN | apply Kd.R_drew)); exact Kd.R_mono HO434.out (fun _ hk => GS.cj hk)), fun h0_ => absurd ((hoff 6 (by kernel_rfl)).symm.trans h0_) (by decide), fun _ => rfl, fun h0_ => absurd ((hoff 6 (by kernel_rfl)).symm.trans h0_) (by decide), fun h0_ => absurd ((hoff 7 (by kernel_rfl)).symm.trans h0_) (by decide), fun h0_ => absurd ((hoff 8 (by kernel_rfl)).symm.trans h0_) (by decide), Q_X10_⟩
        refine steps_cons ?_ ?_
        ·rintro b a w' ⟨v433, v438, gb441, m1_, m6_, m7_, m8_, m10_, ha, Q_HO_429002, Q_BK421, Q_BK422, Q_BK428, Q_HB, Q_BK441, Q_GW441, Q_GE441, Q_NB421_441, Q_NB441_421, Q_NB422_441, Q_NB441_422, Q_NB428_441, Q_NB441_428, Q_BK441_e11, Q_HO434, Q_HO439, Q_X1_, Q_X6_, Q_X7_, Q_X8_, Q_X10_⟩ hb_ hon hoff
         refine ⟨_, rfl, fun K hK => ?_⟩
         have e20 : a.tmps[20]? = some (.pointer (some ⟨gb421, 0, none⟩)) := by rw [ha]; exact (putSel_off rfl).trans rfl
         replace ha := Aside0.mk ha
         have HO_429002 := Aside0.mk Q_HO_429002
         have BK421 := Aside0.mk Q_BK421
         have BK422 := Aside0.mk Q_BK422
         have BK428 := Aside0.mk Q_BK428
         have HB := Aside0.mk Q_HB
         have hc0_ : w'.cell? ⟨gb421, 0, none⟩ = some (.int .i64 a1_0) := (bqC BK421.out 0).trans rfl
         have hc1_ : w'.cell? ⟨gb421, 1, none⟩ = some (.int .i64 a1_1) := (bqC BK421.out 1).trans rfl
         have hc2_ : w'.cell? ⟨gb421, 2, none⟩ = some (.slice A1_2 l1_2.length c1_2) := (bqC BK421.out 2).trans rfl
         refine value_ (w1 := w') (v := .int .i64 a1_0) (by rfl) rfl ?_ ?_
         ·go_simp
          (try simp only [i64_w])
          try rfl
         refine hK.out _ _ ⟨v433, v438, gb441, m1_, m6_, m7_, m8_, m10_, (by rw [ha.out]; exact putSel_upk 2 hb_ rfl rfl rfl), Q_HO_429002, Q_BK421, Q_BK422, Q_BK428, Q_HB, Q_BK441, Q_GW441, Q_GE441, Q_NB421_441, Q_NB441_421, Q_NB422_441, Q_NB441_422, Q_NB428_441, Q_NB441_428, fun h0_ => absurd ((hoff 11 (by kernel_rfl)).symm.trans h0_) (by decide), Q_HO434, fun h0_ => absurd ((hoff 6 (by kernel_rfl)).symm.trans h0_) (by decide), Q_X1_, fun h0_ => absurd ((hoff 6 (by kernel_rfl)).symm.trans h0_) (by decide), fun h0_ => absurd ((hoff 7 (by kernel_rfl)).symm.trans h0_) (by decide), fun h0_ => absurd ((hoff 8 (by kernel_rfl)).symm.trans h0_) (by decide), Q_X10_⟩
        refine steps_cons ?_ ?_
        ·rintro b a w' ⟨v433, v438, gb441, m1_, m6_, m7_, m8_, m10_, ha, Q_HO_429002, Q_BK421, Q_BK422, Q_BK428, Q_HB, Q_BK441, Q_GW441, Q_GE441, Q_NB421_441, Q_NB441_421, Q_NB422_441, Q_NB441_422, Q_NB428_441, Q_NB441_428, Q_BK441_e11, Q_HO434, Q_HO439, Q_X1_, Q_X6_, Q_X7_, Q_X8_, Q_X10_⟩ hb_ hon hoff
         refine ⟨_, rfl, fun K hK => ?_⟩
         have e21 : a.tmps[21]? = some (.int .i64 a1_0) := by rw [ha]; exact putSel_on (e := (3, 21, .int .i64 a1_0)) 2 rfl rfl (hon 3 (by kernel_rfl)) rfl
         have e22 : a.tmps[22]? = some (.int .i64 (rd l0 x13_1)) := by rw [ha]; exact (putSel_off rfl).trans rfl
         replace ha := Aside0.mk ha
         have HO_429002 := Aside0.mk Q_HO_429002
         have BK421 := Aside0.mk Q_BK421
         have BK422 := Aside0.mk Q_BK422
         have BK428 := Aside0.mk Q_BK428
         have HB := Aside0.mk Q_HB
         refine value_ (w1 := w') (v := .agg #[.int .i64 a1_0, .int .i64 (rd l0 x13_1)]) (by rfl) rfl ?_ ?_
         ·go_simp
          (try simp only [i64_w])
          try rfl
         refine hK.out _ _ ⟨v433, v438, gb441, m1_, m6_, m7_, m8_, m10_, (by rw [ha.out]; exact putSel_upk 3 hb_ rfl rfl rfl), Q_HO_429002, Q_BK421, Q_BK422, Q_BK428, Q_HB, Q_BK441, Q_GW441, Q_GE441, Q_NB421_441, Q_NB441_421, Q_NB422_441, Q_NB441_422, Q_NB428_441, Q_NB441_428, fun h0_ => absurd ((hoff 11 (by kernel_rfl)).symm.trans h0_) (by decide), Q_HO434, fun h0_ => absurd ((hoff 6 (by kernel_rfl)).symm.trans h0_) (by decide), Q_X1_, fun h0_ => absurd ((hoff 6 (by kernel_rfl)).symm.trans h0_) (by decide), fun h0_ => absurd ((hoff 7 (by kernel_rfl)).symm.trans h0_) (by decide), fun h0_ => absurd ((hoff 8 (by kernel_rfl)).symm.trans h0_) (by decide), Q_X10_⟩
        refine steps_cons ?_ ?_
        ·rintro b a w' ⟨v433, v438, gb441, m1_, m6_, m7_, m8_, m10_, ha, Q_HO_429002, Q_BK421, Q_BK422, Q_BK428, Q_HB, Q_BK441, Q_GW441, Q_GE441, Q_NB421_441, Q_NB441_421, Q_NB422_441, Q_NB441_422, Q_NB428_441, Q_NB441_428, Q_BK441_e11, Q_HO434, Q_HO439, Q_X1_, Q_X6_, Q_X7_, Q_X8_, Q_X10_⟩ hb_ hon hoff
         refine ⟨_, rfl, fun K hK => ?_⟩
         have e19 : a.tmps[19]? = some (m1_) := by rw [ha]; exact putSel_on (e := (1, 19, m1_)) 1 rfl rfl (hon 1 (by kernel_rfl)) rfl
         rw [Q_X1_ (hon 1 (by kernel_rfl))] at e19
         have e23 : a.tmps[23]? = some (.agg #[.int .i64 a1_0, .int .i64 (rd l0 x13_1)]) := by rw [ha]; exact putSel_on (e := (5, 23, .agg #[.int .i64 a1_0, .int .i64 (rd l0 x13_1)])) 3 rfl rfl (hon 5 (by kernel_rfl)) rfl
         replace ha := Aside0.mk ha
         have HO_429002 := Aside0.mk Q_HO_429002
         have BK421 := Aside0.mk Q_BK421
         have BK422 := Aside0.mk Q_BK422
         have BK428 := Aside0.mk Q_BK428
         have HB := Aside0.mk Q_HB
         have HO434 := Aside0.mk (Q_HO434 (hon 1 (by kernel_rfl)))
         obtain ⟨Ao43, co43, eo43⟩ := Kd.R_slice HO434.out
         (first | subst eo43 | (injection eo43 with f1_ f2_ f3_; have f4_ := f1_.symm; have f5_ := f3_.symm; clear f1_ f2_ f3_; subst f4_; subst f5_))
         refine goes_ Try.func22 (by kernel_rfl) rfl #[.agg #[.int .i64 t430, .int .i64 t431, .slice Ao43 t432.length co43], .agg #[.int .i64 a1_0, .int .i64 (rd l0 x13_1)]] (by rfl) rfl rfl (by first | (simp only [List.map_toArray, List.map_cons, List.map_nil, Act.eval, Array.getD_eq_getD_getElem?, Option.getD_some, e19, e23]; done) | (simp only [List.map_toArray, List.map_cons, List.map_nil, Act.eval, Array.getD_eq_getD_getElem?, Option.getD_some, e19, e23]; rfl)) ?_
         with_reducible refine (sender_Heard.calls k1 t430 t431 _ _ t432 a1_0 (rd l0 x13_1) t435 t436 t437 t440 _ ?side1 ?side2 A18.out).mono ?_
         (case side1 => repeat (first | exact (Kd.R_reads' HO434.out).2.2 | (with_reducible refine Kd.C_alloc ?_ _) | (with_reducible refine Kd.C_drewN ?_ _) | (with_reducible refine Kd.C_drew ?_)))
         (case side2 => exact (Kd.R_reads' HO434.out).2.1)
         rintro e w44 ⟨v438, rfl, ho0, hb⟩
         refine ⟨_, rfl, ?_⟩
         have n0_ := Aside0.mk (Kd.R_elder' (by (with_reducible repeat (first | apply Kd.R_alloc | apply Kd.R_drewN | apply Kd.R_drew)); exact HO_429002.out) (Kd.R_base ho0) hb)
         have n1_ := Aside0.mk (Kd.R_elder' (by (with_reducible repeat (first | apply Kd.R_alloc | apply Kd.R_drewN | apply Kd.R_drew)); exact HO434.out) (Kd.R_base ho0) hb)
         have n2_ := Aside0.mk (Kd.R_lower (Kd.R_new' (Kd.R_new' ho0 (Kd.R_lt (by (with_reducible repeat (first | apply Kd.R_alloc | apply Kd.R_drewN | apply Kd.R_drew)); exact HO_429002.out))) (Kd.R_lt (by (with_reducible repeat (first | apply Kd.R_alloc | apply Kd.R_drewN | apply Kd.R_drew)); exact HO434.out))) (lqZ (by repeat (first | (with_reducible first | exact HB.out | apply lqA | apply lqN | apply lqD | refine lqS ?_ GE422.out | refine lqS ?_ GE428.out) | exact HB.out))))
         have n3_ := Aside0.mk (bqB (GS.bqX BK421.out) hb)
         have n4_ := Aside0.mk (bqB (GS.bqX BK422.out) hb)
         have n5_ := Aside0.mk (bqB (GS.bqX BK428.out) hb)
         have n6_ := Aside0.mk (lqT (by repeat (first | (with_reducible first | exact HB.out | apply lqA | apply lqN | apply lqD | refine lqS ?_ GE422.out | refine lqS ?_ GE428.out) | exact HB.out)) hb)
         have z_BK441 := fun (h0_ : b 10 = true) (h1_ : b 11 = false) => (show w44.heap[gb441]? = some (.cells #[.int .i64 0, .int .i64 0, .slice none 0 0] 24 (0, 0)) from by first | exact (bqB (GS.bqX (Q_BK441 h0_ h1_)) hb))
         clear HO_429002
         clear HO434
         clear BK421
         clear BK422
         clear BK428
         clear HB
         have HO_429002 := n0_
         have HO434 := n1_
         have HO439 := n2_
         have BK421 := n3_
         have BK422 := n4_
         have BK428 := n5_
         have HB := n6_
         clear n0_ n1_ n2_ n3_ n4_ n5_ n6_
         (try clear hb)
         (try clear hb2)
         (try clear hk)
         (try clear hi)
         (try clear ho0)
         refine hK.out _ _ ⟨.slice Ao43 t432.length co43, v438, gb441, m1_, (.tuple #[.agg #[.int .i64 t435, .int .i64 t436, v438], .int .i64 t440]), m7_, m8_, m10_, (by rw [ha.out]; exact putSel_upk 4 hb_ rfl rfl rfl), (by (with_reducible repeat (first | apply Kd.R_alloc | apply Kd.R_drewN | apply Kd.R_drew)); exact Kd.R_mono HO_429002.out (fun _ _ => trivial)), (GS.bqX BK421.out), (GS.bqX BK422.out), (GS.bqX BK428.out), (by repeat (first | (with_reducible first | exact HB.out | apply lqA | apply lqN | apply lqD | refine lqS ?_ GE422.out | refine lqS ?_ GE428.out) | exact HB.out)), z_BK441, Q_GW441, Q_GE441, Q_NB421_441, Q_NB441_421, Q_NB422_441, Q_NB441_422, Q_NB428_441, Q_NB441_428, fun h0_ => absurd ((hoff 11 (by kernel_rfl)).symm.trans h0_) (by decide), fun _ => (by (with_reducible repeat (first | apply Kd.R_alloc | apply Kd.R_drewN | apply Kd.R_drew)); exact Kd.R_mono HO434.out (fun _ hk => GS.cj hk)), fun _ => (by (with_reducible repeat (first | apply Kd.R_alloc | apply Kd.R_drewN | apply Kd.R_drew)); exact Kd.R_mono HO439.out (fun _ hk => GS.cj hk)), Q_X1_, fun _ => rfl, fun h0_ => absurd ((hoff 7 (by kernel_rfl)).symm.trans h0_) (by decide), fun h0_ => absurd ((hoff 8 (by kernel_rfl)).symm.trans h0_) (by decide), Q_X10_⟩
        refine steps_cons ?_ ?_
        ·rintro b a w' ⟨v433, v438, gb441, m1_, m6_, m7_, m8_, m10_, ha, Q_HO_429002, Q_BK421, Q_BK422, Q_BK428, Q_HB, Q_BK441, Q_GW441, Q_GE441, Q_NB421_441, Q_NB441_421, Q_NB422_441, Q_NB441_422, Q_NB428_441, Q_NB441_428, Q_BK441_e11, Q_HO434, Q_HO439, Q_X1_, Q_X6_, Q_X7_, Q_X8_, Q_X10_⟩ hb_ hon hoff
         refine ⟨_, rfl, fun K hK => ?_⟩
         have e24 : a.tmps[24]? = some (m6_) := by rw [ha]; exact putSel_on (e := (6, 24, m6_)) 4 rfl rfl (hon 6 (by kernel_rfl)) rfl
         rw [Q_X6_ (hon 6 (by kernel_rfl))] at e24
         replace ha := Aside0.mk ha
         have HO_429002 := Aside0.mk Q_HO_429002
         have BK421 := Aside0.mk Q_BK421
         have BK422 := Aside0.mk Q_BK422
         have BK428 := Aside0.mk Q_BK428
         have HB := Aside0.mk Q_HB
         have HO434 := Aside0.mk (Q_HO434 (hon 1 (by kernel_rfl)))
         have HO439 := Aside0.mk (Q_HO439 (hon 6 (by kernel_rfl)))
         refine value_ (w1 := w') (v := .tuple #[.agg #[.int .i64 t435, .int .i64 t436, v438], .int .i64 t440]) (by rfl) rfl ?_ ?_
         ·go_simp
          (try simp only [i64_w])
          try rfl
         refine hK.out _ _ ⟨v433, v438, gb441, m1_, m6_, (.tuple #[.agg #[.int .i64 t435, .int .i64 t436, v438], .int .i64 t440]), m8_, m10_, (by rw [ha.out]; exact putSel_upk 5 hb_ rfl rfl rfl), Q_HO_429002, Q_BK421, Q_BK422, Q_BK428, Q_HB, Q_BK441, Q_GW441, Q_GE441, Q_NB421_441, Q_NB441_421, Q_NB422_441, Q_NB441_422, Q_NB428_441, Q_NB441_428, fun h0_ => absurd ((hoff 11 (by kernel_rfl)).symm.trans h0_) (by decide), Q_HO434, Q_HO439, Q_X1_, Q_X6_, fun _ => rfl, fun h0_ => absurd ((hoff 8 (by kernel_rfl)).symm.trans h0_) (by decide), Q_X10_⟩
        refine steps_cons ?_ ?_
        ·rintro b a w' ⟨v433, v438, gb441, m1_, m6_, m7_, m8_, m10_, ha, Q_HO_429002, Q_BK421, Q_BK422, Q_BK428, Q_HB, Q_BK441, Q_GW441, Q_GE441, Q_NB421_441, Q_NB441_421, Q_NB422_441, Q_NB441_422, Q_NB428_441, Q_NB441_428, Q_BK441_e11, Q_HO434, Q_HO439, Q_X1_, Q_X6_, Q_X7_, Q_X8_, Q_X10_⟩ hb_ hon hoff
         refine ⟨_, rfl, fun K hK => ?_⟩
         have e17 : a.tmps[17]? = some (m7_) := by rw [ha]; exact putSel_on (e := (7, 17, m7_)) 5 rfl rfl (hon 7 (by kernel_rfl)) rfl
         rw [Q_X7_ (hon 7 (by kernel_rfl))] at e17
         replace ha := Aside0.mk ha
         have HO_429002 := Aside0.mk Q_HO_429002
         have BK421 := Aside0.mk Q_BK421
         have BK422 := Aside0.mk Q_BK422
         have BK428 := Aside0.mk Q_BK428
         have HB := Aside0.mk Q_HB
         have HO434 := Aside0.mk (Q_HO434 (hon 1 (by kernel_rfl)))
         have HO439 := Aside0.mk (Q_HO439 (hon 6 (by kernel_rfl)))
         refine value_ (w1 := w') (v := .agg #[.int .i64 t435, .int .i64 t436, v438]) (by rfl) rfl ?_ ?_
         ·go_simp
          (try simp only [i64_w])
          try rfl
         refine hK.out _ _ ⟨v433, v438, gb441, m1_, m6_, m7_, (.agg #[.int .i64 t435, .int .i64 t436, v438]), m10_, (by rw [ha.out]; exact putSel_upk 6 hb_ rfl rfl rfl), Q_HO_429002, Q_BK421, Q_BK422, Q_BK428, Q_HB, Q_BK441, Q_GW441, Q_GE441, Q_NB421_441, Q_NB441_421, Q_NB422_441, Q_NB441_422, Q_NB428_441, Q_NB441_428, fun h0_ => absurd ((hoff 11 (by kernel_rfl)).symm.trans h0_) (by decide), Q_HO434, Q_HO439, Q_X1_, Q_X6_, Q_X7_, fun _ => rfl, Q_X10_⟩
        refine steps_cons ?_ ?_
        ·rintro b a w' ⟨v433, v438, gb441, m1_, m6_, m7_, m8_, m10_, ha, Q_HO_429002, Q_BK421, Q_BK422, Q_BK428, Q_HB, Q_BK441, Q_GW441, Q_GE441, Q_NB421_441, Q_NB441_421, Q_NB422_441, Q_NB441_422, Q_NB428_441, Q_NB441_428, Q_BK441_e11, Q_HO434, Q_HO439, Q_X1_, Q_X6_, Q_X7_, Q_X8_, Q_X10_⟩ hb_ hon hoff
         refine ⟨_, rfl, fun K hK => ?_⟩
         have e17 : a.tmps[17]? = some (m7_) := by rw [ha]; exact putSel_on (e := (7, 17, m7_)) 5 rfl rfl (hon 7 (by kernel_rfl)) rfl
         rw [Q_X7_ (hon 7 (by kernel_rfl))] at e17
         replace ha := Aside0.mk ha
         have HO_429002 := Aside0.mk Q_HO_429002
         have BK421 := Aside0.mk Q_BK421
         have BK422 := Aside0.mk Q_BK422
         have BK428 := Aside0.mk Q_BK428
         have HB := Aside0.mk Q_HB
         have HO434 := Aside0.mk (Q_HO434 (hon 1 (by kernel_rfl)))
         have HO439 := Aside0.mk (Q_HO439 (hon 6 (by kernel_rfl)))
         refine value_ (w1 := w') (v := .int .i64 t440) (by rfl) rfl ?_ ?_
         ·go_simp
          (try simp only [i64_w])
          try rfl
         refine hK.out _ _ ⟨v433, v438, gb441, m1_, m6_, m7_, m8_, m10_, (by rw [ha.out]; exact putSel_upk 7 hb_ rfl rfl rfl), Q_HO_429002, Q_BK421, Q_BK422, Q_BK428, Q_HB, Q_BK441, Q_GW441, Q_GE441, Q_NB421_441, Q_NB441_421, Q_NB422_441, Q_NB441_422, Q_NB428_441, Q_NB441_428, Q_BK441_e11, Q_HO434, Q_HO439, Q_X1_, Q_X6_, Q_X7_, Q_X8_, Q_X10_⟩
        refine steps_cons ?_ ?_
        ·rintro b a w' ⟨v433, v438, gb441, m1_, m6_, m7_, m8_, m10_, ha, Q_HO_429002, Q_BK421, Q_BK422, Q_BK428, Q_HB, Q_BK441, Q_GW441, Q_GE441, Q_NB421_441, Q_NB441_421, Q_NB422_441, Q_NB441_422, Q_NB428_441, Q_NB441_428, Q_BK441_e11, Q_HO434, Q_HO439, Q_X1_, Q_X6_, Q_X7_, Q_X8_, Q_X10_⟩ hb_ hon hoff
         refine ⟨_, rfl, fun K hK => ?_⟩
         replace ha := Aside0.mk ha
         have HO_429002 := Aside0.mk Q_HO_429002
         have BK421 := Aside0.mk Q_BK421
         have BK422 := Aside0.mk Q_BK422
         have BK428 := Aside0.mk Q_BK428
         have HB := Aside0.mk Q_HB
         refine box_step ?hg (N := 7) ?hd (cs := #[.int .i64 0, .int .i64 0, .slice none 0 0]) (t := 24) ?hr ?_; (case hd => rfl); (case hg => rfl); (case hr => first | (go_simp; done) | (go_simp; rfl))
         intro gb441 hg w41 hbox hb
         have n0_ := Aside0.mk (Kd.R_below (by (with_reducible repeat (first | apply Kd.R_alloc | apply Kd.R_drewN | apply Kd.R_drew)); exact HO_429002.out) hb)
         have n1_ := Aside0.mk (bqB (GS.bqX BK421.out) hb)
         have n2_ := Aside0.mk (bqB (GS.bqX BK422.out) hb)
         have n3_ := Aside0.mk (bqB (GS.bqX BK428.out) hb)
         have n4_ := Aside0.mk (lqT (by repeat (first | (with_reducible first | exact HB.out | apply lqA | apply lqN | apply lqD | refine lqS ?_ GE422.out | refine lqS ?_ GE428.out) | exact HB.out)) hb)
         have n5_ := Aside0.mk (hbox)
         have n6_ := Aside0.mk ((by rw [hg]; exact (lqZ (by repeat (first | (with_reducible first | exact HB.out | apply lqA | apply lqN | apply lqD | refine lqS ?_ GE422.out | refine lqS ?_ GE428.out) | exact HB.out))) : w.heap.size ≤ gb441))
         have n7_ := Aside0.mk ((by rw [hg]; exact (lqZ (by repeat (first | (with_reducible first | exact HB.out | apply lqA | apply lqN | apply lqD | refine lqS ?_ GE422.out | refine lqS ?_ GE428.out) | exact HB.out))) : w.heap.size ≤ gb441))
         have n8_ := Aside0.mk ((by rw [hg]; exact Nat.ne_of_lt (blk_lt (GS.bqX BK421.out)) : gb421 ≠ gb441))
         have n9_ := Aside0.mk ((by rw [hg]; exact Nat.ne_of_gt (blk_lt (GS.bqX BK421.out)) : gb441 ≠ gb421))
         have n10_ := Aside0.mk ((by rw [hg]; exact Nat.ne_of_lt (blk_lt (GS.bqX BK422.out)) : gb422 ≠ gb441))
         have n11_ := Aside0.mk ((by rw [hg]; exact Nat.ne_of_gt (blk_lt (GS.bqX BK422.out)) : gb441 ≠ gb422))
         have n12_ := Aside0.mk ((by rw [hg]; exact Nat.ne_of_lt (blk_lt (GS.bqX BK428.out)) : gb428 ≠ gb441))
         have n13_ := Aside0.mk ((by rw [hg]; exact Nat.ne_of_gt (blk_lt (GS.bqX BK428.out)) : gb441 ≠ gb428))
         have z_HO434 := fun (h0_ : b 1 = true) => (show Kd.R k33 33 w41 w.heap.size (fun k_ => some k_ ≠ (.slice Ao39 x429002_1.length co39 : Value).ownBlock) v433 t432 from by first | exact (Kd.R_below (by (with_reducible repeat (first | apply Kd.R_alloc | apply Kd.R_drewN | apply Kd.R_drew)); exact (Q_HO434 h0_)) hb) | exact Kd.R_mono (Kd.R_below (by (with_reducible repeat (first | apply Kd.R_alloc | apply Kd.R_drewN | apply Kd.R_drew)); exact (Q_HO434 h0_)) hb) (fun _ hk => GS.cj hk))
         have z_HO439 := fun (h0_ : b 6 = true) => (show Kd.R k33 33 w41 w.heap.size (fun k_ => some k_ ≠ (.slice Ao39 x429002_1.length co39 : Value).ownBlock) v438 t437 from by first | exact (Kd.R_below (by (with_reducible repeat (first | apply Kd.R_alloc | apply Kd.R_drewN | apply Kd.R_drew)); exact (Q_HO439 h0_)) hb) | exact Kd.R_mono (Kd.R_below (by (with_reducible repeat (first | apply Kd.R_alloc | apply Kd.R_drewN | apply Kd.R_drew)); exact (Q_HO439 h0_)) hb) (fun _ hk => GS.cj hk))
         clear HO_429002
         clear BK421
         clear BK422
         clear BK428
         clear HB
         have HO_429002 := n0_
         have BK421 := n1_
         have BK422 := n2_
         have BK428 := n3_
         have HB := n4_
         have BK441 := n5_
         have GW441 := n6_
         have GE441 := n7_
         have NB421_441 := n8_
         have NB441_421 := n9_
         have NB422_441 := n10_
         have NB441_422 := n11_
         have NB428_441 := n12_
         have NB441_428 := n13_
         clear n0_ n1_ n2_ n3_ n4_ n5_ n6_ n7_ n8_ n9_ n10_ n11_ n12_ n13_
         clear hb hbox hg
         refine hK.out _ _ ⟨v433, v438, gb441, m1_, m6_, m7_, m8_, (.pointer (some ⟨gb441, 0, none⟩)), (by rw [ha.out]; exact putSel_upk 8 hb_ rfl rfl rfl), (by (with_reducible repeat (first | apply Kd.R_alloc | apply Kd.R_drewN | apply Kd.R_drew)); exact HO_429002.out), (GS.bqX BK421.out), (GS.bqX BK422.out), (GS.bqX BK428.out), (by repeat (first | (with_reducible first | exact HB.out | apply lqA | apply lqN | apply lqD | refine lqS ?_ GE422.out | refine lqS ?_ GE428.out | refine lqS ?_ GE441.out) | exact HB.out)), fun _ _ => (GS.bqX BK441.out), fun _ => GW441.out, fun _ => GE441.out, fun _ => NB421_441.out, fun _ => NB441_421.out, fun _ => NB422_441.out, fun _ => NB441_422.out, fun _ => NB428_441.out, fun _ => NB441_428.out, fun h0_ => absurd ((hoff 11 (by kernel_rfl)).symm.trans h0_) (by decide), z_HO434, z_HO439, Q_X1_, Q_X6_, Q_X7_, Q_X8_, fun _ => rfl⟩
        refine steps_cons ?_ ?_
        ·rintro b a w' ⟨v433, v438, gb441, m1_, m6_, m7_, m8_, m10_, ha, Q_HO_429002, Q_BK421, Q_BK422, Q_BK428, Q_HB, Q_BK441, Q_GW441, Q_GE441, Q_NB421_441, Q_NB441_421, Q_NB422_441, Q_NB441_422, Q_NB428_441, Q_NB441_428, Q_BK441_e11, Q_HO434, Q_HO439, Q_X1_, Q_X6_, Q_X7_, Q_X8_, Q_X10_⟩ hb_ hon hoff
         refine ⟨_, rfl, fun K hK => ?_⟩
         have e7 : a.tmps[7]? = some (m10_) := by rw [ha]; exact putSel_on (e := (10, 7, m10_)) 8 rfl rfl (hon 10 (by kernel_rfl)) rfl
         rw [Q_X10_ (hon 10 (by kernel_rfl))] at e7
         have e25 : a.tmps[25]? = some (m8_) := by rw [ha]; exact putSel_on (e := (8, 25, m8_)) 6 rfl rfl (hon 8 (by kernel_rfl)) rfl
         rw [Q_X8_ (hon 8 (by kernel_rfl))] at e25
         replace ha := Aside0.mk ha
         have HO_429002 := Aside0.mk Q_HO_429002
         have BK421 := Aside0.mk Q_BK421
         have BK422 := Aside0.mk Q_BK422
         have BK428 := Aside0.mk Q_BK428
         have HB := Aside0.mk Q_HB
         have BK441 := Aside0.mk (Q_BK441 (hon 10 (by kernel_rfl)) hb_)
         have GW441 := Aside0.mk (Q_GW441 (hon 10 (by kernel_rfl)))
         have GE441 := Aside0.mk (Q_GE441 (hon 10 (by kernel_rfl)))
         have NB421_441 := Aside0.mk (Q_NB421_441 (hon 10 (by kernel_rfl)))
         have NB441_421 := Aside0.mk (Q_NB441_421 (hon 10 (by kernel_rfl)))
         have NB422_441 := Aside0.mk (Q_NB422_441 (hon 10 (by kernel_rfl)))
         have NB441_422 := Aside0.mk (Q_NB441_422 (hon 10 (by kernel_rfl)))
         have NB428_441 := Aside0.mk (Q_NB428_441 (hon 10 (by kernel_rfl)))
         have NB441_428 := Aside0.mk (Q_NB441_428 (hon 10 (by kernel_rfl)))
         have HO434 := Aside0.mk (Q_HO434 (hon 1 (by kernel_rfl)))
         have HO439 := Aside0.mk (Q_HO439 (hon 6 (by kernel_rfl)))
         obtain ⟨Ao48, co48, eo48⟩ := Kd.R_slice HO439.out
         (first | subst eo48 | (injection eo48 with f1_ f2_ f3_; have f4_ := f1_.symm; have f5_ := f3_.symm; clear f1_ f2_ f3_; subst f4_; subst f5_))
         have hs46 : w'.cell? ⟨gb441, 0, none⟩ = some (.int .i64 0) := (bqC BK441.out 0).trans rfl
         have hfs46 := bqF BK441.out 0
         have hns46_0 := NB421_441.out
         have hns46_1 := NB422_441.out
         have hns46_2 := NB428_441.out
         have hms46_0 := NB441_421.out
         have hms46_1 := NB441_422.out
         have hms46_2 := NB441_428.out
         have hs47 : w'.cell? ⟨gb441, 1, none⟩ = some (.int .i64 0) := (bqC BK441.out 1).trans rfl
         have hfs47 := bqF BK441.out 1
         have hns47_0 := NB421_441.out
         have hns47_1 := NB422_441.out
         have hns47_2 := NB428_441.out
         have hms47_0 := NB441_421.out
         have hms47_1 := NB441_422.out
         have hms47_2 := NB441_428.out
         have hs49 : w'.cell? ⟨gb441, 2, none⟩ = some (.slice none 0 0) := (bqC BK441.out 2).trans rfl
         have hfs49 := bqF BK441.out 2
         have hns49_0 := NB421_441.out
         have hns49_1 := NB422_441.out
         have hns49_2 := NB428_441.out
         have hms49_0 := NB441_421.out
         have hms49_1 := NB441_422.out
         have hms49_2 := NB441_428.out
         refine skip_ (w1 := ?_) (by rfl) rfl ?_ ?_
         rotate_left
         ·go_simp
          rfl
         refine hK.out _ _ ⟨v433, .slice Ao48 t437.length co48, gb441, m1_, m6_, m7_, m8_, m10_, (by rw [ha.out]; exact putSel_none (v := undef) rfl), (by (with_reducible repeat (first | apply Kd.R_alloc | apply Kd.R_drewN | apply Kd.R_drew)); exact Kd.R_mono (Kd.R_far (p := ⟨gb441, 2, none⟩) (Kd.R_far (p := ⟨gb441, 1, none⟩) (Kd.R_far (p := ⟨gb441, 0, none⟩) (Kd.R_types HO_429002.out BK441.out (by decide)) (fun _ hk => hk.2) (.int .i64 t435)) (fun _ hk => hk.2) (.int .i64 t436)) (fun _ hk => hk.2) (.slice Ao48 t437.length co48)) (fun _ hk => GS.cj hk)), (GS.bqX BK421.out), (GS.bqX BK422.out), (GS.bqX BK428.out), (by repeat (first | (with_reducible first | exact HB.out | apply lqA | apply lqN | apply lqD | refine lqS ?_ GE422.out | refine lqS ?_ GE428.out | refine lqS ?_ GE441.out) | exact HB.out)), fun _ h1_ => absurd ((up_self b 11).symm.trans h1_) (by decide), fun _ => GW441.out, fun _ => GE441.out, fun _ => NB421_441.out, fun _ => NB441_421.out, fun _ => NB422_441.out, fun _ => NB441_422.out, fun _ => NB428_441.out, fun _ => NB441_428.out, fun _ => (GS.bqZ BK441.out), fun _ => (by (with_reducible repeat (first | apply Kd.R_alloc | apply Kd.R_drewN | apply Kd.R_drew)); exact Kd.R_mono (Kd.R_far (p := ⟨gb441, 2, none⟩) (Kd.R_far (p := ⟨gb441, 1, none⟩) (Kd.R_far (p := ⟨gb441, 0, none⟩) (Kd.R_types HO434.out BK441.out (by decide)) (fun _ hk => hk.2) (.int .i64 t435)) (fun _ hk => hk.2) (.int .i64 t436)) (fun _ hk => hk.2) (.slice Ao48 t437.length co48)) (fun _ hk => GS.cj hk)), fun _ => (by (with_reducible repeat (first | apply Kd.R_alloc | apply Kd.R_drewN | apply Kd.R_drew)); exact Kd.R_mono (Kd.R_far (p := ⟨gb441, 2, none⟩) (Kd.R_far (p := ⟨gb441, 1, none⟩) (Kd.R_far (p := ⟨gb441, 0, none⟩) (Kd.R_types HO439.out BK441.out (by decide)) (fun _ hk => hk.2) (.int .i64 t435)) (fun _ hk => hk.2) (.int .i64 t436)) (fun _ hk => hk.2) (.slice Ao48 t437.length co48)) (fun _ hk => GS.cj hk)), Q_X1_, Q_X6_, Q_X7_, Q_X8_, Q_X10_⟩
        refine steps_cons ?_ ?_
        ·rintro b a w' ⟨v433, v438, gb441, m1_, m6_, m7_, m8_, m10_, ha, Q_HO_429002, Q_BK421, Q_BK422, Q_BK428, Q_HB, Q_BK441, Q_GW441, Q_GE441, Q_NB421_441, Q_NB441_421, Q_NB422_441, Q_NB441_422, Q_NB428_441, Q_NB441_428, Q_BK441_e11, Q_HO434, Q_HO439, Q_X1_, Q_X6_, Q_X7_, Q_X8_, Q_X10_⟩ hb_ hon hoff
         refine ⟨_, rfl, fun K hK => ?_⟩
         have e26 : a.tmps[26]? = some (.int .i64 t440) := by rw [ha]; exact putSel_on (e := (9, 26, .int .i64 t440)) 7 rfl rfl (hon 9 (by kernel_rfl)) rfl
         replace ha := Aside0.mk ha
         have HO_429002 := Aside0.mk Q_HO_429002
         have BK421 := Aside0.mk Q_BK421
         have BK422 := Aside0.mk Q_BK422
         have BK428 := Aside0.mk Q_BK428
         have HB := Aside0.mk Q_HB
         have GW441 := Aside0.mk (Q_GW441 (hon 10 (by kernel_rfl)))
         have GE441 := Aside0.mk (Q_GE441 (hon 10 (by kernel_rfl)))
         have NB421_441 := Aside0.mk (Q_NB421_441 (hon 10 (by kernel_rfl)))
         have NB441_421 := Aside0.mk (Q_NB441_421 (hon 10 (by kernel_rfl)))
         have NB422_441 := Aside0.mk (Q_NB422_441 (hon 10 (by kernel_rfl)))
         have NB441_422 := Aside0.mk (Q_NB441_422 (hon 10 (by kernel_rfl)))
         have NB428_441 := Aside0.mk (Q_NB428_441 (hon 10 (by kernel_rfl)))
         have NB441_428 := Aside0.mk (Q_NB441_428 (hon 10 (by kernel_rfl)))
         have BK441 := Aside0.mk (Q_BK441_e11 (hon 11 (by kernel_rfl)))
         have HO434 := Aside0.mk (Q_HO434 (hon 1 (by kernel_rfl)))
         have HO439 := Aside0.mk (Q_HO439 (hon 6 (by kernel_rfl)))
         refine value_ (w1 := w') (v := .int .i64 t440) (by rfl) rfl ?_ ?_
         ·go_simp
          (try simp only [i64_w])
          try rfl
         refine hK.out _ _ ⟨v433, v438, gb441, m1_, m6_, m7_, m8_, m10_, (by rw [ha.out]; exact putSel_upk 9 hb_ rfl rfl rfl), Q_HO_429002, Q_BK421, Q_BK422, Q_BK428, Q_HB, fun _ h1_ => absurd ((hon 11 (by kernel_rfl)).symm.trans h1_) (by decide), Q_GW441, Q_GE441, Q_NB421_441, Q_NB441_421, Q_NB422_441, Q_NB441_422, Q_NB428_441, Q_NB441_428, Q_BK441_e11, Q_HO434, Q_HO439, Q_X1_, Q_X6_, Q_X7_, Q_X8_, Q_X10_⟩
        exact steps_nil
       rintro b a w49 hall ⟨v433, v438, gb441, m1_, m6_, m7_, m8_, m10_, ha, Q_HO_429002, Q_BK421, Q_BK422, Q_BK428, Q_HB, Q_BK441, Q_GW441, Q_GE441, Q_NB421_441, Q_NB441_421, Q_NB422_441, Q_NB441_422, Q_NB428_441, Q_NB441_428, Q_BK441_e11, Q_HO434, Q_HO439, Q_X1_, Q_X6_, Q_X7_, Q_X8_, Q_X10_⟩
       clear BK421 BK422 BK428 HB HO_429002
       have hb0_ := hall 0 (by kernel_rfl)
       have hb1_ := hall 1 (by kernel_rfl)
       have hb3_ := hall 3 (by kernel_rfl)
       have hb5_ := hall 5 (by kernel_rfl)
       have hb6_ := hall 6 (by kernel_rfl)
       have hb7_ := hall 7 (by kernel_rfl)
       have hb8_ := hall 8 (by kernel_rfl)
       have hb9_ := hall 9 (by kernel_rfl)
       have hb10_ := hall 10 (by kernel_rfl)
       have hb11_ := hall 11 (by kernel_rfl)
       have hb12_ := hall 12 (by kernel_rfl)
       subst ha
       obtain rfl := Q_X1_ hb1_
       obtain rfl := Q_X6_ hb6_
       obtain rfl := Q_X7_ hb7_
       obtain rfl := Q_X8_ hb8_
       obtain rfl := Q_X10_ hb10_
       simp only [putSel, hb0_, hb1_, hb3_, hb5_, hb6_, hb7_, hb8_, hb9_, hb10_, hb11_, hb12_, if_true, Act.put, List.setIfInBounds_toArray, List.set_cons_zero, List.set_cons_succ]
       have HO_429002 := Aside0.mk Q_HO_429002
       clear Q_HO_429002
       have BK421 := Aside0.mk Q_BK421
       clear Q_BK421
       have BK422 := Aside0.mk Q_BK422
       clear Q_BK422
       have BK428 := Aside0.mk Q_BK428
       clear Q_BK428
       have HB := Aside0.mk Q_HB
       clear Q_HB
       clear Q_BK441
       have GW441 := Aside0.mk (Q_GW441 hb10_)
       clear Q_GW441
       have GE441 := Aside0.mk (Q_GE441 hb10_)
       clear Q_GE441
       have NB421_441 := Aside0.mk (Q_NB421_441 hb10_)
       clear Q_NB421_441
       have NB441_421 := Aside0.mk (Q_NB441_421 hb10_)
       clear Q_NB441_421
       have NB422_441 := Aside0.mk (Q_NB422_441 hb10_)
       clear Q_NB422_441
       have NB441_422 := Aside0.mk (Q_NB441_422 hb10_)
       clear Q_NB441_422
       have NB428_441 := Aside0.mk (Q_NB428_441 hb10_)
       clear Q_NB428_441
       have NB441_428 := Aside0.mk (Q_NB441_428 hb10_)
       clear Q_NB441_428
       have BK441 := Aside0.mk (Q_BK441_e11 hb11_)
       clear Q_BK441_e11
       have HO434 := Aside0.mk (Q_HO434 hb1_)
       clear Q_HO434
       have HO439 := Aside0.mk (Q_HO439 hb6_)
       clear Q_HO439
       clear hall hb0_ hb1_ hb3_ hb5_ hb6_ hb7_ hb8_ hb9_ hb10_ hb11_ hb12_
       try go_wp2
       go_roundg k1
       case measure => have := HK1.out; omega
       case rel => exact ⟨(wrap64 (x13_1 + 1)), (x429000_1), (x429001_1), (x429002_1), (.slice Ao39 x429002_1.length co39), (by first | rfl | (simp; done) | (simp [*]; done)), H', ⟨by have := HK1.out; omega⟩, ⟨by (with_reducible repeat (first | apply Kd.R_alloc | apply Kd.R_drewN | apply Kd.R_drew)); exact Kd.R_mono HO_429002.out (fun _ hk => trivial)⟩, ⟨GS.bqX BK421.out⟩, ⟨GS.bqX BK422.out⟩, ⟨GS.bqX BK428.out⟩, ⟨by repeat (first | (with_reducible first | exact HB.out | apply lqA | apply lqN | apply lqD | refine lqS ?_ GE422.out | refine lqS ?_ GE428.out | refine lqS ?_ GE441.out) | exact HB.out)⟩⟩
     ·rw [if_neg c16] at H
      exact absurd H (by simp)
    ·rw [if_neg c15] at H
     exact absurd H (by simp)
   ·rw [if_neg c14] at H
    have c14b0 : decide (x13_1 < (l0.length : Int)) = false := decide_eq_false c14
    clear c14
    simp only [Option.some.injEq, Prod.mk.injEq] at H
    obtain ⟨rfl, rfl, rfl⟩ := H
    have hnb50 := NB428_421.out
    have hnc50 := NB421_428.out
    have hnb51 := NB428_422.out
    have hnc51 := NB422_428.out
    have hcz52_0 : wr.cell? ⟨gb428, 0, none⟩ = some (.int .i64 x429000_1) := (bqC BK428.out 0).trans rfl
    have hcz52_1 : wr.cell? ⟨gb428, 1, none⟩ = some (.int .i64 x429001_1) := (bqC BK428.out 1).trans rfl
    have hcz52_2 : wr.cell? ⟨gb428, 2, none⟩ = some (u429002) := (bqC BK428.out 2).trans rfl
    have hfz52_0 := bqF BK428.out 0
    have hfz52_1 := bqF BK428.out 1
    have hfz52_2 := bqF BK428.out 2
    have hnb53 := NB422_421.out
    have hnc53 := NB421_422.out
    have hcz54_0 : wr.cell? ⟨gb422, 0, none⟩ = some (.int .i64 0) := (bqC BK422.out 0).trans rfl
    have hcz54_1 : wr.cell? ⟨gb422, 1, none⟩ = some (.int .i64 0) := (bqC BK422.out 1).trans rfl
    have hcz54_2 : wr.cell? ⟨gb422, 2, none⟩ = some (.slice none 0 0) := (bqC BK422.out 2).trans rfl
    have hfz54_0 := bqF BK422.out 0
    have hfz54_1 := bqF BK422.out 1
    have hfz54_2 := bqF BK422.out 2
    obtain ⟨Ao55, co55, eo55⟩ := Kd.R_slice HO_429002.out
    subst eo55
    go_wp2
    refine bodyPost_ret (results_cell_row rfl _ _ gb422 24 #[.int .i64 x429000_1, .int .i64 x429001_1, .slice Ao55 x429002_1.length co55] (0, 0) _ rfl (GS.bqZ BK422.out) Try.underlying24 rfl (by kernel_rfl)) rfl ?_
    exact ⟨_, by first | rfl | (simp [errW_none, errW_some] <;> rfl) | (simp [*, errW_none, errW_some] <;> rfl), by (with_reducible repeat (first | apply Kd.R_alloc | apply Kd.R_drewN | apply Kd.R_drew)); exact Kd.R_mono (Kd.R_far (p := ⟨gb422, 2, none⟩) (Kd.R_far (p := ⟨gb422, 1, none⟩) (Kd.R_far (p := ⟨gb422, 0, none⟩) (Kd.R_types HO_429002.out BK422.out (by decide)) (fun _ hk => hk.2) (.int .i64 x429000_1)) (fun _ hk => hk.2) (.int .i64 x429001_1)) (fun _ hk => hk.2) (.slice Ao55 x429002_1.length co55)) (fun _ hk => trivial), by repeat (first | (with_reducible first | exact HB.out | apply lqA | apply lqN | apply lqD | refine lqS ?_ GE422.out | refine lqS ?_ GE428.out) | exact HB.out)⟩

end Go.Proofs.Ytfafeeobjlkjnaa.K
