import Derived.Test.YtefjmcljkmppoaaK0
import Derived.Test.YtefjmcljkmppoaaGPu
import Derived.Test.YtefjmcljkmppoaaGShort
import Derived.Test.YtefjmcljkmppoaaGField
import Derived.Test.YtefjmcljkmppoaaGSym
import Derived.Test.YtefjmcljkmppoaaK12
import Derived.Test.YtefjmcljkmppoaaK16
namespace Go.Proofs.Ytefjmcljkmppoaa.K
open Go.RowKit Go.Proofs.YtefjmcljkmppoaaW.PrintWords Go.Proofs.YtefjmcljkmppoaaW.PrintLast Go.Proofs.YtefjmcljkmppoaaW.PrintMore
attribute [local go_sem] max2_int min2_int max_two min_two max_three min_three max_four min_four   -- for this text's walks alone
set_option linter.unusedVariables false
set_option linter.unusedSimpArgs false
def spileref11_Of.l0 : Nat → List Int → Int → Int → Int → Int → ByteArray → Int → List (S39) → Int → Int → Int → Option (Int × Int)
 | 0, _, _, _, _, _, _, _, _, _, _, _ => none
 | k + 1, x1, x2, x3, x9, x11, x419000, x419001, x419002, x419003, x422000, x422001 => if x11 < (x1.length : Int) then (if 0 ≤ (wrap64 (x11 - 1)) then (if (wrap64 (x11 - 1)) < (x1.length : Int) then ((spileref08_Radius.f k x419002 (rd x1 (wrap64 (x11 - 1)))).bind fun bt423 => (if 0 ≤ x11 then ((spileref08_Radius.f k x419002 (rd x1 x11)).bind fun bt426 => ((spileref07_Of.f k (mn bt423.1 bt426.1) x9 x2 x3).bind fun bt432 => ((spileref07_Of.f k (mx bt423.2 bt426.2) x9 x2 x3).bind fun bt434 => (spileref11_Of.l0 k x1 x2 x3 x9 (wrap64 (x11 + 1)) x419000 x419001 x419002 x419003 (wrap64 (x422000 + (wrap64 ((wrap64 ((rd x1 x11) - (rd x1 (wrap64 (x11 - 1))))) * bt432.1)))) (wrap64 (x422001 + (wrap64 ((wrap64 ((rd x1 x11) - (rd x1 (wrap64 (x11 - 1))))) * bt434.2)))))))) else (none))) else (none)) else (none)) else (some (x422000, x422001))
def spileref11_Of.f (k : Nat) (a0_0 : ByteArray) (a0_1 : Int) (l0_2 : List (S39)) (a0_3 : Int) (l1 : List Int) (a2 : Int) (a3 : Int) : Option (Int × Int) := (spileref09_Radius.f k a0_0 a0_1 l0_2 a0_3).bind fun t420 => (spileref11_Of.l0 k l1 a2 a3 t420 1 a0_0 a0_1 l0_2 a0_3 0 0)
def spileref11_Of.T6 : Bool × List (List Nat × List Nat) := (true, [([], []), ([0], [0]), ([], []), ([], []), ([3], [3]), ([2, 4], [2, 4]), ([5], [5]), ([1, 6], [1, 6]), ([], []), ([8], [8]), ([], []), ([], []), ([10, 11], [10, 11]), ([12], [12]), ([9, 13, 7], [9, 13]), ([], []), ([], []), ([15, 7, 14, 0, 1, 2, 3, 4, 5, 6, 7, 15, 16], [7, 15]), ([16, 14, 17, 0, 1, 2, 3, 4, 5, 6, 7, 8, 9, 10, 11, 12, 13, 14, 15, 16, 17], [14, 16])])
def spileref11_Of.B6 : List Nat := [0, 1, 0, 0, 8, 28, 60, 127, 0, 256, 0, 0, 3072, 7168, 16383, 0, 0, 131071, 262143]
theorem spileref11_Of.tab6 : rtab .any (opsOf Try.f59 6) = spileref11_Of.T6 := by kernel_rfl
theorem spileref11_Of.bits6 : waitsOk spileref11_Of.T6.2 spileref11_Of.B6 = true := by kernel_rfl
def spileref11_Of.T7 : Bool × List (List Nat × List Nat) := (true, [([], []), ([], []), ([0, 1], [0, 1]), ([2], [2]), ([], []), ([], []), ([5], [5]), ([4, 6], [4, 6]), ([7], [7]), ([3, 8], [3, 8]), ([9, 0, 1, 2, 3, 4, 5, 6, 7, 8, 9], [9])])
def spileref11_Of.B7 : List Nat := [0, 0, 3, 7, 0, 0, 32, 112, 240, 511, 1023]
theorem spileref11_Of.tab7 : rtab .any (opsOf Try.f59 7) = spileref11_Of.T7 := by kernel_rfl
theorem spileref11_Of.bits7 : waitsOk spileref11_Of.T7.2 spileref11_Of.B7 = true := by kernel_rfl
def spileref11_Of.T8 : Bool × List (List Nat × List Nat) := (true, [([], []), ([0], [0]), ([], []), ([], []), ([3], [3]), ([], []), ([5], [5]), ([4, 6], [4, 6]), ([], []), ([], []), ([], []), ([7, 8, 9, 10], [7, 8, 9, 10]), ([11], [11]), ([2, 12], [2, 12]), ([1, 13], [1, 13]), ([0, 1, 2, 3, 4, 5, 6, 7, 8, 9, 10, 11, 12, 13, 14], []), ([15, 14, 11, 0, 1, 2, 3, 4, 5, 6, 7, 8, 9, 10, 11, 12, 13, 14], [14, 15])])
def spileref11_Of.B8 : List Nat := [0, 1, 0, 0, 8, 0, 32, 120, 0, 0, 0, 2040, 4088, 8188, 16383, 32767, 65535]
theorem spileref11_Of.tab8 : rtab .any (opsOf Try.f59 8) = spileref11_Of.T8 := by kernel_rfl
theorem spileref11_Of.bits8 : waitsOk spileref11_Of.T8.2 spileref11_Of.B8 = true := by kernel_rfl
def spileref11_Of.T9 : Bool × List (List Nat × List Nat) := (true, [([], []), ([0], [0]), ([], []), ([], []), ([3], [3]), ([], []), ([5], [5]), ([4, 6], [4, 6]), ([], []), ([], []), ([], []), ([7, 8, 9, 10], [7, 8, 9, 10]), ([11], [11]), ([2, 12], [2, 12]), ([1, 13], [1, 13]), ([0, 1, 2, 3, 4, 5, 6, 7, 8, 9, 10, 11, 12, 13, 14], []), ([15, 14, 11, 0, 1, 2, 3, 4, 5, 6, 7, 8, 9, 10, 11, 12, 13, 14], [14, 15])])
def spileref11_Of.B9 : List Nat := [0, 1, 0, 0, 8, 0, 32, 120, 0, 0, 0, 2040, 4088, 8188, 16383, 32767, 65535]
theorem spileref11_Of.tab9 : rtab .any (opsOf Try.f59 9) = spileref11_Of.T9 := by kernel_rfl
theorem spileref11_Of.bits9 : waitsOk spileref11_Of.T9.2 spileref11_Of.B9 = true := by kernel_rfl
set_option maxHeartbeats 8000000 in
set_option maxRecDepth 100000 in
theorem spileref11_Of.calls (k : Nat) (a0_0 : ByteArray) (a0_1 : Int) (A0_2 : Option Addr) (c0_2 : Nat) (l0_2 : List (S39)) (a0_3 : Int) (A1 : Option Addr) (c1 : Nat) (l1 : List Int) (a2 : Int) (a3 : Int) (r1 : Int) (r2 : Int) (w : World) (hr0_2 : Kd.C k39 w A0_2 l0_2.length l0_2) (hc0_2 : l0_2.length ≤ c0_2) (hr1 : Kd.C (Kd.int .i64) w A1 l1.length l1) (hc1 : l1.length ≤ c1) (h : spileref11_Of.f k a0_0 a0_1 l0_2 a0_3 l1 a2 a3 = some (r1, r2)) :
  Calls Try.prog 59 #[.agg #[.string a0_0, .int .i64 a0_1, .slice A0_2 l0_2.length c0_2, .int .i64 a0_3], .slice A1 l1.length c1, .int .i64 a2, .int .i64 a3] w fun e w' => e = .returned (.agg #[.int .i64 r1, .int .i64 r2]) ∧ Below w.heap.size w w' := by
 have hf28a := field28.1
 have hf28b := field28.2
 have hu24 := Try.underlying24
 have hu28 := Try.underlying28
 have HR0_2 := Aside0.mk hr0_2
 have HC0_2 := Aside0.mk hc0_2
 clear hr0_2 hc0_2
 have HR1 := Aside0.mk hr1
 have HC1 := Aside0.mk hc1
 clear hr1 hc1
 have HB := Aside0.mk (Below.refl w.heap.size w)
 have H : ((spileref09_Radius.f k a0_0 a0_1 l0_2 a0_3).bind fun t420 => (spileref11_Of.l0 k l1 a2 a3 t420 1 a0_0 a0_1 l0_2 a0_3 0 0)) = some (r1, r2) := h
 clear h
 replace H := Option.bind_eq_some_iff.mp H
 obtain ⟨t420, A50, H⟩ := H
 try (set_option simprocs false in dsimp only at H)
 have A5 := Aside0.mk A50
 clear A50
 have H' := Aside0.mk H
 clear H
 go_enter Try.func59, Try.ntmps59
 go_wp2_with (first | ((with_reducible refine gqD (N := 4) rfl ?_); refine GS.bx (N := 4) (cs := #[.string a0_0, .int .i64 a0_1, .slice A0_2 l0_2.length c0_2, .int .i64 a0_3]) (t := 24) ?_; intro gb418 hg w6 hbox hb; have q_ := GS.q4 (GS.kH HB hb) (Aside0.mk hbox) (GS.kZ hg HB) (GS.kZ hg HB); clear HB; obtain ⟨HB, BK418, GW418, GE418⟩ := q_; clear hb hbox hg) | ((with_reducible refine gqD (N := 8) rfl ?_); refine GS.bx (N := 8) (cs := #[.int .i64 0, .int .i64 0]) (t := 28) ?_; intro gb419 hg w7 hbox hb; have q_ := GS.q7 (GS.kB BK418 hb) (GS.kH HB hb) (Aside0.mk hbox) (GS.kZ hg HB) (GS.kZ hg HB) (Aside0.mk ((by rw [hg]; exact Nat.ne_of_lt (blk_lt (GS.bqX BK418.out)) : gb418 ≠ gb419))) (Aside0.mk ((by rw [hg]; exact Nat.ne_of_gt (blk_lt (GS.bqX BK418.out)) : gb419 ≠ gb418))); clear BK418 HB; obtain ⟨BK418, HB, BK419, GW419, GE419, NB418_419, NB419_418⟩ := q_; clear hb hbox hg; have hnb8 := NB418_419.out; have hnc8 := NB419_418.out; obtain ⟨hcz9_0, hcz9_1, hcz9_2, hcz9_3, hfz9_0, hfz9_1, hfz9_2, hfz9_3⟩ := GS.c4 BK418.out) | ((with_reducible refine gqC (f := 47) rfl ?_); refine GS.gL (some 16) Try.func47 #[.agg #[.string a0_0, .int .i64 a0_1, .slice A0_2 l0_2.length c0_2, .int .i64 a0_3]] ?_; (with_reducible refine (spileref09_Radius.calls k a0_0 a0_1 _ _ l0_2 a0_3 t420 _ ?side1 ?side2 A5.out).mono ?_); (case side1 => exact GS.rC (Kd.C_below HR0_2.out HB.out)); (case side2 => exact HC0_2.out); rintro e w10 ⟨rfl, hb⟩; refine ⟨_, rfl, ?_⟩; have q_ := GS.q3 (GS.kB BK418 hb) (GS.kB BK419 hb) (GS.kH HB hb); clear BK418 BK419 HB; obtain ⟨BK418, BK419, HB⟩ := q_; (try clear hb); (try clear hb2); (try clear hk); (try clear hi)) | ((with_reducible refine gqD (N := 10) rfl ?_); refine GS.bx (N := 10) (cs := #[.int .i64 0, .int .i64 0]) (t := 28) ?_; intro gb421 hg w11 hbox hb; have q_ := GS.q10 (GS.kB BK418 hb) (GS.kB BK419 hb) (GS.kH HB hb) (Aside0.mk hbox) (GS.kZ hg HB) (GS.kZ hg HB) (Aside0.mk ((by rw [hg]; exact Nat.ne_of_lt (blk_lt (GS.bqX BK418.out)) : gb418 ≠ gb421))) (Aside0.mk ((by rw [hg]; exact Nat.ne_of_gt (blk_lt (GS.bqX BK418.out)) : gb421 ≠ gb418))) (Aside0.mk ((by rw [hg]; exact Nat.ne_of_lt (blk_lt (GS.bqX BK419.out)) : gb419 ≠ gb421))) (Aside0.mk ((by rw [hg]; exact Nat.ne_of_gt (blk_lt (GS.bqX BK419.out)) : gb421 ≠ gb419))); clear BK418 BK419 HB; obtain ⟨BK418, BK419, HB, BK421, GW421, GE421, NB418_421, NB421_418, NB419_421, NB421_419⟩ := q_; clear hb hbox hg; have hnb12 := NB421_418.out; have hnc12 := NB418_421.out; have hnb13 := NB421_419.out; have hnc13 := NB419_421.out; obtain ⟨hcz14_0, hcz14_1, hfz14_0, hfz14_1⟩ := GS.c2 BK421.out))
 go_loopg [11] k (fun kq v11 w' => ∃ (x11_1 : Int) (x422000_1 : Int) (x422001_1 : Int), v11 = .int .i64 x11_1 ∧ Aside0 (spileref11_Of.l0 kq l1 a2 a3 t420 x11_1 a0_0 a0_1 l0_2 a0_3 x422000_1 x422001_1 = some (r1, r2)) ∧ Aside0 (kq ≤ k) ∧ Aside0 (w'.heap[gb418]? = some (.cells #[.string a0_0, .int .i64 a0_1, (.slice A0_2 l0_2.length c0_2), .int .i64 a0_3] 24 (0, 0))) ∧ Aside0 (w'.heap[gb419]? = some (.cells #[.int .i64 0, .int .i64 0] 28 (0, 0))) ∧ Aside0 (w'.heap[gb421]? = some (.cells #[.int .i64 x422000_1, .int .i64 x422001_1] 28 (0, 0))) ∧ Aside0 (Below w.heap.size w w'))
 case atStart => exact ⟨(1), (0), (0), (by first | rfl | (simp; done) | (simp [*]; done)), H', ⟨Nat.le_refl _⟩, ⟨GS.bqX BK418.out⟩, ⟨GS.bqX BK419.out⟩, ⟨GS.bqZ BK421.out⟩, ⟨GS.lB HB.out⟩⟩
 case round =>
  clear H'
  try clear hcz14_0
  try clear hcz14_1
  try clear hcz9_0
  try clear hcz9_1
  try clear hcz9_2
  try clear hcz9_3
  try clear hfz14_0
  try clear hfz14_1
  try clear hfz9_0
  try clear hfz9_1
  try clear hfz9_2
  try clear hfz9_3
  obtain ⟨x11_1, x422000_1, x422001_1, rfl, HA, HK1, BK418, BK419, BK421, HB⟩ := hrel
  cases gk with
  | zero => exact absurd HA.out (by simp [spileref11_Of.l0])
  | succ k1 =>
   have H := HA.out
   clear HA
   simp only [spileref11_Of.l0] at H
   by_cases c15 : x11_1 < (l1.length : Int)
   ·rw [if_pos c15] at H
    have c15b0 : decide (x11_1 < (l1.length : Int)) = true := decide_eq_true c15
    clear c15
    obtain ⟨ji16, hji16⟩ : ∃ j_ : Int, (wrap64 (x11_1 - 1)) = j_ := ⟨_, rfl⟩
    replace H : (if 0 ≤ (ji16) then (if (ji16) < (l1.length : Int) then ((spileref08_Radius.f k1 l0_2 (rd l1 (ji16))).bind fun bt423 => (if 0 ≤ x11_1 then ((spileref08_Radius.f k1 l0_2 (rd l1 x11_1)).bind fun bt426 => ((spileref07_Of.f k1 (mn bt423.1 bt426.1) t420 a2 a3).bind fun bt432 => ((spileref07_Of.f k1 (mx bt423.2 bt426.2) t420 a2 a3).bind fun bt434 => (spileref11_Of.l0 k1 l1 a2 a3 t420 (wrap64 (x11_1 + 1)) a0_0 a0_1 l0_2 a0_3 (wrap64 (x422000_1 + (wrap64 ((wrap64 ((rd l1 x11_1) - (rd l1 (ji16)))) * bt432.1)))) (wrap64 (x422001_1 + (wrap64 ((wrap64 ((rd l1 x11_1) - (rd l1 (ji16)))) * bt434.2)))))))) else (none))) else (none)) else (none)) = some (r1, r2) := by first | (rw [hji16] at H; exact H) | (simp only [hji16] at H ⊢; exact H)
    have hji16w : (IntKind.i64.wrap (x11_1 - 1)) = ji16 := (i64_w _).trans hji16
    by_cases c17 : 0 ≤ (ji16)
    ·rw [if_pos c17] at H
     have c17b0 : decide (0 ≤ (ji16)) = true := decide_eq_true c17
     clear c17
     by_cases c18 : (ji16) < (l1.length : Int)
     ·rw [if_pos c18] at H
      have c18b0 : decide ((ji16) < (l1.length : Int)) = true := decide_eq_true c18
      clear c18
      replace H := Option.bind_eq_some_iff.mp H
      obtain ⟨⟨t423, t424⟩, A190, H⟩ := H
      try (set_option simprocs false in dsimp only at H)
      have A19 := Aside0.mk A190
      clear A190
      by_cases c20 : 0 ≤ x11_1
      ·rw [if_pos c20] at H
       have c20b0 : decide (0 ≤ x11_1) = true := decide_eq_true c20
       clear c20
       replace H := Option.bind_eq_some_iff.mp H
       obtain ⟨⟨t426, t427⟩, A210, H⟩ := H
       try (set_option simprocs false in dsimp only at H)
       have A21 := Aside0.mk A210
       clear A210
       obtain ⟨ji22, hji22⟩ : ∃ j_ : Int, (mn t423 t426) = j_ := ⟨_, rfl⟩
       replace H : ((spileref07_Of.f k1 (ji22) t420 a2 a3).bind fun bt432 => ((spileref07_Of.f k1 (mx t424 t427) t420 a2 a3).bind fun bt434 => (spileref11_Of.l0 k1 l1 a2 a3 t420 (wrap64 (x11_1 + 1)) a0_0 a0_1 l0_2 a0_3 (wrap64 (x422000_1 + (wrap64 ((wrap64 ((rd l1 x11_1) - (rd l1 (ji16)))) * bt432.1)))) (wrap64 (x422001_1 + (wrap64 ((wrap64 ((rd l1 x11_1) - (rd l1 (ji16)))) * bt434.2))))))) = some (r1, r2) := by first | (rw [hji22] at H; exact H) | (simp only [hji22] at H ⊢; exact H)
       have hji22_ : (if t426 < t423 then t426 else t423) = ji22 := hji22
       replace H := Option.bind_eq_some_iff.mp H
       obtain ⟨⟨t432, t433⟩, A230, H⟩ := H
       try (set_option simprocs false in dsimp only at H)
       have A23 := Aside0.mk A230
       clear A230
       obtain ⟨ji24, hji24⟩ : ∃ j_ : Int, (mx t424 t427) = j_ := ⟨_, rfl⟩
       replace H : ((spileref07_Of.f k1 (ji24) t420 a2 a3).bind fun bt434 => (spileref11_Of.l0 k1 l1 a2 a3 t420 (wrap64 (x11_1 + 1)) a0_0 a0_1 l0_2 a0_3 (wrap64 (x422000_1 + (wrap64 ((wrap64 ((rd l1 x11_1) - (rd l1 (ji16)))) * t432)))) (wrap64 (x422001_1 + (wrap64 ((wrap64 ((rd l1 x11_1) - (rd l1 (ji16)))) * bt434.2)))))) = some (r1, r2) := by first | (rw [hji24] at H; exact H) | (simp only [hji24] at H ⊢; exact H)
       have hji24_ : (if t424 < t427 then t427 else t424) = ji24 := hji24
       replace H := Option.bind_eq_some_iff.mp H
       obtain ⟨⟨t434, t435⟩, A250, H⟩ := H
       try (set_option simprocs false in dsimp only at H)
       have A25 := Aside0.mk A250
       clear A250
       have H' := Aside0.mk H
       clear H
       try go_wp2
       have q_ := GS.q4 (Aside0.mk (bqD BK418.out)) (Aside0.mk (bqD BK419.out)) (Aside0.mk (bqD BK421.out)) (Aside0.mk (lqD HB.out))
       clear BK418 BK419 BK421 HB
       obtain ⟨BK418, BK419, BK421, HB⟩ := q_
       have p422 : 0 ≤ ((ji16) : Int) := of_decide_eq_true (by first | (with_reducible assumption) | assumption)
       have q422 : (ji16) < (l1.length : Int) := of_decide_eq_true (by first | (with_reducible assumption) | assumption)
       obtain ⟨ad422, e422, hx422_0⟩ := Kd.at_int HR1.out (ji16) p422 q422
       have hw422_0 := hx422_0
       cases e422
       replace hx422_0 := (HB.out.cell (World.block_lt_of_cell? w _ hx422_0)).trans hx422_0
       replace p422 := eq_true p422
       replace q422 := eq_true q422
       have p425 : 0 ≤ (x11_1 : Int) := of_decide_eq_true (by first | (with_reducible assumption) | assumption)
       have q425 : x11_1 < (l1.length : Int) := of_decide_eq_true (by first | (with_reducible assumption) | assumption)
       obtain ⟨ad425, e425, hx425_0⟩ := Kd.at_int HR1.out x11_1 p425 q425
       have hw425_0 := hx425_0
       obtain rfl : ad422 = ad425 := (by injection e425)
       replace hx425_0 := (HB.out.cell (World.block_lt_of_cell? w _ hx425_0)).trans hx425_0
       replace p425 := eq_true p425
       replace q425 := eq_true q425
       refine start_ (n := 19) (S := fun w' => True) (ds := []) #[false, false, false, false, false, false, false, false, false, false, false, false, false, false, false, false, false, false, false] (by kernel_rfl) rfl rfl trivial (fun hHeld => ?_); refine with_tabW spileref11_Of.tab6 spileref11_Of.bits6 (fun HT_ HW_ => ?_)
       generalize wr.drew = w26 at BK418 BK419 BK421 HB hx422_0 hx425_0 hHeld ⊢
       refine GS.pu 0 (some 24) HT_.out ?_
       refine GS.pu 2 (some 26) HT_.out ?_
       refine GS.pu 3 (some 27) HT_.out ?_
       refine GS.pu 8 (some 32) HT_.out ?_
       refine GS.pu 10 (some 34) HT_.out ?_
       refine GS.pu 11 (some 35) HT_.out ?_
       refine inv_at [1, 4, 5, 6, 7, 9, 12, 13, 14, 15, 16, 17, 18] (fun a0_ b a w' => ∃ (gb428 : Nat) (gb429 : Nat) (m15_ : Value) (m16_ : Value), a = putSel a0_ b [(1, 25, .slice A0_2 l0_2.length c0_2), (4, 28, .int .i64 ji16), (5, 29, .pointer (some (ad422.add ((ji16)).toNat))), (6, 30, .int .i64 (rd l1 (ji16))), (7, 31, .agg #[.int .i64 t423, .int .i64 t424]), (9, 33, .slice A0_2 l0_2.length c0_2), (12, 36, .pointer (some (ad422.add (x11_1).toNat))), (13, 37, .int .i64 (rd l1 x11_1)), (14, 38, .agg #[.int .i64 t426, .int .i64 t427]), (15, 12, m15_), (16, 13, m16_)] ∧ (w'.heap[gb418]? = some (.cells #[.string a0_0, .int .i64 a0_1, .slice A0_2 l0_2.length c0_2, .int .i64 a0_3] 24 (0, 0))) ∧ (w'.heap[gb419]? = some (.cells #[.int .i64 0, .int .i64 0] 28 (0, 0))) ∧ (w'.heap[gb421]? = some (.cells #[.int .i64 x422000_1, .int .i64 x422001_1] 28 (0, 0))) ∧ (Below w.heap.size w w') ∧ (b 15 = true → b 16 = true → gb429 ≠ gb428) ∧ (b 15 = true → b 16 = true → gb428 ≠ gb429) ∧ (b 15 = true → b 17 = false → w'.heap[gb428]? = some (.cells #[.int .i64 0, .int .i64 0] 28 (0, 0))) ∧ (b 15 = true → w.heap.size ≤ gb428) ∧ (b 15 = true → w.heap.size ≤ gb428) ∧ (b 15 = true → gb418 ≠ gb428) ∧ (b 15 = true → gb428 ≠ gb418) ∧ (b 15 = true → gb419 ≠ gb428) ∧ (b 15 = true → gb428 ≠ gb419) ∧ (b 15 = true → gb421 ≠ gb428) ∧ (b 15 = true → gb428 ≠ gb421) ∧ (b 16 = true → b 18 = false → w'.heap[gb429]? = some (.cells #[.int .i64 0, .int .i64 0] 28 (0, 0))) ∧ (b 16 = true → w.heap.size ≤ gb429) ∧ (b 16 = true → w.heap.size ≤ gb429) ∧ (b 16 = true → gb418 ≠ gb429) ∧ (b 16 = true → gb429 ≠ gb418) ∧ (b 16 = true → gb419 ≠ gb429) ∧ (b 16 = true → gb429 ≠ gb419) ∧ (b 16 = true → gb421 ≠ gb429) ∧ (b 16 = true → gb429 ≠ gb421) ∧ (b 17 = true → w'.heap[gb428]? = some (.cells #[.int .i64 t423, .int .i64 t424] 28 (0, 0))) ∧ (b 18 = true → w'.heap[gb429]? = some (.cells #[.int .i64 t426, .int .i64 t427] 28 (0, 0))) ∧ (b 15 = true → (m15_ : Value) = .pointer (some ⟨gb428, 0, none⟩)) ∧ (b 16 = true → (m16_ : Value) = .pointer (some ⟨gb429, 0, none⟩))) HT_.out HW_.out (by kernel_rfl) (by kernel_rfl) ?_ ?_ ?_
       ·exact ⟨0, 0, .bool false, .bool false, by simp only [putSel, Bool.false_eq_true, if_false], BK418.out, BK419.out, BK421.out, HB.out, fun h_ => absurd h_ (by decide), fun h_ => absurd h_ (by decide), fun h_ => absurd h_ (by decide), fun h_ => absurd h_ (by decide), fun h_ => absurd h_ (by decide), fun h_ => absurd h_ (by decide), fun h_ => absurd h_ (by decide), fun h_ => absurd h_ (by decide), fun h_ => absurd h_ (by decide), fun h_ => absurd h_ (by decide), fun h_ => absurd h_ (by decide), fun h_ => absurd h_ (by decide), fun h_ => absurd h_ (by decide), fun h_ => absurd h_ (by decide), fun h_ => absurd h_ (by decide), fun h_ => absurd h_ (by decide), fun h_ => absurd h_ (by decide), fun h_ => absurd h_ (by decide), fun h_ => absurd h_ (by decide), fun h_ => absurd h_ (by decide), fun h_ => absurd h_ (by decide), fun h_ => absurd h_ (by decide), fun h_ => absurd h_ (by decide), fun h_ => absurd h_ (by decide)⟩
       ·skip
        clear BK418 BK419 BK421 HB
        refine steps_cons ?_ ?_
        ·rintro b a w' ⟨gb428, gb429, m15_, m16_, ha, Q_BK418, Q_BK419, Q_BK421, Q_HB, Q_NB429_428, Q_NB428_429, Q_BK428, Q_GW428, Q_GE428, Q_NB418_428, Q_NB428_418, Q_NB419_428, Q_NB428_419, Q_NB421_428, Q_NB428_421, Q_BK429, Q_GW429, Q_GE429, Q_NB418_429, Q_NB429_418, Q_NB419_429, Q_NB429_419, Q_NB421_429, Q_NB429_421, Q_BK428_e17, Q_BK429_e18, Q_X15_, Q_X16_⟩ hb_ hon hoff
         refine ⟨_, rfl, fun K hK => ?_⟩
         have e24 : a.tmps[24]? = some (.pointer (some ⟨gb418, 2, none⟩)) := by rw [ha]; exact (putSel_off rfl).trans rfl
         replace ha := Aside0.mk ha
         have BK418 := Aside0.mk Q_BK418
         have BK419 := Aside0.mk Q_BK419
         have BK421 := Aside0.mk Q_BK421
         have HB := Aside0.mk Q_HB
         have hc0_ : w'.cell? ⟨gb418, 0, none⟩ = some (.string a0_0) := (bqC BK418.out 0).trans rfl
         have hc1_ : w'.cell? ⟨gb418, 1, none⟩ = some (.int .i64 a0_1) := (bqC BK418.out 1).trans rfl
         have hc2_ : w'.cell? ⟨gb418, 2, none⟩ = some (.slice A0_2 l0_2.length c0_2) := (bqC BK418.out 2).trans rfl
         have hc3_ : w'.cell? ⟨gb418, 3, none⟩ = some (.int .i64 a0_3) := (bqC BK418.out 3).trans rfl
         refine value_ (w1 := w') (v := .slice A0_2 l0_2.length c0_2) (by rfl) rfl ?_ ?_
         ·go_simp
          (try simp only [i64_w])
          try rfl
         refine hK.out _ _ ⟨gb428, gb429, m15_, m16_, (by rw [ha.out]; exact putSel_upk 0 hb_ rfl rfl rfl), Q_BK418, Q_BK419, Q_BK421, Q_HB, Q_NB429_428, Q_NB428_429, Q_BK428, Q_GW428, Q_GE428, Q_NB418_428, Q_NB428_418, Q_NB419_428, Q_NB428_419, Q_NB421_428, Q_NB428_421, Q_BK429, Q_GW429, Q_GE429, Q_NB418_429, Q_NB429_418, Q_NB419_429, Q_NB429_419, Q_NB421_429, Q_NB429_421, fun h0_ => absurd ((hoff 17 (by kernel_rfl)).symm.trans h0_) (by decide), fun h0_ => absurd ((hoff 18 (by kernel_rfl)).symm.trans h0_) (by decide), Q_X15_, Q_X16_⟩
        refine steps_cons ?_ ?_
        ·rintro b a w' ⟨gb428, gb429, m15_, m16_, ha, Q_BK418, Q_BK419, Q_BK421, Q_HB, Q_NB429_428, Q_NB428_429, Q_BK428, Q_GW428, Q_GE428, Q_NB418_428, Q_NB428_418, Q_NB419_428, Q_NB428_419, Q_NB421_428, Q_NB428_421, Q_BK429, Q_GW429, Q_GE429, Q_NB418_429, Q_NB429_418, Q_NB419_429, Q_NB429_419, Q_NB421_429, Q_NB429_421, Q_BK428_e17, Q_BK429_e18, Q_X15_, Q_X16_⟩ hb_ hon hoff
         refine ⟨_, rfl, fun K hK => ?_⟩
         have e27 : a.tmps[27]? = some (.int .i64 x11_1) := by rw [ha]; exact (putSel_off rfl).trans rfl
         replace ha := Aside0.mk ha
         have BK418 := Aside0.mk Q_BK418
         have BK419 := Aside0.mk Q_BK419
         have BK421 := Aside0.mk Q_BK421
         have HB := Aside0.mk Q_HB
         refine value_ (w1 := w') (v := .int .i64 ji16) (by rfl) rfl ?_ ?_
         ·go_simp
          (try simp only [i64_w])
          try rfl
         refine hK.out _ _ ⟨gb428, gb429, m15_, m16_, (by rw [ha.out]; exact putSel_upk 1 hb_ rfl rfl rfl), Q_BK418, Q_BK419, Q_BK421, Q_HB, Q_NB429_428, Q_NB428_429, Q_BK428, Q_GW428, Q_GE428, Q_NB418_428, Q_NB428_418, Q_NB419_428, Q_NB428_419, Q_NB421_428, Q_NB428_421, Q_BK429, Q_GW429, Q_GE429, Q_NB418_429, Q_NB429_418, Q_NB419_429, Q_NB429_419, Q_NB421_429, Q_NB429_421, fun h0_ => absurd ((hoff 17 (by kernel_rfl)).symm.trans h0_) (by decide), fun h0_ => absurd ((hoff 18 (by kernel_rfl)).symm.trans h0_) (by decide), Q_X15_, Q_X16_⟩
        refine steps_cons ?_ ?_
        ·rintro b a w' ⟨gb428, gb429, m15_, m16_, ha, Q_BK418, Q_BK419, Q_BK421, Q_HB, Q_NB429_428, Q_NB428_429, Q_BK428, Q_GW428, Q_GE428, Q_NB418_428, Q_NB428_418, Q_NB419_428, Q_NB428_419, Q_NB421_428, Q_NB428_421, Q_BK429, Q_GW429, Q_GE429, Q_NB418_429, Q_NB429_418, Q_NB419_429, Q_NB429_419, Q_NB421_429, Q_NB429_421, Q_BK428_e17, Q_BK429_e18, Q_X15_, Q_X16_⟩ hb_ hon hoff
         refine ⟨_, rfl, fun K hK => ?_⟩
         have e26 : a.tmps[26]? = some (.slice (some ad422) l1.length c1) := by rw [ha]; exact (putSel_off rfl).trans rfl
         have e28 : a.tmps[28]? = some (.int .i64 ji16) := by rw [ha]; exact putSel_on (e := (4, 28, .int .i64 ji16)) 1 rfl rfl (hon 4 (by kernel_rfl)) rfl
         replace ha := Aside0.mk ha
         have BK418 := Aside0.mk Q_BK418
         have BK419 := Aside0.mk Q_BK419
         have BK421 := Aside0.mk Q_BK421
         have HB := Aside0.mk Q_HB
         have hs0_ : w'.cell? (ad422.add ((ji16)).toNat) = some (.int .i64 (rd l1 (ji16))) := ((HB.out.cell (World.block_lt_of_cell? w _ hw422_0)).trans hw422_0)
         refine value_ (w1 := w') (v := .pointer (some (ad422.add ((ji16)).toNat))) (by rfl) rfl ?_ ?_
         ·go_simp
          (try simp only [i64_w])
          try rfl
         refine hK.out _ _ ⟨gb428, gb429, m15_, m16_, (by rw [ha.out]; exact putSel_upk 2 hb_ rfl rfl rfl), Q_BK418, Q_BK419, Q_BK421, Q_HB, Q_NB429_428, Q_NB428_429, Q_BK428, Q_GW428, Q_GE428, Q_NB418_428, Q_NB428_418, Q_NB419_428, Q_NB428_419, Q_NB421_428, Q_NB428_421, Q_BK429, Q_GW429, Q_GE429, Q_NB418_429, Q_NB429_418, Q_NB419_429, Q_NB429_419, Q_NB421_429, Q_NB429_421, fun h0_ => absurd ((hoff 17 (by kernel_rfl)).symm.trans h0_) (by decide), fun h0_ => absurd ((hoff 18 (by kernel_rfl)).symm.trans h0_) (by decide), Q_X15_, Q_X16_⟩
        refine steps_cons ?_ ?_
        ·rintro b a w' ⟨gb428, gb429, m15_, m16_, ha, Q_BK418, Q_BK419, Q_BK421, Q_HB, Q_NB429_428, Q_NB428_429, Q_BK428, Q_GW428, Q_GE428, Q_NB418_428, Q_NB428_418, Q_NB419_428, Q_NB428_419, Q_NB421_428, Q_NB428_421, Q_BK429, Q_GW429, Q_GE429, Q_NB418_429, Q_NB429_418, Q_NB419_429, Q_NB429_419, Q_NB421_429, Q_NB429_421, Q_BK428_e17, Q_BK429_e18, Q_X15_, Q_X16_⟩ hb_ hon hoff
         refine ⟨_, rfl, fun K hK => ?_⟩
         have e29 : a.tmps[29]? = some (.pointer (some (ad422.add ((ji16)).toNat))) := by rw [ha]; exact putSel_on (e := (5, 29, .pointer (some (ad422.add ((ji16)).toNat)))) 2 rfl rfl (hon 5 (by kernel_rfl)) rfl
         replace ha := Aside0.mk ha
         have BK418 := Aside0.mk Q_BK418
         have BK419 := Aside0.mk Q_BK419
         have BK421 := Aside0.mk Q_BK421
         have HB := Aside0.mk Q_HB
         have hs0_ : w'.cell? (ad422.add ((ji16)).toNat) = some (.int .i64 (rd l1 (ji16))) := ((HB.out.cell (World.block_lt_of_cell? w _ hw422_0)).trans hw422_0)
         refine value_ (w1 := w') (v := .int .i64 (rd l1 (ji16))) (by rfl) rfl ?_ ?_
         ·go_simp
          (try simp only [i64_w])
          try rfl
         refine hK.out _ _ ⟨gb428, gb429, m15_, m16_, (by rw [ha.out]; exact putSel_upk 3 hb_ rfl rfl rfl), Q_BK418, Q_BK419, Q_BK421, Q_HB, Q_NB429_428, Q_NB428_429, Q_BK428, Q_GW428, Q_GE428, Q_NB418_428, Q_NB428_418, Q_NB419_428, Q_NB428_419, Q_NB421_428, Q_NB428_421, Q_BK429, Q_GW429, Q_GE429, Q_NB418_429, Q_NB429_418, Q_NB419_429, Q_NB429_419, Q_NB421_429, Q_NB429_421, fun h0_ => absurd ((hoff 17 (by kernel_rfl)).symm.trans h0_) (by decide), fun h0_ => absurd ((hoff 18 (by kernel_rfl)).symm.trans h0_) (by decide), Q_X15_, Q_X16_⟩
        refine steps_cons ?_ ?_
        ·rintro b a w' ⟨gb428, gb429, m15_, m16_, ha, Q_BK418, Q_BK419, Q_BK421, Q_HB, Q_NB429_428, Q_NB428_429, Q_BK428, Q_GW428, Q_GE428, Q_NB418_428, Q_NB428_418, Q_NB419_428, Q_NB428_419, Q_NB421_428, Q_NB428_421, Q_BK429, Q_GW429, Q_GE429, Q_NB418_429, Q_NB429_418, Q_NB419_429, Q_NB429_419, Q_NB421_429, Q_NB429_421, Q_BK428_e17, Q_BK429_e18, Q_X15_, Q_X16_⟩ hb_ hon hoff
         refine ⟨_, rfl, fun K hK => ?_⟩
         have e25 : a.tmps[25]? = some (.slice A0_2 l0_2.length c0_2) := by rw [ha]; exact putSel_on (e := (1, 25, .slice A0_2 l0_2.length c0_2)) 0 rfl rfl (hon 1 (by kernel_rfl)) rfl
         have e30 : a.tmps[30]? = some (.int .i64 (rd l1 (ji16))) := by rw [ha]; exact putSel_on (e := (6, 30, .int .i64 (rd l1 (ji16)))) 3 rfl rfl (hon 6 (by kernel_rfl)) rfl
         replace ha := Aside0.mk ha
         have BK418 := Aside0.mk Q_BK418
         have BK419 := Aside0.mk Q_BK419
         have BK421 := Aside0.mk Q_BK421
         have HB := Aside0.mk Q_HB
         refine goes_ Try.func86 (by kernel_rfl) rfl #[.slice A0_2 l0_2.length c0_2, .int .i64 (rd l1 (ji16))] (by rfl) rfl rfl (by (try simp only [List.map_toArray, List.map_cons, List.map_nil]); first | done | (go_simp; done) | (simp only [hji16]; rfl) | rfl | (simp only [List.length_drop, List.length_take]; rfl)) ?_
         with_reducible refine (spileref08_Radius.calls k1 _ _ l0_2 (rd l1 (ji16)) t423 t424 _ ?side1 ?side2 A19.out).mono ?_
         (case side1 => exact GS.rC (Kd.C_below HR0_2.out HB.out))
         (case side2 => exact HC0_2.out)
         rintro e w27 ⟨rfl, hb⟩
         refine ⟨_, rfl, ?_⟩
         have n0_ := Aside0.mk (bqB (GS.bqX BK418.out) hb)
         have n1_ := Aside0.mk (bqB (GS.bqX BK419.out) hb)
         have n2_ := Aside0.mk (bqB (GS.bqX BK421.out) hb)
         have n3_ := Aside0.mk (lqT (GS.lB HB.out) hb)
         have z_BK428 := fun (h0_ : b 15 = true) (h1_ : b 17 = false) => (show w27.heap[gb428]? = some (.cells #[.int .i64 0, .int .i64 0] 28 (0, 0)) from by first | exact (bqB (GS.bqX (Q_BK428 h0_ h1_)) hb))
         have z_BK429 := fun (h0_ : b 16 = true) (h1_ : b 18 = false) => (show w27.heap[gb429]? = some (.cells #[.int .i64 0, .int .i64 0] 28 (0, 0)) from by first | exact (bqB (GS.bqX (Q_BK429 h0_ h1_)) hb))
         clear BK418
         clear BK419
         clear BK421
         clear HB
         have BK418 := n0_
         have BK419 := n1_
         have BK421 := n2_
         have HB := n3_
         clear n0_ n1_ n2_ n3_
         (try clear hb)
         refine hK.out _ _ ⟨gb428, gb429, m15_, m16_, (by rw [ha.out]; exact putSel_upk 4 hb_ rfl rfl rfl), (GS.bqX BK418.out), (GS.bqX BK419.out), (GS.bqX BK421.out), (GS.lB HB.out), Q_NB429_428, Q_NB428_429, z_BK428, Q_GW428, Q_GE428, Q_NB418_428, Q_NB428_418, Q_NB419_428, Q_NB428_419, Q_NB421_428, Q_NB428_421, z_BK429, Q_GW429, Q_GE429, Q_NB418_429, Q_NB429_418, Q_NB419_429, Q_NB429_419, Q_NB421_429, Q_NB429_421, fun h0_ => absurd ((hoff 17 (by kernel_rfl)).symm.trans h0_) (by decide), fun h0_ => absurd ((hoff 18 (by kernel_rfl)).symm.trans h0_) (by decide), Q_X15_, Q_X16_⟩
        refine steps_cons ?_ ?_
        ·rintro b a w' ⟨gb428, gb429, m15_, m16_, ha, Q_BK418, Q_BK419, Q_BK421, Q_HB, Q_NB429_428, Q_NB428_429, Q_BK428, Q_GW428, Q_GE428, Q_NB418_428, Q_NB428_418, Q_NB419_428, Q_NB428_419, Q_NB421_428, Q_NB428_421, Q_BK429, Q_GW429, Q_GE429, Q_NB418_429, Q_NB429_418, Q_NB419_429, Q_NB429_419, Q_NB421_429, Q_NB429_421, Q_BK428_e17, Q_BK429_e18, Q_X15_, Q_X16_⟩ hb_ hon hoff
         refine ⟨_, rfl, fun K hK => ?_⟩
         have e32 : a.tmps[32]? = some (.pointer (some ⟨gb418, 2, none⟩)) := by rw [ha]; exact (putSel_off rfl).trans rfl
         replace ha := Aside0.mk ha
         have BK418 := Aside0.mk Q_BK418
         have BK419 := Aside0.mk Q_BK419
         have BK421 := Aside0.mk Q_BK421
         have HB := Aside0.mk Q_HB
         have hc0_ : w'.cell? ⟨gb418, 0, none⟩ = some (.string a0_0) := (bqC BK418.out 0).trans rfl
         have hc1_ : w'.cell? ⟨gb418, 1, none⟩ = some (.int .i64 a0_1) := (bqC BK418.out 1).trans rfl
         have hc2_ : w'.cell? ⟨gb418, 2, none⟩ = some (.slice A0_2 l0_2.length c0_2) := (bqC BK418.out 2).trans rfl
         have hc3_ : w'.cell? ⟨gb418, 3, none⟩ = some (.int .i64 a0_3) := (bqC BK418.out 3).trans rfl
         refine value_ (w1 := w') (v := .slice A0_2 l0_2.length c0_2) (by rfl) rfl ?_ ?_
         ·go_simp
          (try simp only [i64_w])
          try rfl
         refine hK.out _ _ ⟨gb428, gb429, m15_, m16_, (by rw [ha.out]; exact putSel_upk 5 hb_ rfl rfl rfl), Q_BK418, Q_BK419, Q_BK421, Q_HB, Q_NB429_428, Q_NB428_429, Q_BK428, Q_GW428, Q_GE428, Q_NB418_428, Q_NB428_418, Q_NB419_428, Q_NB428_419, Q_NB421_428, Q_NB428_421, Q_BK429, Q_GW429, Q_GE429, Q_NB418_429, Q_NB429_418, Q_NB419_429, Q_NB429_419, Q_NB421_429, Q_NB429_421, fun h0_ => absurd ((hoff 17 (by kernel_rfl)).symm.trans h0_) (by decide), fun h0_ => absurd ((hoff 18 (by kernel_rfl)).symm.trans h0_) (by decide), Q_X15_, Q_X16_⟩
        refine steps_cons ?_ ?_
        ·rintro b a w' ⟨gb428, gb429, m15_, m16_, ha, Q_BK418, Q_BK419, Q_BK421, Q_HB, Q_NB429_428, Q_NB428_429, Q_BK428, Q_GW428, Q_GE428, Q_NB418_428, Q_NB428_418, Q_NB419_428, Q_NB428_419, Q_NB421_428, Q_NB428_421, Q_BK429, Q_GW429, Q_GE429, Q_NB418_429, Q_NB429_418, Q_NB419_429, Q_NB429_419, Q_NB421_429, Q_NB429_421, Q_BK428_e17, Q_BK429_e18, Q_X15_, Q_X16_⟩ hb_ hon hoff
         refine ⟨_, rfl, fun K hK => ?_⟩
         have e34 : a.tmps[34]? = some (.slice (some ad422) l1.length c1) := by rw [ha]; exact (putSel_off rfl).trans rfl
         have e35 : a.tmps[35]? = some (.int .i64 x11_1) := by rw [ha]; exact (putSel_off rfl).trans rfl
         replace ha := Aside0.mk ha
         have BK418 := Aside0.mk Q_BK418
         have BK419 := Aside0.mk Q_BK419
         have BK421 := Aside0.mk Q_BK421
         have HB := Aside0.mk Q_HB
         have hs1_ : w'.cell? (ad422.add (x11_1).toNat) = some (.int .i64 (rd l1 x11_1)) := ((HB.out.cell (World.block_lt_of_cell? w _ hw425_0)).trans hw425_0)
         refine value_ (w1 := w') (v := .pointer (some (ad422.add (x11_1).toNat))) (by rfl) rfl ?_ ?_
         ·go_simp
          (try simp only [i64_w])
          try rfl
         refine hK.out _ _ ⟨gb428, gb429, m15_, m16_, (by rw [ha.out]; exact putSel_upk 6 hb_ rfl rfl rfl), Q_BK418, Q_BK419, Q_BK421, Q_HB, Q_NB429_428, Q_NB428_429, Q_BK428, Q_GW428, Q_GE428, Q_NB418_428, Q_NB428_418, Q_NB419_428, Q_NB428_419, Q_NB421_428, Q_NB428_421, Q_BK429, Q_GW429, Q_GE429, Q_NB418_429, Q_NB429_418, Q_NB419_429, Q_NB429_419, Q_NB421_429, Q_NB429_421, fun h0_ => absurd ((hoff 17 (by kernel_rfl)).symm.trans h0_) (by decide), fun h0_ => absurd ((hoff 18 (by kernel_rfl)).symm.trans h0_) (by decide), Q_X15_, Q_X16_⟩
        refine steps_cons ?_ ?_
        ·rintro b a w' ⟨gb428, gb429, m15_, m16_, ha, Q_BK418, Q_BK419, Q_BK421, Q_HB, Q_NB429_428, Q_NB428_429, Q_BK428, Q_GW428, Q_GE428, Q_NB418_428, Q_NB428_418, Q_NB419_428, Q_NB428_419, Q_NB421_428, Q_NB428_421, Q_BK429, Q_GW429, Q_GE429, Q_NB418_429, Q_NB429_418, Q_NB419_429, Q_NB429_419, Q_NB421_429, Q_NB429_421, Q_BK428_e17, Q_BK429_e18, Q_X15_, Q_X16_⟩ hb_ hon hoff
         refine ⟨_, rfl, fun K hK => ?_⟩
         have e36 : a.tmps[36]? = some (.pointer (some (ad422.add (x11_1).toNat))) := by rw [ha]; exact putSel_on (e := (12, 36, .pointer (some (ad422.add (x11_1).toNat)))) 6 rfl rfl (hon 12 (by kernel_rfl)) rfl
         replace ha := Aside0.mk ha
         have BK418 := Aside0.mk Q_BK418
         have BK419 := Aside0.mk Q_BK419
         have BK421 := Aside0.mk Q_BK421
         have HB := Aside0.mk Q_HB
         have hs1_ : w'.cell? (ad422.add (x11_1).toNat) = some (.int .i64 (rd l1 x11_1)) := ((HB.out.cell (World.block_lt_of_cell? w _ hw425_0)).trans hw425_0)
         refine value_ (w1 := w') (v := .int .i64 (rd l1 x11_1)) (by rfl) rfl ?_ ?_
         ·go_simp
          (try simp only [i64_w])
          try rfl
         refine hK.out _ _ ⟨gb428, gb429, m15_, m16_, (by rw [ha.out]; exact putSel_upk 7 hb_ rfl rfl rfl), Q_BK418, Q_BK419, Q_BK421, Q_HB, Q_NB429_428, Q_NB428_429, Q_BK428, Q_GW428, Q_GE428, Q_NB418_428, Q_NB428_418, Q_NB419_428, Q_NB428_419, Q_NB421_428, Q_NB428_421, Q_BK429, Q_GW429, Q_GE429, Q_NB418_429, Q_NB429_418, Q_NB419_429, Q_NB429_419, Q_NB421_429, Q_NB429_421, fun h0_ => absurd ((hoff 17 (by kernel_rfl)).symm.trans h0_) (by decide), fun h0_ => absurd ((hoff 18 (by kernel_rfl)).symm.trans h0_) (by decide), Q_X15_, Q_X16_⟩
        refine steps_cons ?_ ?_
        ·rintro b a w' ⟨gb428, gb429, m15_, m16_, ha, Q_BK418, Q_BK419, Q_BK421, Q_HB, Q_NB429_428, Q_NB428_429, Q_BK428, Q_GW428, Q_GE428, Q_NB418_428, Q_NB428_418, Q_NB419_428, Q_NB428_419, Q_NB421_428, Q_NB428_421, Q_BK429, Q_GW429, Q_GE429, Q_NB418_429, Q_NB429_418, Q_NB419_429, Q_NB429_419, Q_NB421_429, Q_NB429_421, Q_BK428_e17, Q_BK429_e18, Q_X15_, Q_X16_⟩ hb_ hon hoff
         refine ⟨_, rfl, fun K hK => ?_⟩
         have e33 : a.tmps[33]? = some (.slice A0_2 l0_2.length c0_2) := by rw [ha]; exact putSel_on (e := (9, 33, .slice A0_2 l0_2.length c0_2)) 5 rfl rfl (hon 9 (by kernel_rfl)) rfl
         have e37 : a.tmps[37]? = some (.int .i64 (rd l1 x11_1)) := by rw [ha]; exact putSel_on (e := (13, 37, .int .i64 (rd l1 x11_1))) 7 rfl rfl (hon 13 (by kernel_rfl)) rfl
         replace ha := Aside0.mk ha
         have BK418 := Aside0.mk Q_BK418
         have BK419 := Aside0.mk Q_BK419
         have BK421 := Aside0.mk Q_BK421
         have HB := Aside0.mk Q_HB
         refine goes_ Try.func86 (by kernel_rfl) rfl #[.slice A0_2 l0_2.length c0_2, .int .i64 (rd l1 x11_1)] (by rfl) rfl rfl (by first | (simp only [List.map_toArray, List.map_cons, List.map_nil, Act.eval, Array.getD_eq_getD_getElem?, Option.getD_some, e33, e37]; done) | (simp only [List.map_toArray, List.map_cons, List.map_nil, Act.eval, Array.getD_eq_getD_getElem?, Option.getD_some, e33, e37]; rfl)) ?_
         with_reducible refine (spileref08_Radius.calls k1 _ _ l0_2 (rd l1 x11_1) t426 t427 _ ?side1 ?side2 A21.out).mono ?_
         (case side1 => exact GS.rC (Kd.C_below HR0_2.out HB.out))
         (case side2 => exact HC0_2.out)
         rintro e w29 ⟨rfl, hb⟩
         refine ⟨_, rfl, ?_⟩
         have n0_ := Aside0.mk (bqB (GS.bqX BK418.out) hb)
         have n1_ := Aside0.mk (bqB (GS.bqX BK419.out) hb)
         have n2_ := Aside0.mk (bqB (GS.bqX BK421.out) hb)
         have n3_ := Aside0.mk (lqT (GS.lB HB.out) hb)
         have z_BK428 := fun (h0_ : b 15 = true) (h1_ : b 17 = false) => (show w29.heap[gb428]? = some (.cells #[.int .i64 0, .int .i64 0] 28 (0, 0)) from by first | exact (bqB (GS.bqX (Q_BK428 h0_ h1_)) hb))
         have z_BK429 := fun (h0_ : b 16 = true) (h1_ : b 18 = false) => (show w29.heap[gb429]? = some (.cells #[.int .i64 0, .int .i64 0] 28 (0, 0)) from by first | exact (bqB (GS.bqX (Q_BK429 h0_ h1_)) hb))
         clear BK418
         clear BK419
         clear BK421
         clear HB
         have BK418 := n0_
         have BK419 := n1_
         have BK421 := n2_
         have HB := n3_
         clear n0_ n1_ n2_ n3_
         (try clear hb)
         refine hK.out _ _ ⟨gb428, gb429, m15_, m16_, (by rw [ha.out]; exact putSel_upk 8 hb_ rfl rfl rfl), (GS.bqX BK418.out), (GS.bqX BK419.out), (GS.bqX BK421.out), (GS.lB HB.out), Q_NB429_428, Q_NB428_429, z_BK428, Q_GW428, Q_GE428, Q_NB418_428, Q_NB428_418, Q_NB419_428, Q_NB428_419, Q_NB421_428, Q_NB428_421, z_BK429, Q_GW429, Q_GE429, Q_NB418_429, Q_NB429_418, Q_NB419_429, Q_NB429_419, Q_NB421_429, Q_NB429_421, fun h0_ => absurd ((hoff 17 (by kernel_rfl)).symm.trans h0_) (by decide), fun h0_ => absurd ((hoff 18 (by kernel_rfl)).symm.trans h0_) (by decide), Q_X15_, Q_X16_⟩
        refine steps_cons ?_ ?_
        ·rintro b a w' ⟨gb428, gb429, m15_, m16_, ha, Q_BK418, Q_BK419, Q_BK421, Q_HB, Q_NB429_428, Q_NB428_429, Q_BK428, Q_GW428, Q_GE428, Q_NB418_428, Q_NB428_418, Q_NB419_428, Q_NB428_419, Q_NB421_428, Q_NB428_421, Q_BK429, Q_GW429, Q_GE429, Q_NB418_429, Q_NB429_418, Q_NB419_429, Q_NB429_419, Q_NB421_429, Q_NB429_421, Q_BK428_e17, Q_BK429_e18, Q_X15_, Q_X16_⟩ hb_ hon hoff
         refine ⟨_, rfl, fun K hK => ?_⟩
         replace ha := Aside0.mk ha
         have BK418 := Aside0.mk Q_BK418
         have BK419 := Aside0.mk Q_BK419
         have BK421 := Aside0.mk Q_BK421
         have HB := Aside0.mk Q_HB
         refine box_step ?hg (N := 12) ?hd (cs := #[.int .i64 0, .int .i64 0]) (t := 28) ?hr ?_; (case hd => rfl); (case hg => rfl); (case hr => first | (go_simp; done) | (go_simp; rfl))
         intro gb428 hg w27 hbox hb
         have n0_ := Aside0.mk (bqB (GS.bqX BK418.out) hb)
         have n1_ := Aside0.mk (bqB (GS.bqX BK419.out) hb)
         have n2_ := Aside0.mk (bqB (GS.bqX BK421.out) hb)
         have n3_ := Aside0.mk (lqT (GS.lB HB.out) hb)
         have n4_ := Aside0.mk (hbox)
         have n5_ := Aside0.mk ((by rw [hg]; exact (lqZ (GS.lB HB.out)) : w.heap.size ≤ gb428))
         have n6_ := Aside0.mk ((by rw [hg]; exact (lqZ (GS.lB HB.out)) : w.heap.size ≤ gb428))
         have n7_ := Aside0.mk ((by rw [hg]; exact Nat.ne_of_lt (blk_lt (GS.bqX BK418.out)) : gb418 ≠ gb428))
         have n8_ := Aside0.mk ((by rw [hg]; exact Nat.ne_of_gt (blk_lt (GS.bqX BK418.out)) : gb428 ≠ gb418))
         have n9_ := Aside0.mk ((by rw [hg]; exact Nat.ne_of_lt (blk_lt (GS.bqX BK419.out)) : gb419 ≠ gb428))
         have n10_ := Aside0.mk ((by rw [hg]; exact Nat.ne_of_gt (blk_lt (GS.bqX BK419.out)) : gb428 ≠ gb419))
         have n11_ := Aside0.mk ((by rw [hg]; exact Nat.ne_of_lt (blk_lt (GS.bqX BK421.out)) : gb421 ≠ gb428))
         have n12_ := Aside0.mk ((by rw [hg]; exact Nat.ne_of_gt (blk_lt (GS.bqX BK421.out)) : gb428 ≠ gb421))
         have z_NB429_428 := fun (h0_ : up b 15 15 = true) (h1_ : up b 15 16 = true) => (show gb429 ≠ gb428 from ((by rw [hg]; exact Nat.ne_of_lt (blk_lt (GS.bqX (Q_BK429 h1_ (hoff 18 (by kernel_rfl))))) : gb429 ≠ gb428)))
         have z_NB428_429 := fun (h0_ : up b 15 15 = true) (h1_ : up b 15 16 = true) => (show gb428 ≠ gb429 from ((by rw [hg]; exact Nat.ne_of_gt (blk_lt (GS.bqX (Q_BK429 h1_ (hoff 18 (by kernel_rfl))))) : gb428 ≠ gb429)))
         have z_BK429 := fun (h0_ : b 16 = true) (h1_ : b 18 = false) => (show w27.heap[gb429]? = some (.cells #[.int .i64 0, .int .i64 0] 28 (0, 0)) from by first | exact (bqB (GS.bqX (Q_BK429 h0_ h1_)) hb))
         clear BK418
         clear BK419
         clear BK421
         clear HB
         have BK418 := n0_
         have BK419 := n1_
         have BK421 := n2_
         have HB := n3_
         have BK428 := n4_
         have GW428 := n5_
         have GE428 := n6_
         have NB418_428 := n7_
         have NB428_418 := n8_
         have NB419_428 := n9_
         have NB428_419 := n10_
         have NB421_428 := n11_
         have NB428_421 := n12_
         clear n0_ n1_ n2_ n3_ n4_ n5_ n6_ n7_ n8_ n9_ n10_ n11_ n12_
         clear hb hbox hg
         refine hK.out _ _ ⟨gb428, gb429, (.pointer (some ⟨gb428, 0, none⟩)), m16_, (by rw [ha.out]; exact putSel_upk 9 hb_ rfl rfl rfl), (GS.bqX BK418.out), (GS.bqX BK419.out), (GS.bqX BK421.out), (GS.lB HB.out), z_NB429_428, z_NB428_429, fun _ _ => (GS.bqX BK428.out), fun _ => GW428.out, fun _ => GE428.out, fun _ => NB418_428.out, fun _ => NB428_418.out, fun _ => NB419_428.out, fun _ => NB428_419.out, fun _ => NB421_428.out, fun _ => NB428_421.out, z_BK429, Q_GW429, Q_GE429, Q_NB418_429, Q_NB429_418, Q_NB419_429, Q_NB429_419, Q_NB421_429, Q_NB429_421, fun h0_ => absurd ((hoff 17 (by kernel_rfl)).symm.trans h0_) (by decide), fun h0_ => absurd ((hoff 18 (by kernel_rfl)).symm.trans h0_) (by decide), fun _ => rfl, Q_X16_⟩
        refine steps_cons ?_ ?_
        ·rintro b a w' ⟨gb428, gb429, m15_, m16_, ha, Q_BK418, Q_BK419, Q_BK421, Q_HB, Q_NB429_428, Q_NB428_429, Q_BK428, Q_GW428, Q_GE428, Q_NB418_428, Q_NB428_418, Q_NB419_428, Q_NB428_419, Q_NB421_428, Q_NB428_421, Q_BK429, Q_GW429, Q_GE429, Q_NB418_429, Q_NB429_418, Q_NB419_429, Q_NB429_419, Q_NB421_429, Q_NB429_421, Q_BK428_e17, Q_BK429_e18, Q_X15_, Q_X16_⟩ hb_ hon hoff
         refine ⟨_, rfl, fun K hK => ?_⟩
         replace ha := Aside0.mk ha
         have BK418 := Aside0.mk Q_BK418
         have BK419 := Aside0.mk Q_BK419
         have BK421 := Aside0.mk Q_BK421
         have HB := Aside0.mk Q_HB
         refine box_step ?hg (N := 13) ?hd (cs := #[.int .i64 0, .int .i64 0]) (t := 28) ?hr ?_; (case hd => rfl); (case hg => rfl); (case hr => first | (go_simp; done) | (go_simp; rfl))
         intro gb429 hg w27 hbox hb
         have n0_ := Aside0.mk (bqB (GS.bqX BK418.out) hb)
         have n1_ := Aside0.mk (bqB (GS.bqX BK419.out) hb)
         have n2_ := Aside0.mk (bqB (GS.bqX BK421.out) hb)
         have n3_ := Aside0.mk (lqT (GS.lB HB.out) hb)
         have n4_ := Aside0.mk (hbox)
         have n5_ := Aside0.mk ((by rw [hg]; exact (lqZ (GS.lB HB.out)) : w.heap.size ≤ gb429))
         have n6_ := Aside0.mk ((by rw [hg]; exact (lqZ (GS.lB HB.out)) : w.heap.size ≤ gb429))
         have n7_ := Aside0.mk ((by rw [hg]; exact Nat.ne_of_lt (blk_lt (GS.bqX BK418.out)) : gb418 ≠ gb429))
         have n8_ := Aside0.mk ((by rw [hg]; exact Nat.ne_of_gt (blk_lt (GS.bqX BK418.out)) : gb429 ≠ gb418))
         have n9_ := Aside0.mk ((by rw [hg]; exact Nat.ne_of_lt (blk_lt (GS.bqX BK419.out)) : gb419 ≠ gb429))
         have n10_ := Aside0.mk ((by rw [hg]; exact Nat.ne_of_gt (blk_lt (GS.bqX BK419.out)) : gb429 ≠ gb419))
         have n11_ := Aside0.mk ((by rw [hg]; exact Nat.ne_of_lt (blk_lt (GS.bqX BK421.out)) : gb421 ≠ gb429))
         have n12_ := Aside0.mk ((by rw [hg]; exact Nat.ne_of_gt (blk_lt (GS.bqX BK421.out)) : gb429 ≠ gb421))
         have z_NB429_428 := fun (h0_ : up b 16 15 = true) (h1_ : up b 16 16 = true) => (show gb429 ≠ gb428 from ((by rw [hg]; exact Nat.ne_of_gt (blk_lt (GS.bqX (Q_BK428 h0_ (hoff 17 (by kernel_rfl))))) : gb429 ≠ gb428)))
         have z_NB428_429 := fun (h0_ : up b 16 15 = true) (h1_ : up b 16 16 = true) => (show gb428 ≠ gb429 from ((by rw [hg]; exact Nat.ne_of_lt (blk_lt (GS.bqX (Q_BK428 h0_ (hoff 17 (by kernel_rfl))))) : gb428 ≠ gb429)))
         have z_BK428 := fun (h0_ : b 15 = true) (h1_ : b 17 = false) => (show w27.heap[gb428]? = some (.cells #[.int .i64 0, .int .i64 0] 28 (0, 0)) from by first | exact (bqB (GS.bqX (Q_BK428 h0_ h1_)) hb))
         clear BK418
         clear BK419
         clear BK421
         clear HB
         have BK418 := n0_
         have BK419 := n1_
         have BK421 := n2_
         have HB := n3_
         have BK429 := n4_
         have GW429 := n5_
         have GE429 := n6_
         have NB418_429 := n7_
         have NB429_418 := n8_
         have NB419_429 := n9_
         have NB429_419 := n10_
         have NB421_429 := n11_
         have NB429_421 := n12_
         clear n0_ n1_ n2_ n3_ n4_ n5_ n6_ n7_ n8_ n9_ n10_ n11_ n12_
         clear hb hbox hg
         refine hK.out _ _ ⟨gb428, gb429, m15_, (.pointer (some ⟨gb429, 0, none⟩)), (by rw [ha.out]; exact putSel_upk 10 hb_ rfl rfl rfl), (GS.bqX BK418.out), (GS.bqX BK419.out), (GS.bqX BK421.out), (GS.lB HB.out), z_NB429_428, z_NB428_429, z_BK428, Q_GW428, Q_GE428, Q_NB418_428, Q_NB428_418, Q_NB419_428, Q_NB428_419, Q_NB421_428, Q_NB428_421, fun _ _ => (GS.bqX BK429.out), fun _ => GW429.out, fun _ => GE429.out, fun _ => NB418_429.out, fun _ => NB429_418.out, fun _ => NB419_429.out, fun _ => NB429_419.out, fun _ => NB421_429.out, fun _ => NB429_421.out, fun h0_ => absurd ((hoff 17 (by kernel_rfl)).symm.trans h0_) (by decide), fun h0_ => absurd ((hoff 18 (by kernel_rfl)).symm.trans h0_) (by decide), Q_X15_, fun _ => rfl⟩
        refine steps_cons ?_ ?_
        ·rintro b a w' ⟨gb428, gb429, m15_, m16_, ha, Q_BK418, Q_BK419, Q_BK421, Q_HB, Q_NB429_428, Q_NB428_429, Q_BK428, Q_GW428, Q_GE428, Q_NB418_428, Q_NB428_418, Q_NB419_428, Q_NB428_419, Q_NB421_428, Q_NB428_421, Q_BK429, Q_GW429, Q_GE429, Q_NB418_429, Q_NB429_418, Q_NB419_429, Q_NB429_419, Q_NB421_429, Q_NB429_421, Q_BK428_e17, Q_BK429_e18, Q_X15_, Q_X16_⟩ hb_ hon hoff
         refine ⟨_, rfl, fun K hK => ?_⟩
         have e12 : a.tmps[12]? = some (m15_) := by rw [ha]; exact putSel_on (e := (15, 12, m15_)) 9 rfl rfl (hon 15 (by kernel_rfl)) rfl
         rw [Q_X15_ (hon 15 (by kernel_rfl))] at e12
         have e31 : a.tmps[31]? = some (.agg #[.int .i64 t423, .int .i64 t424]) := by rw [ha]; exact putSel_on (e := (7, 31, .agg #[.int .i64 t423, .int .i64 t424])) 4 rfl rfl (hon 7 (by kernel_rfl)) rfl
         replace ha := Aside0.mk ha
         have BK418 := Aside0.mk Q_BK418
         have BK419 := Aside0.mk Q_BK419
         have BK421 := Aside0.mk Q_BK421
         have HB := Aside0.mk Q_HB
         have NB429_428 := Aside0.mk (Q_NB429_428 (hon 15 (by kernel_rfl)) (hon 16 (by kernel_rfl)))
         have NB428_429 := Aside0.mk (Q_NB428_429 (hon 15 (by kernel_rfl)) (hon 16 (by kernel_rfl)))
         have BK428 := Aside0.mk (Q_BK428 (hon 15 (by kernel_rfl)) hb_)
         have GW428 := Aside0.mk (Q_GW428 (hon 15 (by kernel_rfl)))
         have GE428 := Aside0.mk (Q_GE428 (hon 15 (by kernel_rfl)))
         have NB418_428 := Aside0.mk (Q_NB418_428 (hon 15 (by kernel_rfl)))
         have NB428_418 := Aside0.mk (Q_NB428_418 (hon 15 (by kernel_rfl)))
         have NB419_428 := Aside0.mk (Q_NB419_428 (hon 15 (by kernel_rfl)))
         have NB428_419 := Aside0.mk (Q_NB428_419 (hon 15 (by kernel_rfl)))
         have NB421_428 := Aside0.mk (Q_NB421_428 (hon 15 (by kernel_rfl)))
         have NB428_421 := Aside0.mk (Q_NB428_421 (hon 15 (by kernel_rfl)))
         have BK429 := Aside0.mk (Q_BK429 (hon 16 (by kernel_rfl)) (hoff 18 (by kernel_rfl)))
         have GW429 := Aside0.mk (Q_GW429 (hon 16 (by kernel_rfl)))
         have GE429 := Aside0.mk (Q_GE429 (hon 16 (by kernel_rfl)))
         have NB418_429 := Aside0.mk (Q_NB418_429 (hon 16 (by kernel_rfl)))
         have NB429_418 := Aside0.mk (Q_NB429_418 (hon 16 (by kernel_rfl)))
         have NB419_429 := Aside0.mk (Q_NB419_429 (hon 16 (by kernel_rfl)))
         have NB429_419 := Aside0.mk (Q_NB429_419 (hon 16 (by kernel_rfl)))
         have NB421_429 := Aside0.mk (Q_NB421_429 (hon 16 (by kernel_rfl)))
         have NB429_421 := Aside0.mk (Q_NB429_421 (hon 16 (by kernel_rfl)))
         have hs32 : w'.cell? ⟨gb428, 0, none⟩ = some (.int .i64 0) := (bqC BK428.out 0).trans rfl
         have hfs32 := bqF BK428.out 0
         have hns32_0 := NB418_428.out
         have hns32_1 := NB419_428.out
         have hns32_2 := NB421_428.out
         have hns32_4 := NB429_428.out
         have hms32_0 := NB428_418.out
         have hms32_1 := NB428_419.out
         have hms32_2 := NB428_421.out
         have hms32_4 := NB428_429.out
         have hs33 : w'.cell? ⟨gb428, 1, none⟩ = some (.int .i64 0) := (bqC BK428.out 1).trans rfl
         have hfs33 := bqF BK428.out 1
         have hns33_0 := NB418_428.out
         have hns33_1 := NB419_428.out
         have hns33_2 := NB421_428.out
         have hns33_4 := NB429_428.out
         have hms33_0 := NB428_418.out
         have hms33_1 := NB428_419.out
         have hms33_2 := NB428_421.out
         have hms33_4 := NB428_429.out
         refine skip_ (w1 := ?_) (by rfl) rfl ?_ ?_
         rotate_left
         ·go_simp
          rfl
         refine hK.out _ _ ⟨gb428, gb429, m15_, m16_, (by rw [ha.out]; exact putSel_none (v := undef) rfl), (GS.bqX BK418.out), (GS.bqX BK419.out), (GS.bqX BK421.out), (GS.lB HB.out), fun _ _ => NB429_428.out, fun _ _ => NB428_429.out, fun _ h1_ => absurd ((up_self b 17).symm.trans h1_) (by decide), fun _ => GW428.out, fun _ => GE428.out, fun _ => NB418_428.out, fun _ => NB428_418.out, fun _ => NB419_428.out, fun _ => NB428_419.out, fun _ => NB421_428.out, fun _ => NB428_421.out, fun _ _ => (GS.bqX BK429.out), fun _ => GW429.out, fun _ => GE429.out, fun _ => NB418_429.out, fun _ => NB429_418.out, fun _ => NB419_429.out, fun _ => NB429_419.out, fun _ => NB421_429.out, fun _ => NB429_421.out, fun _ => (GS.bqZ BK428.out), fun h0_ => absurd ((hoff 18 (by kernel_rfl)).symm.trans h0_) (by decide), Q_X15_, Q_X16_⟩
        refine steps_cons ?_ ?_
        ·rintro b a w' ⟨gb428, gb429, m15_, m16_, ha, Q_BK418, Q_BK419, Q_BK421, Q_HB, Q_NB429_428, Q_NB428_429, Q_BK428, Q_GW428, Q_GE428, Q_NB418_428, Q_NB428_418, Q_NB419_428, Q_NB428_419, Q_NB421_428, Q_NB428_421, Q_BK429, Q_GW429, Q_GE429, Q_NB418_429, Q_NB429_418, Q_NB419_429, Q_NB429_419, Q_NB421_429, Q_NB429_421, Q_BK428_e17, Q_BK429_e18, Q_X15_, Q_X16_⟩ hb_ hon hoff
         refine ⟨_, rfl, fun K hK => ?_⟩
         have e13 : a.tmps[13]? = some (m16_) := by rw [ha]; exact putSel_on (e := (16, 13, m16_)) 10 rfl rfl (hon 16 (by kernel_rfl)) rfl
         rw [Q_X16_ (hon 16 (by kernel_rfl))] at e13
         have e38 : a.tmps[38]? = some (.agg #[.int .i64 t426, .int .i64 t427]) := by rw [ha]; exact putSel_on (e := (14, 38, .agg #[.int .i64 t426, .int .i64 t427])) 8 rfl rfl (hon 14 (by kernel_rfl)) rfl
         replace ha := Aside0.mk ha
         have BK418 := Aside0.mk Q_BK418
         have BK419 := Aside0.mk Q_BK419
         have BK421 := Aside0.mk Q_BK421
         have HB := Aside0.mk Q_HB
         have NB429_428 := Aside0.mk (Q_NB429_428 (hon 15 (by kernel_rfl)) (hon 16 (by kernel_rfl)))
         have NB428_429 := Aside0.mk (Q_NB428_429 (hon 15 (by kernel_rfl)) (hon 16 (by kernel_rfl)))
         have GW428 := Aside0.mk (Q_GW428 (hon 15 (by kernel_rfl)))
         have GE428 := Aside0.mk (Q_GE428 (hon 15 (by kernel_rfl)))
         have NB418_428 := Aside0.mk (Q_NB418_428 (hon 15 (by kernel_rfl)))
         have NB428_418 := Aside0.mk (Q_NB428_418 (hon 15 (by kernel_rfl)))
         have NB419_428 := Aside0.mk (Q_NB419_428 (hon 15 (by kernel_rfl)))
         have NB428_419 := Aside0.mk (Q_NB428_419 (hon 15 (by kernel_rfl)))
         have NB421_428 := Aside0.mk (Q_NB421_428 (hon 15 (by kernel_rfl)))
         have NB428_421 := Aside0.mk (Q_NB428_421 (hon 15 (by kernel_rfl)))
         have BK429 := Aside0.mk (Q_BK429 (hon 16 (by kernel_rfl)) hb_)
         have GW429 := Aside0.mk (Q_GW429 (hon 16 (by kernel_rfl)))
         have GE429 := Aside0.mk (Q_GE429 (hon 16 (by kernel_rfl)))
         have NB418_429 := Aside0.mk (Q_NB418_429 (hon 16 (by kernel_rfl)))
         have NB429_418 := Aside0.mk (Q_NB429_418 (hon 16 (by kernel_rfl)))
         have NB419_429 := Aside0.mk (Q_NB419_429 (hon 16 (by kernel_rfl)))
         have NB429_419 := Aside0.mk (Q_NB429_419 (hon 16 (by kernel_rfl)))
         have NB421_429 := Aside0.mk (Q_NB421_429 (hon 16 (by kernel_rfl)))
         have NB429_421 := Aside0.mk (Q_NB429_421 (hon 16 (by kernel_rfl)))
         have BK428 := Aside0.mk (Q_BK428_e17 (hon 17 (by kernel_rfl)))
         have hs34 : w'.cell? ⟨gb429, 0, none⟩ = some (.int .i64 0) := (bqC BK429.out 0).trans rfl
         have hfs34 := bqF BK429.out 0
         have hns34_0 := NB418_429.out
         have hns34_1 := NB419_429.out
         have hns34_2 := NB421_429.out
         have hns34_3 := NB428_429.out
         have hms34_0 := NB429_418.out
         have hms34_1 := NB429_419.out
         have hms34_2 := NB429_421.out
         have hms34_3 := NB429_428.out
         have hs35 : w'.cell? ⟨gb429, 1, none⟩ = some (.int .i64 0) := (bqC BK429.out 1).trans rfl
         have hfs35 := bqF BK429.out 1
         have hns35_0 := NB418_429.out
         have hns35_1 := NB419_429.out
         have hns35_2 := NB421_429.out
         have hns35_3 := NB428_429.out
         have hms35_0 := NB429_418.out
         have hms35_1 := NB429_419.out
         have hms35_2 := NB429_421.out
         have hms35_3 := NB429_428.out
         refine skip_ (w1 := ?_) (by rfl) rfl ?_ ?_
         rotate_left
         ·go_simp
          rfl
         refine hK.out _ _ ⟨gb428, gb429, m15_, m16_, (by rw [ha.out]; exact putSel_none (v := undef) rfl), (GS.bqX BK418.out), (GS.bqX BK419.out), (GS.bqX BK421.out), (GS.lB HB.out), fun _ _ => NB429_428.out, fun _ _ => NB428_429.out, fun _ h1_ => absurd ((hon 17 (by kernel_rfl)).symm.trans h1_) (by decide), fun _ => GW428.out, fun _ => GE428.out, fun _ => NB418_428.out, fun _ => NB428_418.out, fun _ => NB419_428.out, fun _ => NB428_419.out, fun _ => NB421_428.out, fun _ => NB428_421.out, fun _ h1_ => absurd ((up_self b 18).symm.trans h1_) (by decide), fun _ => GW429.out, fun _ => GE429.out, fun _ => NB418_429.out, fun _ => NB429_418.out, fun _ => NB419_429.out, fun _ => NB429_419.out, fun _ => NB421_429.out, fun _ => NB429_421.out, fun _ => (GS.bqX BK428.out), fun _ => (GS.bqZ BK429.out), Q_X15_, Q_X16_⟩
        exact steps_nil
       rintro b a w35 hall ⟨gb428, gb429, m15_, m16_, ha, Q_BK418, Q_BK419, Q_BK421, Q_HB, Q_NB429_428, Q_NB428_429, Q_BK428, Q_GW428, Q_GE428, Q_NB418_428, Q_NB428_418, Q_NB419_428, Q_NB428_419, Q_NB421_428, Q_NB428_421, Q_BK429, Q_GW429, Q_GE429, Q_NB418_429, Q_NB429_418, Q_NB419_429, Q_NB429_419, Q_NB421_429, Q_NB429_421, Q_BK428_e17, Q_BK429_e18, Q_X15_, Q_X16_⟩
       clear BK418 BK419 BK421 HB
       have hb1_ := hall 1 (by kernel_rfl)
       have hb4_ := hall 4 (by kernel_rfl)
       have hb5_ := hall 5 (by kernel_rfl)
       have hb6_ := hall 6 (by kernel_rfl)
       have hb7_ := hall 7 (by kernel_rfl)
       have hb9_ := hall 9 (by kernel_rfl)
       have hb12_ := hall 12 (by kernel_rfl)
       have hb13_ := hall 13 (by kernel_rfl)
       have hb14_ := hall 14 (by kernel_rfl)
       have hb15_ := hall 15 (by kernel_rfl)
       have hb16_ := hall 16 (by kernel_rfl)
       have hb17_ := hall 17 (by kernel_rfl)
       have hb18_ := hall 18 (by kernel_rfl)
       subst ha
       obtain rfl := Q_X15_ hb15_
       obtain rfl := Q_X16_ hb16_
       simp only [putSel, hb1_, hb4_, hb5_, hb6_, hb7_, hb9_, hb12_, hb13_, hb14_, hb15_, hb16_, hb17_, hb18_, if_true, Act.put, List.setIfInBounds_toArray, List.set_cons_zero, List.set_cons_succ]
       have BK418 := Aside0.mk Q_BK418
       clear Q_BK418
       have BK419 := Aside0.mk Q_BK419
       clear Q_BK419
       have BK421 := Aside0.mk Q_BK421
       clear Q_BK421
       have HB := Aside0.mk Q_HB
       clear Q_HB
       have NB429_428 := Aside0.mk (Q_NB429_428 hb15_ hb16_)
       clear Q_NB429_428
       have NB428_429 := Aside0.mk (Q_NB428_429 hb15_ hb16_)
       clear Q_NB428_429
       clear Q_BK428
       have GW428 := Aside0.mk (Q_GW428 hb15_)
       clear Q_GW428
       have GE428 := Aside0.mk (Q_GE428 hb15_)
       clear Q_GE428
       have NB418_428 := Aside0.mk (Q_NB418_428 hb15_)
       clear Q_NB418_428
       have NB428_418 := Aside0.mk (Q_NB428_418 hb15_)
       clear Q_NB428_418
       have NB419_428 := Aside0.mk (Q_NB419_428 hb15_)
       clear Q_NB419_428
       have NB428_419 := Aside0.mk (Q_NB428_419 hb15_)
       clear Q_NB428_419
       have NB421_428 := Aside0.mk (Q_NB421_428 hb15_)
       clear Q_NB421_428
       have NB428_421 := Aside0.mk (Q_NB428_421 hb15_)
       clear Q_NB428_421
       clear Q_BK429
       have GW429 := Aside0.mk (Q_GW429 hb16_)
       clear Q_GW429
       have GE429 := Aside0.mk (Q_GE429 hb16_)
       clear Q_GE429
       have NB418_429 := Aside0.mk (Q_NB418_429 hb16_)
       clear Q_NB418_429
       have NB429_418 := Aside0.mk (Q_NB429_418 hb16_)
       clear Q_NB429_418
       have NB419_429 := Aside0.mk (Q_NB419_429 hb16_)
       clear Q_NB419_429
       have NB429_419 := Aside0.mk (Q_NB429_419 hb16_)
       clear Q_NB429_419
       have NB421_429 := Aside0.mk (Q_NB421_429 hb16_)
       clear Q_NB421_429
       have NB429_421 := Aside0.mk (Q_NB429_421 hb16_)
       clear Q_NB429_421
       have BK428 := Aside0.mk (Q_BK428_e17 hb17_)
       clear Q_BK428_e17
       have BK429 := Aside0.mk (Q_BK429_e18 hb18_)
       clear Q_BK429_e18
       clear hall hb1_ hb4_ hb5_ hb6_ hb7_ hb9_ hb12_ hb13_ hb14_ hb15_ hb16_ hb17_ hb18_
       try go_wp2
       have q_ := GS.q6 (Aside0.mk (bqD BK418.out)) (Aside0.mk (bqD BK419.out)) (Aside0.mk (bqD BK421.out)) (Aside0.mk (bqD BK428.out)) (Aside0.mk (bqD BK429.out)) (Aside0.mk (lqD HB.out))
       clear BK418 BK419 BK421 BK428 BK429 HB
       obtain ⟨BK418, BK419, BK421, BK428, BK429, HB⟩ := q_
       have p430 : 0 ≤ (x11_1 : Int) := of_decide_eq_true (by first | (with_reducible assumption) | assumption)
       have q430 : x11_1 < (l1.length : Int) := of_decide_eq_true (by first | (with_reducible assumption) | assumption)
       obtain ⟨ad430, e430, hx430_0⟩ := Kd.at_int HR1.out x11_1 p430 q430
       have hw430_0 := hx430_0
       obtain rfl : ad422 = ad430 := (by injection e430)
       replace hx430_0 := (HB.out.cell (World.block_lt_of_cell? w _ hx430_0)).trans hx430_0
       replace p430 := eq_true p430
       replace q430 := eq_true q430
       have p431 : 0 ≤ ((ji16) : Int) := of_decide_eq_true (by first | (with_reducible assumption) | assumption)
       have q431 : (ji16) < (l1.length : Int) := of_decide_eq_true (by first | (with_reducible assumption) | assumption)
       obtain ⟨ad431, e431, hx431_0⟩ := Kd.at_int HR1.out (ji16) p431 q431
       have hw431_0 := hx431_0
       obtain rfl : ad422 = ad431 := (by injection e431)
       replace hx431_0 := (HB.out.cell (World.block_lt_of_cell? w _ hx431_0)).trans hx431_0
       replace p431 := eq_true p431
       replace q431 := eq_true q431
       refine start_ (n := 11) (S := fun w' => w'.cell? (ad422.add (x11_1).toNat) = some (.int .i64 (rd l1 x11_1)) ∧ w'.cell? (ad422.add ((ji16)).toNat) = some (.int .i64 (rd l1 (ji16)))) (ds := []) #[false, false, false, false, false, false, false, false, false, false, false] (by kernel_rfl) rfl rfl ⟨((HB.out.cell (World.block_lt_of_cell? w _ hw430_0)).trans hw430_0), ((HB.out.cell (World.block_lt_of_cell? w _ hw431_0)).trans hw431_0)⟩ (fun hHeld => ?_); refine with_tabW spileref11_Of.tab7 spileref11_Of.bits7 (fun HT_ HW_ => ?_)
       generalize w35.drew = w36 at BK418 BK419 BK421 BK428 BK429 HB hx430_0 hx431_0 hHeld ⊢
       refine GS.pu 0 (some 39) HT_.out ?_
       refine GS.pu 1 (some 40) HT_.out ?_
       refine GS.pu 2 (some 41) HT_.out ?_
       refine GS.pu 4 (some 43) HT_.out ?_
       refine GS.pu 5 (some 44) HT_.out ?_
       refine GS.pu 6 (some 45) HT_.out ?_
       refine GS.pu 7 (some 46) HT_.out ?_
       refine GS.tk 3 (some 42) HT_.out HW_.out hHeld ?_
       refine GS.tk 8 (some 47) HT_.out HW_.out hHeld ?_
       refine GS.pu 9 (some 48) HT_.out ?_
       refine GS.pu 10 (some 14) HT_.out ?_
       refine done_ (done_of HT_.out (by kernel_rfl)) ?_
       try go_wp2
       have q_ := GS.q6 (Aside0.mk (bqD BK418.out)) (Aside0.mk (bqD BK419.out)) (Aside0.mk (bqD BK421.out)) (Aside0.mk (bqD BK428.out)) (Aside0.mk (bqD BK429.out)) (Aside0.mk (lqD HB.out))
       clear BK418 BK419 BK421 BK428 BK429 HB
       obtain ⟨BK418, BK419, BK421, BK428, BK429, HB⟩ := q_
       refine start_ (n := 17) (S := fun w' => w'.cell? ⟨gb421, 0, none⟩ = some (.int .i64 x422000_1) ∧ w'.cell? ⟨gb421, 1, none⟩ = some (.int .i64 x422001_1) ∧ w'.cell? ⟨gb428, 0, none⟩ = some (.int .i64 t423) ∧ w'.cell? ⟨gb428, 1, none⟩ = some (.int .i64 t424) ∧ w'.cell? ⟨gb429, 0, none⟩ = some (.int .i64 t426) ∧ w'.cell? ⟨gb429, 1, none⟩ = some (.int .i64 t427)) (ds := [16]) #[false, false, false, false, false, false, false, false, false, false, false, false, false, false, false, false, false] (by kernel_rfl) rfl rfl ⟨(bqC BK421.out 0).trans rfl, (bqC BK421.out 1).trans rfl, (bqC BK428.out 0).trans rfl, (bqC BK428.out 1).trans rfl, (bqC BK429.out 0).trans rfl, (bqC BK429.out 1).trans rfl⟩ (fun hHeld => ?_); refine with_tabW spileref11_Of.tab8 spileref11_Of.bits8 (fun HT_ HW_ => ?_)
       generalize w36.drew = w37 at BK418 BK419 BK421 BK428 BK429 HB hHeld ⊢
       refine GS.pu 0 (some 49) HT_.out ?_
       refine GS.pu 2 (some 51) HT_.out ?_
       refine GS.pu 3 (some 52) HT_.out ?_
       refine GS.pu 5 (some 54) HT_.out ?_
       refine GS.pu 8 (some 57) HT_.out ?_
       refine GS.pu 9 (some 58) HT_.out ?_
       refine GS.pu 10 (some 59) HT_.out ?_
       refine GS.tk 1 (some 50) HT_.out HW_.out hHeld ?_
       refine GS.tk 4 (some 53) HT_.out HW_.out hHeld ?_
       refine GS.tk 6 (some 55) HT_.out HW_.out hHeld ?_
       refine GS.pu 7 (some 56) HT_.out ?_
       refine one_ (i := 11) (N := some 60) #[true, true, true, true, true, true, true, true, true, true, true, true, false, false, false, false, false] rfl rfl (one_of HT_.out (by kernel_rfl)) (by decide) (fun K hK => ?_)
       refine goes_ Try.func87 (by kernel_rfl) rfl #[.int .i64 ji22, .int .i64 t420, .int .i64 a2, .int .i64 a3] (by rfl) rfl rfl (by (try simp only [List.map_toArray, List.map_cons, List.map_nil]); first | done | (go_simp; done) | (simp only [hji22]; rfl) | rfl | (simp only [List.length_drop, List.length_take]; rfl)) ?_
       with_reducible refine (spileref07_Of.calls k1 ji22 t420 a2 a3 t432 t433 _ A23.out).mono ?_
       rintro e w38 ⟨rfl, hb⟩
       refine ⟨_, rfl, ?_⟩
       have q_ := GS.q6 (GS.kB BK418 hb) (GS.kB BK419 hb) (GS.kB BK421 hb) (GS.kB BK428 hb) (GS.kB BK429 hb) (GS.kH HB hb)
       clear BK418 BK419 BK421 BK428 BK429 HB
       obtain ⟨BK418, BK419, BK421, BK428, BK429, HB⟩ := q_
       (try clear hb)
       refine hK.out _ _ ⟨(bqC BK421.out 0).trans rfl, (bqC BK421.out 1).trans rfl, (bqC BK428.out 0).trans rfl, (bqC BK428.out 1).trans rfl, (bqC BK429.out 0).trans rfl, (bqC BK429.out 1).trans rfl⟩ (fun hHeld => ?_)
       clear hK K
       refine norm_ (a' := ?_) ?_ ?_
       rotate_left
       ·show Act.put _ (some 60) _ = _
        simp only [Act.put, List.setIfInBounds_toArray, List.set_cons_zero, List.set_cons_succ, i64_w, i32_w]
        rfl
       refine GS.pu 12 (some 61) HT_.out ?_
       refine GS.pu 13 (some 62) HT_.out ?_
       refine GS.pu 14 (some 63) HT_.out ?_
       refine GS.pu 15 (some 64) HT_.out ?_
       refine last_ (i := 16) (N := none) #[true, true, true, true, true, true, true, true, true, true, true, true, true, true, true, true, true] rfl rfl (one_of HT_.out (by kernel_rfl)) (by decide) (fun K hK => ?_)
       have hs39 : w38.cell? ⟨gb421, 0, none⟩ = some (.int .i64 x422000_1) := (bqC BK421.out 0).trans rfl
       have hfs39 := bqF BK421.out 0
       have hns39_0 := NB418_421.out
       have hns39_1 := NB419_421.out
       have hns39_3 := NB428_421.out
       have hns39_4 := NB429_421.out
       have hms39_0 := NB421_418.out
       have hms39_1 := NB421_419.out
       have hms39_3 := NB421_428.out
       have hms39_4 := NB421_429.out
       refine skip_ (w1 := ?_) (by rfl) rfl ?_ ?_
       rotate_left
       ·go_simp
        rfl
       refine hK.out _ _ ?_
       clear hK K
       refine done_ (done_of HT_.out (by kernel_rfl)) ?_
       try go_wp2
       have n0_ : Aside0 ((w38.setCell ⟨gb421, 0, none⟩ (.int .i64 (wrap64 (x422000_1 + (wrap64 ((wrap64 ((rd l1 x11_1) - (rd l1 (ji16)))) * t432)))))).heap[gb418]? = some (.cells #[.string a0_0, .int .i64 a0_1, .slice A0_2 l0_2.length c0_2, .int .i64 a0_3] 24 (0, 0))) := ⟨GS.bqX BK418.out⟩
       have n1_ : Aside0 ((w38.setCell ⟨gb421, 0, none⟩ (.int .i64 (wrap64 (x422000_1 + (wrap64 ((wrap64 ((rd l1 x11_1) - (rd l1 (ji16)))) * t432)))))).heap[gb419]? = some (.cells #[.int .i64 0, .int .i64 0] 28 (0, 0))) := ⟨GS.bqX BK419.out⟩
       have n2_ : Aside0 ((w38.setCell ⟨gb421, 0, none⟩ (.int .i64 (wrap64 (x422000_1 + (wrap64 ((wrap64 ((rd l1 x11_1) - (rd l1 (ji16)))) * t432)))))).heap[gb421]? = some (.cells #[.int .i64 (wrap64 (x422000_1 + (wrap64 ((wrap64 ((rd l1 x11_1) - (rd l1 (ji16)))) * t432)))), .int .i64 x422001_1] 28 (0, 0))) := ⟨GS.bqZ BK421.out⟩
       have n3_ : Aside0 ((w38.setCell ⟨gb421, 0, none⟩ (.int .i64 (wrap64 (x422000_1 + (wrap64 ((wrap64 ((rd l1 x11_1) - (rd l1 (ji16)))) * t432)))))).heap[gb428]? = some (.cells #[.int .i64 t423, .int .i64 t424] 28 (0, 0))) := ⟨GS.bqX BK428.out⟩
       have n4_ : Aside0 ((w38.setCell ⟨gb421, 0, none⟩ (.int .i64 (wrap64 (x422000_1 + (wrap64 ((wrap64 ((rd l1 x11_1) - (rd l1 (ji16)))) * t432)))))).heap[gb429]? = some (.cells #[.int .i64 t426, .int .i64 t427] 28 (0, 0))) := ⟨GS.bqX BK429.out⟩
       have n5_ : Aside0 (Below w.heap.size w (w38.setCell ⟨gb421, 0, none⟩ (.int .i64 (wrap64 (x422000_1 + (wrap64 ((wrap64 ((rd l1 x11_1) - (rd l1 (ji16)))) * t432))))))) := ⟨GS.lB HB.out⟩
       (try clear BK418)
       (try clear BK419)
       (try clear BK421)
       (try clear BK428)
       (try clear BK429)
       (try clear HB)
       generalize (w38.setCell ⟨gb421, 0, none⟩ (.int .i64 (wrap64 (x422000_1 + (wrap64 ((wrap64 ((rd l1 x11_1) - (rd l1 (ji16)))) * t432)))))) = w40 at n0_ n1_ n2_ n3_ n4_ n5_ ⊢
       have BK418 := n0_
       have BK419 := n1_
       have BK421 := n2_
       have BK428 := n3_
       have BK429 := n4_
       have HB := n5_
       clear n0_ n1_ n2_ n3_ n4_ n5_
       have q_ := GS.q6 (Aside0.mk (bqD BK418.out)) (Aside0.mk (bqD BK419.out)) (Aside0.mk (bqD BK421.out)) (Aside0.mk (bqD BK428.out)) (Aside0.mk (bqD BK429.out)) (Aside0.mk (lqD HB.out))
       clear BK418 BK419 BK421 BK428 BK429 HB
       obtain ⟨BK418, BK419, BK421, BK428, BK429, HB⟩ := q_
       refine start_ (n := 17) (S := fun w' => w'.cell? ⟨gb421, 0, none⟩ = some (.int .i64 (wrap64 (x422000_1 + (wrap64 ((wrap64 ((rd l1 x11_1) - (rd l1 (ji16)))) * t432))))) ∧ w'.cell? ⟨gb421, 1, none⟩ = some (.int .i64 x422001_1) ∧ w'.cell? ⟨gb428, 0, none⟩ = some (.int .i64 t423) ∧ w'.cell? ⟨gb428, 1, none⟩ = some (.int .i64 t424) ∧ w'.cell? ⟨gb429, 0, none⟩ = some (.int .i64 t426) ∧ w'.cell? ⟨gb429, 1, none⟩ = some (.int .i64 t427)) (ds := [16]) #[false, false, false, false, false, false, false, false, false, false, false, false, false, false, false, false, false] (by kernel_rfl) rfl rfl ⟨(bqC BK421.out 0).trans rfl, (bqC BK421.out 1).trans rfl, (bqC BK428.out 0).trans rfl, (bqC BK428.out 1).trans rfl, (bqC BK429.out 0).trans rfl, (bqC BK429.out 1).trans rfl⟩ (fun hHeld => ?_); refine with_tabW spileref11_Of.tab9 spileref11_Of.bits9 (fun HT_ HW_ => ?_)
       generalize w40.drew = w41 at BK418 BK419 BK421 BK428 BK429 HB hHeld ⊢
       refine GS.pu 0 (some 65) HT_.out ?_
       refine GS.pu 2 (some 67) HT_.out ?_
       refine GS.pu 3 (some 68) HT_.out ?_
       refine GS.pu 5 (some 70) HT_.out ?_
       refine GS.pu 8 (some 73) HT_.out ?_
       refine GS.pu 9 (some 74) HT_.out ?_
       refine GS.pu 10 (some 75) HT_.out ?_
       refine GS.tk 1 (some 66) HT_.out HW_.out hHeld ?_
       refine GS.tk 4 (some 69) HT_.out HW_.out hHeld ?_
       refine GS.tk 6 (some 71) HT_.out HW_.out hHeld ?_
       refine GS.pu 7 (some 72) HT_.out ?_
       refine one_ (i := 11) (N := some 76) #[true, true, true, true, true, true, true, true, true, true, true, true, false, false, false, false, false] rfl rfl (one_of HT_.out (by kernel_rfl)) (by decide) (fun K hK => ?_)
       refine goes_ Try.func87 (by kernel_rfl) rfl #[.int .i64 ji24, .int .i64 t420, .int .i64 a2, .int .i64 a3] (by rfl) rfl rfl (by (try simp only [List.map_toArray, List.map_cons, List.map_nil]); first | done | (go_simp; done) | (simp only [hji24]; rfl) | rfl | (simp only [List.length_drop, List.length_take]; rfl)) ?_
       with_reducible refine (spileref07_Of.calls k1 ji24 t420 a2 a3 t434 t435 _ A25.out).mono ?_
       rintro e w42 ⟨rfl, hb⟩
       refine ⟨_, rfl, ?_⟩
       have q_ := GS.q6 (GS.kB BK418 hb) (GS.kB BK419 hb) (GS.kB BK421 hb) (GS.kB BK428 hb) (GS.kB BK429 hb) (GS.kH HB hb)
       clear BK418 BK419 BK421 BK428 BK429 HB
       obtain ⟨BK418, BK419, BK421, BK428, BK429, HB⟩ := q_
       (try clear hb)
       refine hK.out _ _ ⟨(bqC BK421.out 0).trans rfl, (bqC BK421.out 1).trans rfl, (bqC BK428.out 0).trans rfl, (bqC BK428.out 1).trans rfl, (bqC BK429.out 0).trans rfl, (bqC BK429.out 1).trans rfl⟩ (fun hHeld => ?_)
       clear hK K
       refine norm_ (a' := ?_) ?_ ?_
       rotate_left
       ·show Act.put _ (some 76) _ = _
        simp only [Act.put, List.setIfInBounds_toArray, List.set_cons_zero, List.set_cons_succ, i64_w, i32_w]
        rfl
       refine GS.pu 12 (some 77) HT_.out ?_
       refine GS.pu 13 (some 78) HT_.out ?_
       refine GS.pu 14 (some 79) HT_.out ?_
       refine GS.pu 15 (some 80) HT_.out ?_
       refine last_ (i := 16) (N := none) #[true, true, true, true, true, true, true, true, true, true, true, true, true, true, true, true, true] rfl rfl (one_of HT_.out (by kernel_rfl)) (by decide) (fun K hK => ?_)
       have hs43 : w42.cell? ⟨gb421, 1, none⟩ = some (.int .i64 x422001_1) := (bqC BK421.out 1).trans rfl
       have hfs43 := bqF BK421.out 1
       have hns43_0 := NB418_421.out
       have hns43_1 := NB419_421.out
       have hns43_3 := NB428_421.out
       have hns43_4 := NB429_421.out
       have hms43_0 := NB421_418.out
       have hms43_1 := NB421_419.out
       have hms43_3 := NB421_428.out
       have hms43_4 := NB421_429.out
       refine skip_ (w1 := ?_) (by rfl) rfl ?_ ?_
       rotate_left
       ·go_simp
        rfl
       refine hK.out _ _ ?_
       clear hK K
       refine done_ (done_of HT_.out (by kernel_rfl)) ?_
       try go_wp2
       go_roundg k1
       case measure => have := HK1.out; omega
       case rel => exact ⟨(wrap64 (x11_1 + 1)), (wrap64 (x422000_1 + (wrap64 ((wrap64 ((rd l1 x11_1) - (rd l1 (ji16)))) * t432)))), (wrap64 (x422001_1 + (wrap64 ((wrap64 ((rd l1 x11_1) - (rd l1 (ji16)))) * t435)))), (by first | rfl | (simp; done) | (simp [*]; done)), H', ⟨by have := HK1.out; omega⟩, ⟨GS.bqX BK418.out⟩, ⟨GS.bqX BK419.out⟩, ⟨GS.bqZ BK421.out⟩, ⟨GS.lB HB.out⟩⟩
      ·rw [if_neg c20] at H
       exact absurd H (by simp)
     ·rw [if_neg c18] at H
      exact absurd H (by simp)
    ·rw [if_neg c17] at H
     exact absurd H (by simp)
   ·rw [if_neg c15] at H
    have c15b0 : decide (x11_1 < (l1.length : Int)) = false := decide_eq_false c15
    clear c15
    simp only [Option.some.injEq, Prod.mk.injEq] at H
    obtain ⟨rfl, rfl⟩ := H
    have hnb44 := NB421_418.out
    have hnc44 := NB418_421.out
    have hnb45 := NB421_419.out
    have hnc45 := NB419_421.out
    obtain ⟨hcz46_0, hcz46_1, hfz46_0, hfz46_1⟩ := GS.c2 BK421.out
    have hnb47 := NB419_418.out
    have hnc47 := NB418_419.out
    obtain ⟨hcz48_0, hcz48_1, hfz48_0, hfz48_1⟩ := GS.c2 BK419.out
    go_wp2
    refine bodyPost_ret (results_cell_row rfl _ _ gb419 28 #[.int .i64 x422000_1, .int .i64 x422001_1] (0, 0) _ rfl (GS.bqZ BK419.out) Try.underlying28 rfl (by kernel_rfl)) rfl ?_
    exact ⟨by first | rfl | (simp [errW_none, errW_some] <;> rfl) | (simp [*, errW_none, errW_some] <;> rfl), GS.lB HB.out⟩
end Go.Proofs.Ytefjmcljkmppoaa.K
