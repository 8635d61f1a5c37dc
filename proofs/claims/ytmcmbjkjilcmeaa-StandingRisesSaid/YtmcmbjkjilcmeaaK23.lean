-- PRINTED by print.py (a twelfth state) out of the translation. Not trusted: Lean checks it.
import Derived.Test.YtmcmbjkjilcmeaaK0
import Derived.Test.YtmcmbjkjilcmeaaGPu
import Derived.Test.YtmcmbjkjilcmeaaGShort
import Derived.Test.YtmcmbjkjilcmeaaGJoin
import Derived.Test.YtmcmbjkjilcmeaaGSym
import Derived.Test.YtmcmbjkjilcmeaaK20
import Derived.Test.YtmcmbjkjilcmeaaK22
namespace Go.Proofs.Ytmcmbjkjilcmeaa.K
open Go.RowKit Go.Proofs.YtmcmbjkjilcmeaaW.PrintWords Go.Proofs.YtmcmbjkjilcmeaaW.PrintLast Go.Proofs.YtmcmbjkjilcmeaaW.PrintMore
attribute [local go_sem] max2_int min2_int max_two min_two max_three min_three max_four min_four   -- for this text's walks alone
set_option linter.unusedVariables false
set_option linter.unusedSimpArgs false

/-! ### spileref08_Radius: function 64 -/
def spileref08_Radius.f (k : Nat) (l0 : List (S33)) (a1 : Int) : Option (Int × Int) := (spileref08_radius.f k l0 a1).bind fun bt442 => (if bt442.2 = 0 then (none) else (some (wrap64 (Int.tdiv bt442.1 bt442.2), wrap64 (Int.tdiv (wrap64 ((wrap64 (bt442.1 + bt442.2)) - 1)) bt442.2))))
theorem spileref08_Radius.mono : ∀ a0 a1 k, LeO (spileref08_Radius.f k a0 a1) (spileref08_Radius.f (k + 1) a0 a1) := by
 intro a0 a1 k
 unfold spileref08_Radius.f
 repeat' first
   | (with_reducible exact spileref08_radius.mono _ _ _)
   | (with_reducible exact LeO.refl _)
   | (with_reducible exact LeO.none _)
   | (with_reducible refine LeO.ite ?_ ?_)
   | (with_reducible refine LeO.bind ?_ (fun _ => ?_))
   | exact spileref08_radius.mono _ _ _
   | exact LeO.none _
   | refine LeO.ite ?_ ?_
   | refine LeO.bind ?_ (fun _ => ?_)
def spileref08_Radius.T2 : Bool × List (List Nat × List Nat) := (true, [([], []), ([], []), ([0, 1], [0, 1]), ([], []), ([], []), ([3, 4], [3, 4]), ([5], [5]), ([], []), ([6, 7], [6, 7]), ([2, 8], [2, 8]), ([9, 0, 1, 2, 3, 4, 5, 6, 7, 8, 9], [9])])
def spileref08_Radius.B2 : List Nat := [0, 0, 3, 0, 0, 24, 56, 0, 248, 511, 1023]
theorem spileref08_Radius.tab2 : rtab .any (opsOf Try.f64 2) = spileref08_Radius.T2 := by kernel_rfl
theorem spileref08_Radius.bits2 : waitsOk spileref08_Radius.T2.2 spileref08_Radius.B2 = true := by kernel_rfl
set_option maxHeartbeats 8000000 in
set_option maxRecDepth 100000 in
theorem spileref08_Radius.calls (k : Nat) (A0 : Option Addr) (c0 : Nat) (l0 : List (S33)) (a1 : Int) (r1 : Int) (r2 : Int) (w : World) (hr0 : Kd.C k33 w A0 l0.length l0) (hc0 : l0.length ≤ c0) (h : spileref08_Radius.f k l0 a1 = some (r1, r2)) :
  Calls Try.prog 64 #[.slice A0 l0.length c0, .int .i64 a1] w fun e w' => e = .returned (.agg #[.int .i64 r1, .int .i64 r2]) ∧ Below w.heap.size w w' := by
 have hu40 := Try.underlying40
 have HR0 := Aside0.mk hr0
 have HC0 := Aside0.mk hc0
 clear hr0 hc0
 have HB := Aside0.mk (Below.refl w.heap.size w)
 have H : ((spileref08_radius.f k l0 a1).bind fun bt442 => (if bt442.2 = 0 then (none) else (some (wrap64 (Int.tdiv bt442.1 bt442.2), wrap64 (Int.tdiv (wrap64 ((wrap64 (bt442.1 + bt442.2)) - 1)) bt442.2))))) = some (r1, r2) := h
 clear h
 replace H := Option.bind_eq_some_iff.mp H
 obtain ⟨⟨t442, t443⟩, A30, H⟩ := H
 replace H : (if t443 = 0 then (none) else (some (wrap64 (Int.tdiv t442 t443), wrap64 (Int.tdiv (wrap64 ((wrap64 (t442 + t443)) - 1)) t443)))) = some (r1, r2) := H
 have A3 := Aside0.mk A30
 clear A30
 by_cases c4 : t443 = 0
 ·rw [if_pos c4] at H
  exact absurd H (by simp)
 ·rw [if_neg c4] at H
  have c4b0 : (t443 == 0) = false := beq_eq_false_iff_ne.mpr c4
  try simp only [beq_self_eq_true, Bool.not_true, Bool.false_or, Bool.true_and] at c4b0
  have c4b1 : (t443 != 0) = true := bne_iff_ne.mpr c4
  simp only [Option.some.injEq, Prod.mk.injEq] at H
  obtain ⟨rfl, rfl⟩ := H
  go_enter Try.func64, Try.ntmps64
  try go_wp2_with (first | ((with_reducible refine gqD (N := 4) rfl ?_); refine GS.bx (N := 4) (cs := #[.int .i64 0, .int .i64 0]) (t := 40) ?_; intro gb441 hg w5 hbox hb; have n0_ := Aside0.mk (lqT (GS.lB HB.out) hb); have n1_ := Aside0.mk (hbox); have n2_ := Aside0.mk ((by rw [hg]; exact (lqZ (GS.lB HB.out)) : w.heap.size ≤ gb441)); have n3_ := Aside0.mk ((by rw [hg]; exact (lqZ (GS.lB HB.out)) : w.heap.size ≤ gb441)); clear HB; have HB := n0_; have BK441 := n1_; have GW441 := n2_; have GE441 := n3_; clear n0_ n1_ n2_ n3_; clear hb hbox hg) | ((with_reducible refine gqC (f := 77) rfl ?_); refine GS.gL (some 10) Try.func77 #[.slice A0 l0.length c0, .int .i64 a1] ?_; (with_reducible refine (spileref08_radius.calls k _ _ l0 a1 t442 t443 _ ?side1 ?side2 A3.out).mono ?_); (case side1 => exact GS.rC (Kd.C_below HR0.out HB.out)); (case side2 => exact HC0.out); rintro e w6 ⟨rfl, hb⟩; refine ⟨_, rfl, ?_⟩; have n0_ := Aside0.mk (bqB (GS.bqX BK441.out) hb); have n1_ := Aside0.mk (lqT (GS.lB HB.out) hb); clear BK441; clear HB; have BK441 := n0_; have HB := n1_; clear n0_ n1_; (try clear hb); (try clear hb2); (try clear hk); (try clear hi)))
  have n0_ := Aside0.mk (bqD BK441.out)
  have n1_ := Aside0.mk (lqD HB.out)
  clear BK441
  clear HB
  have BK441 := n0_
  have HB := n1_
  clear n0_ n1_
  refine start_ (n := 11) (S := fun w' => True) (ds := []) #[false, false, false, false, false, false, false, false, false, false, false] (by kernel_rfl) rfl rfl trivial (fun hHeld => ?_); refine with_tabW spileref08_Radius.tab2 spileref08_Radius.bits2 (fun HT_ HW_ => ?_)
  generalize w6.drew = w7 at BK441 HB hHeld ⊢
  refine GS.pu 0 (some 13) HT_.out ?_
  refine GS.pu 1 (some 14) HT_.out ?_
  refine GS.pu 2 (some 15) HT_.out ?_
  refine GS.pu 3 (some 16) HT_.out ?_
  refine GS.pu 4 (some 17) HT_.out ?_
  refine GS.pu 5 (some 18) HT_.out ?_
  refine GS.pu 6 (some 19) HT_.out ?_
  refine GS.pu 7 (some 20) HT_.out ?_
  refine GS.pu 8 (some 21) HT_.out ?_
  refine GS.pu 9 (some 22) HT_.out ?_
  refine one_ (i := 10) (N := none) #[true, true, true, true, true, true, true, true, true, true, true] rfl rfl (one_of HT_.out (by kernel_rfl)) (by decide) (fun K hK => ?_)
  have hs8 : w7.cell? ⟨gb441, 0, none⟩ = some (.int .i64 0) := (bqC BK441.out 0).trans rfl
  have hfs8 := bqF BK441.out 0
  have hs9 : w7.cell? ⟨gb441, 1, none⟩ = some (.int .i64 0) := (bqC BK441.out 1).trans rfl
  have hfs9 := bqF BK441.out 1
  refine skip_ (w1 := ?_) (by rfl) rfl ?_ ?_
  rotate_left
  ·go_simp
   rfl
  refine hK.out _ _ trivial (fun hHeld => ?_)
  clear hK K
  refine done_ (done_of HT_.out (by kernel_rfl)) ?_
  try go_wp2
  refine bodyPost_ret (results_cell_row rfl _ _ gb441 40 #[.int .i64 (wrap64 (Int.tdiv t442 t443)), .int .i64 (wrap64 (Int.tdiv (wrap64 ((wrap64 (t442 + t443)) - 1)) t443))] (0, 0) _ rfl (GS.bqZ BK441.out) Try.underlying40 rfl (by kernel_rfl)) rfl ?_
  exact ⟨by first | rfl | (simp [errW_none, errW_some] <;> rfl) | (simp [*, errW_none, errW_some] <;> rfl), GS.lB HB.out⟩

/-! ### spileref12_Step: function 45 -/
def spileref12_Step.f (k : Nat) (l0 : List (S33)) (a1 : Int) (a2 : Int) : Option (Int × Int) := (spileref08_Radius.f k l0 a1).bind fun bt445 => ((spileref08_Radius.f k l0 a2).bind fun bt447 => (some (wrap64 ((wrap64 ((wrap64 (3 * (wrap64 (a2 - a1)))) * (mn bt445.1 bt447.1))) * (mn bt445.1 bt447.1)), wrap64 ((wrap64 ((wrap64 (3 * (wrap64 (a2 - a1)))) * (mx bt445.2 bt447.2))) * (mx bt445.2 bt447.2)))))
theorem spileref12_Step.mono : ∀ a0 a1 a2 k, LeO (spileref12_Step.f k a0 a1 a2) (spileref12_Step.f (k + 1) a0 a1 a2) := by
 intro a0 a1 a2 k
 unfold spileref12_Step.f
 repeat' first
   | (with_reducible exact spileref08_Radius.mono _ _ _)
   | (with_reducible exact LeO.refl _)
   | (with_reducible exact LeO.none _)
   | (with_reducible refine LeO.ite ?_ ?_)
   | (with_reducible refine LeO.bind ?_ (fun _ => ?_))
   | exact spileref08_Radius.mono _ _ _
   | exact LeO.none _
   | refine LeO.ite ?_ ?_
   | refine LeO.bind ?_ (fun _ => ?_)
set_option maxHeartbeats 8000000 in
set_option maxRecDepth 100000 in
theorem spileref12_Step.calls (k : Nat) (A0 : Option Addr) (c0 : Nat) (l0 : List (S33)) (a1 : Int) (a2 : Int) (r1 : Int) (r2 : Int) (w : World) (hr0 : Kd.C k33 w A0 l0.length l0) (hc0 : l0.length ≤ c0) (h : spileref12_Step.f k l0 a1 a2 = some (r1, r2)) :
  Calls Try.prog 45 #[.slice A0 l0.length c0, .int .i64 a1, .int .i64 a2] w fun e w' => e = .returned (.agg #[.int .i64 r1, .int .i64 r2]) ∧ Below w.heap.size w w' := by
 have hu40 := Try.underlying40
 have HR0 := Aside0.mk hr0
 have HC0 := Aside0.mk hc0
 clear hr0 hc0
 have HB := Aside0.mk (Below.refl w.heap.size w)
 have H : ((spileref08_Radius.f k l0 a1).bind fun bt445 => ((spileref08_Radius.f k l0 a2).bind fun bt447 => (some (wrap64 ((wrap64 ((wrap64 (3 * (wrap64 (a2 - a1)))) * (mn bt445.1 bt447.1))) * (mn bt445.1 bt447.1)), wrap64 ((wrap64 ((wrap64 (3 * (wrap64 (a2 - a1)))) * (mx bt445.2 bt447.2))) * (mx bt445.2 bt447.2)))))) = some (r1, r2) := h
 clear h
 replace H := Option.bind_eq_some_iff.mp H
 obtain ⟨⟨t445, t446⟩, A40, H⟩ := H
 replace H : ((spileref08_Radius.f k l0 a2).bind fun bt447 => (some (wrap64 ((wrap64 ((wrap64 (3 * (wrap64 (a2 - a1)))) * (mn t445 bt447.1))) * (mn t445 bt447.1)), wrap64 ((wrap64 ((wrap64 (3 * (wrap64 (a2 - a1)))) * (mx t446 bt447.2))) * (mx t446 bt447.2))))) = some (r1, r2) := H
 have A4 := Aside0.mk A40
 clear A40
 replace H := Option.bind_eq_some_iff.mp H
 obtain ⟨⟨t447, t448⟩, A50, H⟩ := H
 replace H : (some (wrap64 ((wrap64 ((wrap64 (3 * (wrap64 (a2 - a1)))) * (mn t445 t447))) * (mn t445 t447)), wrap64 ((wrap64 ((wrap64 (3 * (wrap64 (a2 - a1)))) * (mx t446 t448))) * (mx t446 t448)))) = some (r1, r2) := H
 have A5 := Aside0.mk A50
 clear A50
 obtain ⟨ji6, hji6⟩ : ∃ j_ : Int, (mn t445 t447) = j_ := ⟨_, rfl⟩
 replace H : (some (wrap64 ((wrap64 ((wrap64 (3 * (wrap64 (a2 - a1)))) * (ji6))) * (ji6)), wrap64 ((wrap64 ((wrap64 (3 * (wrap64 (a2 - a1)))) * (mx t446 t448))) * (mx t446 t448)))) = some (r1, r2) := by first | (rw [hji6] at H; exact H) | (simp only [hji6] at H ⊢; exact H)
 (try rw [hji6] at A4)
 (try rw [hji6] at A5)
 have hji6_ : (if t447 < t445 then t447 else t445) = ji6 := hji6
 obtain ⟨ji7, hji7⟩ : ∃ j_ : Int, (mx t446 t448) = j_ := ⟨_, rfl⟩
 replace H : (some (wrap64 ((wrap64 ((wrap64 (3 * (wrap64 (a2 - a1)))) * (ji6))) * (ji6)), wrap64 ((wrap64 ((wrap64 (3 * (wrap64 (a2 - a1)))) * (ji7))) * (ji7)))) = some (r1, r2) := by first | (rw [hji7] at H; exact H) | (simp only [hji7] at H ⊢; exact H)
 (try rw [hji7] at A4)
 (try rw [hji7] at A5)
 have hji7_ : (if t446 < t448 then t448 else t446) = ji7 := hji7
 simp only [Option.some.injEq, Prod.mk.injEq] at H
 obtain ⟨rfl, rfl⟩ := H
 go_enter Try.func45, Try.ntmps45
 go_wp2_with (first | ((with_reducible refine gqD (N := 6) rfl ?_); refine GS.bx (N := 6) (cs := #[.int .i64 0, .int .i64 0]) (t := 40) ?_; intro gb444 hg w8 hbox hb; have n0_ := Aside0.mk (lqT (GS.lB HB.out) hb); have n1_ := Aside0.mk (hbox); have n2_ := Aside0.mk ((by rw [hg]; exact (lqZ (GS.lB HB.out)) : w.heap.size ≤ gb444)); have n3_ := Aside0.mk ((by rw [hg]; exact (lqZ (GS.lB HB.out)) : w.heap.size ≤ gb444)); clear HB; have HB := n0_; have BK444 := n1_; have GW444 := n2_; have GE444 := n3_; clear n0_ n1_ n2_ n3_; clear hb hbox hg) | (go_at_call 64; (with_reducible refine (spileref08_Radius.calls k _ _ l0 a1 t445 t446 _ ?side1 ?side2 A4.out).mono ?_); (case side1 => exact GS.rC (Kd.C_below HR0.out HB.out)); (case side2 => exact HC0.out); rintro e w9 ⟨rfl, hb⟩; have n0_ := Aside0.mk (bqB (GS.bqX BK444.out) hb); have n1_ := Aside0.mk (lqT (GS.lB HB.out) hb); clear BK444; clear HB; have BK444 := n0_; have HB := n1_; clear n0_ n1_; (try clear hb); (try clear hb2); (try clear hk); (try clear hi)) | (go_at_call 64; (with_reducible refine (spileref08_Radius.calls k _ _ l0 a2 t447 t448 _ ?side1 ?side2 A5.out).mono ?_); (case side1 => exact GS.rC (Kd.C_below HR0.out HB.out)); (case side2 => exact HC0.out); rintro e w10 ⟨rfl, hb⟩; have n0_ := Aside0.mk (bqB (GS.bqX BK444.out) hb); have n1_ := Aside0.mk (lqT (GS.lB HB.out) hb); clear BK444; clear HB; have BK444 := n0_; have HB := n1_; clear n0_ n1_; (try clear hb); (try clear hb2); (try clear hk); (try clear hi)) | ((with_reducible refine gqD (N := 7) rfl ?_); refine GS.bx (N := 7) (cs := #[.int .i64 0, .int .i64 0]) (t := 40) ?_; intro gb449 hg w11 hbox hb; have n0_ := Aside0.mk (bqB (GS.bqX BK444.out) hb); have n1_ := Aside0.mk (lqT (GS.lB HB.out) hb); have n2_ := Aside0.mk (hbox); have n3_ := Aside0.mk ((by rw [hg]; exact (lqZ (GS.lB HB.out)) : w.heap.size ≤ gb449)); have n4_ := Aside0.mk ((by rw [hg]; exact (lqZ (GS.lB HB.out)) : w.heap.size ≤ gb449)); have n5_ := Aside0.mk ((by rw [hg]; exact Nat.ne_of_lt (blk_lt (GS.bqX BK444.out)) : gb444 ≠ gb449)); have n6_ := Aside0.mk ((by rw [hg]; exact Nat.ne_of_gt (blk_lt (GS.bqX BK444.out)) : gb449 ≠ gb444)); clear BK444; clear HB; have BK444 := n0_; have HB := n1_; have BK449 := n2_; have GW449 := n3_; have GE449 := n4_; have NB444_449 := n5_; have NB449_444 := n6_; clear n0_ n1_ n2_ n3_ n4_ n5_ n6_; clear hb hbox hg) | ((with_reducible refine gqD (N := 8) rfl ?_); refine GS.bx (N := 8) (cs := #[.int .i64 0, .int .i64 0]) (t := 40) ?_; intro gb450 hg w12 hbox hb; have n0_ := Aside0.mk (bqB (GS.bqX BK444.out) hb); have n1_ := Aside0.mk (bqB (GS.bqX BK449.out) hb); have n2_ := Aside0.mk (lqT (GS.lB HB.out) hb); have n3_ := Aside0.mk (hbox); have n4_ := Aside0.mk ((by rw [hg]; exact (lqZ (GS.lB HB.out)) : w.heap.size ≤ gb450)); have n5_ := Aside0.mk ((by rw [hg]; exact (lqZ (GS.lB HB.out)) : w.heap.size ≤ gb450)); have n6_ := Aside0.mk ((by rw [hg]; exact Nat.ne_of_lt (blk_lt (GS.bqX BK444.out)) : gb444 ≠ gb450)); have n7_ := Aside0.mk ((by rw [hg]; exact Nat.ne_of_gt (blk_lt (GS.bqX BK444.out)) : gb450 ≠ gb444)); have n8_ := Aside0.mk ((by rw [hg]; exact Nat.ne_of_lt (blk_lt (GS.bqX BK449.out)) : gb449 ≠ gb450)); have n9_ := Aside0.mk ((by rw [hg]; exact Nat.ne_of_gt (blk_lt (GS.bqX BK449.out)) : gb450 ≠ gb449)); clear BK444; clear BK449; clear HB; have BK444 := n0_; have BK449 := n1_; have HB := n2_; have BK450 := n3_; have GW450 := n4_; have GE450 := n5_; have NB444_450 := n6_; have NB450_444 := n7_; have NB449_450 := n8_; have NB450_449 := n9_; clear n0_ n1_ n2_ n3_ n4_ n5_ n6_ n7_ n8_ n9_; clear hb hbox hg; have hnb13 := NB449_444.out; have hnc13 := NB444_449.out; have hnb14 := NB449_450.out; have hnc14 := NB450_449.out; obtain ⟨hcz15_0, hcz15_1, hfz15_0, hfz15_1⟩ := GS.c2 BK449.out; have hnb16 := NB450_444.out; have hnc16 := NB444_450.out; obtain ⟨hcz17_0, hcz17_1, hfz17_0, hfz17_1⟩ := GS.c2 BK450.out; obtain ⟨hcz18_0, hcz18_1, hfz18_0, hfz18_1⟩ := GS.c2 BK444.out))
 repeat (go_quiet (first | ((with_reducible refine gqD (N := 6) rfl ?_); refine GS.bx (N := 6) (cs := #[.int .i64 0, .int .i64 0]) (t := 40) ?_; intro gb444 hg w8 hbox hb; have n0_ := Aside0.mk (lqT (GS.lB HB.out) hb); have n1_ := Aside0.mk (hbox); have n2_ := Aside0.mk ((by rw [hg]; exact (lqZ (GS.lB HB.out)) : w.heap.size ≤ gb444)); have n3_ := Aside0.mk ((by rw [hg]; exact (lqZ (GS.lB HB.out)) : w.heap.size ≤ gb444)); clear HB; have HB := n0_; have BK444 := n1_; have GW444 := n2_; have GE444 := n3_; clear n0_ n1_ n2_ n3_; clear hb hbox hg) | (go_at_call 64; (with_reducible refine (spileref08_Radius.calls k _ _ l0 a1 t445 t446 _ ?side1 ?side2 A4.out).mono ?_); (case side1 => exact GS.rC (Kd.C_below HR0.out HB.out)); (case side2 => exact HC0.out); rintro e w9 ⟨rfl, hb⟩; have n0_ := Aside0.mk (bqB (GS.bqX BK444.out) hb); have n1_ := Aside0.mk (lqT (GS.lB HB.out) hb); clear BK444; clear HB; have BK444 := n0_; have HB := n1_; clear n0_ n1_; (try clear hb); (try clear hb2); (try clear hk); (try clear hi)) | (go_at_call 64; (with_reducible refine (spileref08_Radius.calls k _ _ l0 a2 t447 t448 _ ?side1 ?side2 A5.out).mono ?_); (case side1 => exact GS.rC (Kd.C_below HR0.out HB.out)); (case side2 => exact HC0.out); rintro e w10 ⟨rfl, hb⟩; have n0_ := Aside0.mk (bqB (GS.bqX BK444.out) hb); have n1_ := Aside0.mk (lqT (GS.lB HB.out) hb); clear BK444; clear HB; have BK444 := n0_; have HB := n1_; clear n0_ n1_; (try clear hb); (try clear hb2); (try clear hk); (try clear hi)) | ((with_reducible refine gqD (N := 7) rfl ?_); refine GS.bx (N := 7) (cs := #[.int .i64 0, .int .i64 0]) (t := 40) ?_; intro gb449 hg w11 hbox hb; have n0_ := Aside0.mk (bqB (GS.bqX BK444.out) hb); have n1_ := Aside0.mk (lqT (GS.lB HB.out) hb); have n2_ := Aside0.mk (hbox); have n3_ := Aside0.mk ((by rw [hg]; exact (lqZ (GS.lB HB.out)) : w.heap.size ≤ gb449)); have n4_ := Aside0.mk ((by rw [hg]; exact (lqZ (GS.lB HB.out)) : w.heap.size ≤ gb449)); have n5_ := Aside0.mk ((by rw [hg]; exact Nat.ne_of_lt (blk_lt (GS.bqX BK444.out)) : gb444 ≠ gb449)); have n6_ := Aside0.mk ((by rw [hg]; exact Nat.ne_of_gt (blk_lt (GS.bqX BK444.out)) : gb449 ≠ gb444)); clear BK444; clear HB; have BK444 := n0_; have HB := n1_; have BK449 := n2_; have GW449 := n3_; have GE449 := n4_; have NB444_449 := n5_; have NB449_444 := n6_; clear n0_ n1_ n2_ n3_ n4_ n5_ n6_; clear hb hbox hg) | ((with_reducible refine gqD (N := 8) rfl ?_); refine GS.bx (N := 8) (cs := #[.int .i64 0, .int .i64 0]) (t := 40) ?_; intro gb450 hg w12 hbox hb; have n0_ := Aside0.mk (bqB (GS.bqX BK444.out) hb); have n1_ := Aside0.mk (bqB (GS.bqX BK449.out) hb); have n2_ := Aside0.mk (lqT (GS.lB HB.out) hb); have n3_ := Aside0.mk (hbox); have n4_ := Aside0.mk ((by rw [hg]; exact (lqZ (GS.lB HB.out)) : w.heap.size ≤ gb450)); have n5_ := Aside0.mk ((by rw [hg]; exact (lqZ (GS.lB HB.out)) : w.heap.size ≤ gb450)); have n6_ := Aside0.mk ((by rw [hg]; exact Nat.ne_of_lt (blk_lt (GS.bqX BK444.out)) : gb444 ≠ gb450)); have n7_ := Aside0.mk ((by rw [hg]; exact Nat.ne_of_gt (blk_lt (GS.bqX BK444.out)) : gb450 ≠ gb444)); have n8_ := Aside0.mk ((by rw [hg]; exact Nat.ne_of_lt (blk_lt (GS.bqX BK449.out)) : gb449 ≠ gb450)); have n9_ := Aside0.mk ((by rw [hg]; exact Nat.ne_of_gt (blk_lt (GS.bqX BK449.out)) : gb450 ≠ gb449)); clear BK444; clear BK449; clear HB; have BK444 := n0_; have BK449 := n1_; have HB := n2_; have BK450 := n3_; have GW450 := n4_; have GE450 := n5_; have NB444_450 := n6_; have NB450_444 := n7_; have NB449_450 := n8_; have NB450_449 := n9_; clear n0_ n1_ n2_ n3_ n4_ n5_ n6_ n7_ n8_ n9_; clear hb hbox hg; have hnb13 := NB449_444.out; have hnc13 := NB444_449.out; have hnb14 := NB449_450.out; have hnc14 := NB450_449.out; obtain ⟨hcz15_0, hcz15_1, hfz15_0, hfz15_1⟩ := GS.c2 BK449.out; have hnb16 := NB450_444.out; have hnc16 := NB444_450.out; obtain ⟨hcz17_0, hcz17_1, hfz17_0, hfz17_1⟩ := GS.c2 BK450.out; obtain ⟨hcz18_0, hcz18_1, hfz18_0, hfz18_1⟩ := GS.c2 BK444.out)); try go_wp2_with (first | ((with_reducible refine gqD (N := 6) rfl ?_); refine GS.bx (N := 6) (cs := #[.int .i64 0, .int .i64 0]) (t := 40) ?_; intro gb444 hg w8 hbox hb; have n0_ := Aside0.mk (lqT (GS.lB HB.out) hb); have n1_ := Aside0.mk (hbox); have n2_ := Aside0.mk ((by rw [hg]; exact (lqZ (GS.lB HB.out)) : w.heap.size ≤ gb444)); have n3_ := Aside0.mk ((by rw [hg]; exact (lqZ (GS.lB HB.out)) : w.heap.size ≤ gb444)); clear HB; have HB := n0_; have BK444 := n1_; have GW444 := n2_; have GE444 := n3_; clear n0_ n1_ n2_ n3_; clear hb hbox hg) | (go_at_call 64; (with_reducible refine (spileref08_Radius.calls k _ _ l0 a1 t445 t446 _ ?side1 ?side2 A4.out).mono ?_); (case side1 => exact GS.rC (Kd.C_below HR0.out HB.out)); (case side2 => exact HC0.out); rintro e w9 ⟨rfl, hb⟩; have n0_ := Aside0.mk (bqB (GS.bqX BK444.out) hb); have n1_ := Aside0.mk (lqT (GS.lB HB.out) hb); clear BK444; clear HB; have BK444 := n0_; have HB := n1_; clear n0_ n1_; (try clear hb); (try clear hb2); (try clear hk); (try clear hi)) | (go_at_call 64; (with_reducible refine (spileref08_Radius.calls k _ _ l0 a2 t447 t448 _ ?side1 ?side2 A5.out).mono ?_); (case side1 => exact GS.rC (Kd.C_below HR0.out HB.out)); (case side2 => exact HC0.out); rintro e w10 ⟨rfl, hb⟩; have n0_ := Aside0.mk (bqB (GS.bqX BK444.out) hb); have n1_ := Aside0.mk (lqT (GS.lB HB.out) hb); clear BK444; clear HB; have BK444 := n0_; have HB := n1_; clear n0_ n1_; (try clear hb); (try clear hb2); (try clear hk); (try clear hi)) | ((with_reducible refine gqD (N := 7) rfl ?_); refine GS.bx (N := 7) (cs := #[.int .i64 0, .int .i64 0]) (t := 40) ?_; intro gb449 hg w11 hbox hb; have n0_ := Aside0.mk (bqB (GS.bqX BK444.out) hb); have n1_ := Aside0.mk (lqT (GS.lB HB.out) hb); have n2_ := Aside0.mk (hbox); have n3_ := Aside0.mk ((by rw [hg]; exact (lqZ (GS.lB HB.out)) : w.heap.size ≤ gb449)); have n4_ := Aside0.mk ((by rw [hg]; exact (lqZ (GS.lB HB.out)) : w.heap.size ≤ gb449)); have n5_ := Aside0.mk ((by rw [hg]; exact Nat.ne_of_lt (blk_lt (GS.bqX BK444.out)) : gb444 ≠ gb449)); have n6_ := Aside0.mk ((by rw [hg]; exact Nat.ne_of_gt (blk_lt (GS.bqX BK444.out)) : gb449 ≠ gb444)); clear BK444; clear HB; have BK444 := n0_; have HB := n1_; have BK449 := n2_; have GW449 := n3_; have GE449 := n4_; have NB444_449 := n5_; have NB449_444 := n6_; clear n0_ n1_ n2_ n3_ n4_ n5_ n6_; clear hb hbox hg) | ((with_reducible refine gqD (N := 8) rfl ?_); refine GS.bx (N := 8) (cs := #[.int .i64 0, .int .i64 0]) (t := 40) ?_; intro gb450 hg w12 hbox hb; have n0_ := Aside0.mk (bqB (GS.bqX BK444.out) hb); have n1_ := Aside0.mk (bqB (GS.bqX BK449.out) hb); have n2_ := Aside0.mk (lqT (GS.lB HB.out) hb); have n3_ := Aside0.mk (hbox); have n4_ := Aside0.mk ((by rw [hg]; exact (lqZ (GS.lB HB.out)) : w.heap.size ≤ gb450)); have n5_ := Aside0.mk ((by rw [hg]; exact (lqZ (GS.lB HB.out)) : w.heap.size ≤ gb450)); have n6_ := Aside0.mk ((by rw [hg]; exact Nat.ne_of_lt (blk_lt (GS.bqX BK444.out)) : gb444 ≠ gb450)); have n7_ := Aside0.mk ((by rw [hg]; exact Nat.ne_of_gt (blk_lt (GS.bqX BK444.out)) : gb450 ≠ gb444)); have n8_ := Aside0.mk ((by rw [hg]; exact Nat.ne_of_lt (blk_lt (GS.bqX BK449.out)) : gb449 ≠ gb450)); have n9_ := Aside0.mk ((by rw [hg]; exact Nat.ne_of_gt (blk_lt (GS.bqX BK449.out)) : gb450 ≠ gb449)); clear BK444; clear BK449; clear HB; have BK444 := n0_; have BK449 := n1_; have HB := n2_; have BK450 := n3_; have GW450 := n4_; have GE450 := n5_; have NB444_450 := n6_; have NB450_444 := n7_; have NB449_450 := n8_; have NB450_449 := n9_; clear n0_ n1_ n2_ n3_ n4_ n5_ n6_ n7_ n8_ n9_; clear hb hbox hg; have hnb13 := NB449_444.out; have hnc13 := NB444_449.out; have hnb14 := NB449_450.out; have hnc14 := NB450_449.out; obtain ⟨hcz15_0, hcz15_1, hfz15_0, hfz15_1⟩ := GS.c2 BK449.out; have hnb16 := NB450_444.out; have hnc16 := NB444_450.out; obtain ⟨hcz17_0, hcz17_1, hfz17_0, hfz17_1⟩ := GS.c2 BK450.out; obtain ⟨hcz18_0, hcz18_1, hfz18_0, hfz18_1⟩ := GS.c2 BK444.out)))
 refine bodyPost_ret (results_cell_row rfl _ _ gb444 40 #[.int .i64 (wrap64 ((wrap64 ((wrap64 (3 * (wrap64 (a2 - a1)))) * (ji6))) * (ji6))), .int .i64 (wrap64 ((wrap64 ((wrap64 (3 * (wrap64 (a2 - a1)))) * (ji7))) * (ji7)))] (0, 0) _ rfl (GS.bqZ BK444.out) Try.underlying40 rfl (by kernel_rfl)) rfl ?_
 exact ⟨by first | rfl | (simp [errW_none, errW_some] <;> rfl) | (simp only [← hji6, ← hji7]; first | rfl | (simp [errW_none, errW_some] <;> rfl)) | (simp [*, errW_none, errW_some] <;> rfl), GS.lB HB.out⟩

/-! ### spileref12_Sums: function 23 -/
def spileref12_Sums.l0 : Nat → List Int → List (S40) → Int → ByteArray → Int → List (S33) → Int → Int → Int → Option ((List (S40)) × Int)
 | 0, _, _, _, _, _, _, _, _, _ => none
 | k + 1, x1, x7, x9, x452000, x452001, x452002, x452003, x454000, x454001 => if x9 < (x1.length : Int) then (if 0 ≤ (wrap64 (x9 - 1)) then (if (wrap64 (x9 - 1)) < (x1.length : Int) then (if 0 ≤ x9 then ((spileref12_Step.f k x452002 (rd x1 (wrap64 (x9 - 1))) (rd x1 x9)).bind fun bt456 => (if x7.length < 8796093022208 then (spileref12_Sums.l0 k x1 (x7 ++ [(⟨wrap64 (x454000 + bt456.1), wrap64 (x454001 + bt456.2)⟩ : S40)]) (wrap64 (x9 + 1)) x452000 x452001 x452002 x452003 (wrap64 (x454000 + bt456.1)) (wrap64 (x454001 + bt456.2))) else (none))) else (none)) else (none)) else (none)) else (some (x7, 0))
def spileref12_Sums.f (k : Nat) (a0_0 : ByteArray) (a0_1 : Int) (l0_2 : List (S33)) (a0_3 : Int) (l1 : List Int) : Option ((List (S40)) × Int) := (spileref12_Check.f k a0_0 a0_1 l0_2 a0_3 l1).bind fun t452 => (if t452 = 0 then (spileref12_Sums.l0 k l1 ([] : List (S40)) 1 a0_0 a0_1 l0_2 a0_3 0 0) else (some (([] : List (S40)), t452)))
theorem spileref12_Sums.mono_l : ∀ k, (∀ y0 y1 y2 y3 y4 y5 y6 y7 y8, LeO (spileref12_Sums.l0 k y0 y1 y2 y3 y4 y5 y6 y7 y8) (spileref12_Sums.l0 (k + 1) y0 y1 y2 y3 y4 y5 y6 y7 y8))
 | 0 => fun _ _ _ _ _ _ _ _ _ r h => by simp [spileref12_Sums.l0] at h
 | k + 1 => by
  have ih0 := spileref12_Sums.mono_l k
  ·intro y0 y1 y2 y3 y4 y5 y6 y7 y8
   unfold spileref12_Sums.l0
   repeat' first
   | (with_reducible exact ih0 _ _ _ _ _ _ _ _ _)
   | (with_reducible exact spileref12_Check.mono _ _ _ _ _ _)
   | (with_reducible exact spileref12_Step.mono _ _ _ _)
   | (with_reducible exact LeO.refl _)
   | (with_reducible exact LeO.none _)
   | (with_reducible refine LeO.ite ?_ ?_)
   | (with_reducible refine LeO.bind ?_ (fun _ => ?_))
   | exact ih0 _ _ _ _ _ _ _ _ _
   | exact spileref12_Check.mono _ _ _ _ _ _
   | exact spileref12_Step.mono _ _ _ _
   | exact LeO.none _
   | refine LeO.ite ?_ ?_
   | refine LeO.bind ?_ (fun _ => ?_)
theorem spileref12_Sums.mono : ∀ a0 a1 a2 a3 a4 k, LeO (spileref12_Sums.f k a0 a1 a2 a3 a4) (spileref12_Sums.f (k + 1) a0 a1 a2 a3 a4) := by
 intro a0 a1 a2 a3 a4 k
 have ih0 := spileref12_Sums.mono_l k
 unfold spileref12_Sums.f
 repeat' first
   | (with_reducible exact ih0 _ _ _ _ _ _ _ _ _)
   | (with_reducible exact spileref12_Check.mono _ _ _ _ _ _)
   | (with_reducible exact spileref12_Step.mono _ _ _ _)
   | (with_reducible exact LeO.refl _)
   | (with_reducible exact LeO.none _)
   | (with_reducible refine LeO.ite ?_ ?_)
   | (with_reducible refine LeO.bind ?_ (fun _ => ?_))
   | exact ih0 _ _ _ _ _ _ _ _ _
   | exact spileref12_Check.mono _ _ _ _ _ _
   | exact spileref12_Step.mono _ _ _ _
   | exact LeO.none _
   | refine LeO.ite ?_ ?_
   | refine LeO.bind ?_ (fun _ => ?_)
def spileref12_Sums.T9 : Bool × List (List Nat × List Nat) := (true, [([], []), ([0], [0]), ([], []), ([], []), ([3], [3]), ([2, 4], [2, 4]), ([5], [5]), ([], []), ([], []), ([7, 8], [7, 8]), ([9], [9]), ([1, 6, 10], [1, 6, 10]), ([], []), ([12, 11, 11, 0, 1, 2, 3, 4, 5, 6, 7, 8, 9, 10, 11, 12], [11, 12])])
def spileref12_Sums.B9 : List Nat := [0, 1, 0, 0, 8, 28, 60, 0, 0, 384, 896, 2047, 0, 8191]
theorem spileref12_Sums.tab9 : rtab .any (opsOf Try.f23 9) = spileref12_Sums.T9 := by kernel_rfl
theorem spileref12_Sums.bits9 : waitsOk spileref12_Sums.T9.2 spileref12_Sums.B9 = true := by kernel_rfl
set_option maxHeartbeats 8000000 in
set_option maxRecDepth 100000 in
theorem spileref12_Sums.calls (k : Nat) (a0_0 : ByteArray) (a0_1 : Int) (A0_2 : Option Addr) (c0_2 : Nat) (l0_2 : List (S33)) (a0_3 : Int) (A1 : Option Addr) (c1 : Nat) (l1 : List Int) (r1 : List (S40)) (r2 : Int) (w : World) (hr0_2 : Kd.C k33 w A0_2 l0_2.length l0_2) (hc0_2 : l0_2.length ≤ c0_2) (hr1 : Kd.C (Kd.int .i64) w A1 l1.length l1) (hc1 : l1.length ≤ c1) (h : spileref12_Sums.f k a0_0 a0_1 l0_2 a0_3 l1 = some (r1, r2)) :
  Calls Try.prog 23 #[.agg #[.string a0_0, .int .i64 a0_1, .slice A0_2 l0_2.length c0_2, .int .i64 a0_3], .slice A1 l1.length c1] w fun e w' => ∃ v0_ : Value, e = .returned (.tuple #[v0_, .int .i64 r2]) ∧ Kd.R k40 40 w' w.heap.size (fun _ => True) v0_ r1 ∧ Below w.heap.size w w' := by
 have hu24 := Try.underlying24
 have hu40 := Try.underlying40
 have HR0_2 := Aside0.mk hr0_2
 have HC0_2 := Aside0.mk hc0_2
 clear hr0_2 hc0_2
 have HR1 := Aside0.mk hr1
 have HC1 := Aside0.mk hc1
 clear hr1 hc1
 have HB := Aside0.mk (Below.refl w.heap.size w)
 have H : ((spileref12_Check.f k a0_0 a0_1 l0_2 a0_3 l1).bind fun t452 => (if t452 = 0 then (spileref12_Sums.l0 k l1 ([] : List (S40)) 1 a0_0 a0_1 l0_2 a0_3 0 0) else (some (([] : List (S40)), t452)))) = some (r1, r2) := h
 clear h
 replace H := Option.bind_eq_some_iff.mp H
 obtain ⟨t452, A30, H⟩ := H
 replace H : (if t452 = 0 then (spileref12_Sums.l0 k l1 ([] : List (S40)) 1 a0_0 a0_1 l0_2 a0_3 0 0) else (some (([] : List (S40)), t452))) = some (r1, r2) := H
 have A3 := Aside0.mk A30
 clear A30
 by_cases c4 : t452 = 0
 ·rw [if_pos c4] at H
  have c4b0 : (t452 == 0) = true := beq_iff_eq.mpr c4
  try simp only [beq_self_eq_true, Bool.not_true, Bool.false_or, Bool.true_and] at c4b0
  have c4b1 : (t452 != 0) = false := bne_eq_false_iff_eq.mpr c4
  clear c4
  have H' := Aside0.mk H
  clear H
  go_enter Try.func23, Try.ntmps23
  go_wp2_with (first | ((with_reducible refine gqD (N := 2) rfl ?_); refine GS.bx (N := 2) (cs := #[.string a0_0, .int .i64 a0_1, .slice A0_2 l0_2.length c0_2, .int .i64 a0_3]) (t := 24) ?_; intro gb451 hg w5 hbox hb; have n0_ := Aside0.mk (lqT (GS.lB HB.out) hb); have n1_ := Aside0.mk (hbox); have n2_ := Aside0.mk ((by rw [hg]; exact (lqZ (GS.lB HB.out)) : w.heap.size ≤ gb451)); have n3_ := Aside0.mk ((by rw [hg]; exact (lqZ (GS.lB HB.out)) : w.heap.size ≤ gb451)); clear HB; have HB := n0_; have BK451 := n1_; have GW451 := n2_; have GE451 := n3_; clear n0_ n1_ n2_ n3_; clear hb hbox hg; obtain ⟨hcz6_0, hcz6_1, hcz6_2, hcz6_3, hfz6_0, hfz6_1, hfz6_2, hfz6_3⟩ := GS.c4 BK451.out) | ((with_reducible refine gqC (f := 19) rfl ?_); refine GS.gL (some 13) Try.func19 #[.agg #[.string a0_0, .int .i64 a0_1, .slice A0_2 l0_2.length c0_2, .int .i64 a0_3], .slice A1 l1.length c1] ?_; (with_reducible refine (spileref12_Check.calls k a0_0 a0_1 _ _ l0_2 a0_3 _ _ l1 t452 _ ?side1 ?side2 ?side3 ?side4 A3.out).mono ?_); (case side1 => exact GS.rC (Kd.C_below HR0_2.out HB.out)); (case side2 => exact HC0_2.out); (case side3 => exact GS.rC (Kd.C_below HR1.out HB.out)); (case side4 => exact HC1.out); rintro e w7 ⟨rfl, hb⟩; refine ⟨_, rfl, ?_⟩; have n0_ := Aside0.mk (bqB (GS.bqX BK451.out) hb); have n1_ := Aside0.mk (lqT (GS.lB HB.out) hb); clear BK451; clear HB; have BK451 := n0_; have HB := n1_; clear n0_ n1_; (try clear hb); (try clear hb2); (try clear hk); (try clear hi)) | ((with_reducible refine gqD (N := 8) rfl ?_); refine GS.bx (N := 8) (cs := #[.int .i64 0, .int .i64 0]) (t := 40) ?_; intro gb453 hg w8 hbox hb; have n0_ := Aside0.mk (bqB (GS.bqX BK451.out) hb); have n1_ := Aside0.mk (lqT (GS.lB HB.out) hb); have n2_ := Aside0.mk (hbox); have n3_ := Aside0.mk ((by rw [hg]; exact (lqZ (GS.lB HB.out)) : w.heap.size ≤ gb453)); have n4_ := Aside0.mk ((by rw [hg]; exact (lqZ (GS.lB HB.out)) : w.heap.size ≤ gb453)); have n5_ := Aside0.mk ((by rw [hg]; exact Nat.ne_of_lt (blk_lt (GS.bqX BK451.out)) : gb451 ≠ gb453)); have n6_ := Aside0.mk ((by rw [hg]; exact Nat.ne_of_gt (blk_lt (GS.bqX BK451.out)) : gb453 ≠ gb451)); clear BK451; clear HB; have BK451 := n0_; have HB := n1_; have BK453 := n2_; have GW453 := n3_; have GE453 := n4_; have NB451_453 := n5_; have NB453_451 := n6_; clear n0_ n1_ n2_ n3_ n4_ n5_ n6_; clear hb hbox hg; have hnb9 := NB453_451.out; have hnc9 := NB451_453.out; obtain ⟨hcz10_0, hcz10_1, hfz10_0, hfz10_1⟩ := GS.c2 BK453.out))
  go_loopg [7, 9] k (fun kq v7 v9 w' => ∃ (x7_1 : List (S40)) (x9_1 : Int) (x454000_1 : Int) (x454001_1 : Int), v9 = .int .i64 x9_1 ∧ Aside0 (spileref12_Sums.l0 kq l1 x7_1 x9_1 a0_0 a0_1 l0_2 a0_3 x454000_1 x454001_1 = some (r1, r2)) ∧ Aside0 (kq ≤ k) ∧ Aside0 (Kd.R k40 40 w' w.heap.size (fun k_ => k_ ≠ gb453) v7 x7_1) ∧ Aside0 (w'.heap[gb451]? = some (.cells #[.string a0_0, .int .i64 a0_1, (.slice A0_2 l0_2.length c0_2), .int .i64 a0_3] 24 (0, 0))) ∧ Aside0 (w'.heap[gb453]? = some (.cells #[.int .i64 x454000_1, .int .i64 x454001_1] 40 (0, 0))) ∧ Aside0 (Below w.heap.size w w'))
  case atStart => exact ⟨(([] : List (S40))), (1), (0), (0), (by first | rfl | (simp; done) | (simp [*]; done)), H', ⟨Nat.le_refl _⟩, ⟨by first | exact Kd.R_nil _ _ _ _ _ | exact Kd.N_nil _ _ _ _ _ | exact Kd.V_nil _ _ _ _ _ | exact Kd.Q_nil _ _ _ _ _ | exact Kd.S_nil _ _ _ _ _⟩, ⟨GS.bqX BK451.out⟩, ⟨GS.bqZ BK453.out⟩, ⟨GS.lB HB.out⟩⟩
  case round =>
   clear H'
   try clear c1
   try clear c2
   try clear p2
   try clear c4
   try clear c4b0
   try clear c4b1
   try clear c9
   try clear hcz10_0
   try clear hcz10_1
   try clear hcz6_0
   try clear hcz6_1
   try clear hcz6_2
   try clear hcz6_3
   try clear hfz10_0
   try clear hfz10_1
   try clear hfz6_0
   try clear hfz6_1
   try clear hfz6_2
   try clear hfz6_3
   obtain ⟨x7_1, x9_1, x454000_1, x454001_1, rfl, HA, HK1, HO_7, BK451, BK453, HB⟩ := hrel
   cases gk with
   | zero => exact absurd HA.out (by simp [spileref12_Sums.l0])
   | succ k1 =>
    have H := HA.out
    clear HA
    simp only [spileref12_Sums.l0] at H
    by_cases c11 : x9_1 < (l1.length : Int)
    ·rw [if_pos c11] at H
     have c11b0 : decide (x9_1 < (l1.length : Int)) = true := decide_eq_true c11
     clear c11
     obtain ⟨ji12, hji12⟩ : ∃ j_ : Int, (wrap64 (x9_1 - 1)) = j_ := ⟨_, rfl⟩
     replace H : (if 0 ≤ (ji12) then (if (ji12) < (l1.length : Int) then (if 0 ≤ x9_1 then ((spileref12_Step.f k1 l0_2 (rd l1 (ji12)) (rd l1 x9_1)).bind fun bt456 => (if x7_1.length < 8796093022208 then (spileref12_Sums.l0 k1 l1 (x7_1 ++ [(⟨wrap64 (x454000_1 + bt456.1), wrap64 (x454001_1 + bt456.2)⟩ : S40)]) (wrap64 (x9_1 + 1)) a0_0 a0_1 l0_2 a0_3 (wrap64 (x454000_1 + bt456.1)) (wrap64 (x454001_1 + bt456.2))) else (none))) else (none)) else (none)) else (none)) = some (r1, r2) := by first | (rw [hji12] at H; exact H) | (simp only [hji12] at H ⊢; exact H)
     have hji12w : (IntKind.i64.wrap (x9_1 - 1)) = ji12 := (i64_w _).trans hji12
     by_cases c13 : 0 ≤ (ji12)
     ·rw [if_pos c13] at H
      have c13b0 : decide (0 ≤ (ji12)) = true := decide_eq_true c13
      clear c13
      by_cases c14 : (ji12) < (l1.length : Int)
      ·rw [if_pos c14] at H
       have c14b0 : decide ((ji12) < (l1.length : Int)) = true := decide_eq_true c14
       clear c14
       by_cases c15 : 0 ≤ x9_1
       ·rw [if_pos c15] at H
        have c15b0 : decide (0 ≤ x9_1) = true := decide_eq_true c15
        clear c15
        replace H := Option.bind_eq_some_iff.mp H
        obtain ⟨⟨t456, t457⟩, A160, H⟩ := H
        replace H : (if x7_1.length < 8796093022208 then (spileref12_Sums.l0 k1 l1 (x7_1 ++ [(⟨wrap64 (x454000_1 + t456), wrap64 (x454001_1 + t457)⟩ : S40)]) (wrap64 (x9_1 + 1)) a0_0 a0_1 l0_2 a0_3 (wrap64 (x454000_1 + t456)) (wrap64 (x454001_1 + t457))) else (none)) = some (r1, r2) := H
        have A16 := Aside0.mk A160
        clear A160
        by_cases c17 : x7_1.length < 8796093022208
        ·rw [if_pos c17] at H
         have LMc17 := Aside0.mk c17
         clear c17
         obtain ⟨y459, hy459⟩ : ∃ y_ : List (S40), y_ = (x7_1 ++ [(⟨wrap64 (x454000_1 + t456), wrap64 (x454001_1 + t457)⟩ : S40)]) := ⟨_, rfl⟩
         replace H : (spileref12_Sums.l0 k1 l1 y459 (wrap64 (x9_1 + 1)) a0_0 a0_1 l0_2 a0_3 (wrap64 (x454000_1 + t456)) (wrap64 (x454001_1 + t457))) = some (r1, r2) := by first | (rw [hy459]; with_reducible exact H) | (have H2_ := (Option.bind_some _ _).symm.trans H; rw [hy459]; with_reducible exact H2_) | (have H2_ := (Option.bind_some _ _).symm.trans H; with_reducible exact H2_) | with_reducible exact H | (rw [hy459]; exact H) | exact H
         have Ny459 := Aside0.mk hy459
         clear hy459
         have H' := Aside0.mk H
         clear H
         try go_wp2
         have n0_ := Aside0.mk (Kd.R_drew HO_7.out)
         have n1_ := Aside0.mk (bqD BK451.out)
         have n2_ := Aside0.mk (bqD BK453.out)
         have n3_ := Aside0.mk (lqD HB.out)
         clear HO_7
         clear BK451
         clear BK453
         clear HB
         have HO_7 := n0_
         have BK451 := n1_
         have BK453 := n2_
         have HB := n3_
         clear n0_ n1_ n2_ n3_
         have p454 : 0 ≤ ((ji12) : Int) := of_decide_eq_true (by first | (with_reducible assumption) | assumption)
         have q454 : (ji12) < (l1.length : Int) := of_decide_eq_true (by first | (with_reducible assumption) | assumption)
         obtain ⟨ad454, e454, hx454_0⟩ := Kd.at_int HR1.out (ji12) p454 q454
         have hw454_0 := hx454_0
         cases e454
         replace hx454_0 := (HB.out.cell (World.block_lt_of_cell? w _ hx454_0)).trans hx454_0
         replace p454 := eq_true p454
         replace q454 := eq_true q454
         have p455 : 0 ≤ (x9_1 : Int) := of_decide_eq_true (by first | (with_reducible assumption) | assumption)
         have q455 : x9_1 < (l1.length : Int) := of_decide_eq_true (by first | (with_reducible assumption) | assumption)
         obtain ⟨ad455, e455, hx455_0⟩ := Kd.at_int HR1.out x9_1 p455 q455
         have hw455_0 := hx455_0
         obtain rfl : ad454 = ad455 := (by injection e455)
         replace hx455_0 := (HB.out.cell (World.block_lt_of_cell? w _ hx455_0)).trans hx455_0
         replace p455 := eq_true p455
         replace q455 := eq_true q455
         refine start_ (n := 14) (S := fun w' => True) (ds := []) #[false, false, false, false, false, false, false, false, false, false, false, false, false, false] (by kernel_rfl) rfl rfl trivial (fun hHeld => ?_); refine with_tabW spileref12_Sums.tab9 spileref12_Sums.bits9 (fun HT_ HW_ => ?_)
         generalize wr.drew = w18 at HO_7 BK451 BK453 HB hx454_0 hx455_0 hHeld ⊢
         refine GS.pu 0 (some 24) HT_.out ?_
         refine GS.pu 2 (some 26) HT_.out ?_
         refine GS.pu 3 (some 27) HT_.out ?_
         refine GS.pu 7 (some 31) HT_.out ?_
         refine GS.pu 8 (some 32) HT_.out ?_
         refine inv_at [1, 4, 5, 6, 9, 10, 11, 12, 13] (fun a0_ b a w' => ∃ (gb458 : Nat) (m12_ : Value), a = putSel a0_ b [(1, 25, .slice A0_2 l0_2.length c0_2), (4, 28, .int .i64 ji12), (5, 29, .pointer (some (ad454.add ((ji12)).toNat))), (6, 30, .int .i64 (rd l1 (ji12))), (9, 33, .pointer (some (ad454.add (x9_1).toNat))), (10, 34, .int .i64 (rd l1 x9_1)), (11, 35, .agg #[.int .i64 t456, .int .i64 t457]), (12, 10, m12_)] ∧ (w'.heap[gb451]? = some (.cells #[.string a0_0, .int .i64 a0_1, .slice A0_2 l0_2.length c0_2, .int .i64 a0_3] 24 (0, 0))) ∧ (w'.heap[gb453]? = some (.cells #[.int .i64 x454000_1, .int .i64 x454001_1] 40 (0, 0))) ∧ (Below w.heap.size w w') ∧ (b 12 = true → b 13 = false → w'.heap[gb458]? = some (.cells #[.int .i64 0, .int .i64 0] 40 (0, 0))) ∧ (b 12 = true → w.heap.size ≤ gb458) ∧ (b 12 = true → w.heap.size ≤ gb458) ∧ (b 12 = true → gb451 ≠ gb458) ∧ (b 12 = true → gb458 ≠ gb451) ∧ (b 12 = true → gb453 ≠ gb458) ∧ (b 12 = true → gb458 ≠ gb453) ∧ (b 13 = true → w'.heap[gb458]? = some (.cells #[.int .i64 t456, .int .i64 t457] 40 (0, 0))) ∧ (Kd.R k40 40 w' w.heap.size (fun k_ => k_ ≠ gb453) u7 x7_1) ∧ (b 12 = true → Kd.R k40 40 w' w.heap.size (fun k_ => k_ ≠ gb453 ∧ k_ ≠ gb458) u7 x7_1) ∧ (b 12 = true → (m12_ : Value) = .pointer (some ⟨gb458, 0, none⟩))) HT_.out HW_.out (by kernel_rfl) (by kernel_rfl) ?_ ?_ ?_
         ·exact ⟨0, .bool false, by simp only [putSel, Bool.false_eq_true, if_false], BK451.out, BK453.out, HB.out, fun h_ => absurd h_ (by decide), fun h_ => absurd h_ (by decide), fun h_ => absurd h_ (by decide), fun h_ => absurd h_ (by decide), fun h_ => absurd h_ (by decide), fun h_ => absurd h_ (by decide), fun h_ => absurd h_ (by decide), fun h_ => absurd h_ (by decide), HO_7.out, fun h_ => absurd h_ (by decide), fun h_ => absurd h_ (by decide)⟩
         ·skip
          clear BK451 BK453 HB HO_7
          refine steps_cons ?_ ?_
          ·rintro b a w' ⟨gb458, m12_, ha, Q_BK451, Q_BK453, Q_HB, Q_BK458, Q_GW458, Q_GE458, Q_NB451_458, Q_NB458_451, Q_NB453_458, Q_NB458_453, Q_BK458_e13, Q_HO_7, Q_HO_7_e12, Q_X12_⟩ hb_ hon hoff
           refine ⟨_, rfl, fun K hK => ?_⟩
           have e24 : a.tmps[24]? = some (.pointer (some ⟨gb451, 2, none⟩)) := by rw [ha]; exact (putSel_off rfl).trans rfl
           replace ha := Aside0.mk ha
           have BK451 := Aside0.mk Q_BK451
           have BK453 := Aside0.mk Q_BK453
           have HB := Aside0.mk Q_HB
           have HO_7 := Aside0.mk Q_HO_7
           have hc0_ : w'.cell? ⟨gb451, 0, none⟩ = some (.string a0_0) := (bqC BK451.out 0).trans rfl
           have hc1_ : w'.cell? ⟨gb451, 1, none⟩ = some (.int .i64 a0_1) := (bqC BK451.out 1).trans rfl
           have hc2_ : w'.cell? ⟨gb451, 2, none⟩ = some (.slice A0_2 l0_2.length c0_2) := (bqC BK451.out 2).trans rfl
           have hc3_ : w'.cell? ⟨gb451, 3, none⟩ = some (.int .i64 a0_3) := (bqC BK451.out 3).trans rfl
           refine value_ (w1 := w') (v := .slice A0_2 l0_2.length c0_2) (by rfl) rfl ?_ ?_
           ·go_simp
            (try simp only [i64_w])
            try rfl
           refine hK.out _ _ ⟨gb458, m12_, (by rw [ha.out]; exact putSel_upk 0 hb_ rfl rfl rfl), Q_BK451, Q_BK453, Q_HB, Q_BK458, Q_GW458, Q_GE458, Q_NB451_458, Q_NB458_451, Q_NB453_458, Q_NB458_453, fun h0_ => absurd ((hoff 13 (by kernel_rfl)).symm.trans h0_) (by decide), Q_HO_7, Q_HO_7_e12, Q_X12_⟩
          refine steps_cons ?_ ?_
          ·rintro b a w' ⟨gb458, m12_, ha, Q_BK451, Q_BK453, Q_HB, Q_BK458, Q_GW458, Q_GE458, Q_NB451_458, Q_NB458_451, Q_NB453_458, Q_NB458_453, Q_BK458_e13, Q_HO_7, Q_HO_7_e12, Q_X12_⟩ hb_ hon hoff
           refine ⟨_, rfl, fun K hK => ?_⟩
           have e27 : a.tmps[27]? = some (.int .i64 x9_1) := by rw [ha]; exact (putSel_off rfl).trans rfl
           replace ha := Aside0.mk ha
           have BK451 := Aside0.mk Q_BK451
           have BK453 := Aside0.mk Q_BK453
           have HB := Aside0.mk Q_HB
           have HO_7 := Aside0.mk Q_HO_7
           refine value_ (w1 := w') (v := .int .i64 ji12) (by rfl) rfl ?_ ?_
           ·go_simp
            (try simp only [i64_w])
            try rfl
           refine hK.out _ _ ⟨gb458, m12_, (by rw [ha.out]; exact putSel_upk 1 hb_ rfl rfl rfl), Q_BK451, Q_BK453, Q_HB, Q_BK458, Q_GW458, Q_GE458, Q_NB451_458, Q_NB458_451, Q_NB453_458, Q_NB458_453, fun h0_ => absurd ((hoff 13 (by kernel_rfl)).symm.trans h0_) (by decide), Q_HO_7, Q_HO_7_e12, Q_X12_⟩
          refine steps_cons ?_ ?_
          ·rintro b a w' ⟨gb458, m12_, ha, Q_BK451, Q_BK453, Q_HB, Q_BK458, Q_GW458, Q_GE458, Q_NB451_458, Q_NB458_451, Q_NB453_458, Q_NB458_453, Q_BK458_e13, Q_HO_7, Q_HO_7_e12, Q_X12_⟩ hb_ hon hoff
           refine ⟨_, rfl, fun K hK => ?_⟩
           have e26 : a.tmps[26]? = some (.slice (some ad454) l1.length c1) := by rw [ha]; exact (putSel_off rfl).trans rfl
           have e28 : a.tmps[28]? = some (.int .i64 ji12) := by rw [ha]; exact putSel_on (e := (4, 28, .int .i64 ji12)) 1 rfl rfl (hon 4 (by kernel_rfl)) rfl
           replace ha := Aside0.mk ha
           have BK451 := Aside0.mk Q_BK451
           have BK453 := Aside0.mk Q_BK453
           have HB := Aside0.mk Q_HB
           have HO_7 := Aside0.mk Q_HO_7
           have hs0_ : w'.cell? (ad454.add ((ji12)).toNat) = some (.int .i64 (rd l1 (ji12))) := ((HB.out.cell (World.block_lt_of_cell? w _ hw454_0)).trans hw454_0)
           refine value_ (w1 := w') (v := .pointer (some (ad454.add ((ji12)).toNat))) (by rfl) rfl ?_ ?_
           ·go_simp
            (try simp only [i64_w])
            try rfl
           refine hK.out _ _ ⟨gb458, m12_, (by rw [ha.out]; exact putSel_upk 2 hb_ rfl rfl rfl), Q_BK451, Q_BK453, Q_HB, Q_BK458, Q_GW458, Q_GE458, Q_NB451_458, Q_NB458_451, Q_NB453_458, Q_NB458_453, fun h0_ => absurd ((hoff 13 (by kernel_rfl)).symm.trans h0_) (by decide), Q_HO_7, Q_HO_7_e12, Q_X12_⟩
          refine steps_cons ?_ ?_
          ·rintro b a w' ⟨gb458, m12_, ha, Q_BK451, Q_BK453, Q_HB, Q_BK458, Q_GW458, Q_GE458, Q_NB451_458, Q_NB458_451, Q_NB453_458, Q_NB458_453, Q_BK458_e13, Q_HO_7, Q_HO_7_e12, Q_X12_⟩ hb_ hon hoff
           refine ⟨_, rfl, fun K hK => ?_⟩
           have e29 : a.tmps[29]? = some (.pointer (some (ad454.add ((ji12)).toNat))) := by rw [ha]; exact putSel_on (e := (5, 29, .pointer (some (ad454.add ((ji12)).toNat)))) 2 rfl rfl (hon 5 (by kernel_rfl)) rfl
           replace ha := Aside0.mk ha
           have BK451 := Aside0.mk Q_BK451
           have BK453 := Aside0.mk Q_BK453
           have HB := Aside0.mk Q_HB
           have HO_7 := Aside0.mk Q_HO_7
           have hs0_ : w'.cell? (ad454.add ((ji12)).toNat) = some (.int .i64 (rd l1 (ji12))) := ((HB.out.cell (World.block_lt_of_cell? w _ hw454_0)).trans hw454_0)
           refine value_ (w1 := w') (v := .int .i64 (rd l1 (ji12))) (by rfl) rfl ?_ ?_
           ·go_simp
            (try simp only [i64_w])
            try rfl
           refine hK.out _ _ ⟨gb458, m12_, (by rw [ha.out]; exact putSel_upk 3 hb_ rfl rfl rfl), Q_BK451, Q_BK453, Q_HB, Q_BK458, Q_GW458, Q_GE458, Q_NB451_458, Q_NB458_451, Q_NB453_458, Q_NB458_453, fun h0_ => absurd ((hoff 13 (by kernel_rfl)).symm.trans h0_) (by decide), Q_HO_7, Q_HO_7_e12, Q_X12_⟩
          refine steps_cons ?_ ?_
          ·rintro b a w' ⟨gb458, m12_, ha, Q_BK451, Q_BK453, Q_HB, Q_BK458, Q_GW458, Q_GE458, Q_NB451_458, Q_NB458_451, Q_NB453_458, Q_NB458_453, Q_BK458_e13, Q_HO_7, Q_HO_7_e12, Q_X12_⟩ hb_ hon hoff
           refine ⟨_, rfl, fun K hK => ?_⟩
           have e31 : a.tmps[31]? = some (.slice (some ad454) l1.length c1) := by rw [ha]; exact (putSel_off rfl).trans rfl
           have e32 : a.tmps[32]? = some (.int .i64 x9_1) := by rw [ha]; exact (putSel_off rfl).trans rfl
           replace ha := Aside0.mk ha
           have BK451 := Aside0.mk Q_BK451
           have BK453 := Aside0.mk Q_BK453
           have HB := Aside0.mk Q_HB
           have HO_7 := Aside0.mk Q_HO_7
           have hs1_ : w'.cell? (ad454.add (x9_1).toNat) = some (.int .i64 (rd l1 x9_1)) := ((HB.out.cell (World.block_lt_of_cell? w _ hw455_0)).trans hw455_0)
           refine value_ (w1 := w') (v := .pointer (some (ad454.add (x9_1).toNat))) (by rfl) rfl ?_ ?_
           ·go_simp
            (try simp only [i64_w])
            try rfl
           refine hK.out _ _ ⟨gb458, m12_, (by rw [ha.out]; exact putSel_upk 4 hb_ rfl rfl rfl), Q_BK451, Q_BK453, Q_HB, Q_BK458, Q_GW458, Q_GE458, Q_NB451_458, Q_NB458_451, Q_NB453_458, Q_NB458_453, fun h0_ => absurd ((hoff 13 (by kernel_rfl)).symm.trans h0_) (by decide), Q_HO_7, Q_HO_7_e12, Q_X12_⟩
          refine steps_cons ?_ ?_
          ·rintro b a w' ⟨gb458, m12_, ha, Q_BK451, Q_BK453, Q_HB, Q_BK458, Q_GW458, Q_GE458, Q_NB451_458, Q_NB458_451, Q_NB453_458, Q_NB458_453, Q_BK458_e13, Q_HO_7, Q_HO_7_e12, Q_X12_⟩ hb_ hon hoff
           refine ⟨_, rfl, fun K hK => ?_⟩
           have e33 : a.tmps[33]? = some (.pointer (some (ad454.add (x9_1).toNat))) := by rw [ha]; exact putSel_on (e := (9, 33, .pointer (some (ad454.add (x9_1).toNat)))) 4 rfl rfl (hon 9 (by kernel_rfl)) rfl
           replace ha := Aside0.mk ha
           have BK451 := Aside0.mk Q_BK451
           have BK453 := Aside0.mk Q_BK453
           have HB := Aside0.mk Q_HB
           have HO_7 := Aside0.mk Q_HO_7
           have hs1_ : w'.cell? (ad454.add (x9_1).toNat) = some (.int .i64 (rd l1 x9_1)) := ((HB.out.cell (World.block_lt_of_cell? w _ hw455_0)).trans hw455_0)
           refine value_ (w1 := w') (v := .int .i64 (rd l1 x9_1)) (by rfl) rfl ?_ ?_
           ·go_simp
            (try simp only [i64_w])
            try rfl
           refine hK.out _ _ ⟨gb458, m12_, (by rw [ha.out]; exact putSel_upk 5 hb_ rfl rfl rfl), Q_BK451, Q_BK453, Q_HB, Q_BK458, Q_GW458, Q_GE458, Q_NB451_458, Q_NB458_451, Q_NB453_458, Q_NB458_453, fun h0_ => absurd ((hoff 13 (by kernel_rfl)).symm.trans h0_) (by decide), Q_HO_7, Q_HO_7_e12, Q_X12_⟩
          refine steps_cons ?_ ?_
          ·rintro b a w' ⟨gb458, m12_, ha, Q_BK451, Q_BK453, Q_HB, Q_BK458, Q_GW458, Q_GE458, Q_NB451_458, Q_NB458_451, Q_NB453_458, Q_NB458_453, Q_BK458_e13, Q_HO_7, Q_HO_7_e12, Q_X12_⟩ hb_ hon hoff
           refine ⟨_, rfl, fun K hK => ?_⟩
           have e25 : a.tmps[25]? = some (.slice A0_2 l0_2.length c0_2) := by rw [ha]; exact putSel_on (e := (1, 25, .slice A0_2 l0_2.length c0_2)) 0 rfl rfl (hon 1 (by kernel_rfl)) rfl
           have e30 : a.tmps[30]? = some (.int .i64 (rd l1 (ji12))) := by rw [ha]; exact putSel_on (e := (6, 30, .int .i64 (rd l1 (ji12)))) 3 rfl rfl (hon 6 (by kernel_rfl)) rfl
           have e34 : a.tmps[34]? = some (.int .i64 (rd l1 x9_1)) := by rw [ha]; exact putSel_on (e := (10, 34, .int .i64 (rd l1 x9_1))) 5 rfl rfl (hon 10 (by kernel_rfl)) rfl
           replace ha := Aside0.mk ha
           have BK451 := Aside0.mk Q_BK451
           have BK453 := Aside0.mk Q_BK453
           have HB := Aside0.mk Q_HB
           have HO_7 := Aside0.mk Q_HO_7
           refine goes_ Try.func45 (by kernel_rfl) rfl #[.slice A0_2 l0_2.length c0_2, .int .i64 (rd l1 (ji12)), .int .i64 (rd l1 x9_1)] (by rfl) rfl rfl (by (try simp only [List.map_toArray, List.map_cons, List.map_nil]); first | done | (go_simp; done) | (simp only [hji12]; rfl) | rfl | (simp only [List.length_drop, List.length_take]; rfl)) ?_
           with_reducible refine (spileref12_Step.calls k1 _ _ l0_2 (rd l1 (ji12)) (rd l1 x9_1) t456 t457 _ ?side1 ?side2 A16.out).mono ?_
           (case side1 => exact GS.rC (Kd.C_below HR0_2.out HB.out))
           (case side2 => exact HC0_2.out)
           rintro e w19 ⟨rfl, hb⟩
           refine ⟨_, rfl, ?_⟩
           have n0_ := Aside0.mk (Kd.R_below (GS.rR HO_7.out) hb)
           have n1_ := Aside0.mk (bqB (GS.bqX BK451.out) hb)
           have n2_ := Aside0.mk (bqB (GS.bqX BK453.out) hb)
           have n3_ := Aside0.mk (lqT (GS.lB HB.out) hb)
           have z_BK458 := fun (h0_ : b 12 = true) (h1_ : b 13 = false) => (show w19.heap[gb458]? = some (.cells #[.int .i64 0, .int .i64 0] 40 (0, 0)) from by first | exact (bqB (GS.bqX (Q_BK458 h0_ h1_)) hb))
           have z_HO_7_e12 := fun (h0_ : b 12 = true) => (show Kd.R k40 40 w19 w.heap.size (fun k_ => k_ ≠ gb453 ∧ k_ ≠ gb458) u7 x7_1 from by first | exact (Kd.R_below (GS.rR (Q_HO_7_e12 h0_)) hb) | exact Kd.R_mono (Kd.R_below (GS.rR (Q_HO_7_e12 h0_)) hb) (fun _ hk => GS.cj hk))
           clear HO_7
           clear BK451
           clear BK453
           clear HB
           have HO_7 := n0_
           have BK451 := n1_
           have BK453 := n2_
           have HB := n3_
           clear n0_ n1_ n2_ n3_
           (try clear hb)
           (try clear hb2)
           (try clear hk)
           (try clear hi)
           refine hK.out _ _ ⟨gb458, m12_, (by rw [ha.out]; exact putSel_upk 6 hb_ rfl rfl rfl), (GS.bqX BK451.out), (GS.bqX BK453.out), (GS.lB HB.out), z_BK458, Q_GW458, Q_GE458, Q_NB451_458, Q_NB458_451, Q_NB453_458, Q_NB458_453, fun h0_ => absurd ((hoff 13 (by kernel_rfl)).symm.trans h0_) (by decide), (GS.rR HO_7.out), z_HO_7_e12, Q_X12_⟩
          refine steps_cons ?_ ?_
          ·rintro b a w' ⟨gb458, m12_, ha, Q_BK451, Q_BK453, Q_HB, Q_BK458, Q_GW458, Q_GE458, Q_NB451_458, Q_NB458_451, Q_NB453_458, Q_NB458_453, Q_BK458_e13, Q_HO_7, Q_HO_7_e12, Q_X12_⟩ hb_ hon hoff
           refine ⟨_, rfl, fun K hK => ?_⟩
           replace ha := Aside0.mk ha
           have BK451 := Aside0.mk Q_BK451
           have BK453 := Aside0.mk Q_BK453
           have HB := Aside0.mk Q_HB
           have HO_7 := Aside0.mk Q_HO_7
           refine box_step ?hg (N := 10) ?hd (cs := #[.int .i64 0, .int .i64 0]) (t := 40) ?hr ?_; (case hd => rfl); (case hg => rfl); (case hr => first | (go_simp; done) | (go_simp; rfl))
           intro gb458 hg w19 hbox hb
           have n0_ := Aside0.mk (Kd.R_below (Kd.R_elderB (GS.rR HO_7.out) gb458 (Nat.le_of_eq hg.symm)) hb)
           have n1_ := Aside0.mk (bqB (GS.bqX BK451.out) hb)
           have n2_ := Aside0.mk (bqB (GS.bqX BK453.out) hb)
           have n3_ := Aside0.mk (lqT (GS.lB HB.out) hb)
           have n4_ := Aside0.mk (hbox)
           have n5_ := Aside0.mk ((by rw [hg]; exact (lqZ (GS.lB HB.out)) : w.heap.size ≤ gb458))
           have n6_ := Aside0.mk ((by rw [hg]; exact (lqZ (GS.lB HB.out)) : w.heap.size ≤ gb458))
           have n7_ := Aside0.mk ((by rw [hg]; exact Nat.ne_of_lt (blk_lt (GS.bqX BK451.out)) : gb451 ≠ gb458))
           have n8_ := Aside0.mk ((by rw [hg]; exact Nat.ne_of_gt (blk_lt (GS.bqX BK451.out)) : gb458 ≠ gb451))
           have n9_ := Aside0.mk ((by rw [hg]; exact Nat.ne_of_lt (blk_lt (GS.bqX BK453.out)) : gb453 ≠ gb458))
           have n10_ := Aside0.mk ((by rw [hg]; exact Nat.ne_of_gt (blk_lt (GS.bqX BK453.out)) : gb458 ≠ gb453))
           clear HO_7
           clear BK451
           clear BK453
           clear HB
           have HO_7 := n0_
           have BK451 := n1_
           have BK453 := n2_
           have HB := n3_
           have BK458 := n4_
           have GW458 := n5_
           have GE458 := n6_
           have NB451_458 := n7_
           have NB458_451 := n8_
           have NB453_458 := n9_
           have NB458_453 := n10_
           clear n0_ n1_ n2_ n3_ n4_ n5_ n6_ n7_ n8_ n9_ n10_
           clear hb hbox hg
           refine hK.out _ _ ⟨gb458, (.pointer (some ⟨gb458, 0, none⟩)), (by rw [ha.out]; exact putSel_upk 7 hb_ rfl rfl rfl), (GS.bqX BK451.out), (GS.bqX BK453.out), (GS.lB HB.out), fun _ _ => (GS.bqX BK458.out), fun _ => GW458.out, fun _ => GE458.out, fun _ => NB451_458.out, fun _ => NB458_451.out, fun _ => NB453_458.out, fun _ => NB458_453.out, fun h0_ => absurd ((hoff 13 (by kernel_rfl)).symm.trans h0_) (by decide), Kd.R_mono ((GS.rR HO_7.out)) (fun _ hk => GS.cj hk), fun _ => (GS.rR HO_7.out), fun _ => rfl⟩
          refine steps_cons ?_ ?_
          ·rintro b a w' ⟨gb458, m12_, ha, Q_BK451, Q_BK453, Q_HB, Q_BK458, Q_GW458, Q_GE458, Q_NB451_458, Q_NB458_451, Q_NB453_458, Q_NB458_453, Q_BK458_e13, Q_HO_7, Q_HO_7_e12, Q_X12_⟩ hb_ hon hoff
           refine ⟨_, rfl, fun K hK => ?_⟩
           have e10 : a.tmps[10]? = some (m12_) := by rw [ha]; exact putSel_on (e := (12, 10, m12_)) 7 rfl rfl (hon 12 (by kernel_rfl)) rfl
           rw [Q_X12_ (hon 12 (by kernel_rfl))] at e10
           have e35 : a.tmps[35]? = some (.agg #[.int .i64 t456, .int .i64 t457]) := by rw [ha]; exact putSel_on (e := (11, 35, .agg #[.int .i64 t456, .int .i64 t457])) 6 rfl rfl (hon 11 (by kernel_rfl)) rfl
           replace ha := Aside0.mk ha
           have BK451 := Aside0.mk Q_BK451
           have BK453 := Aside0.mk Q_BK453
           have HB := Aside0.mk Q_HB
           have BK458 := Aside0.mk (Q_BK458 (hon 12 (by kernel_rfl)) hb_)
           have GW458 := Aside0.mk (Q_GW458 (hon 12 (by kernel_rfl)))
           have GE458 := Aside0.mk (Q_GE458 (hon 12 (by kernel_rfl)))
           have NB451_458 := Aside0.mk (Q_NB451_458 (hon 12 (by kernel_rfl)))
           have NB458_451 := Aside0.mk (Q_NB458_451 (hon 12 (by kernel_rfl)))
           have NB453_458 := Aside0.mk (Q_NB453_458 (hon 12 (by kernel_rfl)))
           have NB458_453 := Aside0.mk (Q_NB458_453 (hon 12 (by kernel_rfl)))
           have HO_7 := Aside0.mk Q_HO_7
           have HO_7 := Aside0.mk (Q_HO_7_e12 (hon 12 (by kernel_rfl)))
           have hs22 : w'.cell? ⟨gb458, 0, none⟩ = some (.int .i64 0) := (bqC BK458.out 0).trans rfl
           have hfs22 := bqF BK458.out 0
           have hns22_0 := NB451_458.out
           have hns22_1 := NB453_458.out
           have hms22_0 := NB458_451.out
           have hms22_1 := NB458_453.out
           have hs23 : w'.cell? ⟨gb458, 1, none⟩ = some (.int .i64 0) := (bqC BK458.out 1).trans rfl
           have hfs23 := bqF BK458.out 1
           have hns23_0 := NB451_458.out
           have hns23_1 := NB453_458.out
           have hms23_0 := NB458_451.out
           have hms23_1 := NB458_453.out
           refine skip_ (w1 := ?_) (by rfl) rfl ?_ ?_
           rotate_left
           ·go_simp
            rfl
           refine hK.out _ _ ⟨gb458, m12_, (by rw [ha.out]; exact putSel_none (v := undef) rfl), (GS.bqX BK451.out), (GS.bqX BK453.out), (GS.lB HB.out), fun _ h1_ => absurd ((up_self b 13).symm.trans h1_) (by decide), fun _ => GW458.out, fun _ => GE458.out, fun _ => NB451_458.out, fun _ => NB458_451.out, fun _ => NB453_458.out, fun _ => NB458_453.out, fun _ => (GS.bqZ BK458.out), Kd.R_mono ((by (with_reducible repeat (first | apply Kd.R_alloc | apply Kd.R_drewN | apply Kd.R_drew)); exact Kd.R_mono (Kd.R_far (p := ⟨gb458, 1, none⟩) (Kd.R_far (p := ⟨gb458, 0, none⟩) (Kd.R_mono HO_7.out (fun k_ hk => (⟨hk, GS.cj hk⟩ : _ ∧ k_ ≠ gb458))) (fun _ hk => hk.2) (.int .i64 t456)) (fun _ hk => hk.2) (.int .i64 t457)) (fun _ hk => hk))) (fun _ hk => GS.cj hk), fun _ => (by (with_reducible repeat (first | apply Kd.R_alloc | apply Kd.R_drewN | apply Kd.R_drew)); exact Kd.R_mono (Kd.R_far (p := ⟨gb458, 1, none⟩) (Kd.R_far (p := ⟨gb458, 0, none⟩) (Kd.R_mono HO_7.out (fun k_ hk => (⟨hk, GS.cj hk⟩ : _ ∧ k_ ≠ gb458))) (fun _ hk => hk.2) (.int .i64 t456)) (fun _ hk => hk.2) (.int .i64 t457)) (fun _ hk => GS.cj hk)), Q_X12_⟩
          exact steps_nil
         rintro b a w23 hall ⟨gb458, m12_, ha, Q_BK451, Q_BK453, Q_HB, Q_BK458, Q_GW458, Q_GE458, Q_NB451_458, Q_NB458_451, Q_NB453_458, Q_NB458_453, Q_BK458_e13, Q_HO_7, Q_HO_7_e12, Q_X12_⟩
         clear BK451 BK453 HB HO_7
         have hb1_ := hall 1 (by kernel_rfl)
         have hb4_ := hall 4 (by kernel_rfl)
         have hb5_ := hall 5 (by kernel_rfl)
         have hb6_ := hall 6 (by kernel_rfl)
         have hb9_ := hall 9 (by kernel_rfl)
         have hb10_ := hall 10 (by kernel_rfl)
         have hb11_ := hall 11 (by kernel_rfl)
         have hb12_ := hall 12 (by kernel_rfl)
         have hb13_ := hall 13 (by kernel_rfl)
         subst ha
         obtain rfl := Q_X12_ hb12_
         simp only [putSel, hb1_, hb4_, hb5_, hb6_, hb9_, hb10_, hb11_, hb12_, hb13_, if_true, Act.put, List.setIfInBounds_toArray, List.set_cons_zero, List.set_cons_succ]
         have BK451 := Aside0.mk Q_BK451
         clear Q_BK451
         have BK453 := Aside0.mk Q_BK453
         clear Q_BK453
         have HB := Aside0.mk Q_HB
         clear Q_HB
         clear Q_BK458
         have GW458 := Aside0.mk (Q_GW458 hb12_)
         clear Q_GW458
         have GE458 := Aside0.mk (Q_GE458 hb12_)
         clear Q_GE458
         have NB451_458 := Aside0.mk (Q_NB451_458 hb12_)
         clear Q_NB451_458
         have NB458_451 := Aside0.mk (Q_NB458_451 hb12_)
         clear Q_NB458_451
         have NB453_458 := Aside0.mk (Q_NB453_458 hb12_)
         clear Q_NB453_458
         have NB458_453 := Aside0.mk (Q_NB458_453 hb12_)
         clear Q_NB458_453
         have BK458 := Aside0.mk (Q_BK458_e13 hb13_)
         clear Q_BK458_e13
         have HO_7 := Aside0.mk Q_HO_7
         clear Q_HO_7
         have HO_7 := Aside0.mk (Q_HO_7_e12 hb12_)
         clear Q_HO_7_e12
         clear hall hb1_ hb4_ hb5_ hb6_ hb9_ hb10_ hb11_ hb12_ hb13_
         try go_wp2
         have n0_ := Aside0.mk (Kd.R_drew HO_7.out)
         have n1_ := Aside0.mk (bqD BK451.out)
         have n2_ := Aside0.mk (bqD BK453.out)
         have n3_ := Aside0.mk (bqD BK458.out)
         have n4_ := Aside0.mk (lqD HB.out)
         clear HO_7
         clear BK451
         clear BK453
         clear BK458
         clear HB
         have HO_7 := n0_
         have BK451 := n1_
         have BK453 := n2_
         have BK458 := n3_
         have HB := n4_
         clear n0_ n1_ n2_ n3_ n4_
         refine start_ (n := 14) (S := fun w' => w'.cell? ⟨gb458, 0, none⟩ = some (.int .i64 t456) ∧ w'.cell? ⟨gb458, 1, none⟩ = some (.int .i64 t457)) (ds := []) #[false, false, false, false, false, false, false, false, false, false, false, false, false, false] (by kernel_rfl) rfl rfl ⟨(bqC BK458.out 0).trans rfl, (bqC BK458.out 1).trans rfl⟩ (fun hHeld => ?_)
         generalize w23.drew = w24 at HO_7 BK451 BK453 BK458 HB hHeld ⊢
         refine pure_ (i := 0) (N := some 36) (v := ?_) (a' := ?_) #[true, false, false, false, false, false, false, false, false, false, false, false, false, false] rfl rfl (by kernel_rfl) (fun _ _ _ h => h) (Or.inl ⟨by rfl, ?_⟩) ?_ ?_
         rotate_left
         ·intro w'
          go_simp
          with_reducible rfl
         rotate_left
         ·simp only [Act.put, List.setIfInBounds_toArray, List.set_cons_zero, List.set_cons_succ, i64_w, i32_w]
          rfl
         refine pure_ (i := 2) (N := some 38) (v := ?_) (a' := ?_) #[true, false, true, false, false, false, false, false, false, false, false, false, false, false] rfl rfl (by kernel_rfl) (fun _ _ _ h => h) (Or.inl ⟨by rfl, ?_⟩) ?_ ?_
         rotate_left
         ·intro w'
          go_simp
          with_reducible rfl
         rotate_left
         ·simp only [Act.put, List.setIfInBounds_toArray, List.set_cons_zero, List.set_cons_succ, i64_w, i32_w]
          rfl
         refine pure_ (i := 5) (N := some 41) (v := ?_) (a' := ?_) #[true, false, true, false, false, true, false, false, false, false, false, false, false, false] rfl rfl (by kernel_rfl) (fun _ _ _ h => h) (Or.inl ⟨by rfl, ?_⟩) ?_ ?_
         rotate_left
         ·intro w'
          go_simp
          with_reducible rfl
         rotate_left
         ·simp only [Act.put, List.setIfInBounds_toArray, List.set_cons_zero, List.set_cons_succ, i64_w, i32_w]
          rfl
         refine pure_ (i := 7) (N := some 43) (v := ?_) (a' := ?_) #[true, false, true, false, false, true, false, true, false, false, false, false, false, false] rfl rfl (by kernel_rfl) (fun _ _ _ h => h) (Or.inl ⟨by rfl, ?_⟩) ?_ ?_
         rotate_left
         ·intro w'
          go_simp
          with_reducible rfl
         rotate_left
         ·simp only [Act.put, List.setIfInBounds_toArray, List.set_cons_zero, List.set_cons_succ, i64_w, i32_w]
          rfl
         refine take_ (i := 3) (N := some 39) (v := ?_) (a' := ?_) #[true, false, true, true, false, true, false, true, false, false, false, false, false, false] rfl rfl (by kernel_rfl) (fun _ _ _ h => h) (Or.inl ⟨by rfl, ?_⟩) hHeld ?_ ?_
         rotate_left
         ·rintro w' ⟨hsa, hsb⟩
          go_simp
          with_reducible rfl
         rotate_left
         ·simp only [Act.put, List.setIfInBounds_toArray, List.set_cons_zero, List.set_cons_succ, i64_w, i32_w]
          rfl
         refine take_ (i := 8) (N := some 44) (v := ?_) (a' := ?_) #[true, false, true, true, false, true, false, true, true, false, false, false, false, false] rfl rfl (by kernel_rfl) (fun _ _ _ h => h) (Or.inl ⟨by rfl, ?_⟩) hHeld ?_ ?_
         rotate_left
         ·rintro w' ⟨hsa, hsb⟩
          go_simp
          with_reducible rfl
         rotate_left
         ·simp only [Act.put, List.setIfInBounds_toArray, List.set_cons_zero, List.set_cons_succ, i64_w, i32_w]
          rfl
         have hsA0 : w24.cell? ⟨gb453, 0, none⟩ = some (.int .i64 x454000_1) := (bqC BK453.out 0).trans rfl
         have hsA1 : w24.cell? ⟨gb453, 1, none⟩ = some (.int .i64 x454001_1) := (bqC BK453.out 1).trans rfl
         refine GS.joinA 4 #[true, true, true, true, true, true, true, true, true, true, false, false, false, false] [(37, .int .i64 x454000_1), (40, .int .i64 (wrap64 (x454000_1 + t456))), (42, .int .i64 x454001_1), (45, .int .i64 (wrap64 (x454001_1 + t457)))] ?_ (fun hX => ?_)
         rotate_left
         ·refine two_ (i := 1) (j := 6) (Ni := some 37) (Nj := some 42) #[true, true, true, true, false, true, false, true, true, false, false, false, false, false] #[true, false, true, true, false, true, true, true, true, false, false, false, false, false] rfl rfl rfl rfl (by kernel_rfl) (by decide) (by decide) (fun K hK => ?_) (fun K hK => ?_)
          ·refine value_ (w1 := w24) (v := .int .i64 x454000_1) (by rfl) rfl ?_ ?_
           ·go_simp
            (try rfl)
           refine hK.out _ _ hHeld (fun hHeld => ?_)
           clear hK K
           refine norm_ (a' := ?_) ?_ ?_
           rotate_left
           ·show Act.put _ (some 37) _ = _
            simp only [Act.put, List.setIfInBounds_toArray, List.set_cons_zero, List.set_cons_succ, i64_w, i32_w]
            rfl
           refine pure_ (i := 4) (N := some 40) (v := ?_) (a' := ?_) #[true, true, true, true, true, true, false, true, true, false, false, false, false, false] rfl rfl (by kernel_rfl) (fun _ _ _ h => h) (Or.inl ⟨by rfl, ?_⟩) ?_ ?_
           rotate_left
           ·intro w'
            go_simp
            with_reducible rfl
           rotate_left
           ·simp only [Act.put, List.setIfInBounds_toArray, List.set_cons_zero, List.set_cons_succ, i64_w, i32_w]
            rfl
           refine one_ (i := 6) (N := some 42) #[true, true, true, true, true, true, true, true, true, false, false, false, false, false] rfl rfl (by kernel_rfl) (by decide) (fun K hK => ?_)
           refine value_ (w1 := w24) (v := .int .i64 x454001_1) (by rfl) rfl ?_ ?_
           ·go_simp
            (try rfl)
           refine hK.out _ _ hHeld (fun hHeld => ?_)
           clear hK K
           refine norm_ (a' := ?_) ?_ ?_
           rotate_left
           ·show Act.put _ (some 42) _ = _
            simp only [Act.put, List.setIfInBounds_toArray, List.set_cons_zero, List.set_cons_succ, i64_w, i32_w]
            rfl
           refine pure_ (i := 9) (N := some 45) (v := ?_) (a' := ?_) #[true, true, true, true, true, true, true, true, true, true, false, false, false, false] rfl rfl (by kernel_rfl) (fun _ _ _ h => h) (Or.inl ⟨by rfl, ?_⟩) ?_ ?_
           rotate_left
           ·intro w'
            go_simp
            with_reducible rfl
           rotate_left
           ·simp only [Act.put, List.setIfInBounds_toArray, List.set_cons_zero, List.set_cons_succ, i64_w, i32_w]
            rfl
           refine norm_ ?_ hX
           simp only [GS.putL, List.foldl, List.setIfInBounds_toArray, List.set_cons_zero, List.set_cons_succ]
          ·refine value_ (w1 := w24) (v := .int .i64 x454001_1) (by rfl) rfl ?_ ?_
           ·go_simp
            (try rfl)
           refine hK.out _ _ hHeld (fun hHeld => ?_)
           clear hK K
           refine norm_ (a' := ?_) ?_ ?_
           rotate_left
           ·show Act.put _ (some 42) _ = _
            simp only [Act.put, List.setIfInBounds_toArray, List.set_cons_zero, List.set_cons_succ, i64_w, i32_w]
            rfl
           refine pure_ (i := 9) (N := some 45) (v := ?_) (a' := ?_) #[true, false, true, true, false, true, true, true, true, true, false, false, false, false] rfl rfl (by kernel_rfl) (fun _ _ _ h => h) (Or.inl ⟨by rfl, ?_⟩) ?_ ?_
           rotate_left
           ·intro w'
            go_simp
            with_reducible rfl
           rotate_left
           ·simp only [Act.put, List.setIfInBounds_toArray, List.set_cons_zero, List.set_cons_succ, i64_w, i32_w]
            rfl
           refine one_ (i := 1) (N := some 37) #[true, true, true, true, false, true, true, true, true, true, false, false, false, false] rfl rfl (by kernel_rfl) (by decide) (fun K hK => ?_)
           refine value_ (w1 := w24) (v := .int .i64 x454000_1) (by rfl) rfl ?_ ?_
           ·go_simp
            (try rfl)
           refine hK.out _ _ hHeld (fun hHeld => ?_)
           clear hK K
           refine norm_ (a' := ?_) ?_ ?_
           rotate_left
           ·show Act.put _ (some 37) _ = _
            simp only [Act.put, List.setIfInBounds_toArray, List.set_cons_zero, List.set_cons_succ, i64_w, i32_w]
            rfl
           refine pure_ (i := 4) (N := some 40) (v := ?_) (a' := ?_) #[true, true, true, true, true, true, true, true, true, true, false, false, false, false] rfl rfl (by kernel_rfl) (fun _ _ _ h => h) (Or.inl ⟨by rfl, ?_⟩) ?_ ?_
           rotate_left
           ·intro w'
            go_simp
            with_reducible rfl
           rotate_left
           ·simp only [Act.put, List.setIfInBounds_toArray, List.set_cons_zero, List.set_cons_succ, i64_w, i32_w]
            rfl
           refine norm_ ?_ hX
           simp only [GS.putL, List.foldl, List.setIfInBounds_toArray, List.set_cons_zero, List.set_cons_succ]
         simp only [GS.putL, List.foldl, List.setIfInBounds_toArray, List.set_cons_zero, List.set_cons_succ]
         clear hsA0 hsA1
         refine pure_ (i := 10) (N := some 46) (v := ?_) (a' := ?_) #[true, true, true, true, true, true, true, true, true, true, true, false, false, false] rfl rfl (by kernel_rfl) (fun _ _ _ h => h) (Or.inl ⟨by rfl, ?_⟩) ?_ ?_
         rotate_left
         ·intro w'
          go_simp
          with_reducible rfl
         rotate_left
         ·simp only [Act.put, List.setIfInBounds_toArray, List.set_cons_zero, List.set_cons_succ, i64_w, i32_w]
          rfl
         refine one_ (i := 11) (N := none) #[true, true, true, true, true, true, true, true, true, true, true, true, false, false] rfl rfl (by kernel_rfl) (by decide) (fun K hK => ?_)
         have hs25 : w24.cell? ⟨gb453, 0, none⟩ = some (.int .i64 x454000_1) := (bqC BK453.out 0).trans rfl
         have hfs25 := bqF BK453.out 0
         have hns25_0 := NB451_453.out
         have hns25_2 := NB458_453.out
         have hms25_0 := NB453_451.out
         have hms25_2 := NB453_458.out
         refine skip_ (w1 := ?_) (by rfl) rfl ?_ ?_
         rotate_left
         ·go_simp
          rfl
         refine hK.out _ _ ⟨(bqC ((Below.heap_setCell _ _ _ gb458 NB458_453.out).trans BK458.out) 0).trans rfl, (bqC ((Below.heap_setCell _ _ _ gb458 NB458_453.out).trans BK458.out) 1).trans rfl⟩ (fun hHeld => ?_)
         clear hK K
         refine pure_ (i := 12) (N := some 47) (v := ?_) (a' := ?_) #[true, true, true, true, true, true, true, true, true, true, true, true, true, false] rfl rfl (by kernel_rfl) (fun _ _ _ h => h) (Or.inl ⟨by rfl, ?_⟩) ?_ ?_
         rotate_left
         ·intro w'
          go_simp
          with_reducible rfl
         rotate_left
         ·simp only [Act.put, List.setIfInBounds_toArray, List.set_cons_zero, List.set_cons_succ, i64_w, i32_w]
          rfl
         refine one_ (i := 13) (N := none) #[true, true, true, true, true, true, true, true, true, true, true, true, true, true] rfl rfl (by kernel_rfl) (by decide) (fun K hK => ?_)
         have hs26 : w24.cell? ⟨gb453, 1, none⟩ = some (.int .i64 x454001_1) := (bqC BK453.out 1).trans rfl
         have hfs26 := bqF BK453.out 1
         have hns26_0 := NB451_453.out
         have hns26_2 := NB458_453.out
         have hms26_0 := NB453_451.out
         have hms26_2 := NB453_458.out
         refine skip_ (w1 := ?_) (by rfl) rfl ?_ ?_
         rotate_left
         ·go_simp
          rfl
         refine hK.out _ _ ⟨(bqC ((Below.heap_setCell _ _ _ gb458 NB458_453.out).trans ((Below.heap_setCell _ _ _ gb458 NB458_453.out).trans BK458.out)) 0).trans rfl, (bqC ((Below.heap_setCell _ _ _ gb458 NB458_453.out).trans ((Below.heap_setCell _ _ _ gb458 NB458_453.out).trans BK458.out)) 1).trans rfl⟩ (fun hHeld => ?_)
         clear hK K
         refine done_ (by kernel_rfl) ?_
         have hnb27 := NB453_451.out
         have hnc27 := NB451_453.out
         have hnb28 := NB453_458.out
         have hnc28 := NB458_453.out
         obtain ⟨hcz29_0, hcz29_1, hfz29_0, hfz29_1⟩ := GS.c2 BK453.out
         try go_wp2_with (first | ((with_reducible refine gate_builtin (b := .append) (xs := #[.tmp 48, .tmp 50]) rfl ?_); at_builtin; refine Kd.R_append k40 (w0 := w) w.heap.size rfl (.tmp 48) (.tmp 50) 43 40 (.agg #[(.int .i64 0), (.int .i64 0)]) 16 rfl Try.underlying43 info40 rfl (by decide) (by omega) u7 x7_1 (⟨wrap64 (x454000_1 + t456), wrap64 (x454001_1 + t457)⟩ : S40) [.int .i64 (wrap64 (x454000_1 + t456)), .int .i64 (wrap64 (x454001_1 + t457))] (fun k_ => k_ ≠ gb453 ∧ k_ ≠ gb458) (fun _ => False) rfl (by first | (go_simp; done) | (go_simp; rfl)) ?aP (fun _ hk => hk.elim) ?aF ?aO ?aB ?aS ?aL ?_; (case aP => exact k40_mkM _ _ _ (⟨wrap64 (x454000_1 + t456), wrap64 (x454001_1 + t457)⟩ : S40)); (case aB => exact (GS.lB HB.out)); (case aF => exact (fun k_ hk => ⟨Kd.freshB (g := gb453) (o := .cells #[.int .i64 (wrap64 (x454000_1 + t456)), .int .i64 (wrap64 (x454001_1 + t457))] 40 (0, 0)) (GS.bqZ BK453.out) k_ hk, Kd.freshB (GS.bqX BK458.out) k_ hk⟩)); (case aO => exact (by (with_reducible repeat (first | apply Kd.R_alloc | apply Kd.R_drewN | apply Kd.R_drew)); exact Kd.R_mono (Kd.R_far (p := ⟨gb453, 1, none⟩) (Kd.R_far (p := ⟨gb453, 0, none⟩) (Kd.R_mono HO_7.out (fun k_ hk => (⟨hk, GS.cj hk⟩ : _ ∧ k_ ≠ gb453))) (fun _ hk => hk.2) (.int .i64 (wrap64 (x454000_1 + t456)))) (fun _ hk => hk.2) (.int .i64 (wrap64 (x454001_1 + t457)))) (fun _ hk => GS.cj hk))); (case aS => exact (lqZ (GS.lB HB.out))); (case aL => have := LMc17.out; omega); intro v460 w30 ho hb hg hat; rw [← Ny459.out] at ho; have n0_ := Aside0.mk (blk_grown (GS.bqX BK451.out) hg (Kd.R_ne HO_7.out BK451.out (by decide))); have n1_ := Aside0.mk (blk_grown (g := gb453) (o := .cells #[.int .i64 (wrap64 (x454000_1 + t456)), .int .i64 (wrap64 (x454001_1 + t457))] 40 (0, 0)) (GS.bqZ BK453.out) hg (Kd.R_away HO_7.out (fun _ hk => GS.cj hk))); have n2_ := Aside0.mk (blk_grown (GS.bqX BK458.out) hg (Kd.R_away HO_7.out (fun _ hk => GS.cj hk))); have n3_ := Aside0.mk (hb); have n4_ := Aside0.mk (ho); clear BK451; clear BK453; clear BK458; clear HB; clear HO_7; have BK451 := n0_; have BK453 := n1_; have BK458 := n2_; have HB := n3_; have HO461 := n4_; clear n0_ n1_ n2_ n3_ n4_; clear ho hb hg hat))
         go_roundg k1
         case measure => have := HK1.out; omega
         case rel => exact ⟨(y459), (wrap64 (x9_1 + 1)), (wrap64 (x454000_1 + t456)), (wrap64 (x454001_1 + t457)), (by first | rfl | (simp; done) | (simp [*]; done)), H', ⟨by have := HK1.out; omega⟩, ⟨by (with_reducible repeat (first | apply Kd.R_alloc | apply Kd.R_drewN | apply Kd.R_drew)); exact Kd.R_mono HO461.out (fun _ hk => GS.cj hk)⟩, ⟨GS.bqX BK451.out⟩, ⟨GS.bqX BK453.out⟩, ⟨GS.lB HB.out⟩⟩
        ·rw [if_neg c17] at H
         exact absurd H (by simp)
       ·rw [if_neg c15] at H
        exact absurd H (by simp)
      ·rw [if_neg c14] at H
       exact absurd H (by simp)
     ·rw [if_neg c13] at H
      exact absurd H (by simp)
    ·rw [if_neg c11] at H
     have c11b0 : decide (x9_1 < (l1.length : Int)) = false := decide_eq_false c11
     clear c11
     simp only [Option.some.injEq, Prod.mk.injEq] at H
     obtain ⟨rfl, rfl⟩ := H
     go_wp2
     go_ret2
     exact ⟨_, by first | rfl | (simp [errW_none, errW_some] <;> rfl) | (simp [*, errW_none, errW_some] <;> rfl), by (with_reducible repeat (first | apply Kd.R_alloc | apply Kd.R_drewN | apply Kd.R_drew)); exact Kd.R_mono HO_7.out (fun _ hk => trivial), GS.lB HB.out⟩
 ·rw [if_neg c4] at H
  have c4b0 : (t452 == 0) = false := beq_eq_false_iff_ne.mpr c4
  try simp only [beq_self_eq_true, Bool.not_true, Bool.false_or, Bool.true_and] at c4b0
  have c4b1 : (t452 != 0) = true := bne_iff_ne.mpr c4
  simp only [Option.some.injEq, Prod.mk.injEq] at H
  obtain ⟨rfl, rfl⟩ := H
  go_enter Try.func23, Try.ntmps23
  go_wp2_with (first | ((with_reducible refine gqD (N := 2) rfl ?_); refine GS.bx (N := 2) (cs := #[.string a0_0, .int .i64 a0_1, .slice A0_2 l0_2.length c0_2, .int .i64 a0_3]) (t := 24) ?_; intro gb451 hg w31 hbox hb; have n0_ := Aside0.mk (lqT (GS.lB HB.out) hb); have n1_ := Aside0.mk (hbox); have n2_ := Aside0.mk ((by rw [hg]; exact (lqZ (GS.lB HB.out)) : w.heap.size ≤ gb451)); have n3_ := Aside0.mk ((by rw [hg]; exact (lqZ (GS.lB HB.out)) : w.heap.size ≤ gb451)); clear HB; have HB := n0_; have BK451 := n1_; have GW451 := n2_; have GE451 := n3_; clear n0_ n1_ n2_ n3_; clear hb hbox hg; obtain ⟨hcz32_0, hcz32_1, hcz32_2, hcz32_3, hfz32_0, hfz32_1, hfz32_2, hfz32_3⟩ := GS.c4 BK451.out) | ((with_reducible refine gqC (f := 19) rfl ?_); refine GS.gL (some 13) Try.func19 #[.agg #[.string a0_0, .int .i64 a0_1, .slice A0_2 l0_2.length c0_2, .int .i64 a0_3], .slice A1 l1.length c1] ?_; (with_reducible refine (spileref12_Check.calls k a0_0 a0_1 _ _ l0_2 a0_3 _ _ l1 t452 _ ?side1 ?side2 ?side3 ?side4 A3.out).mono ?_); (case side1 => exact GS.rC (Kd.C_below HR0_2.out HB.out)); (case side2 => exact HC0_2.out); (case side3 => exact GS.rC (Kd.C_below HR1.out HB.out)); (case side4 => exact HC1.out); rintro e w33 ⟨rfl, hb⟩; refine ⟨_, rfl, ?_⟩; have n0_ := Aside0.mk (bqB (GS.bqX BK451.out) hb); have n1_ := Aside0.mk (lqT (GS.lB HB.out) hb); clear BK451; clear HB; have BK451 := n0_; have HB := n1_; clear n0_ n1_; (try clear hb); (try clear hb2); (try clear hk); (try clear hi)))
  go_ret2
  exact ⟨_, by first | rfl | (simp [errW_none, errW_some] <;> rfl) | (simp [*, errW_none, errW_some] <;> rfl), by first | exact Kd.R_nil _ _ _ _ _ | exact Kd.N_nil _ _ _ _ _ | exact Kd.V_nil _ _ _ _ _ | exact Kd.Q_nil _ _ _ _ _ | exact Kd.S_nil _ _ _ _ _, GS.lB HB.out⟩

/-! ### spileref10_Bounds: function 63 -/
def spileref10_Bounds.f (a0 : Int) : Option (Int × Int) := some (wrap64 (Int.tdiv (wrap64 (a0 * 333)) 318), wrap64 (Int.tdiv (wrap64 ((wrap64 (a0 * 355)) + 338)) 339))
set_option maxHeartbeats 8000000 in
set_option maxRecDepth 100000 in
theorem spileref10_Bounds.calls (a0 : Int) (r1 : Int) (r2 : Int) (w : World) (h : spileref10_Bounds.f a0 = some (r1, r2)) :
  Calls Try.prog 63 #[.int .i64 a0] w fun e w' => e = .returned (.agg #[.int .i64 r1, .int .i64 r2]) ∧ Below w.heap.size w w' := by
 have hu40 := Try.underlying40
 have HB := Aside0.mk (Below.refl w.heap.size w)
 have H : (some (wrap64 (Int.tdiv (wrap64 (a0 * 333)) 318), wrap64 (Int.tdiv (wrap64 ((wrap64 (a0 * 355)) + 338)) 339))) = some (r1, r2) := h
 clear h
 simp only [Option.some.injEq, Prod.mk.injEq] at H
 obtain ⟨rfl, rfl⟩ := H
 go_enter Try.func63, Try.ntmps63
 go_wp2_with (first | ((with_reducible refine gqD (N := 2) rfl ?_); refine GS.bx (N := 2) (cs := #[.int .i64 0, .int .i64 0]) (t := 40) ?_; intro gb462 hg w2 hbox hb; have n0_ := Aside0.mk (lqT (GS.lB HB.out) hb); have n1_ := Aside0.mk (hbox); have n2_ := Aside0.mk ((by rw [hg]; exact (lqZ (GS.lB HB.out)) : w.heap.size ≤ gb462)); have n3_ := Aside0.mk ((by rw [hg]; exact (lqZ (GS.lB HB.out)) : w.heap.size ≤ gb462)); clear HB; have HB := n0_; have BK462 := n1_; have GW462 := n2_; have GE462 := n3_; clear n0_ n1_ n2_ n3_; clear hb hbox hg; obtain ⟨hcz3_0, hcz3_1, hfz3_0, hfz3_1⟩ := GS.c2 BK462.out))
 refine bodyPost_ret (results_cell_row rfl _ _ gb462 40 #[.int .i64 (wrap64 (Int.tdiv (wrap64 (a0 * 333)) 318)), .int .i64 (wrap64 (Int.tdiv (wrap64 ((wrap64 (a0 * 355)) + 338)) 339))] (0, 0) _ rfl (GS.bqZ BK462.out) Try.underlying40 rfl (by kernel_rfl)) rfl ?_
 exact ⟨by first | rfl | (simp [errW_none, errW_some] <;> rfl) | (simp [*, errW_none, errW_some] <;> rfl), GS.lB HB.out⟩

end Go.Proofs.Ytmcmbjkjilcmeaa.K
