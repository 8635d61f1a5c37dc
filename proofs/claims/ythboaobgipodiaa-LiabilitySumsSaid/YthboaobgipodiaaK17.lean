-- PRINTED by print.py (a twelfth state) out of the translation. Not trusted: Lean checks it.
import Derived.Test.YthboaobgipodiaaK0
import Derived.Test.YthboaobgipodiaaGPu
import Derived.Test.YthboaobgipodiaaGShort
import Derived.Test.YthboaobgipodiaaK3
import Derived.Test.YthboaobgipodiaaK7
import Derived.Test.YthboaobgipodiaaK15
import Derived.Test.YthboaobgipodiaaK16
import Derived.Test.YthboaobgipodiaaGBonds
import Derived.Test.YthboaobgipodiaaGClone
namespace Go.Proofs.Ythboaobgipodiaa.K
open Go.RowKit Go.Proofs.YthboaobgipodiaaW.PrintWords Go.Proofs.YthboaobgipodiaaW.PrintLast Go.Proofs.YthboaobgipodiaaW.PrintMore
attribute [local go_sem] max2_int min2_int max_two min_two max_three min_three max_four min_four   -- for this text's walks alone
set_option linter.unusedVariables false
set_option linter.unusedSimpArgs false

/-! ### spilelaw51_awake: function 9 -/
def spilelaw51_awake.f (k : Nat)  : Option (Bool) := (some (([(⟨1, 0, 1000⟩ : S60), (⟨1, 100, 1500⟩ : S60)] : List (S60)) : List (S60))).bind fun y356 => ((some (([(⟨4, 1, 1, 90, 20000000⟩ : S35)] : List (S35)) : List (S35))).bind fun y360 => ((spilelaw51_ct.f 3 y356).bind fun bt363 => ((clone13.f y360).bind fun t367 => ((liability_Greatest.f k bt363.1 bt363.2 t367 99).bind fun bt370 => ((spilelaw51_ct.f 3 y356).bind fun bt375 => ((clone13.f y360).bind fun t379 => ((liability_Greatest.f k bt375.1 bt375.2 t379 100).bind fun bt382 => ((spilelaw51_ct.f 3 y356).bind fun bt387 => ((clone13.f y360).bind fun t391 => ((liability_Witness.f k bt387.1 bt387.2 t391 100).bind fun bt394 => ((spilelaw51_ct.f 3 y356).bind fun bt398 => (if 0 < (y360.length : Int) then ((liability_Causes.f k bt398.1 bt398.2 ((rd_T35 y360 0).f0) ((rd_T35 y360 0).f1) ((rd_T35 y360 0).f2) ((rd_T35 y360 0).f3) ((rd_T35 y360 0).f4) 4 2 10000000 95 99).bind fun bt403 => ((spilelaw51_ct.f 3 y356).bind fun bt405 => ((clone13.f y360).bind fun t409 => ((liability_Sum.f k bt405.1 bt405.2 t409 (([(⟨4, 3, 20000000, 100⟩ : S51)] : List (S51))) 100).bind fun bt415 => ((spilelaw51_ct.f 3 y356).bind fun bt417 => ((clone13.f y360).bind fun t421 => ((liability_Bonds.f k bt417.1 bt417.2 t421 100).bind fun bt424 => ((clone13.f y360).bind fun t428 => ((liability_Check.f k t428).bind fun bt431 => (if (wrap64 ((wrap64 ((wrap64 ((wrap64 ((wrap64 ((wrap64 (bt370.2.2 + bt382.2.2)) + bt394.2)) + bt403.2)) + bt415.2)) + bt424.2)) + bt431.2)) = 0 then ((slices_Equal_int_int.f k bt370.1 (([2000] : List Int))).bind fun t436 => (if t436 = true then (if bt370.2.1 = 2000 then ((slices_Equal_int_int.f k bt382.1 (([3000] : List Int))).bind fun t440 => (if t440 = true then (if bt382.2.1 = 3000 then ((api_Outcome_24.f k bt394.1 (([(⟨4, 3, 20000000, 100⟩ : S51)] : List (S51)))).bind fun t444 => (if t444 = true then (if bt403.1 = 1000 then (if bt415.1 = 3000 then ((api_Hold.f k bt424.1 (([(⟨1, 0, 3000⟩ : S42)] : List (S42)))).bind fun t448 => (if t448 = true then (if bt431.1 = (-1) then (if 0 < (bt394.1.length : Int) then ((liability_Fits.f k ((rd_T35 y360 0).f0) ((rd_T35 y360 0).f1) ((rd_T35 y360 0).f2) ((rd_T35 y360 0).f3) ((rd_T35 y360 0).f4) ((rd_T51 bt394.1 0).f0) ((rd_T51 bt394.1 0).f1) ((rd_T51 bt394.1 0).f2) ((rd_T51 bt394.1 0).f3) 100).bind fun t451 => (some t451)) else (none)) else (none)) else (none))) else (none)) else (none)) else (none))) else (none)) else (none))) else (none)) else (none))) else (none))))))))))) else (none)))))))))))))
theorem spilelaw51_awake.mono : ∀ k, LeO (spilelaw51_awake.f k ) (spilelaw51_awake.f (k + 1) ) := by
 intro  k
 unfold spilelaw51_awake.f
 repeat' first
   | (with_reducible exact api_Hold.mono _ _ _)
   | (with_reducible exact api_Outcome_24.mono _ _ _)
   | (with_reducible exact liability_Bonds.mono _ _ _ _ _)
   | (with_reducible exact liability_Causes.mono _ _ _ _ _ _ _ _ _ _ _ _ _)
   | (with_reducible exact liability_Check.mono _ _)
   | (with_reducible exact liability_Fits.mono _ _ _ _ _ _ _ _ _ _ _)
   | (with_reducible exact liability_Greatest.mono _ _ _ _ _)
   | (with_reducible exact liability_Sum.mono _ _ _ _ _ _)
   | (with_reducible exact liability_Witness.mono _ _ _ _ _)
   | (with_reducible exact slices_Equal_int_int.mono _ _ _)
   | (with_reducible exact LeO.refl _)
   | (with_reducible exact LeO.none _)
   | (with_reducible refine LeO.ite ?_ ?_)
   | (with_reducible refine LeO.bind ?_ (fun _ => ?_))
   | exact api_Hold.mono _ _ _
   | exact api_Outcome_24.mono _ _ _
   | exact liability_Bonds.mono _ _ _ _ _
   | exact liability_Causes.mono _ _ _ _ _ _ _ _ _ _ _ _ _
   | exact liability_Check.mono _ _
   | exact liability_Fits.mono _ _ _ _ _ _ _ _ _ _ _
   | exact liability_Greatest.mono _ _ _ _ _
   | exact liability_Sum.mono _ _ _ _ _ _
   | exact liability_Witness.mono _ _ _ _ _
   | exact slices_Equal_int_int.mono _ _ _
   | exact LeO.none _
   | refine LeO.ite ?_ ?_
   | refine LeO.bind ?_ (fun _ => ?_)
def spilelaw51_awake.T6 : Bool × List (List Nat × List Nat) := (true, [([], []), ([0], [0]), ([], []), ([2], [2]), ([3], [3]), ([], []), ([1, 4, 5, 1], [1, 4, 5]), ([6], [6]), ([7], [7]), ([7], [7]), ([8, 6, 0, 1, 2, 3, 4, 5, 6, 7, 8], [8]), ([9, 10, 0, 1, 2, 3, 4, 5, 6, 7, 8, 9, 10], [9])])
def spilelaw51_awake.B6 : List Nat := [0, 1, 0, 4, 12, 0, 63, 127, 255, 255, 511, 2047]
theorem spilelaw51_awake.tab6 : rtab .any (opsOf Try.f9 6) = spilelaw51_awake.T6 := by kernel_rfl
theorem spilelaw51_awake.bits6 : waitsOk spilelaw51_awake.T6.2 spilelaw51_awake.B6 = true := by kernel_rfl
def spilelaw51_awake.T10 : Bool × List (List Nat × List Nat) := (true, [([], []), ([], []), ([0, 1], [0, 1]), ([], []), ([2, 3], [2, 3]), ([], []), ([4, 5], [4, 5]), ([], []), ([6, 7], [6, 7]), ([], []), ([8, 9], [8, 9]), ([], []), ([10, 11], [10, 11]), ([12], [12]), ([13], [13]), ([14], [14]), ([14], [14]), ([15, 16, 14, 14], [14, 15, 16]), ([14, 17], [14, 17]), ([18, 17], [18]), ([19], [19]), ([20, 19], [19, 20]), ([19, 21], [19, 21]), ([22, 19], [22]), ([23], [23]), ([23], [23]), ([24, 25, 23, 23], [23, 24, 25]), ([23, 26], [23, 26]), ([27, 26], [27]), ([28], [28]), ([29, 28], [28, 29]), ([28, 30], [28, 30]), ([31, 28], [31]), ([32], [32]), ([32], [32]), ([34, 32], [32, 34]), ([33, 35, 32, 32], [32, 33, 35]), ([32, 36], [32, 36]), ([37, 36], [37]), ([38], [38]), ([39, 38], [38, 39]), ([38, 40], [38, 40]), ([41, 38], [41]), ([42], [42]), ([43, 42], [42, 43]), ([42, 44], [42, 44]), ([45, 42], [45]), ([46], [46]), ([46], [46]), ([48, 46], [46, 48]), ([47, 49, 46, 46], [46, 47, 49]), ([46, 50], [46, 50]), ([51, 50], [51]), ([52], [52]), ([53, 52], [52, 53]), ([52, 54], [52, 54]), ([55, 52], [55]), ([56], [56]), ([57, 56], [56, 57]), ([58, 56], [56, 58]), ([56], [56]), ([60, 56], [56, 60]), ([61, 56], [56, 61]), ([59, 62, 56, 56], [56, 59, 62]), ([56, 63], [56, 63]), ([64, 63, 0, 1, 2, 3, 4, 5, 6, 7, 8, 9, 10, 11, 12, 13, 14, 15, 16, 17, 18, 19, 20, 21, 22, 23, 24, 25, 26, 27, 28, 29, 30, 31, 32, 33, 34, 35, 36, 37, 38, 39, 40, 41, 42, 43, 44, 45, 46, 47, 48, 49, 50, 51, 52, 53, 54, 55, 56, 57, 58, 59, 60, 61, 62, 63, 64], [64])])
def spilelaw51_awake.B10 : List Nat := [0, 0, 3, 0, 15, 0, 63, 0, 255, 0, 1023, 0, 4095, 8191, 16383, 32767, 32767, 131071, 262143, 524287, 1048575, 2097151, 4194303, 8388607, 16777215, 16777215, 67108863, 134217727, 268435455, 536870911, 1073741823, 2147483647, 4294967295, 8589934591, 8589934591, 25769803775, 68719476735, 137438953471, 274877906943, 549755813887, 1099511627775, 2199023255551, 4398046511103, 8796093022207, 17592186044415, 35184372088831, 70368744177663, 140737488355327, 140737488355327, 422212465065983, 1125899906842623, 2251799813685247, 4503599627370495, 9007199254740991, 18014398509481983, 36028797018963967, 72057594037927935, 144115188075855871, 288230376151711743, 576460752303423487, 144115188075855871, 1297036692682702847, 3602879701896396799, 9223372036854775807, 18446744073709551615, 36893488147419103231]
theorem spilelaw51_awake.tab10 : rtab .any (opsOf Try.f9 10) = spilelaw51_awake.T10 := by kernel_rfl
theorem spilelaw51_awake.bits10 : waitsOk spilelaw51_awake.T10.2 spilelaw51_awake.B10 = true := by kernel_rfl
set_option maxHeartbeats 8000000 in
set_option maxRecDepth 100000 in
theorem spilelaw51_awake.calls (k : Nat)  (r : Bool) (w : World) (h : spilelaw51_awake.f k  = some r) :
  Calls Try.prog 9 #[] w fun e w' => e = .returned (.bool r) ∧ Below w.heap.size w w' := by
 have hu60 := Try.underlying60
 have hu24 := Try.underlying24
 have hu35 := Try.underlying35
 have hu51 := Try.underlying51
 have hu42 := Try.underlying42
 have HB := Aside0.mk (Below.refl w.heap.size w)
 have H : ((some (([(⟨1, 0, 1000⟩ : S60), (⟨1, 100, 1500⟩ : S60)] : List (S60)) : List (S60))).bind fun y356 => ((some (([(⟨4, 1, 1, 90, 20000000⟩ : S35)] : List (S35)) : List (S35))).bind fun y360 => ((spilelaw51_ct.f 3 y356).bind fun bt363 => ((clone13.f y360).bind fun t367 => ((liability_Greatest.f k bt363.1 bt363.2 t367 99).bind fun bt370 => ((spilelaw51_ct.f 3 y356).bind fun bt375 => ((clone13.f y360).bind fun t379 => ((liability_Greatest.f k bt375.1 bt375.2 t379 100).bind fun bt382 => ((spilelaw51_ct.f 3 y356).bind fun bt387 => ((clone13.f y360).bind fun t391 => ((liability_Witness.f k bt387.1 bt387.2 t391 100).bind fun bt394 => ((spilelaw51_ct.f 3 y356).bind fun bt398 => (if 0 < (y360.length : Int) then ((liability_Causes.f k bt398.1 bt398.2 ((rd_T35 y360 0).f0) ((rd_T35 y360 0).f1) ((rd_T35 y360 0).f2) ((rd_T35 y360 0).f3) ((rd_T35 y360 0).f4) 4 2 10000000 95 99).bind fun bt403 => ((spilelaw51_ct.f 3 y356).bind fun bt405 => ((clone13.f y360).bind fun t409 => ((liability_Sum.f k bt405.1 bt405.2 t409 (([(⟨4, 3, 20000000, 100⟩ : S51)] : List (S51))) 100).bind fun bt415 => ((spilelaw51_ct.f 3 y356).bind fun bt417 => ((clone13.f y360).bind fun t421 => ((liability_Bonds.f k bt417.1 bt417.2 t421 100).bind fun bt424 => ((clone13.f y360).bind fun t428 => ((liability_Check.f k t428).bind fun bt431 => (if (wrap64 ((wrap64 ((wrap64 ((wrap64 ((wrap64 ((wrap64 (bt370.2.2 + bt382.2.2)) + bt394.2)) + bt403.2)) + bt415.2)) + bt424.2)) + bt431.2)) = 0 then ((slices_Equal_int_int.f k bt370.1 (([2000] : List Int))).bind fun t436 => (if t436 = true then (if bt370.2.1 = 2000 then ((slices_Equal_int_int.f k bt382.1 (([3000] : List Int))).bind fun t440 => (if t440 = true then (if bt382.2.1 = 3000 then ((api_Outcome_24.f k bt394.1 (([(⟨4, 3, 20000000, 100⟩ : S51)] : List (S51)))).bind fun t444 => (if t444 = true then (if bt403.1 = 1000 then (if bt415.1 = 3000 then ((api_Hold.f k bt424.1 (([(⟨1, 0, 3000⟩ : S42)] : List (S42)))).bind fun t448 => (if t448 = true then (if bt431.1 = (-1) then (if 0 < (bt394.1.length : Int) then ((liability_Fits.f k ((rd_T35 y360 0).f0) ((rd_T35 y360 0).f1) ((rd_T35 y360 0).f2) ((rd_T35 y360 0).f3) ((rd_T35 y360 0).f4) ((rd_T51 bt394.1 0).f0) ((rd_T51 bt394.1 0).f1) ((rd_T51 bt394.1 0).f2) ((rd_T51 bt394.1 0).f3) 100).bind fun t451 => (some t451)) else (none)) else (none)) else (none))) else (none)) else (none)) else (none))) else (none)) else (none))) else (none)) else (none))) else (none))))))))))) else (none)))))))))))))) = some r := h
 clear h
 obtain ⟨y356, hy356⟩ : ∃ y_ : List (S60), y_ = (([(⟨1, 0, 1000⟩ : S60), (⟨1, 100, 1500⟩ : S60)] : List (S60))) := ⟨_, rfl⟩
 replace H : ((some (([(⟨4, 1, 1, 90, 20000000⟩ : S35)] : List (S35)) : List (S35))).bind fun y360 => ((spilelaw51_ct.f 3 y356).bind fun bt363 => ((clone13.f y360).bind fun t367 => ((liability_Greatest.f k bt363.1 bt363.2 t367 99).bind fun bt370 => ((spilelaw51_ct.f 3 y356).bind fun bt375 => ((clone13.f y360).bind fun t379 => ((liability_Greatest.f k bt375.1 bt375.2 t379 100).bind fun bt382 => ((spilelaw51_ct.f 3 y356).bind fun bt387 => ((clone13.f y360).bind fun t391 => ((liability_Witness.f k bt387.1 bt387.2 t391 100).bind fun bt394 => ((spilelaw51_ct.f 3 y356).bind fun bt398 => (if 0 < (y360.length : Int) then ((liability_Causes.f k bt398.1 bt398.2 ((rd_T35 y360 0).f0) ((rd_T35 y360 0).f1) ((rd_T35 y360 0).f2) ((rd_T35 y360 0).f3) ((rd_T35 y360 0).f4) 4 2 10000000 95 99).bind fun bt403 => ((spilelaw51_ct.f 3 y356).bind fun bt405 => ((clone13.f y360).bind fun t409 => ((liability_Sum.f k bt405.1 bt405.2 t409 (([(⟨4, 3, 20000000, 100⟩ : S51)] : List (S51))) 100).bind fun bt415 => ((spilelaw51_ct.f 3 y356).bind fun bt417 => ((clone13.f y360).bind fun t421 => ((liability_Bonds.f k bt417.1 bt417.2 t421 100).bind fun bt424 => ((clone13.f y360).bind fun t428 => ((liability_Check.f k t428).bind fun bt431 => (if (wrap64 ((wrap64 ((wrap64 ((wrap64 ((wrap64 ((wrap64 (bt370.2.2 + bt382.2.2)) + bt394.2)) + bt403.2)) + bt415.2)) + bt424.2)) + bt431.2)) = 0 then ((slices_Equal_int_int.f k bt370.1 (([2000] : List Int))).bind fun t436 => (if t436 = true then (if bt370.2.1 = 2000 then ((slices_Equal_int_int.f k bt382.1 (([3000] : List Int))).bind fun t440 => (if t440 = true then (if bt382.2.1 = 3000 then ((api_Outcome_24.f k bt394.1 (([(⟨4, 3, 20000000, 100⟩ : S51)] : List (S51)))).bind fun t444 => (if t444 = true then (if bt403.1 = 1000 then (if bt415.1 = 3000 then ((api_Hold.f k bt424.1 (([(⟨1, 0, 3000⟩ : S42)] : List (S42)))).bind fun t448 => (if t448 = true then (if bt431.1 = (-1) then (if 0 < (bt394.1.length : Int) then ((liability_Fits.f k ((rd_T35 y360 0).f0) ((rd_T35 y360 0).f1) ((rd_T35 y360 0).f2) ((rd_T35 y360 0).f3) ((rd_T35 y360 0).f4) ((rd_T51 bt394.1 0).f0) ((rd_T51 bt394.1 0).f1) ((rd_T51 bt394.1 0).f2) ((rd_T51 bt394.1 0).f3) 100).bind fun t451 => (some t451)) else (none)) else (none)) else (none))) else (none)) else (none)) else (none))) else (none)) else (none))) else (none)) else (none))) else (none))))))))))) else (none))))))))))))) = some r := by first | (rw [hy356]; with_reducible exact H) | (have H2_ := (Option.bind_some _ _).symm.trans H; rw [hy356]; with_reducible exact H2_) | (have H2_ := (Option.bind_some _ _).symm.trans H; with_reducible exact H2_) | with_reducible exact H | (rw [hy356]; exact H) | exact H
 have Ny356 := Aside0.mk hy356
 clear hy356
 obtain ⟨y360, hy360⟩ : ∃ y_ : List (S35), y_ = (([(⟨4, 1, 1, 90, 20000000⟩ : S35)] : List (S35))) := ⟨_, rfl⟩
 replace H : ((spilelaw51_ct.f 3 y356).bind fun bt363 => ((clone13.f y360).bind fun t367 => ((liability_Greatest.f k bt363.1 bt363.2 t367 99).bind fun bt370 => ((spilelaw51_ct.f 3 y356).bind fun bt375 => ((clone13.f y360).bind fun t379 => ((liability_Greatest.f k bt375.1 bt375.2 t379 100).bind fun bt382 => ((spilelaw51_ct.f 3 y356).bind fun bt387 => ((clone13.f y360).bind fun t391 => ((liability_Witness.f k bt387.1 bt387.2 t391 100).bind fun bt394 => ((spilelaw51_ct.f 3 y356).bind fun bt398 => (if 0 < (y360.length : Int) then ((liability_Causes.f k bt398.1 bt398.2 ((rd_T35 y360 0).f0) ((rd_T35 y360 0).f1) ((rd_T35 y360 0).f2) ((rd_T35 y360 0).f3) ((rd_T35 y360 0).f4) 4 2 10000000 95 99).bind fun bt403 => ((spilelaw51_ct.f 3 y356).bind fun bt405 => ((clone13.f y360).bind fun t409 => ((liability_Sum.f k bt405.1 bt405.2 t409 (([(⟨4, 3, 20000000, 100⟩ : S51)] : List (S51))) 100).bind fun bt415 => ((spilelaw51_ct.f 3 y356).bind fun bt417 => ((clone13.f y360).bind fun t421 => ((liability_Bonds.f k bt417.1 bt417.2 t421 100).bind fun bt424 => ((clone13.f y360).bind fun t428 => ((liability_Check.f k t428).bind fun bt431 => (if (wrap64 ((wrap64 ((wrap64 ((wrap64 ((wrap64 ((wrap64 (bt370.2.2 + bt382.2.2)) + bt394.2)) + bt403.2)) + bt415.2)) + bt424.2)) + bt431.2)) = 0 then ((slices_Equal_int_int.f k bt370.1 (([2000] : List Int))).bind fun t436 => (if t436 = true then (if bt370.2.1 = 2000 then ((slices_Equal_int_int.f k bt382.1 (([3000] : List Int))).bind fun t440 => (if t440 = true then (if bt382.2.1 = 3000 then ((api_Outcome_24.f k bt394.1 (([(⟨4, 3, 20000000, 100⟩ : S51)] : List (S51)))).bind fun t444 => (if t444 = true then (if bt403.1 = 1000 then (if bt415.1 = 3000 then ((api_Hold.f k bt424.1 (([(⟨1, 0, 3000⟩ : S42)] : List (S42)))).bind fun t448 => (if t448 = true then (if bt431.1 = (-1) then (if 0 < (bt394.1.length : Int) then ((liability_Fits.f k ((rd_T35 y360 0).f0) ((rd_T35 y360 0).f1) ((rd_T35 y360 0).f2) ((rd_T35 y360 0).f3) ((rd_T35 y360 0).f4) ((rd_T51 bt394.1 0).f0) ((rd_T51 bt394.1 0).f1) ((rd_T51 bt394.1 0).f2) ((rd_T51 bt394.1 0).f3) 100).bind fun t451 => (some t451)) else (none)) else (none)) else (none))) else (none)) else (none)) else (none))) else (none)) else (none))) else (none)) else (none))) else (none))))))))))) else (none)))))))))))) = some r := by first | (rw [hy360]; with_reducible exact H) | (have H2_ := (Option.bind_some _ _).symm.trans H; rw [hy360]; with_reducible exact H2_) | (have H2_ := (Option.bind_some _ _).symm.trans H; with_reducible exact H2_) | with_reducible exact H | (rw [hy360]; exact H) | exact H
 have Ny360 := Aside0.mk hy360
 clear hy360
 replace H := Option.bind_eq_some_iff.mp H
 obtain ⟨⟨t363, t364⟩, A10, H⟩ := H
 replace H : ((clone13.f y360).bind fun t367 => ((liability_Greatest.f k t363 t364 t367 99).bind fun bt370 => ((spilelaw51_ct.f 3 y356).bind fun bt375 => ((clone13.f y360).bind fun t379 => ((liability_Greatest.f k bt375.1 bt375.2 t379 100).bind fun bt382 => ((spilelaw51_ct.f 3 y356).bind fun bt387 => ((clone13.f y360).bind fun t391 => ((liability_Witness.f k bt387.1 bt387.2 t391 100).bind fun bt394 => ((spilelaw51_ct.f 3 y356).bind fun bt398 => (if 0 < (y360.length : Int) then ((liability_Causes.f k bt398.1 bt398.2 ((rd_T35 y360 0).f0) ((rd_T35 y360 0).f1) ((rd_T35 y360 0).f2) ((rd_T35 y360 0).f3) ((rd_T35 y360 0).f4) 4 2 10000000 95 99).bind fun bt403 => ((spilelaw51_ct.f 3 y356).bind fun bt405 => ((clone13.f y360).bind fun t409 => ((liability_Sum.f k bt405.1 bt405.2 t409 (([(⟨4, 3, 20000000, 100⟩ : S51)] : List (S51))) 100).bind fun bt415 => ((spilelaw51_ct.f 3 y356).bind fun bt417 => ((clone13.f y360).bind fun t421 => ((liability_Bonds.f k bt417.1 bt417.2 t421 100).bind fun bt424 => ((clone13.f y360).bind fun t428 => ((liability_Check.f k t428).bind fun bt431 => (if (wrap64 ((wrap64 ((wrap64 ((wrap64 ((wrap64 ((wrap64 (bt370.2.2 + bt382.2.2)) + bt394.2)) + bt403.2)) + bt415.2)) + bt424.2)) + bt431.2)) = 0 then ((slices_Equal_int_int.f k bt370.1 (([2000] : List Int))).bind fun t436 => (if t436 = true then (if bt370.2.1 = 2000 then ((slices_Equal_int_int.f k bt382.1 (([3000] : List Int))).bind fun t440 => (if t440 = true then (if bt382.2.1 = 3000 then ((api_Outcome_24.f k bt394.1 (([(⟨4, 3, 20000000, 100⟩ : S51)] : List (S51)))).bind fun t444 => (if t444 = true then (if bt403.1 = 1000 then (if bt415.1 = 3000 then ((api_Hold.f k bt424.1 (([(⟨1, 0, 3000⟩ : S42)] : List (S42)))).bind fun t448 => (if t448 = true then (if bt431.1 = (-1) then (if 0 < (bt394.1.length : Int) then ((liability_Fits.f k ((rd_T35 y360 0).f0) ((rd_T35 y360 0).f1) ((rd_T35 y360 0).f2) ((rd_T35 y360 0).f3) ((rd_T35 y360 0).f4) ((rd_T51 bt394.1 0).f0) ((rd_T51 bt394.1 0).f1) ((rd_T51 bt394.1 0).f2) ((rd_T51 bt394.1 0).f3) 100).bind fun t451 => (some t451)) else (none)) else (none)) else (none))) else (none)) else (none)) else (none))) else (none)) else (none))) else (none)) else (none))) else (none))))))))))) else (none))))))))))) = some r := H
 have A1 := Aside0.mk A10
 clear A10
 replace H := Option.bind_eq_some_iff.mp H
 obtain ⟨t367, A20, H⟩ := H
 replace H : ((liability_Greatest.f k t363 t364 t367 99).bind fun bt370 => ((spilelaw51_ct.f 3 y356).bind fun bt375 => ((clone13.f y360).bind fun t379 => ((liability_Greatest.f k bt375.1 bt375.2 t379 100).bind fun bt382 => ((spilelaw51_ct.f 3 y356).bind fun bt387 => ((clone13.f y360).bind fun t391 => ((liability_Witness.f k bt387.1 bt387.2 t391 100).bind fun bt394 => ((spilelaw51_ct.f 3 y356).bind fun bt398 => (if 0 < (y360.length : Int) then ((liability_Causes.f k bt398.1 bt398.2 ((rd_T35 y360 0).f0) ((rd_T35 y360 0).f1) ((rd_T35 y360 0).f2) ((rd_T35 y360 0).f3) ((rd_T35 y360 0).f4) 4 2 10000000 95 99).bind fun bt403 => ((spilelaw51_ct.f 3 y356).bind fun bt405 => ((clone13.f y360).bind fun t409 => ((liability_Sum.f k bt405.1 bt405.2 t409 (([(⟨4, 3, 20000000, 100⟩ : S51)] : List (S51))) 100).bind fun bt415 => ((spilelaw51_ct.f 3 y356).bind fun bt417 => ((clone13.f y360).bind fun t421 => ((liability_Bonds.f k bt417.1 bt417.2 t421 100).bind fun bt424 => ((clone13.f y360).bind fun t428 => ((liability_Check.f k t428).bind fun bt431 => (if (wrap64 ((wrap64 ((wrap64 ((wrap64 ((wrap64 ((wrap64 (bt370.2.2 + bt382.2.2)) + bt394.2)) + bt403.2)) + bt415.2)) + bt424.2)) + bt431.2)) = 0 then ((slices_Equal_int_int.f k bt370.1 (([2000] : List Int))).bind fun t436 => (if t436 = true then (if bt370.2.1 = 2000 then ((slices_Equal_int_int.f k bt382.1 (([3000] : List Int))).bind fun t440 => (if t440 = true then (if bt382.2.1 = 3000 then ((api_Outcome_24.f k bt394.1 (([(⟨4, 3, 20000000, 100⟩ : S51)] : List (S51)))).bind fun t444 => (if t444 = true then (if bt403.1 = 1000 then (if bt415.1 = 3000 then ((api_Hold.f k bt424.1 (([(⟨1, 0, 3000⟩ : S42)] : List (S42)))).bind fun t448 => (if t448 = true then (if bt431.1 = (-1) then (if 0 < (bt394.1.length : Int) then ((liability_Fits.f k ((rd_T35 y360 0).f0) ((rd_T35 y360 0).f1) ((rd_T35 y360 0).f2) ((rd_T35 y360 0).f3) ((rd_T35 y360 0).f4) ((rd_T51 bt394.1 0).f0) ((rd_T51 bt394.1 0).f1) ((rd_T51 bt394.1 0).f2) ((rd_T51 bt394.1 0).f3) 100).bind fun t451 => (some t451)) else (none)) else (none)) else (none))) else (none)) else (none)) else (none))) else (none)) else (none))) else (none)) else (none))) else (none))))))))))) else (none)))))))))) = some r := H
 have A2 := Aside0.mk A20
 clear A20
 replace H := Option.bind_eq_some_iff.mp H
 obtain ⟨⟨t370, t373, t374⟩, A30, H⟩ := H
 replace H : ((spilelaw51_ct.f 3 y356).bind fun bt375 => ((clone13.f y360).bind fun t379 => ((liability_Greatest.f k bt375.1 bt375.2 t379 100).bind fun bt382 => ((spilelaw51_ct.f 3 y356).bind fun bt387 => ((clone13.f y360).bind fun t391 => ((liability_Witness.f k bt387.1 bt387.2 t391 100).bind fun bt394 => ((spilelaw51_ct.f 3 y356).bind fun bt398 => (if 0 < (y360.length : Int) then ((liability_Causes.f k bt398.1 bt398.2 ((rd_T35 y360 0).f0) ((rd_T35 y360 0).f1) ((rd_T35 y360 0).f2) ((rd_T35 y360 0).f3) ((rd_T35 y360 0).f4) 4 2 10000000 95 99).bind fun bt403 => ((spilelaw51_ct.f 3 y356).bind fun bt405 => ((clone13.f y360).bind fun t409 => ((liability_Sum.f k bt405.1 bt405.2 t409 (([(⟨4, 3, 20000000, 100⟩ : S51)] : List (S51))) 100).bind fun bt415 => ((spilelaw51_ct.f 3 y356).bind fun bt417 => ((clone13.f y360).bind fun t421 => ((liability_Bonds.f k bt417.1 bt417.2 t421 100).bind fun bt424 => ((clone13.f y360).bind fun t428 => ((liability_Check.f k t428).bind fun bt431 => (if (wrap64 ((wrap64 ((wrap64 ((wrap64 ((wrap64 ((wrap64 (t374 + bt382.2.2)) + bt394.2)) + bt403.2)) + bt415.2)) + bt424.2)) + bt431.2)) = 0 then ((slices_Equal_int_int.f k t370 (([2000] : List Int))).bind fun t436 => (if t436 = true then (if t373 = 2000 then ((slices_Equal_int_int.f k bt382.1 (([3000] : List Int))).bind fun t440 => (if t440 = true then (if bt382.2.1 = 3000 then ((api_Outcome_24.f k bt394.1 (([(⟨4, 3, 20000000, 100⟩ : S51)] : List (S51)))).bind fun t444 => (if t444 = true then (if bt403.1 = 1000 then (if bt415.1 = 3000 then ((api_Hold.f k bt424.1 (([(⟨1, 0, 3000⟩ : S42)] : List (S42)))).bind fun t448 => (if t448 = true then (if bt431.1 = (-1) then (if 0 < (bt394.1.length : Int) then ((liability_Fits.f k ((rd_T35 y360 0).f0) ((rd_T35 y360 0).f1) ((rd_T35 y360 0).f2) ((rd_T35 y360 0).f3) ((rd_T35 y360 0).f4) ((rd_T51 bt394.1 0).f0) ((rd_T51 bt394.1 0).f1) ((rd_T51 bt394.1 0).f2) ((rd_T51 bt394.1 0).f3) 100).bind fun t451 => (some t451)) else (none)) else (none)) else (none))) else (none)) else (none)) else (none))) else (none)) else (none))) else (none)) else (none))) else (none))))))))))) else (none))))))))) = some r := H
 have A3 := Aside0.mk A30
 clear A30
 replace H := Option.bind_eq_some_iff.mp H
 obtain ⟨⟨t375, t376⟩, A40, H⟩ := H
 replace H : ((clone13.f y360).bind fun t379 => ((liability_Greatest.f k t375 t376 t379 100).bind fun bt382 => ((spilelaw51_ct.f 3 y356).bind fun bt387 => ((clone13.f y360).bind fun t391 => ((liability_Witness.f k bt387.1 bt387.2 t391 100).bind fun bt394 => ((spilelaw51_ct.f 3 y356).bind fun bt398 => (if 0 < (y360.length : Int) then ((liability_Causes.f k bt398.1 bt398.2 ((rd_T35 y360 0).f0) ((rd_T35 y360 0).f1) ((rd_T35 y360 0).f2) ((rd_T35 y360 0).f3) ((rd_T35 y360 0).f4) 4 2 10000000 95 99).bind fun bt403 => ((spilelaw51_ct.f 3 y356).bind fun bt405 => ((clone13.f y360).bind fun t409 => ((liability_Sum.f k bt405.1 bt405.2 t409 (([(⟨4, 3, 20000000, 100⟩ : S51)] : List (S51))) 100).bind fun bt415 => ((spilelaw51_ct.f 3 y356).bind fun bt417 => ((clone13.f y360).bind fun t421 => ((liability_Bonds.f k bt417.1 bt417.2 t421 100).bind fun bt424 => ((clone13.f y360).bind fun t428 => ((liability_Check.f k t428).bind fun bt431 => (if (wrap64 ((wrap64 ((wrap64 ((wrap64 ((wrap64 ((wrap64 (t374 + bt382.2.2)) + bt394.2)) + bt403.2)) + bt415.2)) + bt424.2)) + bt431.2)) = 0 then ((slices_Equal_int_int.f k t370 (([2000] : List Int))).bind fun t436 => (if t436 = true then (if t373 = 2000 then ((slices_Equal_int_int.f k bt382.1 (([3000] : List Int))).bind fun t440 => (if t440 = true then (if bt382.2.1 = 3000 then ((api_Outcome_24.f k bt394.1 (([(⟨4, 3, 20000000, 100⟩ : S51)] : List (S51)))).bind fun t444 => (if t444 = true then (if bt403.1 = 1000 then (if bt415.1 = 3000 then ((api_Hold.f k bt424.1 (([(⟨1, 0, 3000⟩ : S42)] : List (S42)))).bind fun t448 => (if t448 = true then (if bt431.1 = (-1) then (if 0 < (bt394.1.length : Int) then ((liability_Fits.f k ((rd_T35 y360 0).f0) ((rd_T35 y360 0).f1) ((rd_T35 y360 0).f2) ((rd_T35 y360 0).f3) ((rd_T35 y360 0).f4) ((rd_T51 bt394.1 0).f0) ((rd_T51 bt394.1 0).f1) ((rd_T51 bt394.1 0).f2) ((rd_T51 bt394.1 0).f3) 100).bind fun t451 => (some t451)) else (none)) else (none)) else (none))) else (none)) else (none)) else (none))) else (none)) else (none))) else (none)) else (none))) else (none))))))))))) else (none)))))))) = some r := H
 have A4 := Aside0.mk A40
 clear A40
 replace H := Option.bind_eq_some_iff.mp H
 obtain ⟨t379, A50, H⟩ := H
 replace H : ((liability_Greatest.f k t375 t376 t379 100).bind fun bt382 => ((spilelaw51_ct.f 3 y356).bind fun bt387 => ((clone13.f y360).bind fun t391 => ((liability_Witness.f k bt387.1 bt387.2 t391 100).bind fun bt394 => ((spilelaw51_ct.f 3 y356).bind fun bt398 => (if 0 < (y360.length : Int) then ((liability_Causes.f k bt398.1 bt398.2 ((rd_T35 y360 0).f0) ((rd_T35 y360 0).f1) ((rd_T35 y360 0).f2) ((rd_T35 y360 0).f3) ((rd_T35 y360 0).f4) 4 2 10000000 95 99).bind fun bt403 => ((spilelaw51_ct.f 3 y356).bind fun bt405 => ((clone13.f y360).bind fun t409 => ((liability_Sum.f k bt405.1 bt405.2 t409 (([(⟨4, 3, 20000000, 100⟩ : S51)] : List (S51))) 100).bind fun bt415 => ((spilelaw51_ct.f 3 y356).bind fun bt417 => ((clone13.f y360).bind fun t421 => ((liability_Bonds.f k bt417.1 bt417.2 t421 100).bind fun bt424 => ((clone13.f y360).bind fun t428 => ((liability_Check.f k t428).bind fun bt431 => (if (wrap64 ((wrap64 ((wrap64 ((wrap64 ((wrap64 ((wrap64 (t374 + bt382.2.2)) + bt394.2)) + bt403.2)) + bt415.2)) + bt424.2)) + bt431.2)) = 0 then ((slices_Equal_int_int.f k t370 (([2000] : List Int))).bind fun t436 => (if t436 = true then (if t373 = 2000 then ((slices_Equal_int_int.f k bt382.1 (([3000] : List Int))).bind fun t440 => (if t440 = true then (if bt382.2.1 = 3000 then ((api_Outcome_24.f k bt394.1 (([(⟨4, 3, 20000000, 100⟩ : S51)] : List (S51)))).bind fun t444 => (if t444 = true then (if bt403.1 = 1000 then (if bt415.1 = 3000 then ((api_Hold.f k bt424.1 (([(⟨1, 0, 3000⟩ : S42)] : List (S42)))).bind fun t448 => (if t448 = true then (if bt431.1 = (-1) then (if 0 < (bt394.1.length : Int) then ((liability_Fits.f k ((rd_T35 y360 0).f0) ((rd_T35 y360 0).f1) ((rd_T35 y360 0).f2) ((rd_T35 y360 0).f3) ((rd_T35 y360 0).f4) ((rd_T51 bt394.1 0).f0) ((rd_T51 bt394.1 0).f1) ((rd_T51 bt394.1 0).f2) ((rd_T51 bt394.1 0).f3) 100).bind fun t451 => (some t451)) else (none)) else (none)) else (none))) else (none)) else (none)) else (none))) else (none)) else (none))) else (none)) else (none))) else (none))))))))))) else (none))))))) = some r := H
 have A5 := Aside0.mk A50
 clear A50
 replace H := Option.bind_eq_some_iff.mp H
 obtain ⟨⟨t382, t385, t386⟩, A60, H⟩ := H
 replace H : ((spilelaw51_ct.f 3 y356).bind fun bt387 => ((clone13.f y360).bind fun t391 => ((liability_Witness.f k bt387.1 bt387.2 t391 100).bind fun bt394 => ((spilelaw51_ct.f 3 y356).bind fun bt398 => (if 0 < (y360.length : Int) then ((liability_Causes.f k bt398.1 bt398.2 ((rd_T35 y360 0).f0) ((rd_T35 y360 0).f1) ((rd_T35 y360 0).f2) ((rd_T35 y360 0).f3) ((rd_T35 y360 0).f4) 4 2 10000000 95 99).bind fun bt403 => ((spilelaw51_ct.f 3 y356).bind fun bt405 => ((clone13.f y360).bind fun t409 => ((liability_Sum.f k bt405.1 bt405.2 t409 (([(⟨4, 3, 20000000, 100⟩ : S51)] : List (S51))) 100).bind fun bt415 => ((spilelaw51_ct.f 3 y356).bind fun bt417 => ((clone13.f y360).bind fun t421 => ((liability_Bonds.f k bt417.1 bt417.2 t421 100).bind fun bt424 => ((clone13.f y360).bind fun t428 => ((liability_Check.f k t428).bind fun bt431 => (if (wrap64 ((wrap64 ((wrap64 ((wrap64 ((wrap64 ((wrap64 (t374 + t386)) + bt394.2)) + bt403.2)) + bt415.2)) + bt424.2)) + bt431.2)) = 0 then ((slices_Equal_int_int.f k t370 (([2000] : List Int))).bind fun t436 => (if t436 = true then (if t373 = 2000 then ((slices_Equal_int_int.f k t382 (([3000] : List Int))).bind fun t440 => (if t440 = true then (if t385 = 3000 then ((api_Outcome_24.f k bt394.1 (([(⟨4, 3, 20000000, 100⟩ : S51)] : List (S51)))).bind fun t444 => (if t444 = true then (if bt403.1 = 1000 then (if bt415.1 = 3000 then ((api_Hold.f k bt424.1 (([(⟨1, 0, 3000⟩ : S42)] : List (S42)))).bind fun t448 => (if t448 = true then (if bt431.1 = (-1) then (if 0 < (bt394.1.length : Int) then ((liability_Fits.f k ((rd_T35 y360 0).f0) ((rd_T35 y360 0).f1) ((rd_T35 y360 0).f2) ((rd_T35 y360 0).f3) ((rd_T35 y360 0).f4) ((rd_T51 bt394.1 0).f0) ((rd_T51 bt394.1 0).f1) ((rd_T51 bt394.1 0).f2) ((rd_T51 bt394.1 0).f3) 100).bind fun t451 => (some t451)) else (none)) else (none)) else (none))) else (none)) else (none)) else (none))) else (none)) else (none))) else (none)) else (none))) else (none))))))))))) else (none)))))) = some r := H
 have A6 := Aside0.mk A60
 clear A60
 replace H := Option.bind_eq_some_iff.mp H
 obtain ⟨⟨t387, t388⟩, A70, H⟩ := H
 replace H : ((clone13.f y360).bind fun t391 => ((liability_Witness.f k t387 t388 t391 100).bind fun bt394 => ((spilelaw51_ct.f 3 y356).bind fun bt398 => (if 0 < (y360.length : Int) then ((liability_Causes.f k bt398.1 bt398.2 ((rd_T35 y360 0).f0) ((rd_T35 y360 0).f1) ((rd_T35 y360 0).f2) ((rd_T35 y360 0).f3) ((rd_T35 y360 0).f4) 4 2 10000000 95 99).bind fun bt403 => ((spilelaw51_ct.f 3 y356).bind fun bt405 => ((clone13.f y360).bind fun t409 => ((liability_Sum.f k bt405.1 bt405.2 t409 (([(⟨4, 3, 20000000, 100⟩ : S51)] : List (S51))) 100).bind fun bt415 => ((spilelaw51_ct.f 3 y356).bind fun bt417 => ((clone13.f y360).bind fun t421 => ((liability_Bonds.f k bt417.1 bt417.2 t421 100).bind fun bt424 => ((clone13.f y360).bind fun t428 => ((liability_Check.f k t428).bind fun bt431 => (if (wrap64 ((wrap64 ((wrap64 ((wrap64 ((wrap64 ((wrap64 (t374 + t386)) + bt394.2)) + bt403.2)) + bt415.2)) + bt424.2)) + bt431.2)) = 0 then ((slices_Equal_int_int.f k t370 (([2000] : List Int))).bind fun t436 => (if t436 = true then (if t373 = 2000 then ((slices_Equal_int_int.f k t382 (([3000] : List Int))).bind fun t440 => (if t440 = true then (if t385 = 3000 then ((api_Outcome_24.f k bt394.1 (([(⟨4, 3, 20000000, 100⟩ : S51)] : List (S51)))).bind fun t444 => (if t444 = true then (if bt403.1 = 1000 then (if bt415.1 = 3000 then ((api_Hold.f k bt424.1 (([(⟨1, 0, 3000⟩ : S42)] : List (S42)))).bind fun t448 => (if t448 = true then (if bt431.1 = (-1) then (if 0 < (bt394.1.length : Int) then ((liability_Fits.f k ((rd_T35 y360 0).f0) ((rd_T35 y360 0).f1) ((rd_T35 y360 0).f2) ((rd_T35 y360 0).f3) ((rd_T35 y360 0).f4) ((rd_T51 bt394.1 0).f0) ((rd_T51 bt394.1 0).f1) ((rd_T51 bt394.1 0).f2) ((rd_T51 bt394.1 0).f3) 100).bind fun t451 => (some t451)) else (none)) else (none)) else (none))) else (none)) else (none)) else (none))) else (none)) else (none))) else (none)) else (none))) else (none))))))))))) else (none))))) = some r := H
 have A7 := Aside0.mk A70
 clear A70
 replace H := Option.bind_eq_some_iff.mp H
 obtain ⟨t391, A80, H⟩ := H
 replace H : ((liability_Witness.f k t387 t388 t391 100).bind fun bt394 => ((spilelaw51_ct.f 3 y356).bind fun bt398 => (if 0 < (y360.length : Int) then ((liability_Causes.f k bt398.1 bt398.2 ((rd_T35 y360 0).f0) ((rd_T35 y360 0).f1) ((rd_T35 y360 0).f2) ((rd_T35 y360 0).f3) ((rd_T35 y360 0).f4) 4 2 10000000 95 99).bind fun bt403 => ((spilelaw51_ct.f 3 y356).bind fun bt405 => ((clone13.f y360).bind fun t409 => ((liability_Sum.f k bt405.1 bt405.2 t409 (([(⟨4, 3, 20000000, 100⟩ : S51)] : List (S51))) 100).bind fun bt415 => ((spilelaw51_ct.f 3 y356).bind fun bt417 => ((clone13.f y360).bind fun t421 => ((liability_Bonds.f k bt417.1 bt417.2 t421 100).bind fun bt424 => ((clone13.f y360).bind fun t428 => ((liability_Check.f k t428).bind fun bt431 => (if (wrap64 ((wrap64 ((wrap64 ((wrap64 ((wrap64 ((wrap64 (t374 + t386)) + bt394.2)) + bt403.2)) + bt415.2)) + bt424.2)) + bt431.2)) = 0 then ((slices_Equal_int_int.f k t370 (([2000] : List Int))).bind fun t436 => (if t436 = true then (if t373 = 2000 then ((slices_Equal_int_int.f k t382 (([3000] : List Int))).bind fun t440 => (if t440 = true then (if t385 = 3000 then ((api_Outcome_24.f k bt394.1 (([(⟨4, 3, 20000000, 100⟩ : S51)] : List (S51)))).bind fun t444 => (if t444 = true then (if bt403.1 = 1000 then (if bt415.1 = 3000 then ((api_Hold.f k bt424.1 (([(⟨1, 0, 3000⟩ : S42)] : List (S42)))).bind fun t448 => (if t448 = true then (if bt431.1 = (-1) then (if 0 < (bt394.1.length : Int) then ((liability_Fits.f k ((rd_T35 y360 0).f0) ((rd_T35 y360 0).f1) ((rd_T35 y360 0).f2) ((rd_T35 y360 0).f3) ((rd_T35 y360 0).f4) ((rd_T51 bt394.1 0).f0) ((rd_T51 bt394.1 0).f1) ((rd_T51 bt394.1 0).f2) ((rd_T51 bt394.1 0).f3) 100).bind fun t451 => (some t451)) else (none)) else (none)) else (none))) else (none)) else (none)) else (none))) else (none)) else (none))) else (none)) else (none))) else (none))))))))))) else (none)))) = some r := H
 have A8 := Aside0.mk A80
 clear A80
 replace H := Option.bind_eq_some_iff.mp H
 obtain ⟨⟨t394, t397⟩, A90, H⟩ := H
 replace H : ((spilelaw51_ct.f 3 y356).bind fun bt398 => (if 0 < (y360.length : Int) then ((liability_Causes.f k bt398.1 bt398.2 ((rd_T35 y360 0).f0) ((rd_T35 y360 0).f1) ((rd_T35 y360 0).f2) ((rd_T35 y360 0).f3) ((rd_T35 y360 0).f4) 4 2 10000000 95 99).bind fun bt403 => ((spilelaw51_ct.f 3 y356).bind fun bt405 => ((clone13.f y360).bind fun t409 => ((liability_Sum.f k bt405.1 bt405.2 t409 (([(⟨4, 3, 20000000, 100⟩ : S51)] : List (S51))) 100).bind fun bt415 => ((spilelaw51_ct.f 3 y356).bind fun bt417 => ((clone13.f y360).bind fun t421 => ((liability_Bonds.f k bt417.1 bt417.2 t421 100).bind fun bt424 => ((clone13.f y360).bind fun t428 => ((liability_Check.f k t428).bind fun bt431 => (if (wrap64 ((wrap64 ((wrap64 ((wrap64 ((wrap64 ((wrap64 (t374 + t386)) + t397)) + bt403.2)) + bt415.2)) + bt424.2)) + bt431.2)) = 0 then ((slices_Equal_int_int.f k t370 (([2000] : List Int))).bind fun t436 => (if t436 = true then (if t373 = 2000 then ((slices_Equal_int_int.f k t382 (([3000] : List Int))).bind fun t440 => (if t440 = true then (if t385 = 3000 then ((api_Outcome_24.f k t394 (([(⟨4, 3, 20000000, 100⟩ : S51)] : List (S51)))).bind fun t444 => (if t444 = true then (if bt403.1 = 1000 then (if bt415.1 = 3000 then ((api_Hold.f k bt424.1 (([(⟨1, 0, 3000⟩ : S42)] : List (S42)))).bind fun t448 => (if t448 = true then (if bt431.1 = (-1) then (if 0 < (t394.length : Int) then ((liability_Fits.f k ((rd_T35 y360 0).f0) ((rd_T35 y360 0).f1) ((rd_T35 y360 0).f2) ((rd_T35 y360 0).f3) ((rd_T35 y360 0).f4) ((rd_T51 t394 0).f0) ((rd_T51 t394 0).f1) ((rd_T51 t394 0).f2) ((rd_T51 t394 0).f3) 100).bind fun t451 => (some t451)) else (none)) else (none)) else (none))) else (none)) else (none)) else (none))) else (none)) else (none))) else (none)) else (none))) else (none))))))))))) else (none))) = some r := H
 have A9 := Aside0.mk A90
 clear A90
 replace H := Option.bind_eq_some_iff.mp H
 obtain ⟨⟨t398, t399⟩, A100, H⟩ := H
 replace H : (if 0 < (y360.length : Int) then ((liability_Causes.f k t398 t399 ((rd_T35 y360 0).f0) ((rd_T35 y360 0).f1) ((rd_T35 y360 0).f2) ((rd_T35 y360 0).f3) ((rd_T35 y360 0).f4) 4 2 10000000 95 99).bind fun bt403 => ((spilelaw51_ct.f 3 y356).bind fun bt405 => ((clone13.f y360).bind fun t409 => ((liability_Sum.f k bt405.1 bt405.2 t409 (([(⟨4, 3, 20000000, 100⟩ : S51)] : List (S51))) 100).bind fun bt415 => ((spilelaw51_ct.f 3 y356).bind fun bt417 => ((clone13.f y360).bind fun t421 => ((liability_Bonds.f k bt417.1 bt417.2 t421 100).bind fun bt424 => ((clone13.f y360).bind fun t428 => ((liability_Check.f k t428).bind fun bt431 => (if (wrap64 ((wrap64 ((wrap64 ((wrap64 ((wrap64 ((wrap64 (t374 + t386)) + t397)) + bt403.2)) + bt415.2)) + bt424.2)) + bt431.2)) = 0 then ((slices_Equal_int_int.f k t370 (([2000] : List Int))).bind fun t436 => (if t436 = true then (if t373 = 2000 then ((slices_Equal_int_int.f k t382 (([3000] : List Int))).bind fun t440 => (if t440 = true then (if t385 = 3000 then ((api_Outcome_24.f k t394 (([(⟨4, 3, 20000000, 100⟩ : S51)] : List (S51)))).bind fun t444 => (if t444 = true then (if bt403.1 = 1000 then (if bt415.1 = 3000 then ((api_Hold.f k bt424.1 (([(⟨1, 0, 3000⟩ : S42)] : List (S42)))).bind fun t448 => (if t448 = true then (if bt431.1 = (-1) then (if 0 < (t394.length : Int) then ((liability_Fits.f k ((rd_T35 y360 0).f0) ((rd_T35 y360 0).f1) ((rd_T35 y360 0).f2) ((rd_T35 y360 0).f3) ((rd_T35 y360 0).f4) ((rd_T51 t394 0).f0) ((rd_T51 t394 0).f1) ((rd_T51 t394 0).f2) ((rd_T51 t394 0).f3) 100).bind fun t451 => (some t451)) else (none)) else (none)) else (none))) else (none)) else (none)) else (none))) else (none)) else (none))) else (none)) else (none))) else (none))))))))))) else (none)) = some r := H
 have A10 := Aside0.mk A100
 clear A100
 by_cases c11 : 0 < (y360.length : Int)
 ·rw [if_pos c11] at H
  have c11b0 : decide (0 < (y360.length : Int)) = true := decide_eq_true c11
  have c11b1 : decide (0 < y360.length) = true := decide_eq_true (by omega)
  clear c11
  replace H := Option.bind_eq_some_iff.mp H
  obtain ⟨⟨t403, t404⟩, A120, H⟩ := H
  replace H : ((spilelaw51_ct.f 3 y356).bind fun bt405 => ((clone13.f y360).bind fun t409 => ((liability_Sum.f k bt405.1 bt405.2 t409 (([(⟨4, 3, 20000000, 100⟩ : S51)] : List (S51))) 100).bind fun bt415 => ((spilelaw51_ct.f 3 y356).bind fun bt417 => ((clone13.f y360).bind fun t421 => ((liability_Bonds.f k bt417.1 bt417.2 t421 100).bind fun bt424 => ((clone13.f y360).bind fun t428 => ((liability_Check.f k t428).bind fun bt431 => (if (wrap64 ((wrap64 ((wrap64 ((wrap64 ((wrap64 ((wrap64 (t374 + t386)) + t397)) + t404)) + bt415.2)) + bt424.2)) + bt431.2)) = 0 then ((slices_Equal_int_int.f k t370 (([2000] : List Int))).bind fun t436 => (if t436 = true then (if t373 = 2000 then ((slices_Equal_int_int.f k t382 (([3000] : List Int))).bind fun t440 => (if t440 = true then (if t385 = 3000 then ((api_Outcome_24.f k t394 (([(⟨4, 3, 20000000, 100⟩ : S51)] : List (S51)))).bind fun t444 => (if t444 = true then (if t403 = 1000 then (if bt415.1 = 3000 then ((api_Hold.f k bt424.1 (([(⟨1, 0, 3000⟩ : S42)] : List (S42)))).bind fun t448 => (if t448 = true then (if bt431.1 = (-1) then (if 0 < (t394.length : Int) then ((liability_Fits.f k ((rd_T35 y360 0).f0) ((rd_T35 y360 0).f1) ((rd_T35 y360 0).f2) ((rd_T35 y360 0).f3) ((rd_T35 y360 0).f4) ((rd_T51 t394 0).f0) ((rd_T51 t394 0).f1) ((rd_T51 t394 0).f2) ((rd_T51 t394 0).f3) 100).bind fun t451 => (some t451)) else (none)) else (none)) else (none))) else (none)) else (none)) else (none))) else (none)) else (none))) else (none)) else (none))) else (none)))))))))) = some r := H
  have A12 := Aside0.mk A120
  clear A120
  replace H := Option.bind_eq_some_iff.mp H
  obtain ⟨⟨t405, t406⟩, A130, H⟩ := H
  replace H : ((clone13.f y360).bind fun t409 => ((liability_Sum.f k t405 t406 t409 (([(⟨4, 3, 20000000, 100⟩ : S51)] : List (S51))) 100).bind fun bt415 => ((spilelaw51_ct.f 3 y356).bind fun bt417 => ((clone13.f y360).bind fun t421 => ((liability_Bonds.f k bt417.1 bt417.2 t421 100).bind fun bt424 => ((clone13.f y360).bind fun t428 => ((liability_Check.f k t428).bind fun bt431 => (if (wrap64 ((wrap64 ((wrap64 ((wrap64 ((wrap64 ((wrap64 (t374 + t386)) + t397)) + t404)) + bt415.2)) + bt424.2)) + bt431.2)) = 0 then ((slices_Equal_int_int.f k t370 (([2000] : List Int))).bind fun t436 => (if t436 = true then (if t373 = 2000 then ((slices_Equal_int_int.f k t382 (([3000] : List Int))).bind fun t440 => (if t440 = true then (if t385 = 3000 then ((api_Outcome_24.f k t394 (([(⟨4, 3, 20000000, 100⟩ : S51)] : List (S51)))).bind fun t444 => (if t444 = true then (if t403 = 1000 then (if bt415.1 = 3000 then ((api_Hold.f k bt424.1 (([(⟨1, 0, 3000⟩ : S42)] : List (S42)))).bind fun t448 => (if t448 = true then (if bt431.1 = (-1) then (if 0 < (t394.length : Int) then ((liability_Fits.f k ((rd_T35 y360 0).f0) ((rd_T35 y360 0).f1) ((rd_T35 y360 0).f2) ((rd_T35 y360 0).f3) ((rd_T35 y360 0).f4) ((rd_T51 t394 0).f0) ((rd_T51 t394 0).f1) ((rd_T51 t394 0).f2) ((rd_T51 t394 0).f3) 100).bind fun t451 => (some t451)) else (none)) else (none)) else (none))) else (none)) else (none)) else (none))) else (none)) else (none))) else (none)) else (none))) else (none))))))))) = some r := H
  have A13 := Aside0.mk A130
  clear A130
  replace H := Option.bind_eq_some_iff.mp H
  obtain ⟨t409, A140, H⟩ := H
  replace H : ((liability_Sum.f k t405 t406 t409 (([(⟨4, 3, 20000000, 100⟩ : S51)] : List (S51))) 100).bind fun bt415 => ((spilelaw51_ct.f 3 y356).bind fun bt417 => ((clone13.f y360).bind fun t421 => ((liability_Bonds.f k bt417.1 bt417.2 t421 100).bind fun bt424 => ((clone13.f y360).bind fun t428 => ((liability_Check.f k t428).bind fun bt431 => (if (wrap64 ((wrap64 ((wrap64 ((wrap64 ((wrap64 ((wrap64 (t374 + t386)) + t397)) + t404)) + bt415.2)) + bt424.2)) + bt431.2)) = 0 then ((slices_Equal_int_int.f k t370 (([2000] : List Int))).bind fun t436 => (if t436 = true then (if t373 = 2000 then ((slices_Equal_int_int.f k t382 (([3000] : List Int))).bind fun t440 => (if t440 = true then (if t385 = 3000 then ((api_Outcome_24.f k t394 (([(⟨4, 3, 20000000, 100⟩ : S51)] : List (S51)))).bind fun t444 => (if t444 = true then (if t403 = 1000 then (if bt415.1 = 3000 then ((api_Hold.f k bt424.1 (([(⟨1, 0, 3000⟩ : S42)] : List (S42)))).bind fun t448 => (if t448 = true then (if bt431.1 = (-1) then (if 0 < (t394.length : Int) then ((liability_Fits.f k ((rd_T35 y360 0).f0) ((rd_T35 y360 0).f1) ((rd_T35 y360 0).f2) ((rd_T35 y360 0).f3) ((rd_T35 y360 0).f4) ((rd_T51 t394 0).f0) ((rd_T51 t394 0).f1) ((rd_T51 t394 0).f2) ((rd_T51 t394 0).f3) 100).bind fun t451 => (some t451)) else (none)) else (none)) else (none))) else (none)) else (none)) else (none))) else (none)) else (none))) else (none)) else (none))) else (none)))))))) = some r := H
  have A14 := Aside0.mk A140
  clear A140
  obtain ⟨y412, hy412⟩ : ∃ y_ : List (S51), y_ = (([(⟨4, 3, 20000000, 100⟩ : S51)] : List (S51))) := ⟨_, rfl⟩
  replace H : ((liability_Sum.f k t405 t406 t409 y412 100).bind fun bt415 => ((spilelaw51_ct.f 3 y356).bind fun bt417 => ((clone13.f y360).bind fun t421 => ((liability_Bonds.f k bt417.1 bt417.2 t421 100).bind fun bt424 => ((clone13.f y360).bind fun t428 => ((liability_Check.f k t428).bind fun bt431 => (if (wrap64 ((wrap64 ((wrap64 ((wrap64 ((wrap64 ((wrap64 (t374 + t386)) + t397)) + t404)) + bt415.2)) + bt424.2)) + bt431.2)) = 0 then ((slices_Equal_int_int.f k t370 (([2000] : List Int))).bind fun t436 => (if t436 = true then (if t373 = 2000 then ((slices_Equal_int_int.f k t382 (([3000] : List Int))).bind fun t440 => (if t440 = true then (if t385 = 3000 then ((api_Outcome_24.f k t394 (([(⟨4, 3, 20000000, 100⟩ : S51)] : List (S51)))).bind fun t444 => (if t444 = true then (if t403 = 1000 then (if bt415.1 = 3000 then ((api_Hold.f k bt424.1 (([(⟨1, 0, 3000⟩ : S42)] : List (S42)))).bind fun t448 => (if t448 = true then (if bt431.1 = (-1) then (if 0 < (t394.length : Int) then ((liability_Fits.f k ((rd_T35 y360 0).f0) ((rd_T35 y360 0).f1) ((rd_T35 y360 0).f2) ((rd_T35 y360 0).f3) ((rd_T35 y360 0).f4) ((rd_T51 t394 0).f0) ((rd_T51 t394 0).f1) ((rd_T51 t394 0).f2) ((rd_T51 t394 0).f3) 100).bind fun t451 => (some t451)) else (none)) else (none)) else (none))) else (none)) else (none)) else (none))) else (none)) else (none))) else (none)) else (none))) else (none)))))))) = some r := by first | (rw [hy412]; with_reducible exact H) | (have H2_ := (Option.bind_some _ _).symm.trans H; rw [hy412]; with_reducible exact H2_) | (have H2_ := (Option.bind_some _ _).symm.trans H; with_reducible exact H2_) | with_reducible exact H | (rw [hy412]; exact H) | exact H
  have Ny412 := Aside0.mk hy412
  clear hy412
  replace H := Option.bind_eq_some_iff.mp H
  obtain ⟨⟨t415, t416⟩, A150, H⟩ := H
  replace H : ((spilelaw51_ct.f 3 y356).bind fun bt417 => ((clone13.f y360).bind fun t421 => ((liability_Bonds.f k bt417.1 bt417.2 t421 100).bind fun bt424 => ((clone13.f y360).bind fun t428 => ((liability_Check.f k t428).bind fun bt431 => (if (wrap64 ((wrap64 ((wrap64 ((wrap64 ((wrap64 ((wrap64 (t374 + t386)) + t397)) + t404)) + t416)) + bt424.2)) + bt431.2)) = 0 then ((slices_Equal_int_int.f k t370 (([2000] : List Int))).bind fun t436 => (if t436 = true then (if t373 = 2000 then ((slices_Equal_int_int.f k t382 (([3000] : List Int))).bind fun t440 => (if t440 = true then (if t385 = 3000 then ((api_Outcome_24.f k t394 (([(⟨4, 3, 20000000, 100⟩ : S51)] : List (S51)))).bind fun t444 => (if t444 = true then (if t403 = 1000 then (if t415 = 3000 then ((api_Hold.f k bt424.1 (([(⟨1, 0, 3000⟩ : S42)] : List (S42)))).bind fun t448 => (if t448 = true then (if bt431.1 = (-1) then (if 0 < (t394.length : Int) then ((liability_Fits.f k ((rd_T35 y360 0).f0) ((rd_T35 y360 0).f1) ((rd_T35 y360 0).f2) ((rd_T35 y360 0).f3) ((rd_T35 y360 0).f4) ((rd_T51 t394 0).f0) ((rd_T51 t394 0).f1) ((rd_T51 t394 0).f2) ((rd_T51 t394 0).f3) 100).bind fun t451 => (some t451)) else (none)) else (none)) else (none))) else (none)) else (none)) else (none))) else (none)) else (none))) else (none)) else (none))) else (none))))))) = some r := H
  have A15 := Aside0.mk A150
  clear A150
  replace H := Option.bind_eq_some_iff.mp H
  obtain ⟨⟨t417, t418⟩, A160, H⟩ := H
  replace H : ((clone13.f y360).bind fun t421 => ((liability_Bonds.f k t417 t418 t421 100).bind fun bt424 => ((clone13.f y360).bind fun t428 => ((liability_Check.f k t428).bind fun bt431 => (if (wrap64 ((wrap64 ((wrap64 ((wrap64 ((wrap64 ((wrap64 (t374 + t386)) + t397)) + t404)) + t416)) + bt424.2)) + bt431.2)) = 0 then ((slices_Equal_int_int.f k t370 (([2000] : List Int))).bind fun t436 => (if t436 = true then (if t373 = 2000 then ((slices_Equal_int_int.f k t382 (([3000] : List Int))).bind fun t440 => (if t440 = true then (if t385 = 3000 then ((api_Outcome_24.f k t394 (([(⟨4, 3, 20000000, 100⟩ : S51)] : List (S51)))).bind fun t444 => (if t444 = true then (if t403 = 1000 then (if t415 = 3000 then ((api_Hold.f k bt424.1 (([(⟨1, 0, 3000⟩ : S42)] : List (S42)))).bind fun t448 => (if t448 = true then (if bt431.1 = (-1) then (if 0 < (t394.length : Int) then ((liability_Fits.f k ((rd_T35 y360 0).f0) ((rd_T35 y360 0).f1) ((rd_T35 y360 0).f2) ((rd_T35 y360 0).f3) ((rd_T35 y360 0).f4) ((rd_T51 t394 0).f0) ((rd_T51 t394 0).f1) ((rd_T51 t394 0).f2) ((rd_T51 t394 0).f3) 100).bind fun t451 => (some t451)) else (none)) else (none)) else (none))) else (none)) else (none)) else (none))) else (none)) else (none))) else (none)) else (none))) else (none)))))) = some r := H
  have A16 := Aside0.mk A160
  clear A160
  replace H := Option.bind_eq_some_iff.mp H
  obtain ⟨t421, A170, H⟩ := H
  replace H : ((liability_Bonds.f k t417 t418 t421 100).bind fun bt424 => ((clone13.f y360).bind fun t428 => ((liability_Check.f k t428).bind fun bt431 => (if (wrap64 ((wrap64 ((wrap64 ((wrap64 ((wrap64 ((wrap64 (t374 + t386)) + t397)) + t404)) + t416)) + bt424.2)) + bt431.2)) = 0 then ((slices_Equal_int_int.f k t370 (([2000] : List Int))).bind fun t436 => (if t436 = true then (if t373 = 2000 then ((slices_Equal_int_int.f k t382 (([3000] : List Int))).bind fun t440 => (if t440 = true then (if t385 = 3000 then ((api_Outcome_24.f k t394 (([(⟨4, 3, 20000000, 100⟩ : S51)] : List (S51)))).bind fun t444 => (if t444 = true then (if t403 = 1000 then (if t415 = 3000 then ((api_Hold.f k bt424.1 (([(⟨1, 0, 3000⟩ : S42)] : List (S42)))).bind fun t448 => (if t448 = true then (if bt431.1 = (-1) then (if 0 < (t394.length : Int) then ((liability_Fits.f k ((rd_T35 y360 0).f0) ((rd_T35 y360 0).f1) ((rd_T35 y360 0).f2) ((rd_T35 y360 0).f3) ((rd_T35 y360 0).f4) ((rd_T51 t394 0).f0) ((rd_T51 t394 0).f1) ((rd_T51 t394 0).f2) ((rd_T51 t394 0).f3) 100).bind fun t451 => (some t451)) else (none)) else (none)) else (none))) else (none)) else (none)) else (none))) else (none)) else (none))) else (none)) else (none))) else (none))))) = some r := H
  have A17 := Aside0.mk A170
  clear A170
  replace H := Option.bind_eq_some_iff.mp H
  obtain ⟨⟨t424, t427⟩, A180, H⟩ := H
  replace H : ((clone13.f y360).bind fun t428 => ((liability_Check.f k t428).bind fun bt431 => (if (wrap64 ((wrap64 ((wrap64 ((wrap64 ((wrap64 ((wrap64 (t374 + t386)) + t397)) + t404)) + t416)) + t427)) + bt431.2)) = 0 then ((slices_Equal_int_int.f k t370 (([2000] : List Int))).bind fun t436 => (if t436 = true then (if t373 = 2000 then ((slices_Equal_int_int.f k t382 (([3000] : List Int))).bind fun t440 => (if t440 = true then (if t385 = 3000 then ((api_Outcome_24.f k t394 (([(⟨4, 3, 20000000, 100⟩ : S51)] : List (S51)))).bind fun t444 => (if t444 = true then (if t403 = 1000 then (if t415 = 3000 then ((api_Hold.f k t424 (([(⟨1, 0, 3000⟩ : S42)] : List (S42)))).bind fun t448 => (if t448 = true then (if bt431.1 = (-1) then (if 0 < (t394.length : Int) then ((liability_Fits.f k ((rd_T35 y360 0).f0) ((rd_T35 y360 0).f1) ((rd_T35 y360 0).f2) ((rd_T35 y360 0).f3) ((rd_T35 y360 0).f4) ((rd_T51 t394 0).f0) ((rd_T51 t394 0).f1) ((rd_T51 t394 0).f2) ((rd_T51 t394 0).f3) 100).bind fun t451 => (some t451)) else (none)) else (none)) else (none))) else (none)) else (none)) else (none))) else (none)) else (none))) else (none)) else (none))) else (none)))) = some r := H
  have A18 := Aside0.mk A180
  clear A180
  replace H := Option.bind_eq_some_iff.mp H
  obtain ⟨t428, A190, H⟩ := H
  replace H : ((liability_Check.f k t428).bind fun bt431 => (if (wrap64 ((wrap64 ((wrap64 ((wrap64 ((wrap64 ((wrap64 (t374 + t386)) + t397)) + t404)) + t416)) + t427)) + bt431.2)) = 0 then ((slices_Equal_int_int.f k t370 (([2000] : List Int))).bind fun t436 => (if t436 = true then (if t373 = 2000 then ((slices_Equal_int_int.f k t382 (([3000] : List Int))).bind fun t440 => (if t440 = true then (if t385 = 3000 then ((api_Outcome_24.f k t394 (([(⟨4, 3, 20000000, 100⟩ : S51)] : List (S51)))).bind fun t444 => (if t444 = true then (if t403 = 1000 then (if t415 = 3000 then ((api_Hold.f k t424 (([(⟨1, 0, 3000⟩ : S42)] : List (S42)))).bind fun t448 => (if t448 = true then (if bt431.1 = (-1) then (if 0 < (t394.length : Int) then ((liability_Fits.f k ((rd_T35 y360 0).f0) ((rd_T35 y360 0).f1) ((rd_T35 y360 0).f2) ((rd_T35 y360 0).f3) ((rd_T35 y360 0).f4) ((rd_T51 t394 0).f0) ((rd_T51 t394 0).f1) ((rd_T51 t394 0).f2) ((rd_T51 t394 0).f3) 100).bind fun t451 => (some t451)) else (none)) else (none)) else (none))) else (none)) else (none)) else (none))) else (none)) else (none))) else (none)) else (none))) else (none))) = some r := H
  have A19 := Aside0.mk A190
  clear A190
  replace H := Option.bind_eq_some_iff.mp H
  obtain ⟨⟨t431, t432⟩, A200, H⟩ := H
  replace H : (if (wrap64 ((wrap64 ((wrap64 ((wrap64 ((wrap64 ((wrap64 (t374 + t386)) + t397)) + t404)) + t416)) + t427)) + t432)) = 0 then ((slices_Equal_int_int.f k t370 (([2000] : List Int))).bind fun t436 => (if t436 = true then (if t373 = 2000 then ((slices_Equal_int_int.f k t382 (([3000] : List Int))).bind fun t440 => (if t440 = true then (if t385 = 3000 then ((api_Outcome_24.f k t394 (([(⟨4, 3, 20000000, 100⟩ : S51)] : List (S51)))).bind fun t444 => (if t444 = true then (if t403 = 1000 then (if t415 = 3000 then ((api_Hold.f k t424 (([(⟨1, 0, 3000⟩ : S42)] : List (S42)))).bind fun t448 => (if t448 = true then (if t431 = (-1) then (if 0 < (t394.length : Int) then ((liability_Fits.f k ((rd_T35 y360 0).f0) ((rd_T35 y360 0).f1) ((rd_T35 y360 0).f2) ((rd_T35 y360 0).f3) ((rd_T35 y360 0).f4) ((rd_T51 t394 0).f0) ((rd_T51 t394 0).f1) ((rd_T51 t394 0).f2) ((rd_T51 t394 0).f3) 100).bind fun t451 => (some t451)) else (none)) else (none)) else (none))) else (none)) else (none)) else (none))) else (none)) else (none))) else (none)) else (none))) else (none)) = some r := H
  have A20 := Aside0.mk A200
  clear A200
  by_cases c21 : (wrap64 ((wrap64 ((wrap64 ((wrap64 ((wrap64 ((wrap64 (t374 + t386)) + t397)) + t404)) + t416)) + t427)) + t432)) = 0
  ·rw [if_pos c21] at H
   have c21b0 : ((wrap64 ((wrap64 ((wrap64 ((wrap64 ((wrap64 ((wrap64 (t374 + t386)) + t397)) + t404)) + t416)) + t427)) + t432)) == 0) = true := beq_iff_eq.mpr c21
   try simp only [beq_self_eq_true, Bool.not_true, Bool.false_or, Bool.true_and] at c21b0
   have c21b1 : ((wrap64 ((wrap64 ((wrap64 ((wrap64 ((wrap64 ((wrap64 (t374 + t386)) + t397)) + t404)) + t416)) + t427)) + t432)) != 0) = false := bne_eq_false_iff_eq.mpr c21
   clear c21
   obtain ⟨y433, hy433⟩ : ∃ y_ : List Int, y_ = (([2000] : List Int)) := ⟨_, rfl⟩
   replace H : ((slices_Equal_int_int.f k t370 y433).bind fun t436 => (if t436 = true then (if t373 = 2000 then ((slices_Equal_int_int.f k t382 (([3000] : List Int))).bind fun t440 => (if t440 = true then (if t385 = 3000 then ((api_Outcome_24.f k t394 (([(⟨4, 3, 20000000, 100⟩ : S51)] : List (S51)))).bind fun t444 => (if t444 = true then (if t403 = 1000 then (if t415 = 3000 then ((api_Hold.f k t424 (([(⟨1, 0, 3000⟩ : S42)] : List (S42)))).bind fun t448 => (if t448 = true then (if t431 = (-1) then (if 0 < (t394.length : Int) then ((liability_Fits.f k ((rd_T35 y360 0).f0) ((rd_T35 y360 0).f1) ((rd_T35 y360 0).f2) ((rd_T35 y360 0).f3) ((rd_T35 y360 0).f4) ((rd_T51 t394 0).f0) ((rd_T51 t394 0).f1) ((rd_T51 t394 0).f2) ((rd_T51 t394 0).f3) 100).bind fun t451 => (some t451)) else (none)) else (none)) else (none))) else (none)) else (none)) else (none))) else (none)) else (none))) else (none)) else (none))) = some r := by first | (rw [hy433]; with_reducible exact H) | (have H2_ := (Option.bind_some _ _).symm.trans H; rw [hy433]; with_reducible exact H2_) | (have H2_ := (Option.bind_some _ _).symm.trans H; with_reducible exact H2_) | with_reducible exact H | (rw [hy433]; exact H) | exact H
   have Ny433 := Aside0.mk hy433
   clear hy433
   replace H := Option.bind_eq_some_iff.mp H
   obtain ⟨t436, A220, H⟩ := H
   replace H : (if t436 = true then (if t373 = 2000 then ((slices_Equal_int_int.f k t382 (([3000] : List Int))).bind fun t440 => (if t440 = true then (if t385 = 3000 then ((api_Outcome_24.f k t394 (([(⟨4, 3, 20000000, 100⟩ : S51)] : List (S51)))).bind fun t444 => (if t444 = true then (if t403 = 1000 then (if t415 = 3000 then ((api_Hold.f k t424 (([(⟨1, 0, 3000⟩ : S42)] : List (S42)))).bind fun t448 => (if t448 = true then (if t431 = (-1) then (if 0 < (t394.length : Int) then ((liability_Fits.f k ((rd_T35 y360 0).f0) ((rd_T35 y360 0).f1) ((rd_T35 y360 0).f2) ((rd_T35 y360 0).f3) ((rd_T35 y360 0).f4) ((rd_T51 t394 0).f0) ((rd_T51 t394 0).f1) ((rd_T51 t394 0).f2) ((rd_T51 t394 0).f3) 100).bind fun t451 => (some t451)) else (none)) else (none)) else (none))) else (none)) else (none)) else (none))) else (none)) else (none))) else (none)) else (none)) = some r := H
   have A22 := Aside0.mk A220
   clear A220
   by_cases c23 : t436 = true
   ·subst c23
    have H1 : (if t373 = 2000 then ((slices_Equal_int_int.f k t382 (([3000] : List Int))).bind fun t440 => (if t440 = true then (if t385 = 3000 then ((api_Outcome_24.f k t394 (([(⟨4, 3, 20000000, 100⟩ : S51)] : List (S51)))).bind fun t444 => (if t444 = true then (if t403 = 1000 then (if t415 = 3000 then ((api_Hold.f k t424 (([(⟨1, 0, 3000⟩ : S42)] : List (S42)))).bind fun t448 => (if t448 = true then (if t431 = (-1) then (if 0 < (t394.length : Int) then ((liability_Fits.f k ((rd_T35 y360 0).f0) ((rd_T35 y360 0).f1) ((rd_T35 y360 0).f2) ((rd_T35 y360 0).f3) ((rd_T35 y360 0).f4) ((rd_T51 t394 0).f0) ((rd_T51 t394 0).f1) ((rd_T51 t394 0).f2) ((rd_T51 t394 0).f3) 100).bind fun t451 => (some t451)) else (none)) else (none)) else (none))) else (none)) else (none)) else (none))) else (none)) else (none))) else (none)) = some r := by rw [if_pos rfl] at H; exact H
    clear H
    have H := H1
    clear H1
    by_cases c24 : t373 = 2000
    ·rw [if_pos c24] at H
     have c24b0 : (t373 == 2000) = true := beq_iff_eq.mpr c24
     try simp only [beq_self_eq_true, Bool.not_true, Bool.false_or, Bool.true_and] at c24b0
     have c24b1 : (t373 != 2000) = false := bne_eq_false_iff_eq.mpr c24
     clear c24
     obtain ⟨y437, hy437⟩ : ∃ y_ : List Int, y_ = (([3000] : List Int)) := ⟨_, rfl⟩
     replace H : ((slices_Equal_int_int.f k t382 y437).bind fun t440 => (if t440 = true then (if t385 = 3000 then ((api_Outcome_24.f k t394 (([(⟨4, 3, 20000000, 100⟩ : S51)] : List (S51)))).bind fun t444 => (if t444 = true then (if t403 = 1000 then (if t415 = 3000 then ((api_Hold.f k t424 (([(⟨1, 0, 3000⟩ : S42)] : List (S42)))).bind fun t448 => (if t448 = true then (if t431 = (-1) then (if 0 < (t394.length : Int) then ((liability_Fits.f k ((rd_T35 y360 0).f0) ((rd_T35 y360 0).f1) ((rd_T35 y360 0).f2) ((rd_T35 y360 0).f3) ((rd_T35 y360 0).f4) ((rd_T51 t394 0).f0) ((rd_T51 t394 0).f1) ((rd_T51 t394 0).f2) ((rd_T51 t394 0).f3) 100).bind fun t451 => (some t451)) else (none)) else (none)) else (none))) else (none)) else (none)) else (none))) else (none)) else (none))) = some r := by first | (rw [hy437]; with_reducible exact H) | (have H2_ := (Option.bind_some _ _).symm.trans H; rw [hy437]; with_reducible exact H2_) | (have H2_ := (Option.bind_some _ _).symm.trans H; with_reducible exact H2_) | with_reducible exact H | (rw [hy437]; exact H) | exact H
     have Ny437 := Aside0.mk hy437
     clear hy437
     replace H := Option.bind_eq_some_iff.mp H
     obtain ⟨t440, A250, H⟩ := H
     replace H : (if t440 = true then (if t385 = 3000 then ((api_Outcome_24.f k t394 (([(⟨4, 3, 20000000, 100⟩ : S51)] : List (S51)))).bind fun t444 => (if t444 = true then (if t403 = 1000 then (if t415 = 3000 then ((api_Hold.f k t424 (([(⟨1, 0, 3000⟩ : S42)] : List (S42)))).bind fun t448 => (if t448 = true then (if t431 = (-1) then (if 0 < (t394.length : Int) then ((liability_Fits.f k ((rd_T35 y360 0).f0) ((rd_T35 y360 0).f1) ((rd_T35 y360 0).f2) ((rd_T35 y360 0).f3) ((rd_T35 y360 0).f4) ((rd_T51 t394 0).f0) ((rd_T51 t394 0).f1) ((rd_T51 t394 0).f2) ((rd_T51 t394 0).f3) 100).bind fun t451 => (some t451)) else (none)) else (none)) else (none))) else (none)) else (none)) else (none))) else (none)) else (none)) = some r := H
     have A25 := Aside0.mk A250
     clear A250
     by_cases c26 : t440 = true
     ·subst c26
      have H1 : (if t385 = 3000 then ((api_Outcome_24.f k t394 (([(⟨4, 3, 20000000, 100⟩ : S51)] : List (S51)))).bind fun t444 => (if t444 = true then (if t403 = 1000 then (if t415 = 3000 then ((api_Hold.f k t424 (([(⟨1, 0, 3000⟩ : S42)] : List (S42)))).bind fun t448 => (if t448 = true then (if t431 = (-1) then (if 0 < (t394.length : Int) then ((liability_Fits.f k ((rd_T35 y360 0).f0) ((rd_T35 y360 0).f1) ((rd_T35 y360 0).f2) ((rd_T35 y360 0).f3) ((rd_T35 y360 0).f4) ((rd_T51 t394 0).f0) ((rd_T51 t394 0).f1) ((rd_T51 t394 0).f2) ((rd_T51 t394 0).f3) 100).bind fun t451 => (some t451)) else (none)) else (none)) else (none))) else (none)) else (none)) else (none))) else (none)) = some r := by rw [if_pos rfl] at H; exact H
      clear H
      have H := H1
      clear H1
      by_cases c27 : t385 = 3000
      ·rw [if_pos c27] at H
       have c27b0 : (t385 == 3000) = true := beq_iff_eq.mpr c27
       try simp only [beq_self_eq_true, Bool.not_true, Bool.false_or, Bool.true_and] at c27b0
       have c27b1 : (t385 != 3000) = false := bne_eq_false_iff_eq.mpr c27
       clear c27
       obtain ⟨y441, hy441⟩ : ∃ y_ : List (S51), y_ = (([(⟨4, 3, 20000000, 100⟩ : S51)] : List (S51))) := ⟨_, rfl⟩
       replace H : ((api_Outcome_24.f k t394 y441).bind fun t444 => (if t444 = true then (if t403 = 1000 then (if t415 = 3000 then ((api_Hold.f k t424 (([(⟨1, 0, 3000⟩ : S42)] : List (S42)))).bind fun t448 => (if t448 = true then (if t431 = (-1) then (if 0 < (t394.length : Int) then ((liability_Fits.f k ((rd_T35 y360 0).f0) ((rd_T35 y360 0).f1) ((rd_T35 y360 0).f2) ((rd_T35 y360 0).f3) ((rd_T35 y360 0).f4) ((rd_T51 t394 0).f0) ((rd_T51 t394 0).f1) ((rd_T51 t394 0).f2) ((rd_T51 t394 0).f3) 100).bind fun t451 => (some t451)) else (none)) else (none)) else (none))) else (none)) else (none)) else (none))) = some r := by first | (rw [hy441]; with_reducible exact H) | (have H2_ := (Option.bind_some _ _).symm.trans H; rw [hy441]; with_reducible exact H2_) | (have H2_ := (Option.bind_some _ _).symm.trans H; with_reducible exact H2_) | with_reducible exact H | (rw [hy441]; exact H) | exact H
       have Ny441 := Aside0.mk hy441
       clear hy441
       replace H := Option.bind_eq_some_iff.mp H
       obtain ⟨t444, A280, H⟩ := H
       replace H : (if t444 = true then (if t403 = 1000 then (if t415 = 3000 then ((api_Hold.f k t424 (([(⟨1, 0, 3000⟩ : S42)] : List (S42)))).bind fun t448 => (if t448 = true then (if t431 = (-1) then (if 0 < (t394.length : Int) then ((liability_Fits.f k ((rd_T35 y360 0).f0) ((rd_T35 y360 0).f1) ((rd_T35 y360 0).f2) ((rd_T35 y360 0).f3) ((rd_T35 y360 0).f4) ((rd_T51 t394 0).f0) ((rd_T51 t394 0).f1) ((rd_T51 t394 0).f2) ((rd_T51 t394 0).f3) 100).bind fun t451 => (some t451)) else (none)) else (none)) else (none))) else (none)) else (none)) else (none)) = some r := H
       have A28 := Aside0.mk A280
       clear A280
       by_cases c29 : t444 = true
       ·subst c29
        have H1 : (if t403 = 1000 then (if t415 = 3000 then ((api_Hold.f k t424 (([(⟨1, 0, 3000⟩ : S42)] : List (S42)))).bind fun t448 => (if t448 = true then (if t431 = (-1) then (if 0 < (t394.length : Int) then ((liability_Fits.f k ((rd_T35 y360 0).f0) ((rd_T35 y360 0).f1) ((rd_T35 y360 0).f2) ((rd_T35 y360 0).f3) ((rd_T35 y360 0).f4) ((rd_T51 t394 0).f0) ((rd_T51 t394 0).f1) ((rd_T51 t394 0).f2) ((rd_T51 t394 0).f3) 100).bind fun t451 => (some t451)) else (none)) else (none)) else (none))) else (none)) else (none)) = some r := by rw [if_pos rfl] at H; exact H
        clear H
        have H := H1
        clear H1
        by_cases c30 : t403 = 1000
        ·rw [if_pos c30] at H
         have c30b0 : (t403 == 1000) = true := beq_iff_eq.mpr c30
         try simp only [beq_self_eq_true, Bool.not_true, Bool.false_or, Bool.true_and] at c30b0
         have c30b1 : (t403 != 1000) = false := bne_eq_false_iff_eq.mpr c30
         clear c30
         by_cases c31 : t415 = 3000
         ·rw [if_pos c31] at H
          have c31b0 : (t415 == 3000) = true := beq_iff_eq.mpr c31
          try simp only [beq_self_eq_true, Bool.not_true, Bool.false_or, Bool.true_and] at c31b0
          have c31b1 : (t415 != 3000) = false := bne_eq_false_iff_eq.mpr c31
          clear c31
          obtain ⟨y445, hy445⟩ : ∃ y_ : List (S42), y_ = (([(⟨1, 0, 3000⟩ : S42)] : List (S42))) := ⟨_, rfl⟩
          replace H : ((api_Hold.f k t424 y445).bind fun t448 => (if t448 = true then (if t431 = (-1) then (if 0 < (t394.length : Int) then ((liability_Fits.f k ((rd_T35 y360 0).f0) ((rd_T35 y360 0).f1) ((rd_T35 y360 0).f2) ((rd_T35 y360 0).f3) ((rd_T35 y360 0).f4) ((rd_T51 t394 0).f0) ((rd_T51 t394 0).f1) ((rd_T51 t394 0).f2) ((rd_T51 t394 0).f3) 100).bind fun t451 => (some t451)) else (none)) else (none)) else (none))) = some r := by first | (rw [hy445]; with_reducible exact H) | (have H2_ := (Option.bind_some _ _).symm.trans H; rw [hy445]; with_reducible exact H2_) | (have H2_ := (Option.bind_some _ _).symm.trans H; with_reducible exact H2_) | with_reducible exact H | (rw [hy445]; exact H) | exact H
          have Ny445 := Aside0.mk hy445
          clear hy445
          replace H := Option.bind_eq_some_iff.mp H
          obtain ⟨t448, A320, H⟩ := H
          replace H : (if t448 = true then (if t431 = (-1) then (if 0 < (t394.length : Int) then ((liability_Fits.f k ((rd_T35 y360 0).f0) ((rd_T35 y360 0).f1) ((rd_T35 y360 0).f2) ((rd_T35 y360 0).f3) ((rd_T35 y360 0).f4) ((rd_T51 t394 0).f0) ((rd_T51 t394 0).f1) ((rd_T51 t394 0).f2) ((rd_T51 t394 0).f3) 100).bind fun t451 => (some t451)) else (none)) else (none)) else (none)) = some r := H
          have A32 := Aside0.mk A320
          clear A320
          by_cases c33 : t448 = true
          ·subst c33
           have H1 : (if t431 = (-1) then (if 0 < (t394.length : Int) then ((liability_Fits.f k ((rd_T35 y360 0).f0) ((rd_T35 y360 0).f1) ((rd_T35 y360 0).f2) ((rd_T35 y360 0).f3) ((rd_T35 y360 0).f4) ((rd_T51 t394 0).f0) ((rd_T51 t394 0).f1) ((rd_T51 t394 0).f2) ((rd_T51 t394 0).f3) 100).bind fun t451 => (some t451)) else (none)) else (none)) = some r := by rw [if_pos rfl] at H; exact H
           clear H
           have H := H1
           clear H1
           by_cases c34 : t431 = (-1)
           ·rw [if_pos c34] at H
            have c34b0 : (t431 == (-1)) = true := beq_iff_eq.mpr c34
            try simp only [beq_self_eq_true, Bool.not_true, Bool.false_or, Bool.true_and] at c34b0
            have c34b1 : (t431 != (-1)) = false := bne_eq_false_iff_eq.mpr c34
            clear c34
            by_cases c35 : 0 < (t394.length : Int)
            ·rw [if_pos c35] at H
             have c35b0 : decide (0 < (t394.length : Int)) = true := decide_eq_true c35
             have c35b1 : decide (0 < t394.length) = true := decide_eq_true (by omega)
             clear c35
             replace H := Option.bind_eq_some_iff.mp H
             obtain ⟨t451, A360, H⟩ := H
             replace H : (some t451) = some r := H
             have A36 := Aside0.mk A360
             clear A360
             obtain rfl := Option.some.inj H
             go_enter Try.func9, Try.ntmps9
             try go_wp2_with (first | ((with_reducible refine gqD (N := 21) rfl ?_); (try (refine gate_guard (by rfl) ?_; dsimp only)); refine Kd.R_lit k60 _ 60 ?hg (N := 21) ?hd (xs := ([(⟨1, 0, 1000⟩ : S60), (⟨1, 100, 1500⟩ : S60)] : List (S60))) (inner := [.int .i64 1, .int .i64 0, .int .i64 1000, .int .i64 1, .int .i64 100, .int .i64 1500]) (ok := fun _ => True) (okp := fun _ => True) ?hr ?hp (fun _ hk => hk) trivial (Below.refl _ _) (Nat.le_refl _) (by simp) ?_; (case hd => rfl); (case hg => rfl); (case hr => first | (go_simp; done) | (go_simp; rfl)); (case hp => exact (Reps.c3 (show Kd.M k60 _ _ _ (⟨1, 0, 1000⟩ : S60) [.int .i64 1, .int .i64 0, .int .i64 1000] from (k60_mkM _ _ _ (⟨1, 0, 1000⟩ : S60) )) (Reps.c3 (show Kd.M k60 _ _ _ (⟨1, 100, 1500⟩ : S60) [.int .i64 1, .int .i64 100, .int .i64 1500] from (k60_mkM _ _ _ (⟨1, 100, 1500⟩ : S60) )) (Reps.none _ _)))); intro v357 w37 ho38 hb hg_ hnew_; clear hg_ hnew_; (first | rw [← Ny356.out] at ho38 | (simp only [Int.reduceToNat] at ho38; rw [← Ny356.out] at ho38)); have n0_ := Aside0.mk (Kd.R_lower ho38 (lqZ (GS.lB HB.out))); have n1_ := Aside0.mk (lqT (GS.lB HB.out) hb); clear HB; have HO358 := n0_; have HB := n1_; clear n0_ n1_; clear hb ho38; obtain ⟨Ao39, co39, eo39⟩ := Kd.R_slice HO358.out; subst eo39) | ((with_reducible refine gqD (N := 1) rfl ?_); (try (refine gate_guard (by rfl) ?_; dsimp only)); refine GS.bx (N := 1) (cs := #[.int .i64 0, .slice none 0 0]) (t := 24) ?_; intro gb359 hg w40 hbox hb; have n0_ := Aside0.mk (Kd.R_below (GS.rR HO358.out) hb); have n1_ := Aside0.mk (lqT (GS.lB HB.out) hb); have n2_ := Aside0.mk (hbox); have n3_ := Aside0.mk ((by rw [hg]; exact (lqZ (GS.lB HB.out)) : w.heap.size ≤ gb359)); have n4_ := Aside0.mk ((by rw [hg]; exact (lqZ (GS.lB HB.out)) : w.heap.size ≤ gb359)); clear HO358; clear HB; have HO358 := n0_; have HB := n1_; have BK359 := n2_; have GW359 := n3_; have GE359 := n4_; clear n0_ n1_ n2_ n3_ n4_; clear hb hbox hg; obtain ⟨hcz41_0, hcz41_1, hfz41_0, hfz41_1⟩ := GS.c2 BK359.out) | ((with_reducible refine gqD (N := 24) rfl ?_); (try (refine gate_guard (by rfl) ?_; dsimp only)); refine Kd.R_lit k35 _ 35 ?hg (N := 24) ?hd (xs := ([(⟨4, 1, 1, 90, 20000000⟩ : S35)] : List (S35))) (inner := [.int .i64 4, .int .i64 1, .int .i64 1, .int .i64 90, .int .i64 20000000]) (ok := fun _ => True) (okp := fun _ => True) ?hr ?hp (fun _ hk => hk) trivial (Below.refl _ _) (Nat.le_refl _) (by simp) ?_; (case hd => rfl); (case hg => rfl); (case hr => first | (go_simp; done) | (go_simp; rfl)); (case hp => exact (Reps.c5 (show Kd.M k35 _ _ _ (⟨4, 1, 1, 90, 20000000⟩ : S35) [.int .i64 4, .int .i64 1, .int .i64 1, .int .i64 90, .int .i64 20000000] from (k35_mkM _ _ _ (⟨4, 1, 1, 90, 20000000⟩ : S35) )) (Reps.none _ _))); intro v361 w42 ho43 hb hg_ hnew_; clear hg_ hnew_; (first | rw [← Ny360.out] at ho43 | (simp only [Int.reduceToNat] at ho43; rw [← Ny360.out] at ho43)); have n0_ := Aside0.mk (Kd.R_below (by (with_reducible repeat (first | apply Kd.R_alloc | apply Kd.R_drewN | apply Kd.R_drew)); exact (Kd.R_mono (Kd.R_far (p := ⟨gb359, 1, none⟩) (Kd.R_far (p := ⟨gb359, 0, none⟩) (Kd.R_types HO358.out BK359.out (by decide)) (fun _ hk => hk.2) (.int .i64 3)) (fun _ hk => hk.2) (.slice Ao39 y356.length co39)) (fun _ h_ => h_.1))) hb); have n1_ := Aside0.mk (Kd.R_lower ho43 (lqZ (GS.lB HB.out))); have n2_ := Aside0.mk (bqB (g := gb359) (o := .cells #[.int .i64 3, .slice Ao39 y356.length co39] 24 (0, 0)) (GS.bqZ BK359.out) hb); have n3_ := Aside0.mk (lqT (GS.lB HB.out) hb); clear HO358; clear BK359; clear HB; have HO358 := n0_; have HO362 := n1_; have BK359 := n2_; have HB := n3_; clear n0_ n1_ n2_ n3_; clear hb ho43; obtain ⟨hcz44_0, hcz44_1, hfz44_0, hfz44_1⟩ := GS.c2 BK359.out) | ((with_reducible refine gqC (f := 12) rfl ?_); refine GS.gL (some 27) Try.func12 #[.agg #[.int .i64 3, .slice Ao39 y356.length co39]] ?_; (with_reducible refine (spilelaw51_ct.calls 3 _ _ y356 t363 t364 _ ?side1 ?side2 A1.out).mono ?_); (case side1 => repeat (first | exact (Kd.R_reads' HO358.out).2.2 | (with_reducible refine Kd.C_alloc ?_ _) | (with_reducible refine Kd.C_drewN ?_ _) | (with_reducible refine Kd.C_drew ?_))); (case side2 => exact (Kd.R_reads' HO358.out).2.1); rintro e w45 ⟨v365, rfl, ho0, hb⟩; refine ⟨_, rfl, ?_⟩; have n0_ := Aside0.mk (Kd.R_elder' (GS.rR HO358.out) (Kd.R_base ho0) hb); have n1_ := Aside0.mk (Kd.R_below (GS.rR HO362.out) hb); have n2_ := Aside0.mk (Kd.R_lower (Kd.R_new' ho0 (Kd.R_lt (GS.rR HO358.out))) (lqZ (GS.lB HB.out))); have n3_ := Aside0.mk (bqB (GS.bqX BK359.out) hb); have n4_ := Aside0.mk (lqT (GS.lB HB.out) hb); clear HO358; clear HO362; clear BK359; clear HB; have HO358 := n0_; have HO362 := n1_; have HO366 := n2_; have BK359 := n3_; have HB := n4_; clear n0_ n1_ n2_ n3_ n4_; (try clear hb); (try clear hb2); (try clear hk); (try clear hi); (try clear ho0); obtain ⟨Ao46, co46, eo46⟩ := Kd.R_slice HO362.out; subst eo46) | ((with_reducible refine gqC (f := 13) rfl ?_); refine GS.gL (some 29) Try.func13 #[.slice Ao46 y360.length co46] ?_; (with_reducible refine (clone13.calls _ _ y360 t367 _ ?side1 ?side2 A2.out).mono ?_); (case side1 => repeat (first | exact (Kd.R_reads' HO362.out).2.2 | (with_reducible refine Kd.C_alloc ?_ _) | (with_reducible refine Kd.C_drewN ?_ _) | (with_reducible refine Kd.C_drew ?_))); (case side2 => exact (Kd.R_reads' HO362.out).2.1); rintro e w47 ⟨v368, rfl, ho0, hb⟩; refine ⟨_, rfl, ?_⟩; have n0_ := Aside0.mk (Kd.R_below (GS.rR HO358.out) hb); have n1_ := Aside0.mk (Kd.R_elder' (GS.rR HO362.out) (Kd.R_base ho0) hb); have n2_ := Aside0.mk (Kd.R_below (GS.rR HO366.out) hb); have n3_ := Aside0.mk (Kd.R_lower (Kd.R_new' ho0 (Kd.R_lt (GS.rR HO362.out))) (lqZ (GS.lB HB.out))); have n4_ := Aside0.mk (bqB (GS.bqX BK359.out) hb); have n5_ := Aside0.mk (lqT (GS.lB HB.out) hb); clear HO358; clear HO362; clear HO366; clear BK359; clear HB; have HO358 := n0_; have HO362 := n1_; have HO366 := n2_; have HO369 := n3_; have BK359 := n4_; have HB := n5_; clear n0_ n1_ n2_ n3_ n4_ n5_; (try clear hb); (try clear hb2); (try clear hk); (try clear hi); (try clear ho0); obtain ⟨Ao48, co48, eo48⟩ := Kd.R_slice HO366.out; subst eo48; obtain ⟨Ao49, co49, eo49⟩ := Kd.R_slice HO369.out; subst eo49) | ((with_reducible refine gqC (f := 11) rfl ?_); refine GS.gL (some 30) Try.func11 #[.agg #[.int .i64 t363, .slice Ao48 t364.length co48], .slice Ao49 t367.length co49, .int .i64 99] ?_; (with_reducible refine (liability_Greatest.calls k t363 _ _ t364 _ _ t367 99 t370 t373 t374 _ ?side1 ?side2 ?side3 ?side4 A3.out).mono ?_); (case side1 => repeat (first | exact (Kd.R_reads' HO366.out).2.2 | (with_reducible refine Kd.C_alloc ?_ _) | (with_reducible refine Kd.C_drewN ?_ _) | (with_reducible refine Kd.C_drew ?_))); (case side2 => exact (Kd.R_reads' HO366.out).2.1); (case side3 => repeat (first | exact (Kd.R_reads' HO369.out).2.2 | (with_reducible refine Kd.C_alloc ?_ _) | (with_reducible refine Kd.C_drewN ?_ _) | (with_reducible refine Kd.C_drew ?_))); (case side4 => exact (Kd.R_reads' HO369.out).2.1); rintro e w50 ⟨v371, rfl, ho0, hb⟩; refine ⟨_, rfl, ?_⟩; have n0_ := Aside0.mk (Kd.R_below (GS.rR HO358.out) hb); have n1_ := Aside0.mk (Kd.R_below (GS.rR HO362.out) hb); have n2_ := Aside0.mk (Kd.R_below (GS.rR HO366.out) hb); have n3_ := Aside0.mk (Kd.R_below (GS.rR HO369.out) hb); have n4_ := Aside0.mk (Kd.R_lower ho0 (lqZ (GS.lB HB.out))); have n5_ := Aside0.mk (bqB (GS.bqX BK359.out) hb); have n6_ := Aside0.mk (lqT (GS.lB HB.out) hb); clear HO358; clear HO362; clear HO366; clear HO369; clear BK359; clear HB; have HO358 := n0_; have HO362 := n1_; have HO366 := n2_; have HO369 := n3_; have HO372 := n4_; have BK359 := n5_; have HB := n6_; clear n0_ n1_ n2_ n3_ n4_ n5_ n6_; (try clear hb); (try clear hb2); (try clear hk); (try clear hi); (try clear ho0); obtain ⟨hcz51_0, hcz51_1, hfz51_0, hfz51_1⟩ := GS.c2 BK359.out) | ((with_reducible refine gqC (f := 12) rfl ?_); refine GS.gL (some 36) Try.func12 #[.agg #[.int .i64 3, .slice Ao39 y356.length co39]] ?_; (with_reducible refine (spilelaw51_ct.calls 3 _ _ y356 t375 t376 _ ?side1 ?side2 A4.out).mono ?_); (case side1 => repeat (first | exact (Kd.R_reads' HO358.out).2.2 | (with_reducible refine Kd.C_alloc ?_ _) | (with_reducible refine Kd.C_drewN ?_ _) | (with_reducible refine Kd.C_drew ?_))); (case side2 => exact (Kd.R_reads' HO358.out).2.1); rintro e w52 ⟨v377, rfl, ho0, hb⟩; refine ⟨_, rfl, ?_⟩; have n0_ := Aside0.mk (Kd.R_elder' (GS.rR HO358.out) (Kd.R_base ho0) hb); have n1_ := Aside0.mk (Kd.R_below (GS.rR HO362.out) hb); have n2_ := Aside0.mk (Kd.R_elder' (GS.rR HO366.out) (Kd.R_base ho0) hb); have n3_ := Aside0.mk (Kd.R_below (GS.rR HO369.out) hb); have n4_ := Aside0.mk (Kd.R_below (GS.rR HO372.out) hb); have n5_ := Aside0.mk (Kd.R_lower (Kd.R_new' (Kd.R_new' ho0 (Kd.R_lt (GS.rR HO358.out))) (Kd.R_lt (GS.rR HO366.out))) (lqZ (GS.lB HB.out))); have n6_ := Aside0.mk (bqB (GS.bqX BK359.out) hb); have n7_ := Aside0.mk (lqT (GS.lB HB.out) hb); clear HO358; clear HO362; clear HO366; clear HO369; clear HO372; clear BK359; clear HB; have HO358 := n0_; have HO362 := n1_; have HO366 := n2_; have HO369 := n3_; have HO372 := n4_; have HO378 := n5_; have BK359 := n6_; have HB := n7_; clear n0_ n1_ n2_ n3_ n4_ n5_ n6_ n7_; (try clear hb); (try clear hb2); (try clear hk); (try clear hi); (try clear ho0)) | ((with_reducible refine gqC (f := 13) rfl ?_); refine GS.gL (some 38) Try.func13 #[.slice Ao46 y360.length co46] ?_; (with_reducible refine (clone13.calls _ _ y360 t379 _ ?side1 ?side2 A5.out).mono ?_); (case side1 => repeat (first | exact (Kd.R_reads' HO362.out).2.2 | (with_reducible refine Kd.C_alloc ?_ _) | (with_reducible refine Kd.C_drewN ?_ _) | (with_reducible refine Kd.C_drew ?_))); (case side2 => exact (Kd.R_reads' HO362.out).2.1); rintro e w53 ⟨v380, rfl, ho0, hb⟩; refine ⟨_, rfl, ?_⟩; have n0_ := Aside0.mk (Kd.R_below (GS.rR HO358.out) hb); have n1_ := Aside0.mk (Kd.R_elder' (GS.rR HO362.out) (Kd.R_base ho0) hb); have n2_ := Aside0.mk (Kd.R_below (GS.rR HO366.out) hb); have n3_ := Aside0.mk (Kd.R_elder' (GS.rR HO369.out) (Kd.R_base ho0) hb); have n4_ := Aside0.mk (Kd.R_below (GS.rR HO372.out) hb); have n5_ := Aside0.mk (Kd.R_below (GS.rR HO378.out) hb); have n6_ := Aside0.mk (Kd.R_lower (Kd.R_new' (Kd.R_new' ho0 (Kd.R_lt (GS.rR HO362.out))) (Kd.R_lt (GS.rR HO369.out))) (lqZ (GS.lB HB.out))); have n7_ := Aside0.mk (bqB (GS.bqX BK359.out) hb); have n8_ := Aside0.mk (lqT (GS.lB HB.out) hb); clear HO358; clear HO362; clear HO366; clear HO369; clear HO372; clear HO378; clear BK359; clear HB; have HO358 := n0_; have HO362 := n1_; have HO366 := n2_; have HO369 := n3_; have HO372 := n4_; have HO378 := n5_; have HO381 := n6_; have BK359 := n7_; have HB := n8_; clear n0_ n1_ n2_ n3_ n4_ n5_ n6_ n7_ n8_; (try clear hb); (try clear hb2); (try clear hk); (try clear hi); (try clear ho0); obtain ⟨Ao54, co54, eo54⟩ := Kd.R_slice HO378.out; subst eo54; obtain ⟨Ao55, co55, eo55⟩ := Kd.R_slice HO381.out; subst eo55) | ((with_reducible refine gqC (f := 11) rfl ?_); refine GS.gL (some 39) Try.func11 #[.agg #[.int .i64 t375, .slice Ao54 t376.length co54], .slice Ao55 t379.length co55, .int .i64 100] ?_; (with_reducible refine (liability_Greatest.calls k t375 _ _ t376 _ _ t379 100 t382 t385 t386 _ ?side1 ?side2 ?side3 ?side4 A6.out).mono ?_); (case side1 => repeat (first | exact (Kd.R_reads' HO378.out).2.2 | (with_reducible refine Kd.C_alloc ?_ _) | (with_reducible refine Kd.C_drewN ?_ _) | (with_reducible refine Kd.C_drew ?_))); (case side2 => exact (Kd.R_reads' HO378.out).2.1); (case side3 => repeat (first | exact (Kd.R_reads' HO381.out).2.2 | (with_reducible refine Kd.C_alloc ?_ _) | (with_reducible refine Kd.C_drewN ?_ _) | (with_reducible refine Kd.C_drew ?_))); (case side4 => exact (Kd.R_reads' HO381.out).2.1); rintro e w56 ⟨v383, rfl, ho0, hb⟩; refine ⟨_, rfl, ?_⟩; have n0_ := Aside0.mk (Kd.R_below (GS.rR HO358.out) hb); have n1_ := Aside0.mk (Kd.R_below (GS.rR HO362.out) hb); have n2_ := Aside0.mk (Kd.R_below (GS.rR HO366.out) hb); have n3_ := Aside0.mk (Kd.R_below (GS.rR HO369.out) hb); have n4_ := Aside0.mk (Kd.R_elder' (GS.rR HO372.out) (Kd.R_base ho0) hb); have n5_ := Aside0.mk (Kd.R_below (GS.rR HO378.out) hb); have n6_ := Aside0.mk (Kd.R_below (GS.rR HO381.out) hb); have n7_ := Aside0.mk (Kd.R_lower (Kd.R_new' ho0 (Kd.R_lt (GS.rR HO372.out))) (lqZ (GS.lB HB.out))); have n8_ := Aside0.mk (bqB (GS.bqX BK359.out) hb); have n9_ := Aside0.mk (lqT (GS.lB HB.out) hb); clear HO358; clear HO362; clear HO366; clear HO369; clear HO372; clear HO378; clear HO381; clear BK359; clear HB; have HO358 := n0_; have HO362 := n1_; have HO366 := n2_; have HO369 := n3_; have HO372 := n4_; have HO378 := n5_; have HO381 := n6_; have HO384 := n7_; have BK359 := n8_; have HB := n9_; clear n0_ n1_ n2_ n3_ n4_ n5_ n6_ n7_ n8_ n9_; (try clear hb); (try clear hb2); (try clear hk); (try clear hi); (try clear ho0); obtain ⟨hcz57_0, hcz57_1, hfz57_0, hfz57_1⟩ := GS.c2 BK359.out) | ((with_reducible refine gqC (f := 12) rfl ?_); refine GS.gL (some 45) Try.func12 #[.agg #[.int .i64 3, .slice Ao39 y356.length co39]] ?_; (with_reducible refine (spilelaw51_ct.calls 3 _ _ y356 t387 t388 _ ?side1 ?side2 A7.out).mono ?_); (case side1 => repeat (first | exact (Kd.R_reads' HO358.out).2.2 | (with_reducible refine Kd.C_alloc ?_ _) | (with_reducible refine Kd.C_drewN ?_ _) | (with_reducible refine Kd.C_drew ?_))); (case side2 => exact (Kd.R_reads' HO358.out).2.1); rintro e w58 ⟨v389, rfl, ho0, hb⟩; refine ⟨_, rfl, ?_⟩; have n0_ := Aside0.mk (Kd.R_elder' (GS.rR HO358.out) (Kd.R_base ho0) hb); have n1_ := Aside0.mk (Kd.R_below (GS.rR HO362.out) hb); have n2_ := Aside0.mk (Kd.R_elder' (GS.rR HO366.out) (Kd.R_base ho0) hb); have n3_ := Aside0.mk (Kd.R_below (GS.rR HO369.out) hb); have n4_ := Aside0.mk (Kd.R_below (GS.rR HO372.out) hb); have n5_ := Aside0.mk (Kd.R_elder' (GS.rR HO378.out) (Kd.R_base ho0) hb); have n6_ := Aside0.mk (Kd.R_below (GS.rR HO381.out) hb); have n7_ := Aside0.mk (Kd.R_below (GS.rR HO384.out) hb); have n8_ := Aside0.mk (Kd.R_lower (Kd.R_new' (Kd.R_new' (Kd.R_new' ho0 (Kd.R_lt (GS.rR HO358.out))) (Kd.R_lt (GS.rR HO366.out))) (Kd.R_lt (GS.rR HO378.out))) (lqZ (GS.lB HB.out))); have n9_ := Aside0.mk (bqB (GS.bqX BK359.out) hb); have n10_ := Aside0.mk (lqT (GS.lB HB.out) hb); clear HO358; clear HO362; clear HO366; clear HO369; clear HO372; clear HO378; clear HO381; clear HO384; clear BK359; clear HB; have HO358 := n0_; have HO362 := n1_; have HO366 := n2_; have HO369 := n3_; have HO372 := n4_; have HO378 := n5_; have HO381 := n6_; have HO384 := n7_; have HO390 := n8_; have BK359 := n9_; have HB := n10_; clear n0_ n1_ n2_ n3_ n4_ n5_ n6_ n7_ n8_ n9_ n10_; (try clear hb); (try clear hb2); (try clear hk); (try clear hi); (try clear ho0)) | ((with_reducible refine gqC (f := 13) rfl ?_); refine GS.gL (some 47) Try.func13 #[.slice Ao46 y360.length co46] ?_; (with_reducible refine (clone13.calls _ _ y360 t391 _ ?side1 ?side2 A8.out).mono ?_); (case side1 => repeat (first | exact (Kd.R_reads' HO362.out).2.2 | (with_reducible refine Kd.C_alloc ?_ _) | (with_reducible refine Kd.C_drewN ?_ _) | (with_reducible refine Kd.C_drew ?_))); (case side2 => exact (Kd.R_reads' HO362.out).2.1); rintro e w59 ⟨v392, rfl, ho0, hb⟩; refine ⟨_, rfl, ?_⟩; have n0_ := Aside0.mk (Kd.R_below (GS.rR HO358.out) hb); have n1_ := Aside0.mk (Kd.R_elder' (GS.rR HO362.out) (Kd.R_base ho0) hb); have n2_ := Aside0.mk (Kd.R_below (GS.rR HO366.out) hb); have n3_ := Aside0.mk (Kd.R_elder' (GS.rR HO369.out) (Kd.R_base ho0) hb); have n4_ := Aside0.mk (Kd.R_below (GS.rR HO372.out) hb); have n5_ := Aside0.mk (Kd.R_below (GS.rR HO378.out) hb); have n6_ := Aside0.mk (Kd.R_elder' (GS.rR HO381.out) (Kd.R_base ho0) hb); have n7_ := Aside0.mk (Kd.R_below (GS.rR HO384.out) hb); have n8_ := Aside0.mk (Kd.R_below (GS.rR HO390.out) hb); have n9_ := Aside0.mk (Kd.R_lower (Kd.R_new' (Kd.R_new' (Kd.R_new' ho0 (Kd.R_lt (GS.rR HO362.out))) (Kd.R_lt (GS.rR HO369.out))) (Kd.R_lt (GS.rR HO381.out))) (lqZ (GS.lB HB.out))); have n10_ := Aside0.mk (bqB (GS.bqX BK359.out) hb); have n11_ := Aside0.mk (lqT (GS.lB HB.out) hb); clear HO358; clear HO362; clear HO366; clear HO369; clear HO372; clear HO378; clear HO381; clear HO384; clear HO390; clear BK359; clear HB; have HO358 := n0_; have HO362 := n1_; have HO366 := n2_; have HO369 := n3_; have HO372 := n4_; have HO378 := n5_; have HO381 := n6_; have HO384 := n7_; have HO390 := n8_; have HO393 := n9_; have BK359 := n10_; have HB := n11_; clear n0_ n1_ n2_ n3_ n4_ n5_ n6_ n7_ n8_ n9_ n10_ n11_; (try clear hb); (try clear hb2); (try clear hk); (try clear hi); (try clear ho0); obtain ⟨Ao60, co60, eo60⟩ := Kd.R_slice HO390.out; subst eo60; obtain ⟨Ao61, co61, eo61⟩ := Kd.R_slice HO393.out; subst eo61) | ((with_reducible refine gqC (f := 19) rfl ?_); refine GS.gL (some 48) Try.func19 #[.agg #[.int .i64 t387, .slice Ao60 t388.length co60], .slice Ao61 t391.length co61, .int .i64 100] ?_; (with_reducible refine (liability_Witness.calls k t387 _ _ t388 _ _ t391 100 t394 t397 _ ?side1 ?side2 ?side3 ?side4 A9.out).mono ?_); (case side1 => repeat (first | exact (Kd.R_reads' HO390.out).2.2 | (with_reducible refine Kd.C_alloc ?_ _) | (with_reducible refine Kd.C_drewN ?_ _) | (with_reducible refine Kd.C_drew ?_))); (case side2 => exact (Kd.R_reads' HO390.out).2.1); (case side3 => repeat (first | exact (Kd.R_reads' HO393.out).2.2 | (with_reducible refine Kd.C_alloc ?_ _) | (with_reducible refine Kd.C_drewN ?_ _) | (with_reducible refine Kd.C_drew ?_))); (case side4 => exact (Kd.R_reads' HO393.out).2.1); rintro e w62 ⟨v395, rfl, ho0, hb⟩; refine ⟨_, rfl, ?_⟩; have n0_ := Aside0.mk (Kd.R_below (GS.rR HO358.out) hb); have n1_ := Aside0.mk (Kd.R_below (GS.rR HO362.out) hb); have n2_ := Aside0.mk (Kd.R_below (GS.rR HO366.out) hb); have n3_ := Aside0.mk (Kd.R_below (GS.rR HO369.out) hb); have n4_ := Aside0.mk (Kd.R_below (GS.rR HO372.out) hb); have n5_ := Aside0.mk (Kd.R_below (GS.rR HO378.out) hb); have n6_ := Aside0.mk (Kd.R_below (GS.rR HO381.out) hb); have n7_ := Aside0.mk (Kd.R_below (GS.rR HO384.out) hb); have n8_ := Aside0.mk (Kd.R_below (GS.rR HO390.out) hb); have n9_ := Aside0.mk (Kd.R_below (GS.rR HO393.out) hb); have n10_ := Aside0.mk (Kd.R_lower ho0 (lqZ (GS.lB HB.out))); have n11_ := Aside0.mk (bqB (GS.bqX BK359.out) hb); have n12_ := Aside0.mk (lqT (GS.lB HB.out) hb); clear HO358; clear HO362; clear HO366; clear HO369; clear HO372; clear HO378; clear HO381; clear HO384; clear HO390; clear HO393; clear BK359; clear HB; have HO358 := n0_; have HO362 := n1_; have HO366 := n2_; have HO369 := n3_; have HO372 := n4_; have HO378 := n5_; have HO381 := n6_; have HO384 := n7_; have HO390 := n8_; have HO393 := n9_; have HO396 := n10_; have BK359 := n11_; have HB := n12_; clear n0_ n1_ n2_ n3_ n4_ n5_ n6_ n7_ n8_ n9_ n10_ n11_ n12_; (try clear hb); (try clear hb2); (try clear hk); (try clear hi); (try clear ho0)))
             have n0_ := Aside0.mk (Kd.R_drew HO358.out)
             have n1_ := Aside0.mk (Kd.R_drew HO362.out)
             have n2_ := Aside0.mk (Kd.R_drew HO366.out)
             have n3_ := Aside0.mk (Kd.R_drew HO369.out)
             have n4_ := Aside0.mk (Kd.R_drew HO372.out)
             have n5_ := Aside0.mk (Kd.R_drew HO378.out)
             have n6_ := Aside0.mk (Kd.R_drew HO381.out)
             have n7_ := Aside0.mk (Kd.R_drew HO384.out)
             have n8_ := Aside0.mk (Kd.R_drew HO390.out)
             have n9_ := Aside0.mk (Kd.R_drew HO393.out)
             have n10_ := Aside0.mk (Kd.R_drew HO396.out)
             have n11_ := Aside0.mk (bqD BK359.out)
             have n12_ := Aside0.mk (lqD HB.out)
             clear HO358
             clear HO362
             clear HO366
             clear HO369
             clear HO372
             clear HO378
             clear HO381
             clear HO384
             clear HO390
             clear HO393
             clear HO396
             clear BK359
             clear HB
             have HO358 := n0_
             have HO362 := n1_
             have HO366 := n2_
             have HO369 := n3_
             have HO372 := n4_
             have HO378 := n5_
             have HO381 := n6_
             have HO384 := n7_
             have HO390 := n8_
             have HO393 := n9_
             have HO396 := n10_
             have BK359 := n11_
             have HB := n12_
             clear n0_ n1_ n2_ n3_ n4_ n5_ n6_ n7_ n8_ n9_ n10_ n11_ n12_
             have p402 : 0 ≤ (0 : Int) := (by omega)
             have q402 : 0 < (y360.length : Int) := of_decide_eq_true (by first | (with_reducible assumption) | assumption)
             obtain ⟨ad402, e402, hx402_0, hx402_1, hx402_2, hx402_3, hx402_4⟩ := at_T35 (Kd.R_reads' HO362.out).2.2 0 p402 q402
             cases e402
             have qi402 : (0 < y360.length) = True := eq_true (by omega)
             (try rw [show ((0 : Int)).toNat = 0 from rfl] at hx402_0)
             (try rw [show 0 * 5 = 0 from rfl] at hx402_0)
             (try rw [Addr.add_zero'] at hx402_0)
             (try rw [show ((0 : Int)).toNat = 0 from rfl] at hx402_1)
             (try rw [show 0 * 5 = 0 from rfl] at hx402_1)
             (try rw [Addr.add_zero'] at hx402_1)
             (try rw [show ((0 : Int)).toNat = 0 from rfl] at hx402_2)
             (try rw [show 0 * 5 = 0 from rfl] at hx402_2)
             (try rw [Addr.add_zero'] at hx402_2)
             (try rw [show ((0 : Int)).toNat = 0 from rfl] at hx402_3)
             (try rw [show 0 * 5 = 0 from rfl] at hx402_3)
             (try rw [Addr.add_zero'] at hx402_3)
             (try rw [show ((0 : Int)).toNat = 0 from rfl] at hx402_4)
             (try rw [show 0 * 5 = 0 from rfl] at hx402_4)
             (try rw [Addr.add_zero'] at hx402_4)
             replace p402 := eq_true p402
             replace q402 := eq_true q402
             refine start_ (n := 12) (S := fun w' => w'.cell? ⟨gb359, 0, none⟩ = some (.int .i64 3) ∧ w'.cell? ⟨gb359, 1, none⟩ = some (.slice Ao39 y356.length co39) ∧ w'.cell? ad402 = some (.int .i64 ((rd_T35 y360 0).f0)) ∧ w'.cell? ⟨ad402.block, ad402.off + 1, none⟩ = some (.int .i64 ((rd_T35 y360 0).f1)) ∧ w'.cell? ⟨ad402.block, ad402.off + 2, none⟩ = some (.int .i64 ((rd_T35 y360 0).f2)) ∧ w'.cell? ⟨ad402.block, ad402.off + 3, none⟩ = some (.int .i64 ((rd_T35 y360 0).f3)) ∧ w'.cell? ⟨ad402.block, ad402.off + 4, none⟩ = some (.int .i64 ((rd_T35 y360 0).f4))) (ds := []) #[false, false, false, false, false, false, false, false, false, false, false, false] (by kernel_rfl) rfl rfl ⟨(bqC BK359.out 0).trans rfl, (bqC BK359.out 1).trans rfl, hx402_0, hx402_1, hx402_2, hx402_3, hx402_4⟩ (fun hHeld => ?_); refine with_tabW spilelaw51_awake.tab6 spilelaw51_awake.bits6 (fun HT_ HW_ => ?_)
             generalize w62.drew = w63 at HO358 HO362 HO366 HO369 HO372 HO378 HO381 HO384 HO390 HO393 HO396 BK359 HB hx402_0 hx402_1 hx402_2 hx402_3 hx402_4 hHeld ⊢
             refine GS.pu 2 (some 54) HT_.out ?_
             refine GS.pu 3 (some 55) HT_.out ?_
             refine GS.pu 5 (some 57) HT_.out ?_
             refine GS.tk 0 (some 52) HT_.out HW_.out hHeld ?_
             refine GS.tk 4 (some 56) HT_.out HW_.out hHeld ?_
             refine one_ (i := 1) (N := some 53) #[true, true, true, true, true, true, false, false, false, false, false, false] rfl rfl (one_of HT_.out (by kernel_rfl)) (by decide) (fun K hK => ?_)
             refine goes_ Try.func12 (by kernel_rfl) rfl #[.agg #[.int .i64 3, .slice Ao39 y356.length co39]] (by rfl) rfl rfl (by (try simp only [List.map_toArray, List.map_cons, List.map_nil]); first | done | rfl | (simp only [List.length_drop, List.length_take]; rfl)) ?_
             with_reducible refine (spilelaw51_ct.calls 3 _ _ y356 t398 t399 _ ?side1 ?side2 A10.out).mono ?_
             (case side1 => repeat (first | exact (Kd.R_reads' HO358.out).2.2 | (with_reducible refine Kd.C_alloc ?_ _) | (with_reducible refine Kd.C_drewN ?_ _) | (with_reducible refine Kd.C_drew ?_)))
             (case side2 => exact (Kd.R_reads' HO358.out).2.1)
             rintro e w64 ⟨v400, rfl, ho0, hb⟩
             have HS2_ := (hb.cell (World.block_lt_of_cell? _ _ (hHeld.2.2.1))).trans (hHeld.2.2.1)
             have HS3_ := (hb.cell (World.block_lt_of_cell? _ _ (hHeld.2.2.2.1))).trans (hHeld.2.2.2.1)
             have HS4_ := (hb.cell (World.block_lt_of_cell? _ _ (hHeld.2.2.2.2.1))).trans (hHeld.2.2.2.2.1)
             have HS5_ := (hb.cell (World.block_lt_of_cell? _ _ (hHeld.2.2.2.2.2.1))).trans (hHeld.2.2.2.2.2.1)
             have HS6_ := (hb.cell (World.block_lt_of_cell? _ _ (hHeld.2.2.2.2.2.2))).trans (hHeld.2.2.2.2.2.2)
             refine ⟨_, rfl, ?_⟩
             have n0_ := Aside0.mk (Kd.R_elder' (GS.rR HO358.out) (Kd.R_base ho0) hb)
             have n1_ := Aside0.mk (Kd.R_below (GS.rR HO362.out) hb)
             have n2_ := Aside0.mk (Kd.R_elder' (GS.rR HO366.out) (Kd.R_base ho0) hb)
             have n3_ := Aside0.mk (Kd.R_below (GS.rR HO369.out) hb)
             have n4_ := Aside0.mk (Kd.R_below (GS.rR HO372.out) hb)
             have n5_ := Aside0.mk (Kd.R_elder' (GS.rR HO378.out) (Kd.R_base ho0) hb)
             have n6_ := Aside0.mk (Kd.R_below (GS.rR HO381.out) hb)
             have n7_ := Aside0.mk (Kd.R_below (GS.rR HO384.out) hb)
             have n8_ := Aside0.mk (Kd.R_elder' (GS.rR HO390.out) (Kd.R_base ho0) hb)
             have n9_ := Aside0.mk (Kd.R_below (GS.rR HO393.out) hb)
             have n10_ := Aside0.mk (Kd.R_below (GS.rR HO396.out) hb)
             have n11_ := Aside0.mk (Kd.R_lower (Kd.R_new' (Kd.R_new' (Kd.R_new' (Kd.R_new' ho0 (Kd.R_lt (GS.rR HO358.out))) (Kd.R_lt (GS.rR HO366.out))) (Kd.R_lt (GS.rR HO378.out))) (Kd.R_lt (GS.rR HO390.out))) (lqZ (GS.lB HB.out)))
             have n12_ := Aside0.mk (bqB (GS.bqX BK359.out) hb)
             have n13_ := Aside0.mk (lqT (GS.lB HB.out) hb)
             clear HO358
             clear HO362
             clear HO366
             clear HO369
             clear HO372
             clear HO378
             clear HO381
             clear HO384
             clear HO390
             clear HO393
             clear HO396
             clear BK359
             clear HB
             have HO358 := n0_
             have HO362 := n1_
             have HO366 := n2_
             have HO369 := n3_
             have HO372 := n4_
             have HO378 := n5_
             have HO381 := n6_
             have HO384 := n7_
             have HO390 := n8_
             have HO393 := n9_
             have HO396 := n10_
             have HO401 := n11_
             have BK359 := n12_
             have HB := n13_
             clear n0_ n1_ n2_ n3_ n4_ n5_ n6_ n7_ n8_ n9_ n10_ n11_ n12_ n13_
             (try clear hb)
             (try clear hb2)
             (try clear hk)
             (try clear hi)
             (try clear ho0)
             obtain ⟨Ao65, co65, eo65⟩ := Kd.R_slice HO401.out
             (first | subst eo65 | (injection eo65 with f1_ f2_ f3_; have f4_ := f1_.symm; have f5_ := f3_.symm; clear f1_ f2_ f3_; subst f4_; subst f5_))
             refine hK.out _ _ ⟨(bqC BK359.out 0).trans rfl, (bqC BK359.out 1).trans rfl, HS2_, HS3_, HS4_, HS5_, HS6_⟩ (fun hHeld => ?_)
             clear hK K
             refine norm_ (a' := ?_) ?_ ?_
             rotate_left
             ·show Act.put _ (some 53) _ = _
              simp only [Act.put, List.setIfInBounds_toArray, List.set_cons_zero, List.set_cons_succ, i64_w, i32_w]
              rfl
             refine one_ (i := 6) (N := some 58) #[true, true, true, true, true, true, true, false, false, false, false, false] rfl rfl (one_of HT_.out (by kernel_rfl)) (by decide) (fun K hK => ?_)
             refine goes_ Try.func25 (by kernel_rfl) rfl #[.agg #[.int .i64 t398, .slice Ao65 t399.length co65], .agg #[.int .i64 ((rd_T35 y360 0).f0), .int .i64 ((rd_T35 y360 0).f1), .int .i64 ((rd_T35 y360 0).f2), .int .i64 ((rd_T35 y360 0).f3), .int .i64 ((rd_T35 y360 0).f4)], .agg #[.int .i64 4, .int .i64 2, .int .i64 10000000, .int .i64 95], .int .i64 99] (by rfl) rfl rfl (by (try simp only [List.map_toArray, List.map_cons, List.map_nil]); first | done | rfl | (simp only [List.length_drop, List.length_take]; rfl)) ?_
             with_reducible refine (liability_Causes.calls k t398 _ _ t399 ((rd_T35 y360 0).f0) ((rd_T35 y360 0).f1) ((rd_T35 y360 0).f2) ((rd_T35 y360 0).f3) ((rd_T35 y360 0).f4) 4 2 10000000 95 99 t403 t404 _ ?side1 ?side2 A12.out).mono ?_
             (case side1 => repeat (first | exact (Kd.R_reads' HO401.out).2.2 | (with_reducible refine Kd.C_alloc ?_ _) | (with_reducible refine Kd.C_drewN ?_ _) | (with_reducible refine Kd.C_drew ?_)))
             (case side2 => exact (Kd.R_reads' HO401.out).2.1)
             rintro e w66 ⟨rfl, hb⟩
             have HS2_ := (hb.cell (World.block_lt_of_cell? _ _ (hHeld.2.2.1))).trans (hHeld.2.2.1)
             have HS3_ := (hb.cell (World.block_lt_of_cell? _ _ (hHeld.2.2.2.1))).trans (hHeld.2.2.2.1)
             have HS4_ := (hb.cell (World.block_lt_of_cell? _ _ (hHeld.2.2.2.2.1))).trans (hHeld.2.2.2.2.1)
             have HS5_ := (hb.cell (World.block_lt_of_cell? _ _ (hHeld.2.2.2.2.2.1))).trans (hHeld.2.2.2.2.2.1)
             have HS6_ := (hb.cell (World.block_lt_of_cell? _ _ (hHeld.2.2.2.2.2.2))).trans (hHeld.2.2.2.2.2.2)
             refine ⟨_, rfl, ?_⟩
             have n0_ := Aside0.mk (Kd.R_below (GS.rR HO358.out) hb)
             have n1_ := Aside0.mk (Kd.R_below (GS.rR HO362.out) hb)
             have n2_ := Aside0.mk (Kd.R_below (GS.rR HO366.out) hb)
             have n3_ := Aside0.mk (Kd.R_below (GS.rR HO369.out) hb)
             have n4_ := Aside0.mk (Kd.R_below (GS.rR HO372.out) hb)
             have n5_ := Aside0.mk (Kd.R_below (GS.rR HO378.out) hb)
             have n6_ := Aside0.mk (Kd.R_below (GS.rR HO381.out) hb)
             have n7_ := Aside0.mk (Kd.R_below (GS.rR HO384.out) hb)
             have n8_ := Aside0.mk (Kd.R_below (GS.rR HO390.out) hb)
             have n9_ := Aside0.mk (Kd.R_below (GS.rR HO393.out) hb)
             have n10_ := Aside0.mk (Kd.R_below (GS.rR HO396.out) hb)
             have n11_ := Aside0.mk (Kd.R_below (GS.rR HO401.out) hb)
             have n12_ := Aside0.mk (bqB (GS.bqX BK359.out) hb)
             have n13_ := Aside0.mk (lqT (GS.lB HB.out) hb)
             clear HO358
             clear HO362
             clear HO366
             clear HO369
             clear HO372
             clear HO378
             clear HO381
             clear HO384
             clear HO390
             clear HO393
             clear HO396
             clear HO401
             clear BK359
             clear HB
             have HO358 := n0_
             have HO362 := n1_
             have HO366 := n2_
             have HO369 := n3_
             have HO372 := n4_
             have HO378 := n5_
             have HO381 := n6_
             have HO384 := n7_
             have HO390 := n8_
             have HO393 := n9_
             have HO396 := n10_
             have HO401 := n11_
             have BK359 := n12_
             have HB := n13_
             clear n0_ n1_ n2_ n3_ n4_ n5_ n6_ n7_ n8_ n9_ n10_ n11_ n12_ n13_
             (try clear hb)
             (try clear hb2)
             (try clear hk)
             (try clear hi)
             refine hK.out _ _ ⟨(bqC BK359.out 0).trans rfl, (bqC BK359.out 1).trans rfl, HS2_, HS3_, HS4_, HS5_, HS6_⟩ (fun hHeld => ?_)
             clear hK K
             refine norm_ (a' := ?_) ?_ ?_
             rotate_left
             ·show Act.put _ (some 58) _ = _
              simp only [Act.put, List.setIfInBounds_toArray, List.set_cons_zero, List.set_cons_succ, i64_w, i32_w]
              rfl
             refine GS.pu 7 (some 51) HT_.out ?_
             refine GS.pu 8 (some 59) HT_.out ?_
             refine GS.pu 9 (some 60) HT_.out ?_
             refine GS.pu 10 (some 11) HT_.out ?_
             refine GS.pu 11 (some 12) HT_.out ?_
             refine done_ (done_of HT_.out (by kernel_rfl)) ?_
             obtain ⟨hcz67_0, hcz67_1, hfz67_0, hfz67_1⟩ := GS.c2 BK359.out
             try go_wp2_with (first | ((with_reducible refine gqC (f := 12) rfl ?_); refine GS.gL (some 63) Try.func12 #[.agg #[.int .i64 3, .slice Ao39 y356.length co39]] ?_; (with_reducible refine (spilelaw51_ct.calls 3 _ _ y356 t405 t406 _ ?side1 ?side2 A13.out).mono ?_); (case side1 => repeat (first | exact (Kd.R_reads' HO358.out).2.2 | (with_reducible refine Kd.C_alloc ?_ _) | (with_reducible refine Kd.C_drewN ?_ _) | (with_reducible refine Kd.C_drew ?_))); (case side2 => exact (Kd.R_reads' HO358.out).2.1); rintro e w68 ⟨v407, rfl, ho0, hb⟩; refine ⟨_, rfl, ?_⟩; have n0_ := Aside0.mk (Kd.R_elder' (GS.rR HO358.out) (Kd.R_base ho0) hb); have n1_ := Aside0.mk (Kd.R_below (GS.rR HO362.out) hb); have n2_ := Aside0.mk (Kd.R_elder' (GS.rR HO366.out) (Kd.R_base ho0) hb); have n3_ := Aside0.mk (Kd.R_below (GS.rR HO369.out) hb); have n4_ := Aside0.mk (Kd.R_below (GS.rR HO372.out) hb); have n5_ := Aside0.mk (Kd.R_elder' (GS.rR HO378.out) (Kd.R_base ho0) hb); have n6_ := Aside0.mk (Kd.R_below (GS.rR HO381.out) hb); have n7_ := Aside0.mk (Kd.R_below (GS.rR HO384.out) hb); have n8_ := Aside0.mk (Kd.R_elder' (GS.rR HO390.out) (Kd.R_base ho0) hb); have n9_ := Aside0.mk (Kd.R_below (GS.rR HO393.out) hb); have n10_ := Aside0.mk (Kd.R_below (GS.rR HO396.out) hb); have n11_ := Aside0.mk (Kd.R_elder' (GS.rR HO401.out) (Kd.R_base ho0) hb); have n12_ := Aside0.mk (Kd.R_lower (Kd.R_new' (Kd.R_new' (Kd.R_new' (Kd.R_new' (Kd.R_new' ho0 (Kd.R_lt (GS.rR HO358.out))) (Kd.R_lt (GS.rR HO366.out))) (Kd.R_lt (GS.rR HO378.out))) (Kd.R_lt (GS.rR HO390.out))) (Kd.R_lt (GS.rR HO401.out))) (lqZ (GS.lB HB.out))); have n13_ := Aside0.mk (bqB (GS.bqX BK359.out) hb); have n14_ := Aside0.mk (lqT (GS.lB HB.out) hb); clear HO358; clear HO362; clear HO366; clear HO369; clear HO372; clear HO378; clear HO381; clear HO384; clear HO390; clear HO393; clear HO396; clear HO401; clear BK359; clear HB; have HO358 := n0_; have HO362 := n1_; have HO366 := n2_; have HO369 := n3_; have HO372 := n4_; have HO378 := n5_; have HO381 := n6_; have HO384 := n7_; have HO390 := n8_; have HO393 := n9_; have HO396 := n10_; have HO401 := n11_; have HO408 := n12_; have BK359 := n13_; have HB := n14_; clear n0_ n1_ n2_ n3_ n4_ n5_ n6_ n7_ n8_ n9_ n10_ n11_ n12_ n13_ n14_; (try clear hb); (try clear hb2); (try clear hk); (try clear hi); (try clear ho0)) | ((with_reducible refine gqC (f := 13) rfl ?_); refine GS.gL (some 65) Try.func13 #[.slice (some ad402) y360.length co46] ?_; (with_reducible refine (clone13.calls _ _ y360 t409 _ ?side1 ?side2 A14.out).mono ?_); (case side1 => repeat (first | exact (Kd.R_reads' HO362.out).2.2 | (with_reducible refine Kd.C_alloc ?_ _) | (with_reducible refine Kd.C_drewN ?_ _) | (with_reducible refine Kd.C_drew ?_))); (case side2 => exact (Kd.R_reads' HO362.out).2.1); rintro e w69 ⟨v410, rfl, ho0, hb⟩; refine ⟨_, rfl, ?_⟩; have n0_ := Aside0.mk (Kd.R_below (GS.rR HO358.out) hb); have n1_ := Aside0.mk (Kd.R_elder' (GS.rR HO362.out) (Kd.R_base ho0) hb); have n2_ := Aside0.mk (Kd.R_below (GS.rR HO366.out) hb); have n3_ := Aside0.mk (Kd.R_elder' (GS.rR HO369.out) (Kd.R_base ho0) hb); have n4_ := Aside0.mk (Kd.R_below (GS.rR HO372.out) hb); have n5_ := Aside0.mk (Kd.R_below (GS.rR HO378.out) hb); have n6_ := Aside0.mk (Kd.R_elder' (GS.rR HO381.out) (Kd.R_base ho0) hb); have n7_ := Aside0.mk (Kd.R_below (GS.rR HO384.out) hb); have n8_ := Aside0.mk (Kd.R_below (GS.rR HO390.out) hb); have n9_ := Aside0.mk (Kd.R_elder' (GS.rR HO393.out) (Kd.R_base ho0) hb); have n10_ := Aside0.mk (Kd.R_below (GS.rR HO396.out) hb); have n11_ := Aside0.mk (Kd.R_below (GS.rR HO401.out) hb); have n12_ := Aside0.mk (Kd.R_below (GS.rR HO408.out) hb); have n13_ := Aside0.mk (Kd.R_lower (Kd.R_new' (Kd.R_new' (Kd.R_new' (Kd.R_new' ho0 (Kd.R_lt (GS.rR HO362.out))) (Kd.R_lt (GS.rR HO369.out))) (Kd.R_lt (GS.rR HO381.out))) (Kd.R_lt (GS.rR HO393.out))) (lqZ (GS.lB HB.out))); have n14_ := Aside0.mk (bqB (GS.bqX BK359.out) hb); have n15_ := Aside0.mk (lqT (GS.lB HB.out) hb); clear HO358; clear HO362; clear HO366; clear HO369; clear HO372; clear HO378; clear HO381; clear HO384; clear HO390; clear HO393; clear HO396; clear HO401; clear HO408; clear BK359; clear HB; have HO358 := n0_; have HO362 := n1_; have HO366 := n2_; have HO369 := n3_; have HO372 := n4_; have HO378 := n5_; have HO381 := n6_; have HO384 := n7_; have HO390 := n8_; have HO393 := n9_; have HO396 := n10_; have HO401 := n11_; have HO408 := n12_; have HO411 := n13_; have BK359 := n14_; have HB := n15_; clear n0_ n1_ n2_ n3_ n4_ n5_ n6_ n7_ n8_ n9_ n10_ n11_ n12_ n13_ n14_ n15_; (try clear hb); (try clear hb2); (try clear hk); (try clear hi); (try clear ho0)) | ((with_reducible refine gqD (N := 67) rfl ?_); (try (refine gate_guard (by rfl) ?_; dsimp only)); refine Kd.R_lit k51 _ 51 ?hg (N := 67) ?hd (xs := ([(⟨4, 3, 20000000, 100⟩ : S51)] : List (S51))) (inner := [.int .i64 4, .int .i64 3, .int .i64 20000000, .int .i64 100]) (ok := fun _ => True) (okp := fun _ => True) ?hr ?hp (fun _ hk => hk) trivial (Below.refl _ _) (Nat.le_refl _) (by simp) ?_; (case hd => rfl); (case hg => rfl); (case hr => first | (go_simp; done) | (go_simp; rfl)); (case hp => exact (Reps.c4 (show Kd.M k51 _ _ _ (⟨4, 3, 20000000, 100⟩ : S51) [.int .i64 4, .int .i64 3, .int .i64 20000000, .int .i64 100] from (k51_mkM _ _ _ (⟨4, 3, 20000000, 100⟩ : S51) )) (Reps.none _ _))); intro v413 w70 ho71 hb hg_ hnew_; clear hg_ hnew_; (first | rw [← Ny412.out] at ho71 | (simp only [Int.reduceToNat] at ho71; rw [← Ny412.out] at ho71)); have n0_ := Aside0.mk (Kd.R_below (GS.rR HO358.out) hb); have n1_ := Aside0.mk (Kd.R_below (GS.rR HO362.out) hb); have n2_ := Aside0.mk (Kd.R_below (GS.rR HO366.out) hb); have n3_ := Aside0.mk (Kd.R_below (GS.rR HO369.out) hb); have n4_ := Aside0.mk (Kd.R_below (GS.rR HO372.out) hb); have n5_ := Aside0.mk (Kd.R_below (GS.rR HO378.out) hb); have n6_ := Aside0.mk (Kd.R_below (GS.rR HO381.out) hb); have n7_ := Aside0.mk (Kd.R_below (GS.rR HO384.out) hb); have n8_ := Aside0.mk (Kd.R_below (GS.rR HO390.out) hb); have n9_ := Aside0.mk (Kd.R_below (GS.rR HO393.out) hb); have n10_ := Aside0.mk (Kd.R_elder' (GS.rR HO396.out) (Kd.R_base ho71) hb); have n11_ := Aside0.mk (Kd.R_below (GS.rR HO401.out) hb); have n12_ := Aside0.mk (Kd.R_below (GS.rR HO408.out) hb); have n13_ := Aside0.mk (Kd.R_below (GS.rR HO411.out) hb); have n14_ := Aside0.mk (Kd.R_lower (Kd.R_new' ho71 (Kd.R_lt (GS.rR HO396.out))) (lqZ (GS.lB HB.out))); have n15_ := Aside0.mk (bqB (GS.bqX BK359.out) hb); have n16_ := Aside0.mk (lqT (GS.lB HB.out) hb); clear HO358; clear HO362; clear HO366; clear HO369; clear HO372; clear HO378; clear HO381; clear HO384; clear HO390; clear HO393; clear HO396; clear HO401; clear HO408; clear HO411; clear BK359; clear HB; have HO358 := n0_; have HO362 := n1_; have HO366 := n2_; have HO369 := n3_; have HO372 := n4_; have HO378 := n5_; have HO381 := n6_; have HO384 := n7_; have HO390 := n8_; have HO393 := n9_; have HO396 := n10_; have HO401 := n11_; have HO408 := n12_; have HO411 := n13_; have HO414 := n14_; have BK359 := n15_; have HB := n16_; clear n0_ n1_ n2_ n3_ n4_ n5_ n6_ n7_ n8_ n9_ n10_ n11_ n12_ n13_ n14_ n15_ n16_; clear hb ho71; obtain ⟨Ao72, co72, eo72⟩ := Kd.R_slice HO408.out; subst eo72; obtain ⟨Ao73, co73, eo73⟩ := Kd.R_slice HO411.out; subst eo73; obtain ⟨Ao74, co74, eo74⟩ := Kd.R_slice HO414.out; subst eo74) | ((with_reducible refine gqC (f := 21) rfl ?_); refine GS.gL (some 68) Try.func21 #[.agg #[.int .i64 t405, .slice Ao72 t406.length co72], .slice Ao73 t409.length co73, .slice Ao74 y412.length co74, .int .i64 100] ?_; (with_reducible refine (liability_Sum.calls k t405 _ _ t406 _ _ t409 _ _ y412 100 t415 t416 _ ?side1 ?side2 ?side3 ?side4 ?side5 ?side6 A15.out).mono ?_); (case side1 => repeat (first | exact (Kd.R_reads' HO408.out).2.2 | (with_reducible refine Kd.C_alloc ?_ _) | (with_reducible refine Kd.C_drewN ?_ _) | (with_reducible refine Kd.C_drew ?_))); (case side2 => exact (Kd.R_reads' HO408.out).2.1); (case side3 => repeat (first | exact (Kd.R_reads' HO411.out).2.2 | (with_reducible refine Kd.C_alloc ?_ _) | (with_reducible refine Kd.C_drewN ?_ _) | (with_reducible refine Kd.C_drew ?_))); (case side4 => exact (Kd.R_reads' HO411.out).2.1); (case side5 => repeat (first | exact (Kd.R_reads' HO414.out).2.2 | (with_reducible refine Kd.C_alloc ?_ _) | (with_reducible refine Kd.C_drewN ?_ _) | (with_reducible refine Kd.C_drew ?_))); (case side6 => exact (Kd.R_reads' HO414.out).2.1); rintro e w75 ⟨rfl, hb⟩; refine ⟨_, rfl, ?_⟩; have n0_ := Aside0.mk (Kd.R_below (GS.rR HO358.out) hb); have n1_ := Aside0.mk (Kd.R_below (GS.rR HO362.out) hb); have n2_ := Aside0.mk (Kd.R_below (GS.rR HO366.out) hb); have n3_ := Aside0.mk (Kd.R_below (GS.rR HO369.out) hb); have n4_ := Aside0.mk (Kd.R_below (GS.rR HO372.out) hb); have n5_ := Aside0.mk (Kd.R_below (GS.rR HO378.out) hb); have n6_ := Aside0.mk (Kd.R_below (GS.rR HO381.out) hb); have n7_ := Aside0.mk (Kd.R_below (GS.rR HO384.out) hb); have n8_ := Aside0.mk (Kd.R_below (GS.rR HO390.out) hb); have n9_ := Aside0.mk (Kd.R_below (GS.rR HO393.out) hb); have n10_ := Aside0.mk (Kd.R_below (GS.rR HO396.out) hb); have n11_ := Aside0.mk (Kd.R_below (GS.rR HO401.out) hb); have n12_ := Aside0.mk (Kd.R_below (GS.rR HO408.out) hb); have n13_ := Aside0.mk (Kd.R_below (GS.rR HO411.out) hb); have n14_ := Aside0.mk (Kd.R_below (GS.rR HO414.out) hb); have n15_ := Aside0.mk (bqB (GS.bqX BK359.out) hb); have n16_ := Aside0.mk (lqT (GS.lB HB.out) hb); clear HO358; clear HO362; clear HO366; clear HO369; clear HO372; clear HO378; clear HO381; clear HO384; clear HO390; clear HO393; clear HO396; clear HO401; clear HO408; clear HO411; clear HO414; clear BK359; clear HB; have HO358 := n0_; have HO362 := n1_; have HO366 := n2_; have HO369 := n3_; have HO372 := n4_; have HO378 := n5_; have HO381 := n6_; have HO384 := n7_; have HO390 := n8_; have HO393 := n9_; have HO396 := n10_; have HO401 := n11_; have HO408 := n12_; have HO411 := n13_; have HO414 := n14_; have BK359 := n15_; have HB := n16_; clear n0_ n1_ n2_ n3_ n4_ n5_ n6_ n7_ n8_ n9_ n10_ n11_ n12_ n13_ n14_ n15_ n16_; (try clear hb); (try clear hb2); (try clear hk); (try clear hi); obtain ⟨hcz76_0, hcz76_1, hfz76_0, hfz76_1⟩ := GS.c2 BK359.out) | ((with_reducible refine gqC (f := 12) rfl ?_); refine GS.gL (some 73) Try.func12 #[.agg #[.int .i64 3, .slice Ao39 y356.length co39]] ?_; (with_reducible refine (spilelaw51_ct.calls 3 _ _ y356 t417 t418 _ ?side1 ?side2 A16.out).mono ?_); (case side1 => repeat (first | exact (Kd.R_reads' HO358.out).2.2 | (with_reducible refine Kd.C_alloc ?_ _) | (with_reducible refine Kd.C_drewN ?_ _) | (with_reducible refine Kd.C_drew ?_))); (case side2 => exact (Kd.R_reads' HO358.out).2.1); rintro e w77 ⟨v419, rfl, ho0, hb⟩; refine ⟨_, rfl, ?_⟩; have n0_ := Aside0.mk (Kd.R_elder' (GS.rR HO358.out) (Kd.R_base ho0) hb); have n1_ := Aside0.mk (Kd.R_below (GS.rR HO362.out) hb); have n2_ := Aside0.mk (Kd.R_elder' (GS.rR HO366.out) (Kd.R_base ho0) hb); have n3_ := Aside0.mk (Kd.R_below (GS.rR HO369.out) hb); have n4_ := Aside0.mk (Kd.R_below (GS.rR HO372.out) hb); have n5_ := Aside0.mk (Kd.R_elder' (GS.rR HO378.out) (Kd.R_base ho0) hb); have n6_ := Aside0.mk (Kd.R_below (GS.rR HO381.out) hb); have n7_ := Aside0.mk (Kd.R_below (GS.rR HO384.out) hb); have n8_ := Aside0.mk (Kd.R_elder' (GS.rR HO390.out) (Kd.R_base ho0) hb); have n9_ := Aside0.mk (Kd.R_below (GS.rR HO393.out) hb); have n10_ := Aside0.mk (Kd.R_below (GS.rR HO396.out) hb); have n11_ := Aside0.mk (Kd.R_elder' (GS.rR HO401.out) (Kd.R_base ho0) hb); have n12_ := Aside0.mk (Kd.R_elder' (GS.rR HO408.out) (Kd.R_base ho0) hb); have n13_ := Aside0.mk (Kd.R_below (GS.rR HO411.out) hb); have n14_ := Aside0.mk (Kd.R_below (GS.rR HO414.out) hb); have n15_ := Aside0.mk (Kd.R_lower (Kd.R_new' (Kd.R_new' (Kd.R_new' (Kd.R_new' (Kd.R_new' (Kd.R_new' ho0 (Kd.R_lt (GS.rR HO358.out))) (Kd.R_lt (GS.rR HO366.out))) (Kd.R_lt (GS.rR HO378.out))) (Kd.R_lt (GS.rR HO390.out))) (Kd.R_lt (GS.rR HO401.out))) (Kd.R_lt (GS.rR HO408.out))) (lqZ (GS.lB HB.out))); have n16_ := Aside0.mk (bqB (GS.bqX BK359.out) hb); have n17_ := Aside0.mk (lqT (GS.lB HB.out) hb); clear HO358; clear HO362; clear HO366; clear HO369; clear HO372; clear HO378; clear HO381; clear HO384; clear HO390; clear HO393; clear HO396; clear HO401; clear HO408; clear HO411; clear HO414; clear BK359; clear HB; have HO358 := n0_; have HO362 := n1_; have HO366 := n2_; have HO369 := n3_; have HO372 := n4_; have HO378 := n5_; have HO381 := n6_; have HO384 := n7_; have HO390 := n8_; have HO393 := n9_; have HO396 := n10_; have HO401 := n11_; have HO408 := n12_; have HO411 := n13_; have HO414 := n14_; have HO420 := n15_; have BK359 := n16_; have HB := n17_; clear n0_ n1_ n2_ n3_ n4_ n5_ n6_ n7_ n8_ n9_ n10_ n11_ n12_ n13_ n14_ n15_ n16_ n17_; (try clear hb); (try clear hb2); (try clear hk); (try clear hi); (try clear ho0)) | ((with_reducible refine gqC (f := 13) rfl ?_); refine GS.gL (some 75) Try.func13 #[.slice (some ad402) y360.length co46] ?_; (with_reducible refine (clone13.calls _ _ y360 t421 _ ?side1 ?side2 A17.out).mono ?_); (case side1 => repeat (first | exact (Kd.R_reads' HO362.out).2.2 | (with_reducible refine Kd.C_alloc ?_ _) | (with_reducible refine Kd.C_drewN ?_ _) | (with_reducible refine Kd.C_drew ?_))); (case side2 => exact (Kd.R_reads' HO362.out).2.1); rintro e w78 ⟨v422, rfl, ho0, hb⟩; refine ⟨_, rfl, ?_⟩; have n0_ := Aside0.mk (Kd.R_below (GS.rR HO358.out) hb); have n1_ := Aside0.mk (Kd.R_elder' (GS.rR HO362.out) (Kd.R_base ho0) hb); have n2_ := Aside0.mk (Kd.R_below (GS.rR HO366.out) hb); have n3_ := Aside0.mk (Kd.R_elder' (GS.rR HO369.out) (Kd.R_base ho0) hb); have n4_ := Aside0.mk (Kd.R_below (GS.rR HO372.out) hb); have n5_ := Aside0.mk (Kd.R_below (GS.rR HO378.out) hb); have n6_ := Aside0.mk (Kd.R_elder' (GS.rR HO381.out) (Kd.R_base ho0) hb); have n7_ := Aside0.mk (Kd.R_below (GS.rR HO384.out) hb); have n8_ := Aside0.mk (Kd.R_below (GS.rR HO390.out) hb); have n9_ := Aside0.mk (Kd.R_elder' (GS.rR HO393.out) (Kd.R_base ho0) hb); have n10_ := Aside0.mk (Kd.R_below (GS.rR HO396.out) hb); have n11_ := Aside0.mk (Kd.R_below (GS.rR HO401.out) hb); have n12_ := Aside0.mk (Kd.R_below (GS.rR HO408.out) hb); have n13_ := Aside0.mk (Kd.R_elder' (GS.rR HO411.out) (Kd.R_base ho0) hb); have n14_ := Aside0.mk (Kd.R_below (GS.rR HO414.out) hb); have n15_ := Aside0.mk (Kd.R_below (GS.rR HO420.out) hb); have n16_ := Aside0.mk (Kd.R_lower (Kd.R_new' (Kd.R_new' (Kd.R_new' (Kd.R_new' (Kd.R_new' ho0 (Kd.R_lt (GS.rR HO362.out))) (Kd.R_lt (GS.rR HO369.out))) (Kd.R_lt (GS.rR HO381.out))) (Kd.R_lt (GS.rR HO393.out))) (Kd.R_lt (GS.rR HO411.out))) (lqZ (GS.lB HB.out))); have n17_ := Aside0.mk (bqB (GS.bqX BK359.out) hb); have n18_ := Aside0.mk (lqT (GS.lB HB.out) hb); clear HO358; clear HO362; clear HO366; clear HO369; clear HO372; clear HO378; clear HO381; clear HO384; clear HO390; clear HO393; clear HO396; clear HO401; clear HO408; clear HO411; clear HO414; clear HO420; clear BK359; clear HB; have HO358 := n0_; have HO362 := n1_; have HO366 := n2_; have HO369 := n3_; have HO372 := n4_; have HO378 := n5_; have HO381 := n6_; have HO384 := n7_; have HO390 := n8_; have HO393 := n9_; have HO396 := n10_; have HO401 := n11_; have HO408 := n12_; have HO411 := n13_; have HO414 := n14_; have HO420 := n15_; have HO423 := n16_; have BK359 := n17_; have HB := n18_; clear n0_ n1_ n2_ n3_ n4_ n5_ n6_ n7_ n8_ n9_ n10_ n11_ n12_ n13_ n14_ n15_ n16_ n17_ n18_; (try clear hb); (try clear hb2); (try clear hk); (try clear hi); (try clear ho0); obtain ⟨Ao79, co79, eo79⟩ := Kd.R_slice HO420.out; subst eo79; obtain ⟨Ao80, co80, eo80⟩ := Kd.R_slice HO423.out; subst eo80) | ((with_reducible refine gqC (f := 15) rfl ?_); refine GS.gL (some 76) Try.func15 #[.agg #[.int .i64 t417, .slice Ao79 t418.length co79], .slice Ao80 t421.length co80, .int .i64 100] ?_; (with_reducible refine (liability_Bonds.calls k t417 _ _ t418 _ _ t421 100 t424 t427 _ ?side1 ?side2 ?side3 ?side4 A18.out).mono ?_); (case side1 => repeat (first | exact (Kd.R_reads' HO420.out).2.2 | (with_reducible refine Kd.C_alloc ?_ _) | (with_reducible refine Kd.C_drewN ?_ _) | (with_reducible refine Kd.C_drew ?_))); (case side2 => exact (Kd.R_reads' HO420.out).2.1); (case side3 => repeat (first | exact (Kd.R_reads' HO423.out).2.2 | (with_reducible refine Kd.C_alloc ?_ _) | (with_reducible refine Kd.C_drewN ?_ _) | (with_reducible refine Kd.C_drew ?_))); (case side4 => exact (Kd.R_reads' HO423.out).2.1); rintro e w81 ⟨v425, rfl, ho0, hb⟩; refine ⟨_, rfl, ?_⟩; have n0_ := Aside0.mk (Kd.R_below (GS.rR HO358.out) hb); have n1_ := Aside0.mk (Kd.R_below (GS.rR HO362.out) hb); have n2_ := Aside0.mk (Kd.R_below (GS.rR HO366.out) hb); have n3_ := Aside0.mk (Kd.R_below (GS.rR HO369.out) hb); have n4_ := Aside0.mk (Kd.R_below (GS.rR HO372.out) hb); have n5_ := Aside0.mk (Kd.R_below (GS.rR HO378.out) hb); have n6_ := Aside0.mk (Kd.R_below (GS.rR HO381.out) hb); have n7_ := Aside0.mk (Kd.R_below (GS.rR HO384.out) hb); have n8_ := Aside0.mk (Kd.R_below (GS.rR HO390.out) hb); have n9_ := Aside0.mk (Kd.R_below (GS.rR HO393.out) hb); have n10_ := Aside0.mk (Kd.R_below (GS.rR HO396.out) hb); have n11_ := Aside0.mk (Kd.R_below (GS.rR HO401.out) hb); have n12_ := Aside0.mk (Kd.R_below (GS.rR HO408.out) hb); have n13_ := Aside0.mk (Kd.R_below (GS.rR HO411.out) hb); have n14_ := Aside0.mk (Kd.R_below (GS.rR HO414.out) hb); have n15_ := Aside0.mk (Kd.R_below (GS.rR HO420.out) hb); have n16_ := Aside0.mk (Kd.R_below (GS.rR HO423.out) hb); have n17_ := Aside0.mk (Kd.R_lower ho0 (lqZ (GS.lB HB.out))); have n18_ := Aside0.mk (bqB (GS.bqX BK359.out) hb); have n19_ := Aside0.mk (lqT (GS.lB HB.out) hb); clear HO358; clear HO362; clear HO366; clear HO369; clear HO372; clear HO378; clear HO381; clear HO384; clear HO390; clear HO393; clear HO396; clear HO401; clear HO408; clear HO411; clear HO414; clear HO420; clear HO423; clear BK359; clear HB; have HO358 := n0_; have HO362 := n1_; have HO366 := n2_; have HO369 := n3_; have HO372 := n4_; have HO378 := n5_; have HO381 := n6_; have HO384 := n7_; have HO390 := n8_; have HO393 := n9_; have HO396 := n10_; have HO401 := n11_; have HO408 := n12_; have HO411 := n13_; have HO414 := n14_; have HO420 := n15_; have HO423 := n16_; have HO426 := n17_; have BK359 := n18_; have HB := n19_; clear n0_ n1_ n2_ n3_ n4_ n5_ n6_ n7_ n8_ n9_ n10_ n11_ n12_ n13_ n14_ n15_ n16_ n17_ n18_ n19_; (try clear hb); (try clear hb2); (try clear hk); (try clear hi); (try clear ho0)) | ((with_reducible refine gqC (f := 13) rfl ?_); refine GS.gL (some 81) Try.func13 #[.slice (some ad402) y360.length co46] ?_; (with_reducible refine (clone13.calls _ _ y360 t428 _ ?side1 ?side2 A19.out).mono ?_); (case side1 => repeat (first | exact (Kd.R_reads' HO362.out).2.2 | (with_reducible refine Kd.C_alloc ?_ _) | (with_reducible refine Kd.C_drewN ?_ _) | (with_reducible refine Kd.C_drew ?_))); (case side2 => exact (Kd.R_reads' HO362.out).2.1); rintro e w82 ⟨v429, rfl, ho0, hb⟩; refine ⟨_, rfl, ?_⟩; have n0_ := Aside0.mk (Kd.R_below (GS.rR HO358.out) hb); have n1_ := Aside0.mk (Kd.R_elder' (GS.rR HO362.out) (Kd.R_base ho0) hb); have n2_ := Aside0.mk (Kd.R_below (GS.rR HO366.out) hb); have n3_ := Aside0.mk (Kd.R_elder' (GS.rR HO369.out) (Kd.R_base ho0) hb); have n4_ := Aside0.mk (Kd.R_below (GS.rR HO372.out) hb); have n5_ := Aside0.mk (Kd.R_below (GS.rR HO378.out) hb); have n6_ := Aside0.mk (Kd.R_elder' (GS.rR HO381.out) (Kd.R_base ho0) hb); have n7_ := Aside0.mk (Kd.R_below (GS.rR HO384.out) hb); have n8_ := Aside0.mk (Kd.R_below (GS.rR HO390.out) hb); have n9_ := Aside0.mk (Kd.R_elder' (GS.rR HO393.out) (Kd.R_base ho0) hb); have n10_ := Aside0.mk (Kd.R_below (GS.rR HO396.out) hb); have n11_ := Aside0.mk (Kd.R_below (GS.rR HO401.out) hb); have n12_ := Aside0.mk (Kd.R_below (GS.rR HO408.out) hb); have n13_ := Aside0.mk (Kd.R_elder' (GS.rR HO411.out) (Kd.R_base ho0) hb); have n14_ := Aside0.mk (Kd.R_below (GS.rR HO414.out) hb); have n15_ := Aside0.mk (Kd.R_below (GS.rR HO420.out) hb); have n16_ := Aside0.mk (Kd.R_elder' (GS.rR HO423.out) (Kd.R_base ho0) hb); have n17_ := Aside0.mk (Kd.R_below (GS.rR HO426.out) hb); have n18_ := Aside0.mk (Kd.R_lower (Kd.R_new' (Kd.R_new' (Kd.R_new' (Kd.R_new' (Kd.R_new' (Kd.R_new' ho0 (Kd.R_lt (GS.rR HO362.out))) (Kd.R_lt (GS.rR HO369.out))) (Kd.R_lt (GS.rR HO381.out))) (Kd.R_lt (GS.rR HO393.out))) (Kd.R_lt (GS.rR HO411.out))) (Kd.R_lt (GS.rR HO423.out))) (lqZ (GS.lB HB.out))); have n19_ := Aside0.mk (bqB (GS.bqX BK359.out) hb); have n20_ := Aside0.mk (lqT (GS.lB HB.out) hb); clear HO358; clear HO362; clear HO366; clear HO369; clear HO372; clear HO378; clear HO381; clear HO384; clear HO390; clear HO393; clear HO396; clear HO401; clear HO408; clear HO411; clear HO414; clear HO420; clear HO423; clear HO426; clear BK359; clear HB; have HO358 := n0_; have HO362 := n1_; have HO366 := n2_; have HO369 := n3_; have HO372 := n4_; have HO378 := n5_; have HO381 := n6_; have HO384 := n7_; have HO390 := n8_; have HO393 := n9_; have HO396 := n10_; have HO401 := n11_; have HO408 := n12_; have HO411 := n13_; have HO414 := n14_; have HO420 := n15_; have HO423 := n16_; have HO426 := n17_; have HO430 := n18_; have BK359 := n19_; have HB := n20_; clear n0_ n1_ n2_ n3_ n4_ n5_ n6_ n7_ n8_ n9_ n10_ n11_ n12_ n13_ n14_ n15_ n16_ n17_ n18_ n19_ n20_; (try clear hb); (try clear hb2); (try clear hk); (try clear hi); (try clear ho0); obtain ⟨Ao83, co83, eo83⟩ := Kd.R_slice HO430.out; subst eo83) | ((with_reducible refine gqC (f := 28) rfl ?_); refine GS.gL (some 82) Try.func28 #[.slice Ao83 t428.length co83] ?_; (with_reducible refine (liability_Check.calls k _ _ t428 t431 t432 _ ?side1 ?side2 A20.out).mono ?_); (case side1 => repeat (first | exact (Kd.R_reads' HO430.out).2.2 | (with_reducible refine Kd.C_alloc ?_ _) | (with_reducible refine Kd.C_drewN ?_ _) | (with_reducible refine Kd.C_drew ?_))); (case side2 => exact (Kd.R_reads' HO430.out).2.1); rintro e w84 ⟨rfl, hb⟩; refine ⟨_, rfl, ?_⟩; have n0_ := Aside0.mk (Kd.R_below (GS.rR HO358.out) hb); have n1_ := Aside0.mk (Kd.R_below (GS.rR HO362.out) hb); have n2_ := Aside0.mk (Kd.R_below (GS.rR HO366.out) hb); have n3_ := Aside0.mk (Kd.R_below (GS.rR HO369.out) hb); have n4_ := Aside0.mk (Kd.R_below (GS.rR HO372.out) hb); have n5_ := Aside0.mk (Kd.R_below (GS.rR HO378.out) hb); have n6_ := Aside0.mk (Kd.R_below (GS.rR HO381.out) hb); have n7_ := Aside0.mk (Kd.R_below (GS.rR HO384.out) hb); have n8_ := Aside0.mk (Kd.R_below (GS.rR HO390.out) hb); have n9_ := Aside0.mk (Kd.R_below (GS.rR HO393.out) hb); have n10_ := Aside0.mk (Kd.R_below (GS.rR HO396.out) hb); have n11_ := Aside0.mk (Kd.R_below (GS.rR HO401.out) hb); have n12_ := Aside0.mk (Kd.R_below (GS.rR HO408.out) hb); have n13_ := Aside0.mk (Kd.R_below (GS.rR HO411.out) hb); have n14_ := Aside0.mk (Kd.R_below (GS.rR HO414.out) hb); have n15_ := Aside0.mk (Kd.R_below (GS.rR HO420.out) hb); have n16_ := Aside0.mk (Kd.R_below (GS.rR HO423.out) hb); have n17_ := Aside0.mk (Kd.R_below (GS.rR HO426.out) hb); have n18_ := Aside0.mk (Kd.R_below (GS.rR HO430.out) hb); have n19_ := Aside0.mk (bqB (GS.bqX BK359.out) hb); have n20_ := Aside0.mk (lqT (GS.lB HB.out) hb); clear HO358; clear HO362; clear HO366; clear HO369; clear HO372; clear HO378; clear HO381; clear HO384; clear HO390; clear HO393; clear HO396; clear HO401; clear HO408; clear HO411; clear HO414; clear HO420; clear HO423; clear HO426; clear HO430; clear BK359; clear HB; have HO358 := n0_; have HO362 := n1_; have HO366 := n2_; have HO369 := n3_; have HO372 := n4_; have HO378 := n5_; have HO381 := n6_; have HO384 := n7_; have HO390 := n8_; have HO393 := n9_; have HO396 := n10_; have HO401 := n11_; have HO408 := n12_; have HO411 := n13_; have HO414 := n14_; have HO420 := n15_; have HO423 := n16_; have HO426 := n17_; have HO430 := n18_; have BK359 := n19_; have HB := n20_; clear n0_ n1_ n2_ n3_ n4_ n5_ n6_ n7_ n8_ n9_ n10_ n11_ n12_ n13_ n14_ n15_ n16_ n17_ n18_ n19_ n20_; (try clear hb); (try clear hb2); (try clear hk); (try clear hi)))
             have n0_ := Aside0.mk (Kd.R_drew HO358.out)
             have n1_ := Aside0.mk (Kd.R_drew HO362.out)
             have n2_ := Aside0.mk (Kd.R_drew HO366.out)
             have n3_ := Aside0.mk (Kd.R_drew HO369.out)
             have n4_ := Aside0.mk (Kd.R_drew HO372.out)
             have n5_ := Aside0.mk (Kd.R_drew HO378.out)
             have n6_ := Aside0.mk (Kd.R_drew HO381.out)
             have n7_ := Aside0.mk (Kd.R_drew HO384.out)
             have n8_ := Aside0.mk (Kd.R_drew HO390.out)
             have n9_ := Aside0.mk (Kd.R_drew HO393.out)
             have n10_ := Aside0.mk (Kd.R_drew HO396.out)
             have n11_ := Aside0.mk (Kd.R_drew HO401.out)
             have n12_ := Aside0.mk (Kd.R_drew HO408.out)
             have n13_ := Aside0.mk (Kd.R_drew HO411.out)
             have n14_ := Aside0.mk (Kd.R_drew HO414.out)
             have n15_ := Aside0.mk (Kd.R_drew HO420.out)
             have n16_ := Aside0.mk (Kd.R_drew HO423.out)
             have n17_ := Aside0.mk (Kd.R_drew HO426.out)
             have n18_ := Aside0.mk (Kd.R_drew HO430.out)
             have n19_ := Aside0.mk (bqD BK359.out)
             have n20_ := Aside0.mk (lqD HB.out)
             clear HO358
             clear HO362
             clear HO366
             clear HO369
             clear HO372
             clear HO378
             clear HO381
             clear HO384
             clear HO390
             clear HO393
             clear HO396
             clear HO401
             clear HO408
             clear HO411
             clear HO414
             clear HO420
             clear HO423
             clear HO426
             clear HO430
             clear BK359
             clear HB
             have HO358 := n0_
             have HO362 := n1_
             have HO366 := n2_
             have HO369 := n3_
             have HO372 := n4_
             have HO378 := n5_
             have HO381 := n6_
             have HO384 := n7_
             have HO390 := n8_
             have HO393 := n9_
             have HO396 := n10_
             have HO401 := n11_
             have HO408 := n12_
             have HO411 := n13_
             have HO414 := n14_
             have HO420 := n15_
             have HO423 := n16_
             have HO426 := n17_
             have HO430 := n18_
             have BK359 := n19_
             have HB := n20_
             clear n0_ n1_ n2_ n3_ n4_ n5_ n6_ n7_ n8_ n9_ n10_ n11_ n12_ n13_ n14_ n15_ n16_ n17_ n18_ n19_ n20_
             have p449 : 0 ≤ (0 : Int) := (by omega)
             have q449 : 0 < (y360.length : Int) := of_decide_eq_true (by first | (with_reducible assumption) | assumption)
             obtain ⟨ad449, e449, hx449_0, hx449_1, hx449_2, hx449_3, hx449_4⟩ := at_T35 (Kd.R_reads' HO362.out).2.2 0 p449 q449
             obtain rfl : ad402 = ad449 := (by injection e449)
             have qi449 : (0 < y360.length) = True := eq_true (by omega)
             (try rw [show ((0 : Int)).toNat = 0 from rfl] at hx449_0)
             (try rw [show 0 * 5 = 0 from rfl] at hx449_0)
             (try rw [Addr.add_zero'] at hx449_0)
             (try rw [show ((0 : Int)).toNat = 0 from rfl] at hx449_1)
             (try rw [show 0 * 5 = 0 from rfl] at hx449_1)
             (try rw [Addr.add_zero'] at hx449_1)
             (try rw [show ((0 : Int)).toNat = 0 from rfl] at hx449_2)
             (try rw [show 0 * 5 = 0 from rfl] at hx449_2)
             (try rw [Addr.add_zero'] at hx449_2)
             (try rw [show ((0 : Int)).toNat = 0 from rfl] at hx449_3)
             (try rw [show 0 * 5 = 0 from rfl] at hx449_3)
             (try rw [Addr.add_zero'] at hx449_3)
             (try rw [show ((0 : Int)).toNat = 0 from rfl] at hx449_4)
             (try rw [show 0 * 5 = 0 from rfl] at hx449_4)
             (try rw [Addr.add_zero'] at hx449_4)
             replace p449 := eq_true p449
             replace q449 := eq_true q449
             have p450 : 0 ≤ (0 : Int) := (by omega)
             have q450 : 0 < (t394.length : Int) := of_decide_eq_true (by first | (with_reducible assumption) | assumption)
             obtain ⟨Ao96, co96, eo96⟩ := Kd.R_slice HO396.out
             subst eo96
             obtain ⟨ad450, e450, hx450_0, hx450_1, hx450_2, hx450_3⟩ := at_T51 (Kd.R_reads' HO396.out).2.2 0 p450 q450
             cases e450
             have qi450 : (0 < t394.length) = True := eq_true (by omega)
             (try rw [show ((0 : Int)).toNat = 0 from rfl] at hx450_0)
             (try rw [show 0 * 4 = 0 from rfl] at hx450_0)
             (try rw [Addr.add_zero'] at hx450_0)
             (try rw [show ((0 : Int)).toNat = 0 from rfl] at hx450_1)
             (try rw [show 0 * 4 = 0 from rfl] at hx450_1)
             (try rw [Addr.add_zero'] at hx450_1)
             (try rw [show ((0 : Int)).toNat = 0 from rfl] at hx450_2)
             (try rw [show 0 * 4 = 0 from rfl] at hx450_2)
             (try rw [Addr.add_zero'] at hx450_2)
             (try rw [show ((0 : Int)).toNat = 0 from rfl] at hx450_3)
             (try rw [show 0 * 4 = 0 from rfl] at hx450_3)
             (try rw [Addr.add_zero'] at hx450_3)
             replace p450 := eq_true p450
             replace q450 := eq_true q450
             refine start_ (n := 66) (S := fun w' => w'.cell? ad402 = some (.int .i64 ((rd_T35 y360 0).f0)) ∧ w'.cell? ⟨ad402.block, ad402.off + 1, none⟩ = some (.int .i64 ((rd_T35 y360 0).f1)) ∧ w'.cell? ⟨ad402.block, ad402.off + 2, none⟩ = some (.int .i64 ((rd_T35 y360 0).f2)) ∧ w'.cell? ⟨ad402.block, ad402.off + 3, none⟩ = some (.int .i64 ((rd_T35 y360 0).f3)) ∧ w'.cell? ⟨ad402.block, ad402.off + 4, none⟩ = some (.int .i64 ((rd_T35 y360 0).f4)) ∧ w'.cell? ad450 = some (.int .i64 ((rd_T51 t394 0).f0)) ∧ w'.cell? ⟨ad450.block, ad450.off + 1, none⟩ = some (.int .i64 ((rd_T51 t394 0).f1)) ∧ w'.cell? ⟨ad450.block, ad450.off + 2, none⟩ = some (.int .i64 ((rd_T51 t394 0).f2)) ∧ w'.cell? ⟨ad450.block, ad450.off + 3, none⟩ = some (.int .i64 ((rd_T51 t394 0).f3))) (ds := []) #[false, false, false, false, false, false, false, false, false, false, false, false, false, false, false, false, false, false, false, false, false, false, false, false, false, false, false, false, false, false, false, false, false, false, false, false, false, false, false, false, false, false, false, false, false, false, false, false, false, false, false, false, false, false, false, false, false, false, false, false, false, false, false, false, false, false] (by kernel_rfl) rfl rfl ⟨hx449_0, hx449_1, hx449_2, hx449_3, hx449_4, hx450_0, hx450_1, hx450_2, hx450_3⟩ (fun hHeld => ?_); refine with_tabW spilelaw51_awake.tab10 spilelaw51_awake.bits10 (fun HT_ HW_ => ?_)
             generalize w84.drew = w85 at HO358 HO362 HO366 HO369 HO372 HO378 HO381 HO384 HO390 HO393 HO396 HO401 HO408 HO411 HO414 HO420 HO423 HO426 HO430 BK359 HB hx449_0 hx449_1 hx449_2 hx449_3 hx449_4 hx450_0 hx450_1 hx450_2 hx450_3 hHeld ⊢
             refine GS.pu 0 (some 85) HT_.out ?_
             refine GS.pu 1 (some 86) HT_.out ?_
             refine GS.pu 2 (some 87) HT_.out ?_
             refine GS.pu 3 (some 88) HT_.out ?_
             refine GS.pu 4 (some 89) HT_.out ?_
             refine GS.pu 5 (some 90) HT_.out ?_
             refine GS.pu 6 (some 91) HT_.out ?_
             refine GS.pu 7 (some 92) HT_.out ?_
             refine GS.pu 8 (some 93) HT_.out ?_
             refine GS.pu 9 (some 94) HT_.out ?_
             refine GS.pu 10 (some 95) HT_.out ?_
             refine GS.pu 11 (some 96) HT_.out ?_
             refine GS.pu 12 (some 97) HT_.out ?_
             refine GS.pu 13 (some 98) HT_.out ?_
             refine GS.pu 14 (some 99) HT_.out ?_
             refine GS.pu 15 (some 100) HT_.out ?_
             refine one_ (i := 16) (N := some 101) #[true, true, true, true, true, true, true, true, true, true, true, true, true, true, true, true, true, false, false, false, false, false, false, false, false, false, false, false, false, false, false, false, false, false, false, false, false, false, false, false, false, false, false, false, false, false, false, false, false, false, false, false, false, false, false, false, false, false, false, false, false, false, false, false, false, false] rfl rfl (one_of HT_.out (by kernel_rfl)) (by decide) (fun K hK => ?_)
             refine Kd.R_lit_step (Kd.int .i64) _ 3 ?hg (N := 101) ?hd (xs := ([2000] : List Int)) (inner := [.int .i64 2000]) (ok := fun _ => True) (okp := fun _ => True) ?hr ?hp (fun _ hk => hk) trivial (Below.refl _ _) (Nat.le_refl _) (by simp) ?_; (case hd => rfl); (case hg => rfl); (case hr => first | (go_simp; done) | (go_simp; rfl)); (case hp => exact (Reps.one (show Kd.M (Kd.int .i64) _ _ _ 2000 [.int .i64 2000] from rfl) (Reps.none _ _)))
             intro v434 w86 ho87 hb hg_ hnew_
             have HS0_ := (hb.cell (World.block_lt_of_cell? _ _ (hHeld.1))).trans (hHeld.1)
             have HS1_ := (hb.cell (World.block_lt_of_cell? _ _ (hHeld.2.1))).trans (hHeld.2.1)
             have HS2_ := (hb.cell (World.block_lt_of_cell? _ _ (hHeld.2.2.1))).trans (hHeld.2.2.1)
             have HS3_ := (hb.cell (World.block_lt_of_cell? _ _ (hHeld.2.2.2.1))).trans (hHeld.2.2.2.1)
             have HS4_ := (hb.cell (World.block_lt_of_cell? _ _ (hHeld.2.2.2.2.1))).trans (hHeld.2.2.2.2.1)
             have HS5_ := (hb.cell (World.block_lt_of_cell? _ _ (hHeld.2.2.2.2.2.1))).trans (hHeld.2.2.2.2.2.1)
             have HS6_ := (hb.cell (World.block_lt_of_cell? _ _ (hHeld.2.2.2.2.2.2.1))).trans (hHeld.2.2.2.2.2.2.1)
             have HS7_ := (hb.cell (World.block_lt_of_cell? _ _ (hHeld.2.2.2.2.2.2.2.1))).trans (hHeld.2.2.2.2.2.2.2.1)
             have HS8_ := (hb.cell (World.block_lt_of_cell? _ _ (hHeld.2.2.2.2.2.2.2.2))).trans (hHeld.2.2.2.2.2.2.2.2)
             clear hg_ hnew_
             (first | rw [← Ny433.out] at ho87 | (simp only [Int.reduceToNat] at ho87; rw [← Ny433.out] at ho87))
             have n0_ := Aside0.mk (Kd.R_below (GS.rR HO358.out) hb)
             have n1_ := Aside0.mk (Kd.R_below (GS.rR HO362.out) hb)
             have n2_ := Aside0.mk (Kd.R_below (GS.rR HO366.out) hb)
             have n3_ := Aside0.mk (Kd.R_below (GS.rR HO369.out) hb)
             have n4_ := Aside0.mk (Kd.R_elder' (GS.rR HO372.out) (Kd.R_base ho87) hb)
             have n5_ := Aside0.mk (Kd.R_below (GS.rR HO378.out) hb)
             have n6_ := Aside0.mk (Kd.R_below (GS.rR HO381.out) hb)
             have n7_ := Aside0.mk (Kd.R_elder' (GS.rR HO384.out) (Kd.R_base ho87) hb)
             have n8_ := Aside0.mk (Kd.R_below (GS.rR HO390.out) hb)
             have n9_ := Aside0.mk (Kd.R_below (GS.rR HO393.out) hb)
             have n10_ := Aside0.mk (Kd.R_below (GS.rR HO396.out) hb)
             have n11_ := Aside0.mk (Kd.R_below (GS.rR HO401.out) hb)
             have n12_ := Aside0.mk (Kd.R_below (GS.rR HO408.out) hb)
             have n13_ := Aside0.mk (Kd.R_below (GS.rR HO411.out) hb)
             have n14_ := Aside0.mk (Kd.R_below (GS.rR HO414.out) hb)
             have n15_ := Aside0.mk (Kd.R_below (GS.rR HO420.out) hb)
             have n16_ := Aside0.mk (Kd.R_below (GS.rR HO423.out) hb)
             have n17_ := Aside0.mk (Kd.R_below (GS.rR HO426.out) hb)
             have n18_ := Aside0.mk (Kd.R_below (GS.rR HO430.out) hb)
             have n19_ := Aside0.mk (Kd.R_lower (Kd.R_new' (Kd.R_new' ho87 (Kd.R_lt (GS.rR HO372.out))) (Kd.R_lt (GS.rR HO384.out))) (lqZ (GS.lB HB.out)))
             have n20_ := Aside0.mk (bqB (GS.bqX BK359.out) hb)
             have n21_ := Aside0.mk (lqT (GS.lB HB.out) hb)
             clear HO358
             clear HO362
             clear HO366
             clear HO369
             clear HO372
             clear HO378
             clear HO381
             clear HO384
             clear HO390
             clear HO393
             clear HO396
             clear HO401
             clear HO408
             clear HO411
             clear HO414
             clear HO420
             clear HO423
             clear HO426
             clear HO430
             clear BK359
             clear HB
             have HO358 := n0_
             have HO362 := n1_
             have HO366 := n2_
             have HO369 := n3_
             have HO372 := n4_
             have HO378 := n5_
             have HO381 := n6_
             have HO384 := n7_
             have HO390 := n8_
             have HO393 := n9_
             have HO396 := n10_
             have HO401 := n11_
             have HO408 := n12_
             have HO411 := n13_
             have HO414 := n14_
             have HO420 := n15_
             have HO423 := n16_
             have HO426 := n17_
             have HO430 := n18_
             have HO435 := n19_
             have BK359 := n20_
             have HB := n21_
             clear n0_ n1_ n2_ n3_ n4_ n5_ n6_ n7_ n8_ n9_ n10_ n11_ n12_ n13_ n14_ n15_ n16_ n17_ n18_ n19_ n20_ n21_
             clear hb ho87
             obtain ⟨Ao88, co88, eo88⟩ := Kd.R_slice HO372.out
             (first | subst eo88 | (injection eo88 with f1_ f2_ f3_; have f4_ := f1_.symm; have f5_ := f3_.symm; clear f1_ f2_ f3_; subst f4_; subst f5_))
             obtain ⟨Ao89, co89, eo89⟩ := Kd.R_slice HO435.out
             (first | subst eo89 | (injection eo89 with f1_ f2_ f3_; have f4_ := f1_.symm; have f5_ := f3_.symm; clear f1_ f2_ f3_; subst f4_; subst f5_))
             refine hK.out _ _ ⟨HS0_, HS1_, HS2_, HS3_, HS4_, HS5_, HS6_, HS7_, HS8_⟩ (fun hHeld => ?_)
             clear hK K
             refine norm_ (a' := ?_) ?_ ?_
             rotate_left
             ·show Act.put _ (some 101) _ = _
              simp only [Act.put, List.setIfInBounds_toArray, List.set_cons_zero, List.set_cons_succ, i64_w, i32_w]
              rfl
             refine one_ (i := 17) (N := some 102) #[true, true, true, true, true, true, true, true, true, true, true, true, true, true, true, true, true, true, false, false, false, false, false, false, false, false, false, false, false, false, false, false, false, false, false, false, false, false, false, false, false, false, false, false, false, false, false, false, false, false, false, false, false, false, false, false, false, false, false, false, false, false, false, false, false, false] rfl rfl (one_of HT_.out (by kernel_rfl)) (by decide) (fun K hK => ?_)
             refine goes_ Try.func17 (by kernel_rfl) rfl #[.slice Ao88 t370.length co88, .slice Ao89 y433.length co89] (by rfl) rfl rfl (by (try simp only [List.map_toArray, List.map_cons, List.map_nil]); first | done | rfl | (simp only [List.length_drop, List.length_take]; rfl)) ?_
             with_reducible refine (slices_Equal_int_int.calls k _ _ t370 _ _ y433 true _ ?side1 ?side2 ?side3 ?side4 A22.out).mono ?_
             (case side1 => repeat (first | exact (Kd.R_reads' HO372.out).2.2 | (with_reducible refine Kd.C_alloc ?_ _) | (with_reducible refine Kd.C_drewN ?_ _) | (with_reducible refine Kd.C_drew ?_)))
             (case side2 => exact (Kd.R_reads' HO372.out).2.1)
             (case side3 => repeat (first | exact (Kd.R_reads' HO435.out).2.2 | (with_reducible refine Kd.C_alloc ?_ _) | (with_reducible refine Kd.C_drewN ?_ _) | (with_reducible refine Kd.C_drew ?_)))
             (case side4 => exact (Kd.R_reads' HO435.out).2.1)
             rintro e w' ⟨rfl, ⟨nd, rfl⟩⟩
             refine ⟨_, rfl, ?_⟩
             refine hK.out _ _ ⟨hHeld.1, hHeld.2.1, hHeld.2.2.1, hHeld.2.2.2.1, hHeld.2.2.2.2.1, hHeld.2.2.2.2.2.1, hHeld.2.2.2.2.2.2.1, hHeld.2.2.2.2.2.2.2.1, hHeld.2.2.2.2.2.2.2.2⟩ (fun hHeld => ?_)
             clear hK K
             refine norm_ (a' := ?_) ?_ ?_
             rotate_left
             ·show Act.put _ (some 102) _ = _
              simp only [Act.put, List.setIfInBounds_toArray, List.set_cons_zero, List.set_cons_succ, i64_w, i32_w]
              rfl
             refine GS.pu 18 (some 103) HT_.out ?_
             refine GS.pu 19 (some 104) HT_.out ?_
             refine GS.pu 20 (some 105) HT_.out ?_
             refine GS.pu 21 (some 106) HT_.out ?_
             refine GS.pu 22 (some 107) HT_.out ?_
             refine GS.pu 23 (some 108) HT_.out ?_
             refine GS.pu 24 (some 109) HT_.out ?_
             refine one_ (i := 25) (N := some 110) #[true, true, true, true, true, true, true, true, true, true, true, true, true, true, true, true, true, true, true, true, true, true, true, true, true, true, false, false, false, false, false, false, false, false, false, false, false, false, false, false, false, false, false, false, false, false, false, false, false, false, false, false, false, false, false, false, false, false, false, false, false, false, false, false, false, false] rfl rfl (one_of HT_.out (by kernel_rfl)) (by decide) (fun K hK => ?_)
             refine Kd.R_lit_step (Kd.int .i64) _ 3 ?hg (N := 110) ?hd (xs := ([3000] : List Int)) (inner := [.int .i64 3000]) (ok := fun _ => True) (okp := fun _ => True) ?hr ?hp (fun _ hk => hk) trivial (Below.refl _ _) (Nat.le_refl _) (by simp) ?_; (case hd => rfl); (case hg => rfl); (case hr => first | (go_simp; done) | (go_simp; rfl)); (case hp => exact (Reps.one (show Kd.M (Kd.int .i64) _ _ _ 3000 [.int .i64 3000] from rfl) (Reps.none _ _)))
             intro v438 w90 ho91 hb hg_ hnew_
             have HS0_ := (hb.cell (World.block_lt_of_cell? _ _ (hHeld.1))).trans (hHeld.1)
             have HS1_ := (hb.cell (World.block_lt_of_cell? _ _ (hHeld.2.1))).trans (hHeld.2.1)
             have HS2_ := (hb.cell (World.block_lt_of_cell? _ _ (hHeld.2.2.1))).trans (hHeld.2.2.1)
             have HS3_ := (hb.cell (World.block_lt_of_cell? _ _ (hHeld.2.2.2.1))).trans (hHeld.2.2.2.1)
             have HS4_ := (hb.cell (World.block_lt_of_cell? _ _ (hHeld.2.2.2.2.1))).trans (hHeld.2.2.2.2.1)
             have HS5_ := (hb.cell (World.block_lt_of_cell? _ _ (hHeld.2.2.2.2.2.1))).trans (hHeld.2.2.2.2.2.1)
             have HS6_ := (hb.cell (World.block_lt_of_cell? _ _ (hHeld.2.2.2.2.2.2.1))).trans (hHeld.2.2.2.2.2.2.1)
             have HS7_ := (hb.cell (World.block_lt_of_cell? _ _ (hHeld.2.2.2.2.2.2.2.1))).trans (hHeld.2.2.2.2.2.2.2.1)
             have HS8_ := (hb.cell (World.block_lt_of_cell? _ _ (hHeld.2.2.2.2.2.2.2.2))).trans (hHeld.2.2.2.2.2.2.2.2)
             clear hg_ hnew_
             (first | rw [← Ny437.out] at ho91 | (simp only [Int.reduceToNat] at ho91; rw [← Ny437.out] at ho91))
             have n0_ := Aside0.mk (Kd.R_below (GS.rR HO358.out) hb)
             have n1_ := Aside0.mk (Kd.R_below (GS.rR HO362.out) hb)
             have n2_ := Aside0.mk (Kd.R_below (GS.rR HO366.out) hb)
             have n3_ := Aside0.mk (Kd.R_below (GS.rR HO369.out) hb)
             have n4_ := Aside0.mk (Kd.R_elder' (GS.rR HO372.out) (Kd.R_base ho91) hb)
             have n5_ := Aside0.mk (Kd.R_below (GS.rR HO378.out) hb)
             have n6_ := Aside0.mk (Kd.R_below (GS.rR HO381.out) hb)
             have n7_ := Aside0.mk (Kd.R_elder' (GS.rR HO384.out) (Kd.R_base ho91) hb)
             have n8_ := Aside0.mk (Kd.R_below (GS.rR HO390.out) hb)
             have n9_ := Aside0.mk (Kd.R_below (GS.rR HO393.out) hb)
             have n10_ := Aside0.mk (Kd.R_below (GS.rR HO396.out) hb)
             have n11_ := Aside0.mk (Kd.R_below (GS.rR HO401.out) hb)
             have n12_ := Aside0.mk (Kd.R_below (GS.rR HO408.out) hb)
             have n13_ := Aside0.mk (Kd.R_below (GS.rR HO411.out) hb)
             have n14_ := Aside0.mk (Kd.R_below (GS.rR HO414.out) hb)
             have n15_ := Aside0.mk (Kd.R_below (GS.rR HO420.out) hb)
             have n16_ := Aside0.mk (Kd.R_below (GS.rR HO423.out) hb)
             have n17_ := Aside0.mk (Kd.R_below (GS.rR HO426.out) hb)
             have n18_ := Aside0.mk (Kd.R_below (GS.rR HO430.out) hb)
             have n19_ := Aside0.mk (Kd.R_elder' (GS.rR HO435.out) (Kd.R_base ho91) hb)
             have n20_ := Aside0.mk (Kd.R_lower (Kd.R_new' (Kd.R_new' (Kd.R_new' ho91 (Kd.R_lt (GS.rR HO372.out))) (Kd.R_lt (GS.rR HO384.out))) (Kd.R_lt (GS.rR HO435.out))) (lqZ (GS.lB HB.out)))
             have n21_ := Aside0.mk (bqB (GS.bqX BK359.out) hb)
             have n22_ := Aside0.mk (lqT (GS.lB HB.out) hb)
             clear HO358
             clear HO362
             clear HO366
             clear HO369
             clear HO372
             clear HO378
             clear HO381
             clear HO384
             clear HO390
             clear HO393
             clear HO396
             clear HO401
             clear HO408
             clear HO411
             clear HO414
             clear HO420
             clear HO423
             clear HO426
             clear HO430
             clear HO435
             clear BK359
             clear HB
             have HO358 := n0_
             have HO362 := n1_
             have HO366 := n2_
             have HO369 := n3_
             have HO372 := n4_
             have HO378 := n5_
             have HO381 := n6_
             have HO384 := n7_
             have HO390 := n8_
             have HO393 := n9_
             have HO396 := n10_
             have HO401 := n11_
             have HO408 := n12_
             have HO411 := n13_
             have HO414 := n14_
             have HO420 := n15_
             have HO423 := n16_
             have HO426 := n17_
             have HO430 := n18_
             have HO435 := n19_
             have HO439 := n20_
             have BK359 := n21_
             have HB := n22_
             clear n0_ n1_ n2_ n3_ n4_ n5_ n6_ n7_ n8_ n9_ n10_ n11_ n12_ n13_ n14_ n15_ n16_ n17_ n18_ n19_ n20_ n21_ n22_
             clear hb ho91
             obtain ⟨Ao92, co92, eo92⟩ := Kd.R_slice HO384.out
             (first | subst eo92 | (injection eo92 with f1_ f2_ f3_; have f4_ := f1_.symm; have f5_ := f3_.symm; clear f1_ f2_ f3_; subst f4_; subst f5_))
             obtain ⟨Ao93, co93, eo93⟩ := Kd.R_slice HO439.out
             (first | subst eo93 | (injection eo93 with f1_ f2_ f3_; have f4_ := f1_.symm; have f5_ := f3_.symm; clear f1_ f2_ f3_; subst f4_; subst f5_))
             refine hK.out _ _ ⟨HS0_, HS1_, HS2_, HS3_, HS4_, HS5_, HS6_, HS7_, HS8_⟩ (fun hHeld => ?_)
             clear hK K
             refine norm_ (a' := ?_) ?_ ?_
             rotate_left
             ·show Act.put _ (some 110) _ = _
              simp only [Act.put, List.setIfInBounds_toArray, List.set_cons_zero, List.set_cons_succ, i64_w, i32_w]
              rfl
             refine one_ (i := 26) (N := some 111) #[true, true, true, true, true, true, true, true, true, true, true, true, true, true, true, true, true, true, true, true, true, true, true, true, true, true, true, false, false, false, false, false, false, false, false, false, false, false, false, false, false, false, false, false, false, false, false, false, false, false, false, false, false, false, false, false, false, false, false, false, false, false, false, false, false, false] rfl rfl (one_of HT_.out (by kernel_rfl)) (by decide) (fun K hK => ?_)
             refine goes_ Try.func17 (by kernel_rfl) rfl #[.slice Ao92 t382.length co92, .slice Ao93 y437.length co93] (by rfl) rfl rfl (by (try simp only [List.map_toArray, List.map_cons, List.map_nil]); first | done | rfl | (simp only [List.length_drop, List.length_take]; rfl)) ?_
             with_reducible refine (slices_Equal_int_int.calls k _ _ t382 _ _ y437 true _ ?side1 ?side2 ?side3 ?side4 A25.out).mono ?_
             (case side1 => repeat (first | exact (Kd.R_reads' HO384.out).2.2 | (with_reducible refine Kd.C_alloc ?_ _) | (with_reducible refine Kd.C_drewN ?_ _) | (with_reducible refine Kd.C_drew ?_)))
             (case side2 => exact (Kd.R_reads' HO384.out).2.1)
             (case side3 => repeat (first | exact (Kd.R_reads' HO439.out).2.2 | (with_reducible refine Kd.C_alloc ?_ _) | (with_reducible refine Kd.C_drewN ?_ _) | (with_reducible refine Kd.C_drew ?_)))
             (case side4 => exact (Kd.R_reads' HO439.out).2.1)
             rintro e w' ⟨rfl, ⟨nd, rfl⟩⟩
             refine ⟨_, rfl, ?_⟩
             refine hK.out _ _ ⟨hHeld.1, hHeld.2.1, hHeld.2.2.1, hHeld.2.2.2.1, hHeld.2.2.2.2.1, hHeld.2.2.2.2.2.1, hHeld.2.2.2.2.2.2.1, hHeld.2.2.2.2.2.2.2.1, hHeld.2.2.2.2.2.2.2.2⟩ (fun hHeld => ?_)
             clear hK K
             refine norm_ (a' := ?_) ?_ ?_
             rotate_left
             ·show Act.put _ (some 111) _ = _
              simp only [Act.put, List.setIfInBounds_toArray, List.set_cons_zero, List.set_cons_succ, i64_w, i32_w]
              rfl
             refine GS.pu 27 (some 112) HT_.out ?_
             refine GS.pu 28 (some 113) HT_.out ?_
             refine GS.pu 29 (some 114) HT_.out ?_
             refine GS.pu 30 (some 115) HT_.out ?_
             refine GS.pu 31 (some 116) HT_.out ?_
             refine GS.pu 32 (some 117) HT_.out ?_
             refine GS.pu 33 (some 118) HT_.out ?_
             refine GS.pu 34 (some 119) HT_.out ?_
             refine one_ (i := 35) (N := some 120) #[true, true, true, true, true, true, true, true, true, true, true, true, true, true, true, true, true, true, true, true, true, true, true, true, true, true, true, true, true, true, true, true, true, true, true, true, false, false, false, false, false, false, false, false, false, false, false, false, false, false, false, false, false, false, false, false, false, false, false, false, false, false, false, false, false, false] rfl rfl (one_of HT_.out (by kernel_rfl)) (by decide) (fun K hK => ?_)
             refine Kd.R_lit_step k51 _ 51 ?hg (N := 120) ?hd (xs := ([(⟨4, 3, 20000000, 100⟩ : S51)] : List (S51))) (inner := [.int .i64 4, .int .i64 3, .int .i64 20000000, .int .i64 100]) (ok := fun _ => True) (okp := fun _ => True) ?hr ?hp (fun _ hk => hk) trivial (Below.refl _ _) (Nat.le_refl _) (by simp) ?_; (case hd => rfl); (case hg => rfl); (case hr => first | (go_simp; done) | (go_simp; rfl)); (case hp => exact (Reps.c4 (show Kd.M k51 _ _ _ (⟨4, 3, 20000000, 100⟩ : S51) [.int .i64 4, .int .i64 3, .int .i64 20000000, .int .i64 100] from (k51_mkM _ _ _ (⟨4, 3, 20000000, 100⟩ : S51) )) (Reps.none _ _)))
             intro v442 w94 ho95 hb hg_ hnew_
             have HS0_ := (hb.cell (World.block_lt_of_cell? _ _ (hHeld.1))).trans (hHeld.1)
             have HS1_ := (hb.cell (World.block_lt_of_cell? _ _ (hHeld.2.1))).trans (hHeld.2.1)
             have HS2_ := (hb.cell (World.block_lt_of_cell? _ _ (hHeld.2.2.1))).trans (hHeld.2.2.1)
             have HS3_ := (hb.cell (World.block_lt_of_cell? _ _ (hHeld.2.2.2.1))).trans (hHeld.2.2.2.1)
             have HS4_ := (hb.cell (World.block_lt_of_cell? _ _ (hHeld.2.2.2.2.1))).trans (hHeld.2.2.2.2.1)
             have HS5_ := (hb.cell (World.block_lt_of_cell? _ _ (hHeld.2.2.2.2.2.1))).trans (hHeld.2.2.2.2.2.1)
             have HS6_ := (hb.cell (World.block_lt_of_cell? _ _ (hHeld.2.2.2.2.2.2.1))).trans (hHeld.2.2.2.2.2.2.1)
             have HS7_ := (hb.cell (World.block_lt_of_cell? _ _ (hHeld.2.2.2.2.2.2.2.1))).trans (hHeld.2.2.2.2.2.2.2.1)
             have HS8_ := (hb.cell (World.block_lt_of_cell? _ _ (hHeld.2.2.2.2.2.2.2.2))).trans (hHeld.2.2.2.2.2.2.2.2)
             clear hg_ hnew_
             (first | rw [← Ny441.out] at ho95 | (simp only [Int.reduceToNat] at ho95; rw [← Ny441.out] at ho95))
             have n0_ := Aside0.mk (Kd.R_below (GS.rR HO358.out) hb)
             have n1_ := Aside0.mk (Kd.R_below (GS.rR HO362.out) hb)
             have n2_ := Aside0.mk (Kd.R_below (GS.rR HO366.out) hb)
             have n3_ := Aside0.mk (Kd.R_below (GS.rR HO369.out) hb)
             have n4_ := Aside0.mk (Kd.R_below (GS.rR HO372.out) hb)
             have n5_ := Aside0.mk (Kd.R_below (GS.rR HO378.out) hb)
             have n6_ := Aside0.mk (Kd.R_below (GS.rR HO381.out) hb)
             have n7_ := Aside0.mk (Kd.R_below (GS.rR HO384.out) hb)
             have n8_ := Aside0.mk (Kd.R_below (GS.rR HO390.out) hb)
             have n9_ := Aside0.mk (Kd.R_below (GS.rR HO393.out) hb)
             have n10_ := Aside0.mk (Kd.R_elder' (GS.rR HO396.out) (Kd.R_base ho95) hb)
             have n11_ := Aside0.mk (Kd.R_below (GS.rR HO401.out) hb)
             have n12_ := Aside0.mk (Kd.R_below (GS.rR HO408.out) hb)
             have n13_ := Aside0.mk (Kd.R_below (GS.rR HO411.out) hb)
             have n14_ := Aside0.mk (Kd.R_elder' (GS.rR HO414.out) (Kd.R_base ho95) hb)
             have n15_ := Aside0.mk (Kd.R_below (GS.rR HO420.out) hb)
             have n16_ := Aside0.mk (Kd.R_below (GS.rR HO423.out) hb)
             have n17_ := Aside0.mk (Kd.R_below (GS.rR HO426.out) hb)
             have n18_ := Aside0.mk (Kd.R_below (GS.rR HO430.out) hb)
             have n19_ := Aside0.mk (Kd.R_below (GS.rR HO435.out) hb)
             have n20_ := Aside0.mk (Kd.R_below (GS.rR HO439.out) hb)
             have n21_ := Aside0.mk (Kd.R_lower (Kd.R_new' (Kd.R_new' ho95 (Kd.R_lt (GS.rR HO396.out))) (Kd.R_lt (GS.rR HO414.out))) (lqZ (GS.lB HB.out)))
             have n22_ := Aside0.mk (bqB (GS.bqX BK359.out) hb)
             have n23_ := Aside0.mk (lqT (GS.lB HB.out) hb)
             clear HO358
             clear HO362
             clear HO366
             clear HO369
             clear HO372
             clear HO378
             clear HO381
             clear HO384
             clear HO390
             clear HO393
             clear HO396
             clear HO401
             clear HO408
             clear HO411
             clear HO414
             clear HO420
             clear HO423
             clear HO426
             clear HO430
             clear HO435
             clear HO439
             clear BK359
             clear HB
             have HO358 := n0_
             have HO362 := n1_
             have HO366 := n2_
             have HO369 := n3_
             have HO372 := n4_
             have HO378 := n5_
             have HO381 := n6_
             have HO384 := n7_
             have HO390 := n8_
             have HO393 := n9_
             have HO396 := n10_
             have HO401 := n11_
             have HO408 := n12_
             have HO411 := n13_
             have HO414 := n14_
             have HO420 := n15_
             have HO423 := n16_
             have HO426 := n17_
             have HO430 := n18_
             have HO435 := n19_
             have HO439 := n20_
             have HO443 := n21_
             have BK359 := n22_
             have HB := n23_
             clear n0_ n1_ n2_ n3_ n4_ n5_ n6_ n7_ n8_ n9_ n10_ n11_ n12_ n13_ n14_ n15_ n16_ n17_ n18_ n19_ n20_ n21_ n22_ n23_
             clear hb ho95
             obtain ⟨Ao97, co97, eo97⟩ := Kd.R_slice HO443.out
             (first | subst eo97 | (injection eo97 with f1_ f2_ f3_; have f4_ := f1_.symm; have f5_ := f3_.symm; clear f1_ f2_ f3_; subst f4_; subst f5_))
             refine hK.out _ _ ⟨HS0_, HS1_, HS2_, HS3_, HS4_, HS5_, HS6_, HS7_, HS8_⟩ (fun hHeld => ?_)
             clear hK K
             refine norm_ (a' := ?_) ?_ ?_
             rotate_left
             ·show Act.put _ (some 120) _ = _
              simp only [Act.put, List.setIfInBounds_toArray, List.set_cons_zero, List.set_cons_succ, i64_w, i32_w]
              rfl
             refine one_ (i := 36) (N := some 121) #[true, true, true, true, true, true, true, true, true, true, true, true, true, true, true, true, true, true, true, true, true, true, true, true, true, true, true, true, true, true, true, true, true, true, true, true, true, false, false, false, false, false, false, false, false, false, false, false, false, false, false, false, false, false, false, false, false, false, false, false, false, false, false, false, false, false] rfl rfl (one_of HT_.out (by kernel_rfl)) (by decide) (fun K hK => ?_)
             refine goes_ Try.func24 (by kernel_rfl) rfl #[.slice (some ad450) t394.length co96, .slice Ao97 y441.length co97] (by rfl) rfl rfl (by (try simp only [List.map_toArray, List.map_cons, List.map_nil]); first | done | rfl | (simp only [List.length_drop, List.length_take]; rfl)) ?_
             with_reducible refine (api_Outcome_24.calls k _ _ t394 _ _ y441 true _ ?side1 ?side2 ?side3 ?side4 A28.out).mono ?_
             (case side1 => repeat (first | exact (Kd.R_reads' HO396.out).2.2 | (with_reducible refine Kd.C_alloc ?_ _) | (with_reducible refine Kd.C_drewN ?_ _) | (with_reducible refine Kd.C_drew ?_)))
             (case side2 => exact (Kd.R_reads' HO396.out).2.1)
             (case side3 => repeat (first | exact (Kd.R_reads' HO443.out).2.2 | (with_reducible refine Kd.C_alloc ?_ _) | (with_reducible refine Kd.C_drewN ?_ _) | (with_reducible refine Kd.C_drew ?_)))
             (case side4 => exact (Kd.R_reads' HO443.out).2.1)
             rintro e w' ⟨rfl, ⟨nd, rfl⟩⟩
             refine ⟨_, rfl, ?_⟩
             refine hK.out _ _ ⟨hHeld.1, hHeld.2.1, hHeld.2.2.1, hHeld.2.2.2.1, hHeld.2.2.2.2.1, hHeld.2.2.2.2.2.1, hHeld.2.2.2.2.2.2.1, hHeld.2.2.2.2.2.2.2.1, hHeld.2.2.2.2.2.2.2.2⟩ (fun hHeld => ?_)
             clear hK K
             refine norm_ (a' := ?_) ?_ ?_
             rotate_left
             ·show Act.put _ (some 121) _ = _
              simp only [Act.put, List.setIfInBounds_toArray, List.set_cons_zero, List.set_cons_succ, i64_w, i32_w]
              rfl
             refine GS.pu 37 (some 122) HT_.out ?_
             refine GS.pu 38 (some 123) HT_.out ?_
             refine GS.pu 39 (some 124) HT_.out ?_
             refine GS.pu 40 (some 125) HT_.out ?_
             refine GS.pu 41 (some 126) HT_.out ?_
             refine GS.pu 42 (some 127) HT_.out ?_
             refine GS.pu 43 (some 128) HT_.out ?_
             refine GS.pu 44 (some 129) HT_.out ?_
             refine GS.pu 45 (some 130) HT_.out ?_
             refine GS.pu 46 (some 131) HT_.out ?_
             refine GS.pu 47 (some 132) HT_.out ?_
             refine GS.pu 48 (some 133) HT_.out ?_
             refine one_ (i := 49) (N := some 134) #[true, true, true, true, true, true, true, true, true, true, true, true, true, true, true, true, true, true, true, true, true, true, true, true, true, true, true, true, true, true, true, true, true, true, true, true, true, true, true, true, true, true, true, true, true, true, true, true, true, true, false, false, false, false, false, false, false, false, false, false, false, false, false, false, false, false] rfl rfl (one_of HT_.out (by kernel_rfl)) (by decide) (fun K hK => ?_)
             refine Kd.R_lit_step k42 _ 42 ?hg (N := 134) ?hd (xs := ([(⟨1, 0, 3000⟩ : S42)] : List (S42))) (inner := [.int .i64 1, .int .i64 0, .int .i64 3000]) (ok := fun _ => True) (okp := fun _ => True) ?hr ?hp (fun _ hk => hk) trivial (Below.refl _ _) (Nat.le_refl _) (by simp) ?_; (case hd => rfl); (case hg => rfl); (case hr => first | (go_simp; done) | (go_simp; rfl)); (case hp => exact (Reps.c3 (show Kd.M k42 _ _ _ (⟨1, 0, 3000⟩ : S42) [.int .i64 1, .int .i64 0, .int .i64 3000] from (k42_mkM _ _ _ (⟨1, 0, 3000⟩ : S42) )) (Reps.none _ _)))
             intro v446 w98 ho99 hb hg_ hnew_
             have HS0_ := (hb.cell (World.block_lt_of_cell? _ _ (hHeld.1))).trans (hHeld.1)
             have HS1_ := (hb.cell (World.block_lt_of_cell? _ _ (hHeld.2.1))).trans (hHeld.2.1)
             have HS2_ := (hb.cell (World.block_lt_of_cell? _ _ (hHeld.2.2.1))).trans (hHeld.2.2.1)
             have HS3_ := (hb.cell (World.block_lt_of_cell? _ _ (hHeld.2.2.2.1))).trans (hHeld.2.2.2.1)
             have HS4_ := (hb.cell (World.block_lt_of_cell? _ _ (hHeld.2.2.2.2.1))).trans (hHeld.2.2.2.2.1)
             have HS5_ := (hb.cell (World.block_lt_of_cell? _ _ (hHeld.2.2.2.2.2.1))).trans (hHeld.2.2.2.2.2.1)
             have HS6_ := (hb.cell (World.block_lt_of_cell? _ _ (hHeld.2.2.2.2.2.2.1))).trans (hHeld.2.2.2.2.2.2.1)
             have HS7_ := (hb.cell (World.block_lt_of_cell? _ _ (hHeld.2.2.2.2.2.2.2.1))).trans (hHeld.2.2.2.2.2.2.2.1)
             have HS8_ := (hb.cell (World.block_lt_of_cell? _ _ (hHeld.2.2.2.2.2.2.2.2))).trans (hHeld.2.2.2.2.2.2.2.2)
             clear hg_ hnew_
             (first | rw [← Ny445.out] at ho99 | (simp only [Int.reduceToNat] at ho99; rw [← Ny445.out] at ho99))
             have n0_ := Aside0.mk (Kd.R_below (GS.rR HO358.out) hb)
             have n1_ := Aside0.mk (Kd.R_below (GS.rR HO362.out) hb)
             have n2_ := Aside0.mk (Kd.R_below (GS.rR HO366.out) hb)
             have n3_ := Aside0.mk (Kd.R_below (GS.rR HO369.out) hb)
             have n4_ := Aside0.mk (Kd.R_below (GS.rR HO372.out) hb)
             have n5_ := Aside0.mk (Kd.R_below (GS.rR HO378.out) hb)
             have n6_ := Aside0.mk (Kd.R_below (GS.rR HO381.out) hb)
             have n7_ := Aside0.mk (Kd.R_below (GS.rR HO384.out) hb)
             have n8_ := Aside0.mk (Kd.R_below (GS.rR HO390.out) hb)
             have n9_ := Aside0.mk (Kd.R_below (GS.rR HO393.out) hb)
             have n10_ := Aside0.mk (Kd.R_below (GS.rR HO396.out) hb)
             have n11_ := Aside0.mk (Kd.R_below (GS.rR HO401.out) hb)
             have n12_ := Aside0.mk (Kd.R_below (GS.rR HO408.out) hb)
             have n13_ := Aside0.mk (Kd.R_below (GS.rR HO411.out) hb)
             have n14_ := Aside0.mk (Kd.R_below (GS.rR HO414.out) hb)
             have n15_ := Aside0.mk (Kd.R_below (GS.rR HO420.out) hb)
             have n16_ := Aside0.mk (Kd.R_below (GS.rR HO423.out) hb)
             have n17_ := Aside0.mk (Kd.R_elder' (GS.rR HO426.out) (Kd.R_base ho99) hb)
             have n18_ := Aside0.mk (Kd.R_below (GS.rR HO430.out) hb)
             have n19_ := Aside0.mk (Kd.R_below (GS.rR HO435.out) hb)
             have n20_ := Aside0.mk (Kd.R_below (GS.rR HO439.out) hb)
             have n21_ := Aside0.mk (Kd.R_below (GS.rR HO443.out) hb)
             have n22_ := Aside0.mk (Kd.R_lower (Kd.R_new' ho99 (Kd.R_lt (GS.rR HO426.out))) (lqZ (GS.lB HB.out)))
             have n23_ := Aside0.mk (bqB (GS.bqX BK359.out) hb)
             have n24_ := Aside0.mk (lqT (GS.lB HB.out) hb)
             clear HO358
             clear HO362
             clear HO366
             clear HO369
             clear HO372
             clear HO378
             clear HO381
             clear HO384
             clear HO390
             clear HO393
             clear HO396
             clear HO401
             clear HO408
             clear HO411
             clear HO414
             clear HO420
             clear HO423
             clear HO426
             clear HO430
             clear HO435
             clear HO439
             clear HO443
             clear BK359
             clear HB
             have HO358 := n0_
             have HO362 := n1_
             have HO366 := n2_
             have HO369 := n3_
             have HO372 := n4_
             have HO378 := n5_
             have HO381 := n6_
             have HO384 := n7_
             have HO390 := n8_
             have HO393 := n9_
             have HO396 := n10_
             have HO401 := n11_
             have HO408 := n12_
             have HO411 := n13_
             have HO414 := n14_
             have HO420 := n15_
             have HO423 := n16_
             have HO426 := n17_
             have HO430 := n18_
             have HO435 := n19_
             have HO439 := n20_
             have HO443 := n21_
             have HO447 := n22_
             have BK359 := n23_
             have HB := n24_
             clear n0_ n1_ n2_ n3_ n4_ n5_ n6_ n7_ n8_ n9_ n10_ n11_ n12_ n13_ n14_ n15_ n16_ n17_ n18_ n19_ n20_ n21_ n22_ n23_ n24_
             clear hb ho99
             obtain ⟨Ao100, co100, eo100⟩ := Kd.R_slice HO426.out
             (first | subst eo100 | (injection eo100 with f1_ f2_ f3_; have f4_ := f1_.symm; have f5_ := f3_.symm; clear f1_ f2_ f3_; subst f4_; subst f5_))
             obtain ⟨Ao101, co101, eo101⟩ := Kd.R_slice HO447.out
             (first | subst eo101 | (injection eo101 with f1_ f2_ f3_; have f4_ := f1_.symm; have f5_ := f3_.symm; clear f1_ f2_ f3_; subst f4_; subst f5_))
             refine hK.out _ _ ⟨HS0_, HS1_, HS2_, HS3_, HS4_, HS5_, HS6_, HS7_, HS8_⟩ (fun hHeld => ?_)
             clear hK K
             refine norm_ (a' := ?_) ?_ ?_
             rotate_left
             ·show Act.put _ (some 134) _ = _
              simp only [Act.put, List.setIfInBounds_toArray, List.set_cons_zero, List.set_cons_succ, i64_w, i32_w]
              rfl
             refine one_ (i := 50) (N := some 135) #[true, true, true, true, true, true, true, true, true, true, true, true, true, true, true, true, true, true, true, true, true, true, true, true, true, true, true, true, true, true, true, true, true, true, true, true, true, true, true, true, true, true, true, true, true, true, true, true, true, true, true, false, false, false, false, false, false, false, false, false, false, false, false, false, false, false] rfl rfl (one_of HT_.out (by kernel_rfl)) (by decide) (fun K hK => ?_)
             refine goes_ Try.func18 (by kernel_rfl) rfl #[.slice Ao100 t424.length co100, .slice Ao101 y445.length co101] (by rfl) rfl rfl (by (try simp only [List.map_toArray, List.map_cons, List.map_nil]); first | done | rfl | (simp only [List.length_drop, List.length_take]; rfl)) ?_
             with_reducible refine (api_Hold.calls k _ _ t424 _ _ y445 true _ ?side1 ?side2 ?side3 ?side4 A32.out).mono ?_
             (case side1 => repeat (first | exact (Kd.R_reads' HO426.out).2.2 | (with_reducible refine Kd.C_alloc ?_ _) | (with_reducible refine Kd.C_drewN ?_ _) | (with_reducible refine Kd.C_drew ?_)))
             (case side2 => exact (Kd.R_reads' HO426.out).2.1)
             (case side3 => repeat (first | exact (Kd.R_reads' HO447.out).2.2 | (with_reducible refine Kd.C_alloc ?_ _) | (with_reducible refine Kd.C_drewN ?_ _) | (with_reducible refine Kd.C_drew ?_)))
             (case side4 => exact (Kd.R_reads' HO447.out).2.1)
             rintro e w' ⟨rfl, ⟨nd, rfl⟩⟩
             refine ⟨_, rfl, ?_⟩
             refine hK.out _ _ ⟨hHeld.1, hHeld.2.1, hHeld.2.2.1, hHeld.2.2.2.1, hHeld.2.2.2.2.1, hHeld.2.2.2.2.2.1, hHeld.2.2.2.2.2.2.1, hHeld.2.2.2.2.2.2.2.1, hHeld.2.2.2.2.2.2.2.2⟩ (fun hHeld => ?_)
             clear hK K
             refine norm_ (a' := ?_) ?_ ?_
             rotate_left
             ·show Act.put _ (some 135) _ = _
              simp only [Act.put, List.setIfInBounds_toArray, List.set_cons_zero, List.set_cons_succ, i64_w, i32_w]
              rfl
             refine GS.pu 51 (some 136) HT_.out ?_
             refine GS.pu 52 (some 137) HT_.out ?_
             refine GS.pu 53 (some 138) HT_.out ?_
             refine GS.pu 54 (some 139) HT_.out ?_
             refine GS.pu 55 (some 140) HT_.out ?_
             refine GS.pu 56 (some 141) HT_.out ?_
             refine GS.pu 57 (some 142) HT_.out ?_
             refine GS.pu 58 (some 143) HT_.out ?_
             refine GS.pu 60 (some 145) HT_.out ?_
             refine GS.pu 61 (some 146) HT_.out ?_
             refine GS.tk 59 (some 144) HT_.out HW_.out hHeld ?_
             refine GS.tk 62 (some 147) HT_.out HW_.out hHeld ?_
             refine one_ (i := 63) (N := some 148) #[true, true, true, true, true, true, true, true, true, true, true, true, true, true, true, true, true, true, true, true, true, true, true, true, true, true, true, true, true, true, true, true, true, true, true, true, true, true, true, true, true, true, true, true, true, true, true, true, true, true, true, true, true, true, true, true, true, true, true, true, true, true, true, true, false, false] rfl rfl (one_of HT_.out (by kernel_rfl)) (by decide) (fun K hK => ?_)
             refine goes_ Try.func26 (by kernel_rfl) rfl #[.agg #[.int .i64 ((rd_T35 y360 0).f0), .int .i64 ((rd_T35 y360 0).f1), .int .i64 ((rd_T35 y360 0).f2), .int .i64 ((rd_T35 y360 0).f3), .int .i64 ((rd_T35 y360 0).f4)], .agg #[.int .i64 ((rd_T51 t394 0).f0), .int .i64 ((rd_T51 t394 0).f1), .int .i64 ((rd_T51 t394 0).f2), .int .i64 ((rd_T51 t394 0).f3)], .int .i64 100] (by rfl) rfl rfl (by (try simp only [List.map_toArray, List.map_cons, List.map_nil]); first | done | rfl | (simp only [List.length_drop, List.length_take]; rfl)) ?_
             with_reducible refine (liability_Fits.calls k ((rd_T35 y360 0).f0) ((rd_T35 y360 0).f1) ((rd_T35 y360 0).f2) ((rd_T35 y360 0).f3) ((rd_T35 y360 0).f4) ((rd_T51 t394 0).f0) ((rd_T51 t394 0).f1) ((rd_T51 t394 0).f2) ((rd_T51 t394 0).f3) 100 t451 _ A36.out).mono ?_
             rintro e w102 ⟨rfl, hb⟩
             have HS0_ := (hb.cell (World.block_lt_of_cell? _ _ (hHeld.1))).trans (hHeld.1)
             have HS1_ := (hb.cell (World.block_lt_of_cell? _ _ (hHeld.2.1))).trans (hHeld.2.1)
             have HS2_ := (hb.cell (World.block_lt_of_cell? _ _ (hHeld.2.2.1))).trans (hHeld.2.2.1)
             have HS3_ := (hb.cell (World.block_lt_of_cell? _ _ (hHeld.2.2.2.1))).trans (hHeld.2.2.2.1)
             have HS4_ := (hb.cell (World.block_lt_of_cell? _ _ (hHeld.2.2.2.2.1))).trans (hHeld.2.2.2.2.1)
             have HS5_ := (hb.cell (World.block_lt_of_cell? _ _ (hHeld.2.2.2.2.2.1))).trans (hHeld.2.2.2.2.2.1)
             have HS6_ := (hb.cell (World.block_lt_of_cell? _ _ (hHeld.2.2.2.2.2.2.1))).trans (hHeld.2.2.2.2.2.2.1)
             have HS7_ := (hb.cell (World.block_lt_of_cell? _ _ (hHeld.2.2.2.2.2.2.2.1))).trans (hHeld.2.2.2.2.2.2.2.1)
             have HS8_ := (hb.cell (World.block_lt_of_cell? _ _ (hHeld.2.2.2.2.2.2.2.2))).trans (hHeld.2.2.2.2.2.2.2.2)
             refine ⟨_, rfl, ?_⟩
             have n0_ := Aside0.mk (Kd.R_below (GS.rR HO358.out) hb)
             have n1_ := Aside0.mk (Kd.R_below (GS.rR HO362.out) hb)
             have n2_ := Aside0.mk (Kd.R_below (GS.rR HO366.out) hb)
             have n3_ := Aside0.mk (Kd.R_below (GS.rR HO369.out) hb)
             have n4_ := Aside0.mk (Kd.R_below (GS.rR HO372.out) hb)
             have n5_ := Aside0.mk (Kd.R_below (GS.rR HO378.out) hb)
             have n6_ := Aside0.mk (Kd.R_below (GS.rR HO381.out) hb)
             have n7_ := Aside0.mk (Kd.R_below (GS.rR HO384.out) hb)
             have n8_ := Aside0.mk (Kd.R_below (GS.rR HO390.out) hb)
             have n9_ := Aside0.mk (Kd.R_below (GS.rR HO393.out) hb)
             have n10_ := Aside0.mk (Kd.R_below (GS.rR HO396.out) hb)
             have n11_ := Aside0.mk (Kd.R_below (GS.rR HO401.out) hb)
             have n12_ := Aside0.mk (Kd.R_below (GS.rR HO408.out) hb)
             have n13_ := Aside0.mk (Kd.R_below (GS.rR HO411.out) hb)
             have n14_ := Aside0.mk (Kd.R_below (GS.rR HO414.out) hb)
             have n15_ := Aside0.mk (Kd.R_below (GS.rR HO420.out) hb)
             have n16_ := Aside0.mk (Kd.R_below (GS.rR HO423.out) hb)
             have n17_ := Aside0.mk (Kd.R_below (GS.rR HO426.out) hb)
             have n18_ := Aside0.mk (Kd.R_below (GS.rR HO430.out) hb)
             have n19_ := Aside0.mk (Kd.R_below (GS.rR HO435.out) hb)
             have n20_ := Aside0.mk (Kd.R_below (GS.rR HO439.out) hb)
             have n21_ := Aside0.mk (Kd.R_below (GS.rR HO443.out) hb)
             have n22_ := Aside0.mk (Kd.R_below (GS.rR HO447.out) hb)
             have n23_ := Aside0.mk (bqB (GS.bqX BK359.out) hb)
             have n24_ := Aside0.mk (lqT (GS.lB HB.out) hb)
             clear HO358
             clear HO362
             clear HO366
             clear HO369
             clear HO372
             clear HO378
             clear HO381
             clear HO384
             clear HO390
             clear HO393
             clear HO396
             clear HO401
             clear HO408
             clear HO411
             clear HO414
             clear HO420
             clear HO423
             clear HO426
             clear HO430
             clear HO435
             clear HO439
             clear HO443
             clear HO447
             clear BK359
             clear HB
             have HO358 := n0_
             have HO362 := n1_
             have HO366 := n2_
             have HO369 := n3_
             have HO372 := n4_
             have HO378 := n5_
             have HO381 := n6_
             have HO384 := n7_
             have HO390 := n8_
             have HO393 := n9_
             have HO396 := n10_
             have HO401 := n11_
             have HO408 := n12_
             have HO411 := n13_
             have HO414 := n14_
             have HO420 := n15_
             have HO423 := n16_
             have HO426 := n17_
             have HO430 := n18_
             have HO435 := n19_
             have HO439 := n20_
             have HO443 := n21_
             have HO447 := n22_
             have BK359 := n23_
             have HB := n24_
             clear n0_ n1_ n2_ n3_ n4_ n5_ n6_ n7_ n8_ n9_ n10_ n11_ n12_ n13_ n14_ n15_ n16_ n17_ n18_ n19_ n20_ n21_ n22_ n23_ n24_
             (try clear hb)
             (try clear hb2)
             (try clear hk)
             (try clear hi)
             refine hK.out _ _ ⟨HS0_, HS1_, HS2_, HS3_, HS4_, HS5_, HS6_, HS7_, HS8_⟩ (fun hHeld => ?_)
             clear hK K
             refine norm_ (a' := ?_) ?_ ?_
             rotate_left
             ·show Act.put _ (some 148) _ = _
              simp only [Act.put, List.setIfInBounds_toArray, List.set_cons_zero, List.set_cons_succ, i64_w, i32_w]
              rfl
             refine GS.pu 64 (some 149) HT_.out ?_
             refine GS.pu 65 (some 0) HT_.out ?_
             refine done_ (done_of HT_.out (by kernel_rfl)) ?_
             try go_wp2
             go_ret
             exact ⟨by first | rfl | (simp [errW_none, errW_some] <;> rfl) | (simp [*, errW_none, errW_some] <;> rfl), GS.lB HB.out⟩
            ·rw [if_neg c35] at H
             exact absurd H (by simp)
           ·rw [if_neg c34] at H
            exact absurd H (by simp)
          ·replace c33 := Bool.eq_false_iff.mpr c33
           subst c33
           have H1 : (none) = some r := by rw [if_neg (show ¬ (false = true) by decide)] at H; exact H
           clear H
           have H := H1
           clear H1
           exact absurd H (by simp)
         ·rw [if_neg c31] at H
          exact absurd H (by simp)
        ·rw [if_neg c30] at H
         exact absurd H (by simp)
       ·replace c29 := Bool.eq_false_iff.mpr c29
        subst c29
        have H1 : (none) = some r := by rw [if_neg (show ¬ (false = true) by decide)] at H; exact H
        clear H
        have H := H1
        clear H1
        exact absurd H (by simp)
      ·rw [if_neg c27] at H
       exact absurd H (by simp)
     ·replace c26 := Bool.eq_false_iff.mpr c26
      subst c26
      have H1 : (none) = some r := by rw [if_neg (show ¬ (false = true) by decide)] at H; exact H
      clear H
      have H := H1
      clear H1
      exact absurd H (by simp)
    ·rw [if_neg c24] at H
     exact absurd H (by simp)
   ·replace c23 := Bool.eq_false_iff.mpr c23
    subst c23
    have H1 : (none) = some r := by rw [if_neg (show ¬ (false = true) by decide)] at H; exact H
    clear H
    have H := H1
    clear H1
    exact absurd H (by simp)
  ·rw [if_neg c21] at H
   exact absurd H (by simp)
 ·rw [if_neg c11] at H
  exact absurd H (by simp)

end Go.Proofs.Ythboaobgipodiaa.K
