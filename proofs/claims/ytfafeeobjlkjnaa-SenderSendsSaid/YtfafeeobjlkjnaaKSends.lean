-- PRINTED by print.py (a twelfth state) out of the translation. Not trusted: Lean checks it.
import Derived.Test.YtfafeeobjlkjnaaK0
import Derived.Test.YtfafeeobjlkjnaaGShort
import Derived.Test.YtfafeeobjlkjnaaGSym
import Derived.Test.YtfafeeobjlkjnaaK2
import Derived.Test.YtfafeeobjlkjnaaK3
import Derived.Test.YtfafeeobjlkjnaaK5
import Derived.Test.YtfafeeobjlkjnaaK6
import Derived.Test.YtfafeeobjlkjnaaK8
import Derived.Test.YtfafeeobjlkjnaaK9
import Derived.Test.YtfafeeobjlkjnaaK12
import Derived.Test.YtfafeeobjlkjnaaKRSend
namespace Go.Proofs.Ytfafeeobjlkjnaa.K
open Go.RowKit Go.Proofs.YtfafeeobjlkjnaaW.PrintWords Go.Proofs.YtfafeeobjlkjnaaW.PrintLast Go.Proofs.YtfafeeobjlkjnaaW.PrintMore
attribute [local go_sem] max2_int min2_int max_two min_two max_three min_three max_four min_four   -- for this text's walks alone
set_option linter.unusedVariables false
set_option linter.unusedSimpArgs false
abbrev AM := @Aside0.mk

attribute [local go_sem high] eqA33
/-! ### spilelaw42_SenderSends: function 3 -/
def spilelaw42_SenderSends.f (k : Nat) (a0_0 : Int) (a0_1 : Int) (l0_2 : List (S33)) (a1 : Int) (a2_0 : Int) (a2_1 : Int) (a2_2 : Int) (a2_3 : Int) (a2_4 : Int) (a2_5 : Int) (a2_6 : Int) : Option (Bool) := (spilelaw42_awake.f k).bind fun t270 => (if t270 = true then ((spileref42_Few.f a0_0 a0_1 l0_2).bind fun t271 => (if t271 = true then ((sender_New.f a1).bind fun bt272 => ((spileref42_New.f a1).bind fun bt279 => ((spileref42_Copy.f a0_0 a0_1 l0_2).bind fun bt286 => ((sender_Send.f k bt286.1 bt286.2.1 bt286.2.2 a1 a2_0 a2_1 a2_2 a2_3 a2_4 a2_5 a2_6).bind fun bt291 => ((spileref42_Send.f k a0_0 a0_1 l0_2 a1 a2_0 a2_1 a2_2 a2_3 a2_4 a2_5 a2_6).bind fun bt309 => ((spileref42_Copy.f a0_0 a0_1 l0_2).bind fun bt327 => ((sender_Check.f k bt327.1 bt327.2.1 bt327.2.2).bind fun t332 => ((spileref42_Check.f k a0_0 a0_1 l0_2).bind fun t333 => (if t332 = t333 then ((spileref42_Same.f k bt272.1 bt272.2.1 bt272.2.2.1 bt279.1 bt279.2.1 bt279.2.2.1).bind fun t334 => (if t334 = true then (if bt272.2.2.2 = bt279.2.2.2 then ((spileref42_Same.f k bt291.1 bt291.2.1 bt291.2.2.1 bt309.1 bt309.2.1 bt309.2.2.1).bind fun t335 => (if t335 = true then (if (bt291.2.2.2.1 == bt309.2.2.2.1 && (bt291.2.2.2.2.1 == bt309.2.2.2.2.1 && (bt291.2.2.2.2.2.1 == bt309.2.2.2.2.2.1 && ((bt291.2.2.2.2.2.2.1 == bt309.2.2.2.2.2.2.1 && (bt291.2.2.2.2.2.2.2.1 == bt309.2.2.2.2.2.2.2.1 && (bt291.2.2.2.2.2.2.2.2.1 == bt309.2.2.2.2.2.2.2.2.1 && (bt291.2.2.2.2.2.2.2.2.2.1 == bt309.2.2.2.2.2.2.2.2.2.1 && (bt291.2.2.2.2.2.2.2.2.2.2.1 == bt309.2.2.2.2.2.2.2.2.2.2.1 && (bt291.2.2.2.2.2.2.2.2.2.2.2.1 == bt309.2.2.2.2.2.2.2.2.2.2.2.1 && (bt291.2.2.2.2.2.2.2.2.2.2.2.2.1 == bt309.2.2.2.2.2.2.2.2.2.2.2.2.1))))))))))) = true then (some (bt291.2.2.2.2.2.2.2.2.2.2.2.2.2 == bt309.2.2.2.2.2.2.2.2.2.2.2.2.2)) else (none)) else (none))) else (none)) else (none))) else (none)))))))))) else (some true))) else (none))
theorem spilelaw42_SenderSends.mono : ∀ a0 a1 a2 a3 a4 a5 a6 a7 a8 a9 a10 k, LeO (spilelaw42_SenderSends.f k a0 a1 a2 a3 a4 a5 a6 a7 a8 a9 a10) (spilelaw42_SenderSends.f (k + 1) a0 a1 a2 a3 a4 a5 a6 a7 a8 a9 a10) := by
 intro a0 a1 a2 a3 a4 a5 a6 a7 a8 a9 a10 k
 unfold spilelaw42_SenderSends.f
 repeat' first
   | (with_reducible exact sender_Check.mono _ _ _ _)
   | (with_reducible exact sender_Send.mono _ _ _ _ _ _ _ _ _ _ _ _)
   | (with_reducible exact spilelaw42_awake.mono _)
   | (with_reducible exact spileref42_Check.mono _ _ _ _)
   | (with_reducible exact spileref42_Same.mono _ _ _ _ _ _ _)
   | (with_reducible exact spileref42_Send.mono _ _ _ _ _ _ _ _ _ _ _ _)
   | (with_reducible exact LeO.refl _)
   | (with_reducible exact LeO.none _)
   | (with_reducible refine LeO.ite ?_ ?_)
   | (with_reducible refine LeO.bind ?_ (fun _ => ?_))
   | exact sender_Check.mono _ _ _ _
   | exact sender_Send.mono _ _ _ _ _ _ _ _ _ _ _ _
   | exact spilelaw42_awake.mono _
   | exact spileref42_Check.mono _ _ _ _
   | exact spileref42_Same.mono _ _ _ _ _ _ _
   | exact spileref42_Send.mono _ _ _ _ _ _ _ _ _ _ _ _
   | exact LeO.none _
   | refine LeO.ite ?_ ?_
   | refine LeO.bind ?_ (fun _ => ?_)
def spilelaw42_SenderSends.T7 : Bool × List (List Nat × List Nat) := (true, [([], []), ([0], [0]), ([], []), ([], []), ([1, 2, 3, 1], [1, 2, 3]), ([4], [4]), ([5], [5]), ([5], [5]), ([5], [5]), ([], []), ([], []), ([9, 6, 4, 0, 1, 2, 3, 4, 5, 6, 9, 10], [6, 9]), ([10, 7, 11, 0, 1, 2, 3, 4, 5, 6, 7, 9, 10, 11], [7, 10]), ([8, 12, 0, 1, 2, 3, 4, 5, 6, 7, 8, 9, 10, 11, 12], [8])])
def spilelaw42_SenderSends.B7 : List Nat := [0, 1, 0, 0, 15, 31, 63, 63, 63, 0, 0, 1663, 3839, 8191]
theorem spilelaw42_SenderSends.tab7 : rtab .any (opsOf Try.f3 7) = spilelaw42_SenderSends.T7 := by kernel_rfl
theorem spilelaw42_SenderSends.bits7 : waitsOk spilelaw42_SenderSends.T7.2 spilelaw42_SenderSends.B7 = true := by kernel_rfl
def spilelaw42_SenderSends.T9 : Bool × List (List Nat × List Nat) := (true, [([], []), ([0], [0]), ([1, 1], [1]), ([], []), ([3, 2], [3]), ([2, 4], [2, 4]), ([5, 4], [5]), ([6], [6]), ([6], [6]), ([7, 8, 6, 6], [6, 7, 8]), ([6, 9], [6, 9]), ([10, 9], [10]), ([11], [11]), ([11], [11]), ([12, 13, 11], [11, 12, 13]), ([11, 14], [11, 14]), ([15, 11], [15]), ([16], [16]), ([16], [16]), ([17, 18, 16, 16], [16, 17, 18]), ([16, 19], [16, 19]), ([20, 19], [20]), ([21], [21]), ([21], [21]), ([22, 23, 21], [21, 22, 23]), ([21, 24], [21, 24]), ([25, 21], [25]), ([26], [26]), ([26], [26]), ([27, 28, 26], [26, 27, 28]), ([26, 29], [26, 29]), ([30, 26, 0, 1, 2, 3, 4, 5, 6, 7, 8, 9, 10, 11, 12, 13, 14, 15, 16, 17, 18, 19, 20, 21, 22, 23, 24, 25, 26, 27, 28, 29, 30], [30])])
def spilelaw42_SenderSends.B9 : List Nat := [0, 1, 3, 0, 15, 31, 63, 127, 127, 511, 1023, 2047, 4095, 4095, 16383, 32767, 65535, 131071, 131071, 524287, 1048575, 2097151, 4194303, 4194303, 16777215, 33554431, 67108863, 134217727, 134217727, 536870911, 1073741823, 2147483647]
theorem spilelaw42_SenderSends.tab9 : rtab .any (opsOf Try.f3 9) = spilelaw42_SenderSends.T9 := by kernel_rfl
theorem spilelaw42_SenderSends.bits9 : waitsOk spilelaw42_SenderSends.T9.2 spilelaw42_SenderSends.B9 = true := by kernel_rfl
set_option maxHeartbeats 8000000 in
set_option maxRecDepth 100000 in
theorem spilelaw42_SenderSends.calls (k : Nat) (a0_0 : Int) (a0_1 : Int) (A0_2 : Option Addr) (c0_2 : Nat) (l0_2 : List (S33)) (a1 : Int) (a2_0 : Int) (a2_1 : Int) (a2_2 : Int) (a2_3 : Int) (a2_4 : Int) (a2_5 : Int) (a2_6 : Int) (r : Bool) (w : World) (hr0_2 : Kd.C k33 w A0_2 l0_2.length l0_2) (hc0_2 : l0_2.length ≤ c0_2) (h : spilelaw42_SenderSends.f k a0_0 a0_1 l0_2 a1 a2_0 a2_1 a2_2 a2_3 a2_4 a2_5 a2_6 = some r) :
  Calls Try.prog 3 #[.agg #[.int .i64 a0_0, .int .i64 a0_1, .slice A0_2 l0_2.length c0_2], .int .i64 a1, .agg #[.int .i64 a2_0, .int .i64 a2_1, .int .i64 a2_2, .int .i64 a2_3, .int .i64 a2_4, .int .i64 a2_5, .int .i64 a2_6]] w fun e w' => e = .returned (.bool r) ∧ Below w.heap.size w w' := by
 have hu24 := Try.underlying24
 have hu26 := Try.underlying26
 have hu33 := Try.underlying33
 have HR0_2 := AM hr0_2
 have HC0_2 := AM hc0_2
 clear hr0_2 hc0_2
 have HB := AM (Below.refl w.heap.size w)
 have H : ((spilelaw42_awake.f k).bind fun t270 => (if t270 = true then ((spileref42_Few.f a0_0 a0_1 l0_2).bind fun t271 => (if t271 = true then ((sender_New.f a1).bind fun bt272 => ((spileref42_New.f a1).bind fun bt279 => ((spileref42_Copy.f a0_0 a0_1 l0_2).bind fun bt286 => ((sender_Send.f k bt286.1 bt286.2.1 bt286.2.2 a1 a2_0 a2_1 a2_2 a2_3 a2_4 a2_5 a2_6).bind fun bt291 => ((spileref42_Send.f k a0_0 a0_1 l0_2 a1 a2_0 a2_1 a2_2 a2_3 a2_4 a2_5 a2_6).bind fun bt309 => ((spileref42_Copy.f a0_0 a0_1 l0_2).bind fun bt327 => ((sender_Check.f k bt327.1 bt327.2.1 bt327.2.2).bind fun t332 => ((spileref42_Check.f k a0_0 a0_1 l0_2).bind fun t333 => (if t332 = t333 then ((spileref42_Same.f k bt272.1 bt272.2.1 bt272.2.2.1 bt279.1 bt279.2.1 bt279.2.2.1).bind fun t334 => (if t334 = true then (if bt272.2.2.2 = bt279.2.2.2 then ((spileref42_Same.f k bt291.1 bt291.2.1 bt291.2.2.1 bt309.1 bt309.2.1 bt309.2.2.1).bind fun t335 => (if t335 = true then (if (bt291.2.2.2.1 == bt309.2.2.2.1 && (bt291.2.2.2.2.1 == bt309.2.2.2.2.1 && (bt291.2.2.2.2.2.1 == bt309.2.2.2.2.2.1 && ((bt291.2.2.2.2.2.2.1 == bt309.2.2.2.2.2.2.1 && (bt291.2.2.2.2.2.2.2.1 == bt309.2.2.2.2.2.2.2.1 && (bt291.2.2.2.2.2.2.2.2.1 == bt309.2.2.2.2.2.2.2.2.1 && (bt291.2.2.2.2.2.2.2.2.2.1 == bt309.2.2.2.2.2.2.2.2.2.1 && (bt291.2.2.2.2.2.2.2.2.2.2.1 == bt309.2.2.2.2.2.2.2.2.2.2.1 && (bt291.2.2.2.2.2.2.2.2.2.2.2.1 == bt309.2.2.2.2.2.2.2.2.2.2.2.1 && (bt291.2.2.2.2.2.2.2.2.2.2.2.2.1 == bt309.2.2.2.2.2.2.2.2.2.2.2.2.1))))))))))) = true then (some (bt291.2.2.2.2.2.2.2.2.2.2.2.2.2 == bt309.2.2.2.2.2.2.2.2.2.2.2.2.2)) else (none)) else (none))) else (none)) else (none))) else (none)))))))))) else (some true))) else (none))) = some r := h
 clear h
 replace H := Option.bind_eq_some_iff.mp H
 obtain ⟨t270, A40, H⟩ := H
 replace H : (if t270 = true then ((spileref42_Few.f a0_0 a0_1 l0_2).bind fun t271 => (if t271 = true then ((sender_New.f a1).bind fun bt272 => ((spileref42_New.f a1).bind fun bt279 => ((spileref42_Copy.f a0_0 a0_1 l0_2).bind fun bt286 => ((sender_Send.f k bt286.1 bt286.2.1 bt286.2.2 a1 a2_0 a2_1 a2_2 a2_3 a2_4 a2_5 a2_6).bind fun bt291 => ((spileref42_Send.f k a0_0 a0_1 l0_2 a1 a2_0 a2_1 a2_2 a2_3 a2_4 a2_5 a2_6).bind fun bt309 => ((spileref42_Copy.f a0_0 a0_1 l0_2).bind fun bt327 => ((sender_Check.f k bt327.1 bt327.2.1 bt327.2.2).bind fun t332 => ((spileref42_Check.f k a0_0 a0_1 l0_2).bind fun t333 => (if t332 = t333 then ((spileref42_Same.f k bt272.1 bt272.2.1 bt272.2.2.1 bt279.1 bt279.2.1 bt279.2.2.1).bind fun t334 => (if t334 = true then (if bt272.2.2.2 = bt279.2.2.2 then ((spileref42_Same.f k bt291.1 bt291.2.1 bt291.2.2.1 bt309.1 bt309.2.1 bt309.2.2.1).bind fun t335 => (if t335 = true then (if (bt291.2.2.2.1 == bt309.2.2.2.1 && (bt291.2.2.2.2.1 == bt309.2.2.2.2.1 && (bt291.2.2.2.2.2.1 == bt309.2.2.2.2.2.1 && ((bt291.2.2.2.2.2.2.1 == bt309.2.2.2.2.2.2.1 && (bt291.2.2.2.2.2.2.2.1 == bt309.2.2.2.2.2.2.2.1 && (bt291.2.2.2.2.2.2.2.2.1 == bt309.2.2.2.2.2.2.2.2.1 && (bt291.2.2.2.2.2.2.2.2.2.1 == bt309.2.2.2.2.2.2.2.2.2.1 && (bt291.2.2.2.2.2.2.2.2.2.2.1 == bt309.2.2.2.2.2.2.2.2.2.2.1 && (bt291.2.2.2.2.2.2.2.2.2.2.2.1 == bt309.2.2.2.2.2.2.2.2.2.2.2.1 && (bt291.2.2.2.2.2.2.2.2.2.2.2.2.1 == bt309.2.2.2.2.2.2.2.2.2.2.2.2.1))))))))))) = true then (some (bt291.2.2.2.2.2.2.2.2.2.2.2.2.2 == bt309.2.2.2.2.2.2.2.2.2.2.2.2.2)) else (none)) else (none))) else (none)) else (none))) else (none)))))))))) else (some true))) else (none)) = some r := H
 have A4 := AM A40
 clear A40
 by_cases c5 : t270 = true
 ·subst c5
  have H1 : ((spileref42_Few.f a0_0 a0_1 l0_2).bind fun t271 => (if t271 = true then ((sender_New.f a1).bind fun bt272 => ((spileref42_New.f a1).bind fun bt279 => ((spileref42_Copy.f a0_0 a0_1 l0_2).bind fun bt286 => ((sender_Send.f k bt286.1 bt286.2.1 bt286.2.2 a1 a2_0 a2_1 a2_2 a2_3 a2_4 a2_5 a2_6).bind fun bt291 => ((spileref42_Send.f k a0_0 a0_1 l0_2 a1 a2_0 a2_1 a2_2 a2_3 a2_4 a2_5 a2_6).bind fun bt309 => ((spileref42_Copy.f a0_0 a0_1 l0_2).bind fun bt327 => ((sender_Check.f k bt327.1 bt327.2.1 bt327.2.2).bind fun t332 => ((spileref42_Check.f k a0_0 a0_1 l0_2).bind fun t333 => (if t332 = t333 then ((spileref42_Same.f k bt272.1 bt272.2.1 bt272.2.2.1 bt279.1 bt279.2.1 bt279.2.2.1).bind fun t334 => (if t334 = true then (if bt272.2.2.2 = bt279.2.2.2 then ((spileref42_Same.f k bt291.1 bt291.2.1 bt291.2.2.1 bt309.1 bt309.2.1 bt309.2.2.1).bind fun t335 => (if t335 = true then (if (bt291.2.2.2.1 == bt309.2.2.2.1 && (bt291.2.2.2.2.1 == bt309.2.2.2.2.1 && (bt291.2.2.2.2.2.1 == bt309.2.2.2.2.2.1 && ((bt291.2.2.2.2.2.2.1 == bt309.2.2.2.2.2.2.1 && (bt291.2.2.2.2.2.2.2.1 == bt309.2.2.2.2.2.2.2.1 && (bt291.2.2.2.2.2.2.2.2.1 == bt309.2.2.2.2.2.2.2.2.1 && (bt291.2.2.2.2.2.2.2.2.2.1 == bt309.2.2.2.2.2.2.2.2.2.1 && (bt291.2.2.2.2.2.2.2.2.2.2.1 == bt309.2.2.2.2.2.2.2.2.2.2.1 && (bt291.2.2.2.2.2.2.2.2.2.2.2.1 == bt309.2.2.2.2.2.2.2.2.2.2.2.1 && (bt291.2.2.2.2.2.2.2.2.2.2.2.2.1 == bt309.2.2.2.2.2.2.2.2.2.2.2.2.1))))))))))) = true then (some (bt291.2.2.2.2.2.2.2.2.2.2.2.2.2 == bt309.2.2.2.2.2.2.2.2.2.2.2.2.2)) else (none)) else (none))) else (none)) else (none))) else (none)))))))))) else (some true))) = some r := by rw [if_pos rfl] at H; exact H
  clear H
  have H := H1
  clear H1
  replace H := Option.bind_eq_some_iff.mp H
  obtain ⟨t271, A60, H⟩ := H
  replace H : (if t271 = true then ((sender_New.f a1).bind fun bt272 => ((spileref42_New.f a1).bind fun bt279 => ((spileref42_Copy.f a0_0 a0_1 l0_2).bind fun bt286 => ((sender_Send.f k bt286.1 bt286.2.1 bt286.2.2 a1 a2_0 a2_1 a2_2 a2_3 a2_4 a2_5 a2_6).bind fun bt291 => ((spileref42_Send.f k a0_0 a0_1 l0_2 a1 a2_0 a2_1 a2_2 a2_3 a2_4 a2_5 a2_6).bind fun bt309 => ((spileref42_Copy.f a0_0 a0_1 l0_2).bind fun bt327 => ((sender_Check.f k bt327.1 bt327.2.1 bt327.2.2).bind fun t332 => ((spileref42_Check.f k a0_0 a0_1 l0_2).bind fun t333 => (if t332 = t333 then ((spileref42_Same.f k bt272.1 bt272.2.1 bt272.2.2.1 bt279.1 bt279.2.1 bt279.2.2.1).bind fun t334 => (if t334 = true then (if bt272.2.2.2 = bt279.2.2.2 then ((spileref42_Same.f k bt291.1 bt291.2.1 bt291.2.2.1 bt309.1 bt309.2.1 bt309.2.2.1).bind fun t335 => (if t335 = true then (if (bt291.2.2.2.1 == bt309.2.2.2.1 && (bt291.2.2.2.2.1 == bt309.2.2.2.2.1 && (bt291.2.2.2.2.2.1 == bt309.2.2.2.2.2.1 && ((bt291.2.2.2.2.2.2.1 == bt309.2.2.2.2.2.2.1 && (bt291.2.2.2.2.2.2.2.1 == bt309.2.2.2.2.2.2.2.1 && (bt291.2.2.2.2.2.2.2.2.1 == bt309.2.2.2.2.2.2.2.2.1 && (bt291.2.2.2.2.2.2.2.2.2.1 == bt309.2.2.2.2.2.2.2.2.2.1 && (bt291.2.2.2.2.2.2.2.2.2.2.1 == bt309.2.2.2.2.2.2.2.2.2.2.1 && (bt291.2.2.2.2.2.2.2.2.2.2.2.1 == bt309.2.2.2.2.2.2.2.2.2.2.2.1 && (bt291.2.2.2.2.2.2.2.2.2.2.2.2.1 == bt309.2.2.2.2.2.2.2.2.2.2.2.2.1))))))))))) = true then (some (bt291.2.2.2.2.2.2.2.2.2.2.2.2.2 == bt309.2.2.2.2.2.2.2.2.2.2.2.2.2)) else (none)) else (none))) else (none)) else (none))) else (none)))))))))) else (some true)) = some r := H
  have A6 := AM A60
  clear A60
  by_cases c7 : t271 = true
  ·subst c7
   have H1 : ((sender_New.f a1).bind fun bt272 => ((spileref42_New.f a1).bind fun bt279 => ((spileref42_Copy.f a0_0 a0_1 l0_2).bind fun bt286 => ((sender_Send.f k bt286.1 bt286.2.1 bt286.2.2 a1 a2_0 a2_1 a2_2 a2_3 a2_4 a2_5 a2_6).bind fun bt291 => ((spileref42_Send.f k a0_0 a0_1 l0_2 a1 a2_0 a2_1 a2_2 a2_3 a2_4 a2_5 a2_6).bind fun bt309 => ((spileref42_Copy.f a0_0 a0_1 l0_2).bind fun bt327 => ((sender_Check.f k bt327.1 bt327.2.1 bt327.2.2).bind fun t332 => ((spileref42_Check.f k a0_0 a0_1 l0_2).bind fun t333 => (if t332 = t333 then ((spileref42_Same.f k bt272.1 bt272.2.1 bt272.2.2.1 bt279.1 bt279.2.1 bt279.2.2.1).bind fun t334 => (if t334 = true then (if bt272.2.2.2 = bt279.2.2.2 then ((spileref42_Same.f k bt291.1 bt291.2.1 bt291.2.2.1 bt309.1 bt309.2.1 bt309.2.2.1).bind fun t335 => (if t335 = true then (if (bt291.2.2.2.1 == bt309.2.2.2.1 && (bt291.2.2.2.2.1 == bt309.2.2.2.2.1 && (bt291.2.2.2.2.2.1 == bt309.2.2.2.2.2.1 && ((bt291.2.2.2.2.2.2.1 == bt309.2.2.2.2.2.2.1 && (bt291.2.2.2.2.2.2.2.1 == bt309.2.2.2.2.2.2.2.1 && (bt291.2.2.2.2.2.2.2.2.1 == bt309.2.2.2.2.2.2.2.2.1 && (bt291.2.2.2.2.2.2.2.2.2.1 == bt309.2.2.2.2.2.2.2.2.2.1 && (bt291.2.2.2.2.2.2.2.2.2.2.1 == bt309.2.2.2.2.2.2.2.2.2.2.1 && (bt291.2.2.2.2.2.2.2.2.2.2.2.1 == bt309.2.2.2.2.2.2.2.2.2.2.2.1 && (bt291.2.2.2.2.2.2.2.2.2.2.2.2.1 == bt309.2.2.2.2.2.2.2.2.2.2.2.2.1))))))))))) = true then (some (bt291.2.2.2.2.2.2.2.2.2.2.2.2.2 == bt309.2.2.2.2.2.2.2.2.2.2.2.2.2)) else (none)) else (none))) else (none)) else (none))) else (none)))))))))) = some r := by rw [if_pos rfl] at H; exact H
   clear H
   have H := H1
   clear H1
   replace H := Option.bind_eq_some_iff.mp H
   obtain ⟨⟨t272, t273, t274, t277⟩, A80, H⟩ := H
   replace H : ((spileref42_New.f a1).bind fun bt279 => ((spileref42_Copy.f a0_0 a0_1 l0_2).bind fun bt286 => ((sender_Send.f k bt286.1 bt286.2.1 bt286.2.2 a1 a2_0 a2_1 a2_2 a2_3 a2_4 a2_5 a2_6).bind fun bt291 => ((spileref42_Send.f k a0_0 a0_1 l0_2 a1 a2_0 a2_1 a2_2 a2_3 a2_4 a2_5 a2_6).bind fun bt309 => ((spileref42_Copy.f a0_0 a0_1 l0_2).bind fun bt327 => ((sender_Check.f k bt327.1 bt327.2.1 bt327.2.2).bind fun t332 => ((spileref42_Check.f k a0_0 a0_1 l0_2).bind fun t333 => (if t332 = t333 then ((spileref42_Same.f k t272 t273 t274 bt279.1 bt279.2.1 bt279.2.2.1).bind fun t334 => (if t334 = true then (if t277 = bt279.2.2.2 then ((spileref42_Same.f k bt291.1 bt291.2.1 bt291.2.2.1 bt309.1 bt309.2.1 bt309.2.2.1).bind fun t335 => (if t335 = true then (if (bt291.2.2.2.1 == bt309.2.2.2.1 && (bt291.2.2.2.2.1 == bt309.2.2.2.2.1 && (bt291.2.2.2.2.2.1 == bt309.2.2.2.2.2.1 && ((bt291.2.2.2.2.2.2.1 == bt309.2.2.2.2.2.2.1 && (bt291.2.2.2.2.2.2.2.1 == bt309.2.2.2.2.2.2.2.1 && (bt291.2.2.2.2.2.2.2.2.1 == bt309.2.2.2.2.2.2.2.2.1 && (bt291.2.2.2.2.2.2.2.2.2.1 == bt309.2.2.2.2.2.2.2.2.2.1 && (bt291.2.2.2.2.2.2.2.2.2.2.1 == bt309.2.2.2.2.2.2.2.2.2.2.1 && (bt291.2.2.2.2.2.2.2.2.2.2.2.1 == bt309.2.2.2.2.2.2.2.2.2.2.2.1 && (bt291.2.2.2.2.2.2.2.2.2.2.2.2.1 == bt309.2.2.2.2.2.2.2.2.2.2.2.2.1))))))))))) = true then (some (bt291.2.2.2.2.2.2.2.2.2.2.2.2.2 == bt309.2.2.2.2.2.2.2.2.2.2.2.2.2)) else (none)) else (none))) else (none)) else (none))) else (none))))))))) = some r := H
   have A8 := AM A80
   clear A80
   replace H := Option.bind_eq_some_iff.mp H
   obtain ⟨⟨t279, t280, t281, t284⟩, A90, H⟩ := H
   replace H : ((spileref42_Copy.f a0_0 a0_1 l0_2).bind fun bt286 => ((sender_Send.f k bt286.1 bt286.2.1 bt286.2.2 a1 a2_0 a2_1 a2_2 a2_3 a2_4 a2_5 a2_6).bind fun bt291 => ((spileref42_Send.f k a0_0 a0_1 l0_2 a1 a2_0 a2_1 a2_2 a2_3 a2_4 a2_5 a2_6).bind fun bt309 => ((spileref42_Copy.f a0_0 a0_1 l0_2).bind fun bt327 => ((sender_Check.f k bt327.1 bt327.2.1 bt327.2.2).bind fun t332 => ((spileref42_Check.f k a0_0 a0_1 l0_2).bind fun t333 => (if t332 = t333 then ((spileref42_Same.f k t272 t273 t274 t279 t280 t281).bind fun t334 => (if t334 = true then (if t277 = t284 then ((spileref42_Same.f k bt291.1 bt291.2.1 bt291.2.2.1 bt309.1 bt309.2.1 bt309.2.2.1).bind fun t335 => (if t335 = true then (if (bt291.2.2.2.1 == bt309.2.2.2.1 && (bt291.2.2.2.2.1 == bt309.2.2.2.2.1 && (bt291.2.2.2.2.2.1 == bt309.2.2.2.2.2.1 && ((bt291.2.2.2.2.2.2.1 == bt309.2.2.2.2.2.2.1 && (bt291.2.2.2.2.2.2.2.1 == bt309.2.2.2.2.2.2.2.1 && (bt291.2.2.2.2.2.2.2.2.1 == bt309.2.2.2.2.2.2.2.2.1 && (bt291.2.2.2.2.2.2.2.2.2.1 == bt309.2.2.2.2.2.2.2.2.2.1 && (bt291.2.2.2.2.2.2.2.2.2.2.1 == bt309.2.2.2.2.2.2.2.2.2.2.1 && (bt291.2.2.2.2.2.2.2.2.2.2.2.1 == bt309.2.2.2.2.2.2.2.2.2.2.2.1 && (bt291.2.2.2.2.2.2.2.2.2.2.2.2.1 == bt309.2.2.2.2.2.2.2.2.2.2.2.2.1))))))))))) = true then (some (bt291.2.2.2.2.2.2.2.2.2.2.2.2.2 == bt309.2.2.2.2.2.2.2.2.2.2.2.2.2)) else (none)) else (none))) else (none)) else (none))) else (none)))))))) = some r := H
   have A9 := AM A90
   clear A90
   replace H := Option.bind_eq_some_iff.mp H
   obtain ⟨⟨t286, t287, t288⟩, A100, H⟩ := H
   replace H : ((sender_Send.f k t286 t287 t288 a1 a2_0 a2_1 a2_2 a2_3 a2_4 a2_5 a2_6).bind fun bt291 => ((spileref42_Send.f k a0_0 a0_1 l0_2 a1 a2_0 a2_1 a2_2 a2_3 a2_4 a2_5 a2_6).bind fun bt309 => ((spileref42_Copy.f a0_0 a0_1 l0_2).bind fun bt327 => ((sender_Check.f k bt327.1 bt327.2.1 bt327.2.2).bind fun t332 => ((spileref42_Check.f k a0_0 a0_1 l0_2).bind fun t333 => (if t332 = t333 then ((spileref42_Same.f k t272 t273 t274 t279 t280 t281).bind fun t334 => (if t334 = true then (if t277 = t284 then ((spileref42_Same.f k bt291.1 bt291.2.1 bt291.2.2.1 bt309.1 bt309.2.1 bt309.2.2.1).bind fun t335 => (if t335 = true then (if (bt291.2.2.2.1 == bt309.2.2.2.1 && (bt291.2.2.2.2.1 == bt309.2.2.2.2.1 && (bt291.2.2.2.2.2.1 == bt309.2.2.2.2.2.1 && ((bt291.2.2.2.2.2.2.1 == bt309.2.2.2.2.2.2.1 && (bt291.2.2.2.2.2.2.2.1 == bt309.2.2.2.2.2.2.2.1 && (bt291.2.2.2.2.2.2.2.2.1 == bt309.2.2.2.2.2.2.2.2.1 && (bt291.2.2.2.2.2.2.2.2.2.1 == bt309.2.2.2.2.2.2.2.2.2.1 && (bt291.2.2.2.2.2.2.2.2.2.2.1 == bt309.2.2.2.2.2.2.2.2.2.2.1 && (bt291.2.2.2.2.2.2.2.2.2.2.2.1 == bt309.2.2.2.2.2.2.2.2.2.2.2.1 && (bt291.2.2.2.2.2.2.2.2.2.2.2.2.1 == bt309.2.2.2.2.2.2.2.2.2.2.2.2.1))))))))))) = true then (some (bt291.2.2.2.2.2.2.2.2.2.2.2.2.2 == bt309.2.2.2.2.2.2.2.2.2.2.2.2.2)) else (none)) else (none))) else (none)) else (none))) else (none))))))) = some r := H
   have A10 := AM A100
   clear A100
   replace H := Option.bind_eq_some_iff.mp H
   obtain ⟨⟨t291, t292, t293, t296, t297, t298, t299, t300, t301, t302, t303, t304, t305, t306⟩, A110, H⟩ := H
   replace H : ((spileref42_Send.f k a0_0 a0_1 l0_2 a1 a2_0 a2_1 a2_2 a2_3 a2_4 a2_5 a2_6).bind fun bt309 => ((spileref42_Copy.f a0_0 a0_1 l0_2).bind fun bt327 => ((sender_Check.f k bt327.1 bt327.2.1 bt327.2.2).bind fun t332 => ((spileref42_Check.f k a0_0 a0_1 l0_2).bind fun t333 => (if t332 = t333 then ((spileref42_Same.f k t272 t273 t274 t279 t280 t281).bind fun t334 => (if t334 = true then (if t277 = t284 then ((spileref42_Same.f k t291 t292 t293 bt309.1 bt309.2.1 bt309.2.2.1).bind fun t335 => (if t335 = true then (if (t296 == bt309.2.2.2.1 && (t297 == bt309.2.2.2.2.1 && (t298 == bt309.2.2.2.2.2.1 && ((t299 == bt309.2.2.2.2.2.2.1 && (t300 == bt309.2.2.2.2.2.2.2.1 && (t301 == bt309.2.2.2.2.2.2.2.2.1 && (t302 == bt309.2.2.2.2.2.2.2.2.2.1 && (t303 == bt309.2.2.2.2.2.2.2.2.2.2.1 && (t304 == bt309.2.2.2.2.2.2.2.2.2.2.2.1 && (t305 == bt309.2.2.2.2.2.2.2.2.2.2.2.2.1))))))))))) = true then (some (t306 == bt309.2.2.2.2.2.2.2.2.2.2.2.2.2)) else (none)) else (none))) else (none)) else (none))) else (none)))))) = some r := H
   have A11 := AM A110
   clear A110
   replace H := Option.bind_eq_some_iff.mp H
   obtain ⟨⟨t309, t310, t311, t314, t315, t316, t317, t318, t319, t320, t321, t322, t323, t324⟩, A120, H⟩ := H
   replace H : ((spileref42_Copy.f a0_0 a0_1 l0_2).bind fun bt327 => ((sender_Check.f k bt327.1 bt327.2.1 bt327.2.2).bind fun t332 => ((spileref42_Check.f k a0_0 a0_1 l0_2).bind fun t333 => (if t332 = t333 then ((spileref42_Same.f k t272 t273 t274 t279 t280 t281).bind fun t334 => (if t334 = true then (if t277 = t284 then ((spileref42_Same.f k t291 t292 t293 t309 t310 t311).bind fun t335 => (if t335 = true then (if (t296 == t314 && (t297 == t315 && (t298 == t316 && ((t299 == t317 && (t300 == t318 && (t301 == t319 && (t302 == t320 && (t303 == t321 && (t304 == t322 && (t305 == t323))))))))))) = true then (some (t306 == t324)) else (none)) else (none))) else (none)) else (none))) else (none))))) = some r := H
   have A12 := AM A120
   clear A120
   replace H := Option.bind_eq_some_iff.mp H
   obtain ⟨⟨t327, t328, t329⟩, A130, H⟩ := H
   replace H : ((sender_Check.f k t327 t328 t329).bind fun t332 => ((spileref42_Check.f k a0_0 a0_1 l0_2).bind fun t333 => (if t332 = t333 then ((spileref42_Same.f k t272 t273 t274 t279 t280 t281).bind fun t334 => (if t334 = true then (if t277 = t284 then ((spileref42_Same.f k t291 t292 t293 t309 t310 t311).bind fun t335 => (if t335 = true then (if (t296 == t314 && (t297 == t315 && (t298 == t316 && ((t299 == t317 && (t300 == t318 && (t301 == t319 && (t302 == t320 && (t303 == t321 && (t304 == t322 && (t305 == t323))))))))))) = true then (some (t306 == t324)) else (none)) else (none))) else (none)) else (none))) else (none)))) = some r := H
   have A13 := AM A130
   clear A130
   replace H := Option.bind_eq_some_iff.mp H
   obtain ⟨t332, A140, H⟩ := H
   replace H : ((spileref42_Check.f k a0_0 a0_1 l0_2).bind fun t333 => (if t332 = t333 then ((spileref42_Same.f k t272 t273 t274 t279 t280 t281).bind fun t334 => (if t334 = true then (if t277 = t284 then ((spileref42_Same.f k t291 t292 t293 t309 t310 t311).bind fun t335 => (if t335 = true then (if (t296 == t314 && (t297 == t315 && (t298 == t316 && ((t299 == t317 && (t300 == t318 && (t301 == t319 && (t302 == t320 && (t303 == t321 && (t304 == t322 && (t305 == t323))))))))))) = true then (some (t306 == t324)) else (none)) else (none))) else (none)) else (none))) else (none))) = some r := H
   have A14 := AM A140
   clear A140
   replace H := Option.bind_eq_some_iff.mp H
   obtain ⟨t333, A150, H⟩ := H
   replace H : (if t332 = t333 then ((spileref42_Same.f k t272 t273 t274 t279 t280 t281).bind fun t334 => (if t334 = true then (if t277 = t284 then ((spileref42_Same.f k t291 t292 t293 t309 t310 t311).bind fun t335 => (if t335 = true then (if (t296 == t314 && (t297 == t315 && (t298 == t316 && ((t299 == t317 && (t300 == t318 && (t301 == t319 && (t302 == t320 && (t303 == t321 && (t304 == t322 && (t305 == t323))))))))))) = true then (some (t306 == t324)) else (none)) else (none))) else (none)) else (none))) else (none)) = some r := H
   have A15 := AM A150
   clear A150
   by_cases c16 : t332 = t333
   ·rw [if_pos c16] at H
    have c16b0 : (t332 == t333) = true := beq_iff_eq.mpr c16
    try simp only [beq_self_eq_true, Bool.not_true, Bool.false_or, Bool.true_and] at c16b0
    have c16b1 : (t332 != t333) = false := bne_eq_false_iff_eq.mpr c16
    clear c16
    replace H := Option.bind_eq_some_iff.mp H
    obtain ⟨t334, A170, H⟩ := H
    replace H : (if t334 = true then (if t277 = t284 then ((spileref42_Same.f k t291 t292 t293 t309 t310 t311).bind fun t335 => (if t335 = true then (if (t296 == t314 && (t297 == t315 && (t298 == t316 && ((t299 == t317 && (t300 == t318 && (t301 == t319 && (t302 == t320 && (t303 == t321 && (t304 == t322 && (t305 == t323))))))))))) = true then (some (t306 == t324)) else (none)) else (none))) else (none)) else (none)) = some r := H
    have A17 := AM A170
    clear A170
    by_cases c18 : t334 = true
    ·subst c18
     have H1 : (if t277 = t284 then ((spileref42_Same.f k t291 t292 t293 t309 t310 t311).bind fun t335 => (if t335 = true then (if (t296 == t314 && (t297 == t315 && (t298 == t316 && ((t299 == t317 && (t300 == t318 && (t301 == t319 && (t302 == t320 && (t303 == t321 && (t304 == t322 && (t305 == t323))))))))))) = true then (some (t306 == t324)) else (none)) else (none))) else (none)) = some r := by rw [if_pos rfl] at H; exact H
     clear H
     have H := H1
     clear H1
     by_cases c19 : t277 = t284
     ·rw [if_pos c19] at H
      have c19b0 : (t277 == t284) = true := beq_iff_eq.mpr c19
      try simp only [beq_self_eq_true, Bool.not_true, Bool.false_or, Bool.true_and] at c19b0
      have c19b1 : (t277 != t284) = false := bne_eq_false_iff_eq.mpr c19
      clear c19
      replace H := Option.bind_eq_some_iff.mp H
      obtain ⟨t335, A200, H⟩ := H
      replace H : (if t335 = true then (if (t296 == t314 && (t297 == t315 && (t298 == t316 && ((t299 == t317 && (t300 == t318 && (t301 == t319 && (t302 == t320 && (t303 == t321 && (t304 == t322 && (t305 == t323))))))))))) = true then (some (t306 == t324)) else (none)) else (none)) = some r := H
      have A20 := AM A200
      clear A200
      by_cases c21 : t335 = true
      ·subst c21
       have H1 : (if (t296 == t314 && (t297 == t315 && (t298 == t316 && ((t299 == t317 && (t300 == t318 && (t301 == t319 && (t302 == t320 && (t303 == t321 && (t304 == t322 && (t305 == t323))))))))))) = true then (some (t306 == t324)) else (none)) = some r := by rw [if_pos rfl] at H; exact H
       clear H
       have H := H1
       clear H1
       by_cases c22 : (t296 == t314 && (t297 == t315 && (t298 == t316 && ((t299 == t317 && (t300 == t318 && (t301 == t319 && (t302 == t320 && (t303 == t321 && (t304 == t322 && (t305 == t323))))))))))) = true
       ·rw [if_pos c22] at H
        have c22b0 : (t296 == t314 && (t297 == t315 && (t298 == t316 && ((t299 == t317 && (t300 == t318 && (t301 == t319 && (t302 == t320 && (t303 == t321 && (t304 == t322 && (t305 == t323))))))))))) = true := c22
        try simp only [beq_self_eq_true, Bool.not_true, Bool.false_or, Bool.true_and] at c22b0
        (try (have c22b1 : decide (t296 = t314 && (t297 == t315 && (t298 == t316 && ((t299 == t317 && (t300 == t318 && (t301 == t319 && (t302 == t320 && (t303 == t321 && (t304 == t322 && (t305 == t323))))))))))) = true := by simpa using c22))
        (try (have c22b2 : (t296 == t314 && (t297 == t315 && (t298 == t316 && ((t299 == t317 && (t300 == t318 && (t301 == t319 && (t302 == t320 && (t303 == t321 && (t304 == t322 && (t305 == t323))))))))))) = true := by simpa using c22))
        clear c22
        obtain rfl := Option.some.inj H
        go_enter Try.func3, Try.ntmps3
        try go_wp2_with (first | ((with_reducible refine gqD (N := 3) rfl ?_); refine GS.bx (N := 3) (cs := #[.int .i64 a0_0, .int .i64 a0_1, .slice A0_2 l0_2.length c0_2]) (t := 24) ?_; intro gb268 hg w23 hbox hb; have n0_ := AM (lqT (GS.lB HB.out) hb); have n1_ := AM (hbox); have n2_ := AM ((by rw [hg]; exact (lqZ (GS.lB HB.out)) : w.heap.size ≤ gb268)); have n3_ := AM ((by rw [hg]; exact (lqZ (GS.lB HB.out)) : w.heap.size ≤ gb268)); clear HB; have HB := n0_; have BK268 := n1_; have GW268 := n2_; have GE268 := n3_; clear n0_ n1_ n2_ n3_; clear hb hbox hg) | ((with_reducible refine gqD (N := 5) rfl ?_); refine GS.bx (N := 5) (cs := #[.int .i64 a2_0, .int .i64 a2_1, .int .i64 a2_2, .int .i64 a2_3, .int .i64 a2_4, .int .i64 a2_5, .int .i64 a2_6]) (t := 26) ?_; intro gb269 hg w24 hbox hb; have n0_ := AM (bqB (GS.bqX BK268.out) hb); have n1_ := AM (lqT (GS.lB HB.out) hb); have n2_ := AM (hbox); have n3_ := AM ((by rw [hg]; exact (lqZ (GS.lB HB.out)) : w.heap.size ≤ gb269)); have n4_ := AM ((by rw [hg]; exact (lqZ (GS.lB HB.out)) : w.heap.size ≤ gb269)); have n5_ := AM ((by rw [hg]; exact Nat.ne_of_lt (blk_lt (GS.bqX BK268.out)) : gb268 ≠ gb269)); have n6_ := AM ((by rw [hg]; exact Nat.ne_of_gt (blk_lt (GS.bqX BK268.out)) : gb269 ≠ gb268)); clear BK268; clear HB; have BK268 := n0_; have HB := n1_; have BK269 := n2_; have GW269 := n3_; have GE269 := n4_; have NB268_269 := n5_; have NB269_268 := n6_; clear n0_ n1_ n2_ n3_ n4_ n5_ n6_; clear hb hbox hg) | ((with_reducible refine gqC (f := 10) rfl ?_); refine GS.gL (some 17) Try.func10 #[] ?_; (with_reducible refine (spilelaw42_awake.calls k  true _ A4.out).mono ?_); rintro e w25 ⟨rfl, hb⟩; refine ⟨_, rfl, ?_⟩; have n0_ := AM (bqB (GS.bqX BK268.out) hb); have n1_ := AM (bqB (GS.bqX BK269.out) hb); have n2_ := AM (lqT (GS.lB HB.out) hb); clear BK268; clear BK269; clear HB; have BK268 := n0_; have BK269 := n1_; have HB := n2_; clear n0_ n1_ n2_; (try clear hb); (try clear hb2); (try clear hk); (try clear hi); have hnb26 := NB268_269.out; have hnc26 := NB269_268.out; obtain ⟨hcz27_0, hcz27_1, hcz27_2, hfz27_0, hfz27_1, hfz27_2⟩ := GS.c3 BK268.out) | ((with_reducible refine gqC (f := 11) rfl ?_); refine GS.gL (some 20) Try.func11 #[.agg #[.int .i64 a0_0, .int .i64 a0_1, .slice A0_2 l0_2.length c0_2]] ?_; (with_reducible refine (spileref42_Few.calls a0_0 a0_1 _ _ l0_2 true _ ?side1 ?side2 A6.out).mono ?_); (case side1 => exact GS.rC (Kd.C_below HR0_2.out HB.out)); (case side2 => exact HC0_2.out); rintro e w28 ⟨rfl, hb⟩; refine ⟨_, rfl, ?_⟩; have n0_ := AM (bqB (GS.bqX BK268.out) hb); have n1_ := AM (bqB (GS.bqX BK269.out) hb); have n2_ := AM (lqT (GS.lB HB.out) hb); clear BK268; clear BK269; clear HB; have BK268 := n0_; have BK269 := n1_; have HB := n2_; clear n0_ n1_ n2_; (try clear hb); (try clear hb2); (try clear hk); (try clear hi)) | ((with_reducible refine gqC (f := 12) rfl ?_); refine GS.gL (some 24) Try.func12 #[.int .i64 a1] ?_; (with_reducible refine (sender_New.calls a1 t272 t273 t274 t277 _ A8.out).mono ?_); rintro e w29 ⟨v275, rfl, ho0, hb⟩; refine ⟨_, rfl, ?_⟩; have n0_ := AM (Kd.R_lower ho0 (lqZ (GS.lB HB.out))); have n1_ := AM (bqB (GS.bqX BK268.out) hb); have n2_ := AM (bqB (GS.bqX BK269.out) hb); have n3_ := AM (lqT (GS.lB HB.out) hb); clear BK268; clear BK269; clear HB; have HO276 := n0_; have BK268 := n1_; have BK269 := n2_; have HB := n3_; clear n0_ n1_ n2_ n3_; (try clear hb); (try clear hb2); (try clear hk); (try clear hi); (try clear ho0)) | ((with_reducible refine gqD (N := 7) rfl ?_); refine GS.bx (N := 7) (cs := #[.int .i64 0, .int .i64 0, .slice none 0 0]) (t := 24) ?_; intro gb278 hg w30 hbox hb; have n0_ := AM (Kd.R_below (GS.rR HO276.out) hb); have n1_ := AM (bqB (GS.bqX BK268.out) hb); have n2_ := AM (bqB (GS.bqX BK269.out) hb); have n3_ := AM (lqT (GS.lB HB.out) hb); have n4_ := AM (hbox); have n5_ := AM ((by rw [hg]; exact (lqZ (GS.lB HB.out)) : w.heap.size ≤ gb278)); have n6_ := AM ((by rw [hg]; exact (lqZ (GS.lB HB.out)) : w.heap.size ≤ gb278)); have n7_ := AM ((by rw [hg]; exact Nat.ne_of_lt (blk_lt (GS.bqX BK268.out)) : gb268 ≠ gb278)); have n8_ := AM ((by rw [hg]; exact Nat.ne_of_gt (blk_lt (GS.bqX BK268.out)) : gb278 ≠ gb268)); have n9_ := AM ((by rw [hg]; exact Nat.ne_of_lt (blk_lt (GS.bqX BK269.out)) : gb269 ≠ gb278)); have n10_ := AM ((by rw [hg]; exact Nat.ne_of_gt (blk_lt (GS.bqX BK269.out)) : gb278 ≠ gb269)); clear HO276; clear BK268; clear BK269; clear HB; have HO276 := n0_; have BK268 := n1_; have BK269 := n2_; have HB := n3_; have BK278 := n4_; have GW278 := n5_; have GE278 := n6_; have NB268_278 := n7_; have NB278_268 := n8_; have NB269_278 := n9_; have NB278_269 := n10_; clear n0_ n1_ n2_ n3_ n4_ n5_ n6_ n7_ n8_ n9_ n10_; clear hb hbox hg; have hnb31 := NB278_268.out; have hnc31 := NB268_278.out; have hnb32 := NB278_269.out; have hnc32 := NB269_278.out; obtain ⟨hcz33_0, hcz33_1, hcz33_2, hfz33_0, hfz33_1, hfz33_2⟩ := GS.c3 BK278.out; obtain ⟨Ao34, co34, eo34⟩ := Kd.R_slice HO276.out; subst eo34) | ((with_reducible refine gqC (f := 13) rfl ?_); refine GS.gL (some 29) Try.func13 #[.int .i64 a1] ?_; (with_reducible refine (spileref42_New.calls a1 t279 t280 t281 t284 _ A9.out).mono ?_); rintro e w35 ⟨v282, rfl, ho0, hb⟩; refine ⟨_, rfl, ?_⟩; have n0_ := AM (Kd.R_elder' (by (with_reducible repeat (first | apply Kd.R_alloc | apply Kd.R_drewN | apply Kd.R_drew)); exact (Kd.R_mono (Kd.R_far (p := ⟨gb278, 2, none⟩) (Kd.R_far (p := ⟨gb278, 1, none⟩) (Kd.R_far (p := ⟨gb278, 0, none⟩) (Kd.R_types HO276.out BK278.out (by decide)) (fun _ hk => hk.2) (.int .i64 t272)) (fun _ hk => hk.2) (.int .i64 t273)) (fun _ hk => hk.2) (.slice Ao34 t274.length co34)) (fun _ h_ => h_.1))) (Kd.R_base ho0) hb); have n1_ := AM (Kd.R_lower (Kd.R_new' ho0 (Kd.R_lt (by (with_reducible repeat (first | apply Kd.R_alloc | apply Kd.R_drewN | apply Kd.R_drew)); exact (Kd.R_mono (Kd.R_far (p := ⟨gb278, 2, none⟩) (Kd.R_far (p := ⟨gb278, 1, none⟩) (Kd.R_far (p := ⟨gb278, 0, none⟩) (Kd.R_types HO276.out BK278.out (by decide)) (fun _ hk => hk.2) (.int .i64 t272)) (fun _ hk => hk.2) (.int .i64 t273)) (fun _ hk => hk.2) (.slice Ao34 t274.length co34)) (fun _ h_ => h_.1))))) (lqZ (GS.lB HB.out))); have n2_ := AM (bqB (GS.bqX BK268.out) hb); have n3_ := AM (bqB (GS.bqX BK269.out) hb); have n4_ := AM (bqB (g := gb278) (o := .cells #[.int .i64 t272, .int .i64 t273, .slice Ao34 t274.length co34] 24 (0, 0)) (GS.bqZ BK278.out) hb); have n5_ := AM (lqT (GS.lB HB.out) hb); clear HO276; clear BK268; clear BK269; clear BK278; clear HB; have HO276 := n0_; have HO283 := n1_; have BK268 := n2_; have BK269 := n3_; have BK278 := n4_; have HB := n5_; clear n0_ n1_ n2_ n3_ n4_ n5_; (try clear hb); (try clear hb2); (try clear hk); (try clear hi); (try clear ho0)) | ((with_reducible refine gqD (N := 9) rfl ?_); refine GS.bx (N := 9) (cs := #[.int .i64 0, .int .i64 0, .slice none 0 0]) (t := 24) ?_; intro gb285 hg w36 hbox hb; have n0_ := AM (Kd.R_below (GS.rR HO276.out) hb); have n1_ := AM (Kd.R_below (GS.rR HO283.out) hb); have n2_ := AM (bqB (GS.bqX BK268.out) hb); have n3_ := AM (bqB (GS.bqX BK269.out) hb); have n4_ := AM (bqB (GS.bqX BK278.out) hb); have n5_ := AM (lqT (GS.lB HB.out) hb); have n6_ := AM (hbox); have n7_ := AM ((by rw [hg]; exact (lqZ (GS.lB HB.out)) : w.heap.size ≤ gb285)); have n8_ := AM ((by rw [hg]; exact (lqZ (GS.lB HB.out)) : w.heap.size ≤ gb285)); have n9_ := AM ((by rw [hg]; exact Nat.ne_of_lt (blk_lt (GS.bqX BK268.out)) : gb268 ≠ gb285)); have n10_ := AM ((by rw [hg]; exact Nat.ne_of_gt (blk_lt (GS.bqX BK268.out)) : gb285 ≠ gb268)); have n11_ := AM ((by rw [hg]; exact Nat.ne_of_lt (blk_lt (GS.bqX BK269.out)) : gb269 ≠ gb285)); have n12_ := AM ((by rw [hg]; exact Nat.ne_of_gt (blk_lt (GS.bqX BK269.out)) : gb285 ≠ gb269)); have n13_ := AM ((by rw [hg]; exact Nat.ne_of_lt (blk_lt (GS.bqX BK278.out)) : gb278 ≠ gb285)); have n14_ := AM ((by rw [hg]; exact Nat.ne_of_gt (blk_lt (GS.bqX BK278.out)) : gb285 ≠ gb278)); clear HO276; clear HO283; clear BK268; clear BK269; clear BK278; clear HB; have HO276 := n0_; have HO283 := n1_; have BK268 := n2_; have BK269 := n3_; have BK278 := n4_; have HB := n5_; have BK285 := n6_; have GW285 := n7_; have GE285 := n8_; have NB268_285 := n9_; have NB285_268 := n10_; have NB269_285 := n11_; have NB285_269 := n12_; have NB278_285 := n13_; have NB285_278 := n14_; clear n0_ n1_ n2_ n3_ n4_ n5_ n6_ n7_ n8_ n9_ n10_ n11_ n12_ n13_ n14_; clear hb hbox hg; have hnb37 := NB285_268.out; have hnc37 := NB268_285.out; have hnb38 := NB285_269.out; have hnc38 := NB269_285.out; have hnb39 := NB285_278.out; have hnc39 := NB278_285.out; obtain ⟨hcz40_0, hcz40_1, hcz40_2, hfz40_0, hfz40_1, hfz40_2⟩ := GS.c3 BK285.out; obtain ⟨Ao41, co41, eo41⟩ := Kd.R_slice HO283.out; subst eo41))
        have n0_ : Aside0 (Kd.R k33 33 (((w36.setCell ⟨gb285, 0, none⟩ (.int .i64 t279)).setCell ⟨gb285, 1, none⟩ (.int .i64 t280)).setCell ⟨gb285, 2, none⟩ (.slice Ao41 t281.length co41)) w.heap.size (fun k_ => some k_ ≠ (.slice Ao41 t281.length co41 : Value).ownBlock) (.slice Ao34 t274.length co34) t274) := ⟨by (with_reducible repeat (first | apply Kd.R_alloc | apply Kd.R_drewN | apply Kd.R_drew)); exact Kd.R_mono (Kd.R_far (p := ⟨gb285, 2, none⟩) (Kd.R_far (p := ⟨gb285, 1, none⟩) (Kd.R_far (p := ⟨gb285, 0, none⟩) (Kd.R_types HO276.out BK285.out (by decide)) (fun _ hk => hk.2) (.int .i64 t279)) (fun _ hk => hk.2) (.int .i64 t280)) (fun _ hk => hk.2) (.slice Ao41 t281.length co41)) (fun _ hk => GS.cj hk)⟩
        have n1_ : Aside0 (Kd.R k33 33 (((w36.setCell ⟨gb285, 0, none⟩ (.int .i64 t279)).setCell ⟨gb285, 1, none⟩ (.int .i64 t280)).setCell ⟨gb285, 2, none⟩ (.slice Ao41 t281.length co41)) w.heap.size (fun k_ => some k_ ≠ (.slice Ao34 t274.length co34 : Value).ownBlock) (.slice Ao41 t281.length co41) t281) := ⟨by (with_reducible repeat (first | apply Kd.R_alloc | apply Kd.R_drewN | apply Kd.R_drew)); exact Kd.R_mono (Kd.R_far (p := ⟨gb285, 2, none⟩) (Kd.R_far (p := ⟨gb285, 1, none⟩) (Kd.R_far (p := ⟨gb285, 0, none⟩) (Kd.R_types HO283.out BK285.out (by decide)) (fun _ hk => hk.2) (.int .i64 t279)) (fun _ hk => hk.2) (.int .i64 t280)) (fun _ hk => hk.2) (.slice Ao41 t281.length co41)) (fun _ hk => GS.cj hk)⟩
        have n2_ : Aside0 ((((w36.setCell ⟨gb285, 0, none⟩ (.int .i64 t279)).setCell ⟨gb285, 1, none⟩ (.int .i64 t280)).setCell ⟨gb285, 2, none⟩ (.slice Ao41 t281.length co41)).heap[gb268]? = some (.cells #[.int .i64 a0_0, .int .i64 a0_1, .slice A0_2 l0_2.length c0_2] 24 (0, 0))) := ⟨GS.bqX BK268.out⟩
        have n3_ : Aside0 ((((w36.setCell ⟨gb285, 0, none⟩ (.int .i64 t279)).setCell ⟨gb285, 1, none⟩ (.int .i64 t280)).setCell ⟨gb285, 2, none⟩ (.slice Ao41 t281.length co41)).heap[gb269]? = some (.cells #[.int .i64 a2_0, .int .i64 a2_1, .int .i64 a2_2, .int .i64 a2_3, .int .i64 a2_4, .int .i64 a2_5, .int .i64 a2_6] 26 (0, 0))) := ⟨GS.bqX BK269.out⟩
        have n4_ : Aside0 ((((w36.setCell ⟨gb285, 0, none⟩ (.int .i64 t279)).setCell ⟨gb285, 1, none⟩ (.int .i64 t280)).setCell ⟨gb285, 2, none⟩ (.slice Ao41 t281.length co41)).heap[gb278]? = some (.cells #[.int .i64 t272, .int .i64 t273, .slice Ao34 t274.length co34] 24 (0, 0))) := ⟨GS.bqX BK278.out⟩
        have n5_ : Aside0 ((((w36.setCell ⟨gb285, 0, none⟩ (.int .i64 t279)).setCell ⟨gb285, 1, none⟩ (.int .i64 t280)).setCell ⟨gb285, 2, none⟩ (.slice Ao41 t281.length co41)).heap[gb285]? = some (.cells #[.int .i64 t279, .int .i64 t280, .slice Ao41 t281.length co41] 24 (0, 0))) := ⟨GS.bqZ BK285.out⟩
        have n6_ : Aside0 (Below w.heap.size w (((w36.setCell ⟨gb285, 0, none⟩ (.int .i64 t279)).setCell ⟨gb285, 1, none⟩ (.int .i64 t280)).setCell ⟨gb285, 2, none⟩ (.slice Ao41 t281.length co41))) := ⟨GS.lB HB.out⟩
        (try clear HO276)
        (try clear HO283)
        (try clear BK268)
        (try clear BK269)
        (try clear BK278)
        (try clear BK285)
        (try clear HB)
        generalize (((w36.setCell ⟨gb285, 0, none⟩ (.int .i64 t279)).setCell ⟨gb285, 1, none⟩ (.int .i64 t280)).setCell ⟨gb285, 2, none⟩ (.slice Ao41 t281.length co41)) = w42 at n0_ n1_ n2_ n3_ n4_ n5_ n6_ ⊢
        have HO276 := n0_
        have HO283 := n1_
        have BK268 := n2_
        have BK269 := n3_
        have BK278 := n4_
        have BK285 := n5_
        have HB := n6_
        clear n0_ n1_ n2_ n3_ n4_ n5_ n6_
        have n0_ := AM (Kd.R_drew HO276.out)
        have n1_ := AM (Kd.R_drew HO283.out)
        have n2_ := AM (bqD BK268.out)
        have n3_ := AM (bqD BK269.out)
        have n4_ := AM (bqD BK278.out)
        have n5_ := AM (bqD BK285.out)
        have n6_ := AM (lqD HB.out)
        clear HO276
        clear HO283
        clear BK268
        clear BK269
        clear BK278
        clear BK285
        clear HB
        have HO276 := n0_
        have HO283 := n1_
        have BK268 := n2_
        have BK269 := n3_
        have BK278 := n4_
        have BK285 := n5_
        have HB := n6_
        clear n0_ n1_ n2_ n3_ n4_ n5_ n6_
        refine start_ (n := 14) (S := fun w' => True) (ds := []) #[false, false, false, false, false, false, false, false, false, false, false, false, false, false] (by kernel_rfl) rfl rfl trivial (fun hHeld => ?_); refine with_tabW spilelaw42_SenderSends.tab7 spilelaw42_SenderSends.bits7 (fun HT_ HW_ => ?_)
        generalize w42.drew = w43 at HO276 HO283 BK268 BK269 BK278 BK285 HB hHeld ⊢
        refine pure_ (i := 2) (N := some 35) (v := ?_) (a' := ?_) #[false, false, true, false, false, false, false, false, false, false, false, false, false, false] rfl rfl (any_of HT_.out (by kernel_rfl)) (fun _ _ _ h => h) (Or.inl ⟨by rfl, ?_⟩) ?_ ?_
        rotate_left
        ·intro w'
         go_simp
         with_reducible rfl
        rotate_left
        ·simp only [Act.put, List.setIfInBounds_toArray, List.set_cons_zero, List.set_cons_succ, i64_w, i32_w]
         rfl
        refine inv_at [0, 1, 3, 4, 5, 6, 7, 8, 9, 10, 11, 12, 13] (fun a0_ b a w' => ∃ (v289 : Value) (v294 : Value) (gb307 : Nat) (gb308 : Nat) (m1_ : Value) (m4_ : Value) (m5_ : Value) (m6_ : Value) (m9_ : Value) (m10_ : Value), a = putSel a0_ b [(0, 33, .agg #[.int .i64 a0_0, .int .i64 a0_1, .slice A0_2 l0_2.length c0_2]), (1, 34, m1_), (3, 36, .agg #[.int .i64 a2_0, .int .i64 a2_1, .int .i64 a2_2, .int .i64 a2_3, .int .i64 a2_4, .int .i64 a2_5, .int .i64 a2_6]), (4, 37, m4_), (5, 32, m5_), (6, 38, m6_), (7, 39, .agg #[.int .i64 t296, .int .i64 t297, .int .i64 t298, .int .i64 t299, .int .i64 t300, .int .i64 t301, .int .i64 t302, .int .i64 t303, .int .i64 t304, .int .i64 t305]), (8, 40, .int .i64 t306), (9, 11, m9_), (10, 12, m10_), (13, 13, .int .i64 t306)] ∧ (w'.heap[gb268]? = some (.cells #[.int .i64 a0_0, .int .i64 a0_1, .slice A0_2 l0_2.length c0_2] 24 (0, 0))) ∧ (w'.heap[gb269]? = some (.cells #[.int .i64 a2_0, .int .i64 a2_1, .int .i64 a2_2, .int .i64 a2_3, .int .i64 a2_4, .int .i64 a2_5, .int .i64 a2_6] 26 (0, 0))) ∧ (w'.heap[gb278]? = some (.cells #[.int .i64 t272, .int .i64 t273, .slice Ao34 t274.length co34] 24 (0, 0))) ∧ (w'.heap[gb285]? = some (.cells #[.int .i64 t279, .int .i64 t280, .slice Ao41 t281.length co41] 24 (0, 0))) ∧ (Below w.heap.size w w') ∧ (b 9 = true → b 10 = true → gb308 ≠ gb307) ∧ (b 9 = true → b 10 = true → gb307 ≠ gb308) ∧ (b 9 = true → b 11 = false → w'.heap[gb307]? = some (.cells #[.int .i64 0, .int .i64 0, .slice none 0 0] 24 (0, 0))) ∧ (b 9 = true → w.heap.size ≤ gb307) ∧ (b 9 = true → w.heap.size ≤ gb307) ∧ (b 9 = true → gb268 ≠ gb307) ∧ (b 9 = true → gb307 ≠ gb268) ∧ (b 9 = true → gb269 ≠ gb307) ∧ (b 9 = true → gb307 ≠ gb269) ∧ (b 9 = true → gb278 ≠ gb307) ∧ (b 9 = true → gb307 ≠ gb278) ∧ (b 9 = true → gb285 ≠ gb307) ∧ (b 9 = true → gb307 ≠ gb285) ∧ (b 10 = true → b 12 = false → w'.heap[gb308]? = some (.cells #[.int .i64 0, .int .i64 0, .int .i64 0, .int .i64 0, .int .i64 0, .int .i64 0, .int .i64 0, .int .i64 0, .int .i64 0, .int .i64 0] 33 (0, 0))) ∧ (b 10 = true → w.heap.size ≤ gb308) ∧ (b 10 = true → w.heap.size ≤ gb308) ∧ (b 10 = true → gb268 ≠ gb308) ∧ (b 10 = true → gb308 ≠ gb268) ∧ (b 10 = true → gb269 ≠ gb308) ∧ (b 10 = true → gb308 ≠ gb269) ∧ (b 10 = true → gb278 ≠ gb308) ∧ (b 10 = true → gb308 ≠ gb278) ∧ (b 10 = true → gb285 ≠ gb308) ∧ (b 10 = true → gb308 ≠ gb285) ∧ (b 11 = true → w'.heap[gb307]? = some (.cells #[.int .i64 t291, .int .i64 t292, v294] 24 (0, 0))) ∧ (b 12 = true → w'.heap[gb308]? = some (.cells #[.int .i64 t296, .int .i64 t297, .int .i64 t298, .int .i64 t299, .int .i64 t300, .int .i64 t301, .int .i64 t302, .int .i64 t303, .int .i64 t304, .int .i64 t305] 33 (0, 0))) ∧ (Kd.R k33 33 w' w.heap.size (fun k_ => some k_ ≠ (.slice Ao41 t281.length co41 : Value).ownBlock) (.slice Ao34 t274.length co34) t274) ∧ (Kd.R k33 33 w' w.heap.size (fun k_ => some k_ ≠ (.slice Ao34 t274.length co34 : Value).ownBlock) (.slice Ao41 t281.length co41) t281) ∧ (b 1 = true → Kd.R k33 33 w' w.heap.size (fun k_ => some k_ ≠ (.slice Ao34 t274.length co34 : Value).ownBlock ∧ some k_ ≠ (.slice Ao41 t281.length co41 : Value).ownBlock) v289 t288) ∧ (b 4 = true → Kd.R k33 33 w' w.heap.size (fun k_ => some k_ ≠ (.slice Ao34 t274.length co34 : Value).ownBlock ∧ some k_ ≠ (.slice Ao41 t281.length co41 : Value).ownBlock ∧ some k_ ≠ (v289 : Value).ownBlock) v294 t293) ∧ (b 10 = true → Kd.R k33 33 w' w.heap.size (fun k_ => some k_ ≠ (.slice Ao41 t281.length co41 : Value).ownBlock ∧ k_ ≠ gb308) (.slice Ao34 t274.length co34) t274) ∧ (b 10 = true → Kd.R k33 33 w' w.heap.size (fun k_ => some k_ ≠ (.slice Ao34 t274.length co34 : Value).ownBlock ∧ k_ ≠ gb308) (.slice Ao41 t281.length co41) t281) ∧ (b 1 = true → b 10 = true → Kd.R k33 33 w' w.heap.size (fun k_ => some k_ ≠ (.slice Ao34 t274.length co34 : Value).ownBlock ∧ some k_ ≠ (.slice Ao41 t281.length co41 : Value).ownBlock ∧ k_ ≠ gb308) v289 t288) ∧ (b 4 = true → b 10 = true → Kd.R k33 33 w' w.heap.size (fun k_ => some k_ ≠ (.slice Ao34 t274.length co34 : Value).ownBlock ∧ some k_ ≠ (.slice Ao41 t281.length co41 : Value).ownBlock ∧ k_ ≠ gb308 ∧ some k_ ≠ (v289 : Value).ownBlock) v294 t293) ∧ (b 1 = true → (m1_ : Value) = .agg #[.int .i64 t286, .int .i64 t287, v289]) ∧ (b 4 = true → (m4_ : Value) = .tuple #[.agg #[.int .i64 t291, .int .i64 t292, v294], .agg #[.int .i64 t296, .int .i64 t297, .int .i64 t298, .int .i64 t299, .int .i64 t300, .int .i64 t301, .int .i64 t302, .int .i64 t303, .int .i64 t304, .int .i64 t305], .int .i64 t306]) ∧ (b 5 = true → (m5_ : Value) = .tuple #[.agg #[.int .i64 t291, .int .i64 t292, v294], .agg #[.int .i64 t296, .int .i64 t297, .int .i64 t298, .int .i64 t299, .int .i64 t300, .int .i64 t301, .int .i64 t302, .int .i64 t303, .int .i64 t304, .int .i64 t305], .int .i64 t306]) ∧ (b 6 = true → (m6_ : Value) = .agg #[.int .i64 t291, .int .i64 t292, v294]) ∧ (b 9 = true → (m9_ : Value) = .pointer (some ⟨gb307, 0, none⟩)) ∧ (b 10 = true → (m10_ : Value) = .pointer (some ⟨gb308, 0, none⟩))) HT_.out HW_.out (by kernel_rfl) (by kernel_rfl) ?_ ?_ ?_
        ·exact ⟨.bool false, .bool false, 0, 0, .bool false, .bool false, .bool false, .bool false, .bool false, .bool false, by simp only [putSel, Bool.false_eq_true, if_false], BK268.out, BK269.out, BK278.out, BK285.out, HB.out, fun h_ => absurd h_ (by decide), fun h_ => absurd h_ (by decide), fun h_ => absurd h_ (by decide), fun h_ => absurd h_ (by decide), fun h_ => absurd h_ (by decide), fun h_ => absurd h_ (by decide), fun h_ => absurd h_ (by decide), fun h_ => absurd h_ (by decide), fun h_ => absurd h_ (by decide), fun h_ => absurd h_ (by decide), fun h_ => absurd h_ (by decide), fun h_ => absurd h_ (by decide), fun h_ => absurd h_ (by decide), fun h_ => absurd h_ (by decide), fun h_ => absurd h_ (by decide), fun h_ => absurd h_ (by decide), fun h_ => absurd h_ (by decide), fun h_ => absurd h_ (by decide), fun h_ => absurd h_ (by decide), fun h_ => absurd h_ (by decide), fun h_ => absurd h_ (by decide), fun h_ => absurd h_ (by decide), fun h_ => absurd h_ (by decide), fun h_ => absurd h_ (by decide), fun h_ => absurd h_ (by decide), fun h_ => absurd h_ (by decide), HO276.out, HO283.out, fun h_ => absurd h_ (by decide), fun h_ => absurd h_ (by decide), fun h_ => absurd h_ (by decide), fun h_ => absurd h_ (by decide), fun h_ => absurd h_ (by decide), fun h_ => absurd h_ (by decide), fun h_ => absurd h_ (by decide), fun h_ => absurd h_ (by decide), fun h_ => absurd h_ (by decide), fun h_ => absurd h_ (by decide), fun h_ => absurd h_ (by decide), fun h_ => absurd h_ (by decide)⟩
        ·skip
         clear BK268 BK269 BK278 BK285 HB HO276 HO283
         refine steps_cons ?_ ?_
         ·rintro b a w' ⟨v289, v294, gb307, gb308, m1_, m4_, m5_, m6_, m9_, m10_, ha, QBK268, QBK269, QBK278, QBK285, QHB, QNB308_307, QNB307_308, QBK307, QGW307, QGE307, QNB268_307, QNB307_268, QNB269_307, QNB307_269, QNB278_307, QNB307_278, QNB285_307, QNB307_285, QBK308, QGW308, QGE308, QNB268_308, QNB308_268, QNB269_308, QNB308_269, QNB278_308, QNB308_278, QNB285_308, QNB308_285, QBK307_e11, QBK308_e12, QHO276, QHO283, QHO290_e1, QHO295_e4, QHO276_e10, QHO283_e10, QHO290_p1_10, QHO295_p4_10, QX1_, QX4_, QX5_, QX6_, QX9_, QX10_⟩ hb_ hon hoff
          refine ⟨_, rfl, fun K hK => ?_⟩
          have e3 : a.tmps[3]? = some (.pointer (some ⟨gb268, 0, none⟩)) := by rw [ha]; exact (putSel_off rfl).trans rfl
          replace ha := AM ha
          have BK268 := AM QBK268
          have BK269 := AM QBK269
          have BK278 := AM QBK278
          have BK285 := AM QBK285
          have HB := AM QHB
          have HO276 := AM QHO276
          have HO283 := AM QHO283
          have hc0_ : w'.cell? ⟨gb268, 0, none⟩ = some (.int .i64 a0_0) := (bqC BK268.out 0).trans rfl
          have hc1_ : w'.cell? ⟨gb268, 1, none⟩ = some (.int .i64 a0_1) := (bqC BK268.out 1).trans rfl
          have hc2_ : w'.cell? ⟨gb268, 2, none⟩ = some (.slice A0_2 l0_2.length c0_2) := (bqC BK268.out 2).trans rfl
          refine value_ (w1 := w') (v := .agg #[.int .i64 a0_0, .int .i64 a0_1, .slice A0_2 l0_2.length c0_2]) (by rfl) rfl ?_ ?_
          ·go_simp
           (try simp only [i64_w])
           try rfl
          refine hK.out _ _ ⟨v289, v294, gb307, gb308, m1_, m4_, m5_, m6_, m9_, m10_, (by rw [ha.out]; exact putSel_upk 0 hb_ rfl rfl rfl), QBK268, QBK269, QBK278, QBK285, QHB, QNB308_307, QNB307_308, QBK307, QGW307, QGE307, QNB268_307, QNB307_268, QNB269_307, QNB307_269, QNB278_307, QNB307_278, QNB285_307, QNB307_285, QBK308, QGW308, QGE308, QNB268_308, QNB308_268, QNB269_308, QNB308_269, QNB278_308, QNB308_278, QNB285_308, QNB308_285, fun h0_ => absurd ((hoff 11 (by kernel_rfl)).symm.trans h0_) (by decide), fun h0_ => absurd ((hoff 12 (by kernel_rfl)).symm.trans h0_) (by decide), QHO276, QHO283, fun h0_ => absurd ((hoff 1 (by kernel_rfl)).symm.trans h0_) (by decide), fun h0_ => absurd ((hoff 4 (by kernel_rfl)).symm.trans h0_) (by decide), QHO276_e10, QHO283_e10, fun h0_ _ => absurd ((hoff 1 (by kernel_rfl)).symm.trans h0_) (by decide), fun h0_ _ => absurd ((hoff 4 (by kernel_rfl)).symm.trans h0_) (by decide), fun h0_ => absurd ((hoff 1 (by kernel_rfl)).symm.trans h0_) (by decide), fun h0_ => absurd ((hoff 4 (by kernel_rfl)).symm.trans h0_) (by decide), fun h0_ => absurd ((hoff 5 (by kernel_rfl)).symm.trans h0_) (by decide), fun h0_ => absurd ((hoff 6 (by kernel_rfl)).symm.trans h0_) (by decide), QX9_, QX10_⟩
         refine steps_cons ?_ ?_
         ·rintro b a w' ⟨v289, v294, gb307, gb308, m1_, m4_, m5_, m6_, m9_, m10_, ha, QBK268, QBK269, QBK278, QBK285, QHB, QNB308_307, QNB307_308, QBK307, QGW307, QGE307, QNB268_307, QNB307_268, QNB269_307, QNB307_269, QNB278_307, QNB307_278, QNB285_307, QNB307_285, QBK308, QGW308, QGE308, QNB268_308, QNB308_268, QNB269_308, QNB308_269, QNB278_308, QNB308_278, QNB285_308, QNB308_285, QBK307_e11, QBK308_e12, QHO276, QHO283, QHO290_e1, QHO295_e4, QHO276_e10, QHO283_e10, QHO290_p1_10, QHO295_p4_10, QX1_, QX4_, QX5_, QX6_, QX9_, QX10_⟩ hb_ hon hoff
          refine ⟨_, rfl, fun K hK => ?_⟩
          have e33 : a.tmps[33]? = some (.agg #[.int .i64 a0_0, .int .i64 a0_1, .slice A0_2 l0_2.length c0_2]) := by rw [ha]; exact putSel_on (e := (0, 33, .agg #[.int .i64 a0_0, .int .i64 a0_1, .slice A0_2 l0_2.length c0_2])) 0 rfl rfl (hon 0 (by kernel_rfl)) rfl
          replace ha := AM ha
          have BK268 := AM QBK268
          have BK269 := AM QBK269
          have BK278 := AM QBK278
          have BK285 := AM QBK285
          have HB := AM QHB
          have HO276 := AM QHO276
          have HO283 := AM QHO283
          refine goes_ Try.func15 (by kernel_rfl) rfl #[.agg #[.int .i64 a0_0, .int .i64 a0_1, .slice A0_2 l0_2.length c0_2]] (by rfl) rfl rfl (by first | (simp only [List.map_toArray, List.map_cons, List.map_nil, Act.eval, Array.getD_eq_getD_getElem?, Option.getD_some, e33]; done) | (simp only [List.map_toArray, List.map_cons, List.map_nil, Act.eval, Array.getD_eq_getD_getElem?, Option.getD_some, e33]; rfl)) ?_
          with_reducible refine (spileref42_Copy.calls a0_0 a0_1 _ _ l0_2 t286 t287 t288 _ ?side1 ?side2 A10.out).mono ?_
          (case side1 => exact GS.rC (Kd.C_below HR0_2.out HB.out))
          (case side2 => exact HC0_2.out)
          rintro e w44 ⟨v289, rfl, ho0, hb⟩
          refine ⟨_, rfl, ?_⟩
          have n0_ := AM (Kd.R_elder' (GS.rR HO276.out) (Kd.R_base ho0) hb)
          have n1_ := AM (Kd.R_elder' (GS.rR HO283.out) (Kd.R_base ho0) hb)
          have n2_ := AM (Kd.R_lower (Kd.R_new' (Kd.R_new' ho0 (Kd.R_lt (GS.rR HO276.out))) (Kd.R_lt (GS.rR HO283.out))) (lqZ (GS.lB HB.out)))
          have n3_ := AM (bqB (GS.bqX BK268.out) hb)
          have n4_ := AM (bqB (GS.bqX BK269.out) hb)
          have n5_ := AM (bqB (GS.bqX BK278.out) hb)
          have n6_ := AM (bqB (GS.bqX BK285.out) hb)
          have n7_ := AM (lqT (GS.lB HB.out) hb)
          have z_BK307 := fun (h0_ : b 9 = true) (h1_ : b 11 = false) => (show w44.heap[gb307]? = some (.cells #[.int .i64 0, .int .i64 0, .slice none 0 0] 24 (0, 0)) from by first | exact (bqB (GS.bqX (QBK307 h0_ h1_)) hb))
          have z_BK308 := fun (h0_ : b 10 = true) (h1_ : b 12 = false) => (show w44.heap[gb308]? = some (.cells #[.int .i64 0, .int .i64 0, .int .i64 0, .int .i64 0, .int .i64 0, .int .i64 0, .int .i64 0, .int .i64 0, .int .i64 0, .int .i64 0] 33 (0, 0)) from by first | exact (bqB (GS.bqX (QBK308 h0_ h1_)) hb))
          have z_HO276_e10 := fun (h0_ : b 10 = true) => (show Kd.R k33 33 w44 w.heap.size (fun k_ => some k_ ≠ (.slice Ao41 t281.length co41 : Value).ownBlock ∧ k_ ≠ gb308) (.slice Ao34 t274.length co34) t274 from by first | exact (Kd.R_elder' (GS.rR (QHO276_e10 h0_)) (Kd.R_base ho0) hb) | exact Kd.R_mono (Kd.R_elder' (GS.rR (QHO276_e10 h0_)) (Kd.R_base ho0) hb) (fun _ hk => GS.cj hk))
          have z_HO283_e10 := fun (h0_ : b 10 = true) => (show Kd.R k33 33 w44 w.heap.size (fun k_ => some k_ ≠ (.slice Ao34 t274.length co34 : Value).ownBlock ∧ k_ ≠ gb308) (.slice Ao41 t281.length co41) t281 from by first | exact (Kd.R_elder' (GS.rR (QHO283_e10 h0_)) (Kd.R_base ho0) hb) | exact Kd.R_mono (Kd.R_elder' (GS.rR (QHO283_e10 h0_)) (Kd.R_base ho0) hb) (fun _ hk => GS.cj hk))
          have z_HO290_p1_10 := fun (h0_ : up b 1 1 = true) (h1_ : up b 1 10 = true) => (show Kd.R k33 33 w44 w.heap.size (fun k_ => some k_ ≠ (.slice Ao34 t274.length co34 : Value).ownBlock ∧ some k_ ≠ (.slice Ao41 t281.length co41 : Value).ownBlock ∧ k_ ≠ gb308) v289 t288 from (Kd.R_mono (Kd.R_lower (Kd.R_newB (Kd.R_new' (Kd.R_new' ho0 (Kd.R_lt (GS.rR (QHO276_e10 h1_)))) (Kd.R_lt (GS.rR (QHO283_e10 h1_)))) (GS.bqX (QBK308 h1_ (hoff 12 (by kernel_rfl))))) (lqZ (by repeat (first | (with_reducible first | exact HB.out | apply lqA | apply lqN | apply lqD | refine lqS ?_ GE268.out | refine lqS ?_ GE269.out | refine lqS ?_ GE278.out | refine lqS ?_ GE285.out | refine lqS ?_ (QGE308 h1_)) | exact HB.out)))) (fun _ hk => GS.cj hk)))
          clear HO276
          clear HO283
          clear BK268
          clear BK269
          clear BK278
          clear BK285
          clear HB
          have HO276 := n0_
          have HO283 := n1_
          have HO290 := n2_
          have BK268 := n3_
          have BK269 := n4_
          have BK278 := n5_
          have BK285 := n6_
          have HB := n7_
          clear n0_ n1_ n2_ n3_ n4_ n5_ n6_ n7_
          (try clear hb)
          (try clear hb2)
          (try clear hk)
          (try clear hi)
          (try clear ho0)
          refine hK.out _ _ ⟨v289, v294, gb307, gb308, (.agg #[.int .i64 t286, .int .i64 t287, v289]), m4_, m5_, m6_, m9_, m10_, (by rw [ha.out]; exact putSel_upk 1 hb_ rfl rfl rfl), (GS.bqX BK268.out), (GS.bqX BK269.out), (GS.bqX BK278.out), (GS.bqX BK285.out), (GS.lB HB.out), QNB308_307, QNB307_308, z_BK307, QGW307, QGE307, QNB268_307, QNB307_268, QNB269_307, QNB307_269, QNB278_307, QNB307_278, QNB285_307, QNB307_285, z_BK308, QGW308, QGE308, QNB268_308, QNB308_268, QNB269_308, QNB308_269, QNB278_308, QNB308_278, QNB285_308, QNB308_285, fun h0_ => absurd ((hoff 11 (by kernel_rfl)).symm.trans h0_) (by decide), fun h0_ => absurd ((hoff 12 (by kernel_rfl)).symm.trans h0_) (by decide), (GS.rR (Kd.R_mono HO276.out (fun _ hk => GS.cj hk))), (GS.rR (Kd.R_mono HO283.out (fun _ hk => GS.cj hk))), fun _ => (GS.rR (Kd.R_mono HO290.out (fun _ hk => GS.cj hk))), fun h0_ => absurd ((hoff 4 (by kernel_rfl)).symm.trans h0_) (by decide), z_HO276_e10, z_HO283_e10, z_HO290_p1_10, fun h0_ _ => absurd ((hoff 4 (by kernel_rfl)).symm.trans h0_) (by decide), fun _ => rfl, fun h0_ => absurd ((hoff 4 (by kernel_rfl)).symm.trans h0_) (by decide), fun h0_ => absurd ((hoff 5 (by kernel_rfl)).symm.trans h0_) (by decide), fun h0_ => absurd ((hoff 6 (by kernel_rfl)).symm.trans h0_) (by decide), QX9_, QX10_⟩
         refine steps_cons ?_ ?_
         ·rintro b a w' ⟨v289, v294, gb307, gb308, m1_, m4_, m5_, m6_, m9_, m10_, ha, QBK268, QBK269, QBK278, QBK285, QHB, QNB308_307, QNB307_308, QBK307, QGW307, QGE307, QNB268_307, QNB307_268, QNB269_307, QNB307_269, QNB278_307, QNB307_278, QNB285_307, QNB307_285, QBK308, QGW308, QGE308, QNB268_308, QNB308_268, QNB269_308, QNB308_269, QNB278_308, QNB308_278, QNB285_308, QNB308_285, QBK307_e11, QBK308_e12, QHO276, QHO283, QHO290_e1, QHO295_e4, QHO276_e10, QHO283_e10, QHO290_p1_10, QHO295_p4_10, QX1_, QX4_, QX5_, QX6_, QX9_, QX10_⟩ hb_ hon hoff
          refine ⟨_, rfl, fun K hK => ?_⟩
          have e5 : a.tmps[5]? = some (.pointer (some ⟨gb269, 0, none⟩)) := by rw [ha]; exact (putSel_off rfl).trans rfl
          replace ha := AM ha
          have BK268 := AM QBK268
          have BK269 := AM QBK269
          have BK278 := AM QBK278
          have BK285 := AM QBK285
          have HB := AM QHB
          have HO276 := AM QHO276
          have HO283 := AM QHO283
          have hc0_ : w'.cell? ⟨gb269, 0, none⟩ = some (.int .i64 a2_0) := (bqC BK269.out 0).trans rfl
          have hc1_ : w'.cell? ⟨gb269, 1, none⟩ = some (.int .i64 a2_1) := (bqC BK269.out 1).trans rfl
          have hc2_ : w'.cell? ⟨gb269, 2, none⟩ = some (.int .i64 a2_2) := (bqC BK269.out 2).trans rfl
          have hc3_ : w'.cell? ⟨gb269, 3, none⟩ = some (.int .i64 a2_3) := (bqC BK269.out 3).trans rfl
          have hc4_ : w'.cell? ⟨gb269, 4, none⟩ = some (.int .i64 a2_4) := (bqC BK269.out 4).trans rfl
          have hc5_ : w'.cell? ⟨gb269, 5, none⟩ = some (.int .i64 a2_5) := (bqC BK269.out 5).trans rfl
          have hc6_ : w'.cell? ⟨gb269, 6, none⟩ = some (.int .i64 a2_6) := (bqC BK269.out 6).trans rfl
          refine value_ (w1 := w') (v := .agg #[.int .i64 a2_0, .int .i64 a2_1, .int .i64 a2_2, .int .i64 a2_3, .int .i64 a2_4, .int .i64 a2_5, .int .i64 a2_6]) (by rfl) rfl ?_ ?_
          ·go_simp
           (try simp only [i64_w])
           try rfl
          refine hK.out _ _ ⟨v289, v294, gb307, gb308, m1_, m4_, m5_, m6_, m9_, m10_, (by rw [ha.out]; exact putSel_upk 2 hb_ rfl rfl rfl), QBK268, QBK269, QBK278, QBK285, QHB, QNB308_307, QNB307_308, QBK307, QGW307, QGE307, QNB268_307, QNB307_268, QNB269_307, QNB307_269, QNB278_307, QNB307_278, QNB285_307, QNB307_285, QBK308, QGW308, QGE308, QNB268_308, QNB308_268, QNB269_308, QNB308_269, QNB278_308, QNB308_278, QNB285_308, QNB308_285, fun h0_ => absurd ((hoff 11 (by kernel_rfl)).symm.trans h0_) (by decide), fun h0_ => absurd ((hoff 12 (by kernel_rfl)).symm.trans h0_) (by decide), QHO276, QHO283, QHO290_e1, fun h0_ => absurd ((hoff 4 (by kernel_rfl)).symm.trans h0_) (by decide), QHO276_e10, QHO283_e10, QHO290_p1_10, fun h0_ _ => absurd ((hoff 4 (by kernel_rfl)).symm.trans h0_) (by decide), QX1_, fun h0_ => absurd ((hoff 4 (by kernel_rfl)).symm.trans h0_) (by decide), fun h0_ => absurd ((hoff 5 (by kernel_rfl)).symm.trans h0_) (by decide), fun h0_ => absurd ((hoff 6 (by kernel_rfl)).symm.trans h0_) (by decide), QX9_, QX10_⟩
         refine steps_cons ?_ ?_
         ·rintro b a w' ⟨v289, v294, gb307, gb308, m1_, m4_, m5_, m6_, m9_, m10_, ha, QBK268, QBK269, QBK278, QBK285, QHB, QNB308_307, QNB307_308, QBK307, QGW307, QGE307, QNB268_307, QNB307_268, QNB269_307, QNB307_269, QNB278_307, QNB307_278, QNB285_307, QNB307_285, QBK308, QGW308, QGE308, QNB268_308, QNB308_268, QNB269_308, QNB308_269, QNB278_308, QNB308_278, QNB285_308, QNB308_285, QBK307_e11, QBK308_e12, QHO276, QHO283, QHO290_e1, QHO295_e4, QHO276_e10, QHO283_e10, QHO290_p1_10, QHO295_p4_10, QX1_, QX4_, QX5_, QX6_, QX9_, QX10_⟩ hb_ hon hoff
          refine ⟨_, rfl, fun K hK => ?_⟩
          have e34 : a.tmps[34]? = some (m1_) := by rw [ha]; exact putSel_on (e := (1, 34, m1_)) 1 rfl rfl (hon 1 (by kernel_rfl)) rfl
          rw [QX1_ (hon 1 (by kernel_rfl))] at e34
          have e35 : a.tmps[35]? = some (.int .i64 a1) := by rw [ha]; exact (putSel_off rfl).trans rfl
          have e36 : a.tmps[36]? = some (.agg #[.int .i64 a2_0, .int .i64 a2_1, .int .i64 a2_2, .int .i64 a2_3, .int .i64 a2_4, .int .i64 a2_5, .int .i64 a2_6]) := by rw [ha]; exact putSel_on (e := (3, 36, .agg #[.int .i64 a2_0, .int .i64 a2_1, .int .i64 a2_2, .int .i64 a2_3, .int .i64 a2_4, .int .i64 a2_5, .int .i64 a2_6])) 2 rfl rfl (hon 3 (by kernel_rfl)) rfl
          replace ha := AM ha
          have BK268 := AM QBK268
          have BK269 := AM QBK269
          have BK278 := AM QBK278
          have BK285 := AM QBK285
          have HB := AM QHB
          have HO276 := AM QHO276
          have HO283 := AM QHO283
          have HO290 := AM (QHO290_e1 (hon 1 (by kernel_rfl)))
          obtain ⟨Ao46, co46, eo46⟩ := Kd.R_slice HO290.out
          (first | subst eo46 | (injection eo46 with f1_ f2_ f3_; have f4_ := f1_.symm; have f5_ := f3_.symm; clear f1_ f2_ f3_; subst f4_; subst f5_))
          refine goes_ Try.func14 (by kernel_rfl) rfl #[.agg #[.int .i64 t286, .int .i64 t287, .slice Ao46 t288.length co46], .int .i64 a1, .agg #[.int .i64 a2_0, .int .i64 a2_1, .int .i64 a2_2, .int .i64 a2_3, .int .i64 a2_4, .int .i64 a2_5, .int .i64 a2_6]] (by rfl) rfl rfl (by first | (simp only [List.map_toArray, List.map_cons, List.map_nil, Act.eval, Array.getD_eq_getD_getElem?, Option.getD_some, e34, e35, e36]; done) | (simp only [List.map_toArray, List.map_cons, List.map_nil, Act.eval, Array.getD_eq_getD_getElem?, Option.getD_some, e34, e35, e36]; rfl)) ?_
          with_reducible refine (sender_Send.calls k t286 t287 _ _ t288 a1 a2_0 a2_1 a2_2 a2_3 a2_4 a2_5 a2_6 t291 t292 t293 t296 t297 t298 t299 t300 t301 t302 t303 t304 t305 t306 _ ?side1 ?side2 A11.out).mono ?_
          (case side1 => repeat (first | exact (Kd.R_reads' HO290.out).2.2 | (with_reducible refine Kd.C_alloc ?_ _) | (with_reducible refine Kd.C_drewN ?_ _) | (with_reducible refine Kd.C_drew ?_)))
          (case side2 => exact (Kd.R_reads' HO290.out).2.1)
          rintro e w47 ⟨v294, rfl, ho0, hb⟩
          refine ⟨_, rfl, ?_⟩
          have n0_ := AM (Kd.R_elder' (GS.rR HO276.out) (Kd.R_base ho0) hb)
          have n1_ := AM (Kd.R_elder' (GS.rR HO283.out) (Kd.R_base ho0) hb)
          have n2_ := AM (Kd.R_elder' (GS.rR HO290.out) (Kd.R_base ho0) hb)
          have n3_ := AM (Kd.R_lower (Kd.R_new' (Kd.R_new' (Kd.R_new' ho0 (Kd.R_lt (GS.rR HO276.out))) (Kd.R_lt (GS.rR HO283.out))) (Kd.R_lt (GS.rR HO290.out))) (lqZ (GS.lB HB.out)))
          have n4_ := AM (bqB (GS.bqX BK268.out) hb)
          have n5_ := AM (bqB (GS.bqX BK269.out) hb)
          have n6_ := AM (bqB (GS.bqX BK278.out) hb)
          have n7_ := AM (bqB (GS.bqX BK285.out) hb)
          have n8_ := AM (lqT (GS.lB HB.out) hb)
          have z_BK307 := fun (h0_ : b 9 = true) (h1_ : b 11 = false) => (show w47.heap[gb307]? = some (.cells #[.int .i64 0, .int .i64 0, .slice none 0 0] 24 (0, 0)) from by first | exact (bqB (GS.bqX (QBK307 h0_ h1_)) hb))
          have z_BK308 := fun (h0_ : b 10 = true) (h1_ : b 12 = false) => (show w47.heap[gb308]? = some (.cells #[.int .i64 0, .int .i64 0, .int .i64 0, .int .i64 0, .int .i64 0, .int .i64 0, .int .i64 0, .int .i64 0, .int .i64 0, .int .i64 0] 33 (0, 0)) from by first | exact (bqB (GS.bqX (QBK308 h0_ h1_)) hb))
          have z_HO276_e10 := fun (h0_ : b 10 = true) => (show Kd.R k33 33 w47 w.heap.size (fun k_ => some k_ ≠ (.slice Ao41 t281.length co41 : Value).ownBlock ∧ k_ ≠ gb308) (.slice Ao34 t274.length co34) t274 from by first | exact (Kd.R_elder' (GS.rR (QHO276_e10 h0_)) (Kd.R_base ho0) hb) | exact Kd.R_mono (Kd.R_elder' (GS.rR (QHO276_e10 h0_)) (Kd.R_base ho0) hb) (fun _ hk => GS.cj hk))
          have z_HO283_e10 := fun (h0_ : b 10 = true) => (show Kd.R k33 33 w47 w.heap.size (fun k_ => some k_ ≠ (.slice Ao34 t274.length co34 : Value).ownBlock ∧ k_ ≠ gb308) (.slice Ao41 t281.length co41) t281 from by first | exact (Kd.R_elder' (GS.rR (QHO283_e10 h0_)) (Kd.R_base ho0) hb) | exact Kd.R_mono (Kd.R_elder' (GS.rR (QHO283_e10 h0_)) (Kd.R_base ho0) hb) (fun _ hk => GS.cj hk))
          have z_HO290_p1_10 := fun (h0_ : b 1 = true) (h1_ : b 10 = true) => (show Kd.R k33 33 w47 w.heap.size (fun k_ => some k_ ≠ (.slice Ao34 t274.length co34 : Value).ownBlock ∧ some k_ ≠ (.slice Ao41 t281.length co41 : Value).ownBlock ∧ k_ ≠ gb308) (.slice Ao46 t288.length co46) t288 from by first | exact (Kd.R_elder' (GS.rR (QHO290_p1_10 h0_ h1_)) (Kd.R_base ho0) hb) | exact Kd.R_mono (Kd.R_elder' (GS.rR (QHO290_p1_10 h0_ h1_)) (Kd.R_base ho0) hb) (fun _ hk => GS.cj hk))
          have z_HO295_p4_10 := fun (h0_ : up b 4 4 = true) (h1_ : up b 4 10 = true) => (show Kd.R k33 33 w47 w.heap.size (fun k_ => some k_ ≠ (.slice Ao34 t274.length co34 : Value).ownBlock ∧ some k_ ≠ (.slice Ao41 t281.length co41 : Value).ownBlock ∧ k_ ≠ gb308 ∧ some k_ ≠ (.slice Ao46 t288.length co46 : Value).ownBlock) v294 t293 from (Kd.R_mono (Kd.R_lower (Kd.R_newB (Kd.R_new' (Kd.R_new' (Kd.R_new' ho0 (Kd.R_lt (GS.rR (QHO276_e10 h1_)))) (Kd.R_lt (GS.rR (QHO283_e10 h1_)))) (Kd.R_lt (GS.rR HO290.out))) (GS.bqX (QBK308 h1_ (hoff 12 (by kernel_rfl))))) (lqZ (by repeat (first | (with_reducible first | exact HB.out | apply lqA | apply lqN | apply lqD | refine lqS ?_ GE268.out | refine lqS ?_ GE269.out | refine lqS ?_ GE278.out | refine lqS ?_ GE285.out | refine lqS ?_ (QGE308 h1_)) | exact HB.out)))) (fun _ hk => GS.cj hk)))
          clear HO276
          clear HO283
          clear HO290
          clear BK268
          clear BK269
          clear BK278
          clear BK285
          clear HB
          have HO276 := n0_
          have HO283 := n1_
          have HO290 := n2_
          have HO295 := n3_
          have BK268 := n4_
          have BK269 := n5_
          have BK278 := n6_
          have BK285 := n7_
          have HB := n8_
          clear n0_ n1_ n2_ n3_ n4_ n5_ n6_ n7_ n8_
          (try clear hb)
          (try clear hb2)
          (try clear hk)
          (try clear hi)
          (try clear ho0)
          refine hK.out _ _ ⟨.slice Ao46 t288.length co46, v294, gb307, gb308, m1_, (.tuple #[.agg #[.int .i64 t291, .int .i64 t292, v294], .agg #[.int .i64 t296, .int .i64 t297, .int .i64 t298, .int .i64 t299, .int .i64 t300, .int .i64 t301, .int .i64 t302, .int .i64 t303, .int .i64 t304, .int .i64 t305], .int .i64 t306]), m5_, m6_, m9_, m10_, (by rw [ha.out]; exact putSel_upk 3 hb_ rfl rfl rfl), (GS.bqX BK268.out), (GS.bqX BK269.out), (GS.bqX BK278.out), (GS.bqX BK285.out), (GS.lB HB.out), QNB308_307, QNB307_308, z_BK307, QGW307, QGE307, QNB268_307, QNB307_268, QNB269_307, QNB307_269, QNB278_307, QNB307_278, QNB285_307, QNB307_285, z_BK308, QGW308, QGE308, QNB268_308, QNB308_268, QNB269_308, QNB308_269, QNB278_308, QNB308_278, QNB285_308, QNB308_285, fun h0_ => absurd ((hoff 11 (by kernel_rfl)).symm.trans h0_) (by decide), fun h0_ => absurd ((hoff 12 (by kernel_rfl)).symm.trans h0_) (by decide), (GS.rR (Kd.R_mono HO276.out (fun _ hk => GS.cj hk))), (GS.rR (Kd.R_mono HO283.out (fun _ hk => GS.cj hk))), fun _ => (GS.rR (Kd.R_mono HO290.out (fun _ hk => GS.cj hk))), fun _ => (GS.rR (Kd.R_mono HO295.out (fun _ hk => GS.cj hk))), z_HO276_e10, z_HO283_e10, z_HO290_p1_10, z_HO295_p4_10, QX1_, fun _ => rfl, fun h0_ => absurd ((hoff 5 (by kernel_rfl)).symm.trans h0_) (by decide), fun h0_ => absurd ((hoff 6 (by kernel_rfl)).symm.trans h0_) (by decide), QX9_, QX10_⟩
         refine steps_cons ?_ ?_
         ·rintro b a w' ⟨v289, v294, gb307, gb308, m1_, m4_, m5_, m6_, m9_, m10_, ha, QBK268, QBK269, QBK278, QBK285, QHB, QNB308_307, QNB307_308, QBK307, QGW307, QGE307, QNB268_307, QNB307_268, QNB269_307, QNB307_269, QNB278_307, QNB307_278, QNB285_307, QNB307_285, QBK308, QGW308, QGE308, QNB268_308, QNB308_268, QNB269_308, QNB308_269, QNB278_308, QNB308_278, QNB285_308, QNB308_285, QBK307_e11, QBK308_e12, QHO276, QHO283, QHO290_e1, QHO295_e4, QHO276_e10, QHO283_e10, QHO290_p1_10, QHO295_p4_10, QX1_, QX4_, QX5_, QX6_, QX9_, QX10_⟩ hb_ hon hoff
          refine ⟨_, rfl, fun K hK => ?_⟩
          have e37 : a.tmps[37]? = some (m4_) := by rw [ha]; exact putSel_on (e := (4, 37, m4_)) 3 rfl rfl (hon 4 (by kernel_rfl)) rfl
          rw [QX4_ (hon 4 (by kernel_rfl))] at e37
          replace ha := AM ha
          have BK268 := AM QBK268
          have BK269 := AM QBK269
          have BK278 := AM QBK278
          have BK285 := AM QBK285
          have HB := AM QHB
          have HO276 := AM QHO276
          have HO283 := AM QHO283
          have HO290 := AM (QHO290_e1 (hon 1 (by kernel_rfl)))
          have HO295 := AM (QHO295_e4 (hon 4 (by kernel_rfl)))
          refine value_ (w1 := w') (v := .tuple #[.agg #[.int .i64 t291, .int .i64 t292, v294], .agg #[.int .i64 t296, .int .i64 t297, .int .i64 t298, .int .i64 t299, .int .i64 t300, .int .i64 t301, .int .i64 t302, .int .i64 t303, .int .i64 t304, .int .i64 t305], .int .i64 t306]) (by rfl) rfl ?_ ?_
          ·go_simp
           (try simp only [i64_w])
           try rfl
          refine hK.out _ _ ⟨v289, v294, gb307, gb308, m1_, m4_, (.tuple #[.agg #[.int .i64 t291, .int .i64 t292, v294], .agg #[.int .i64 t296, .int .i64 t297, .int .i64 t298, .int .i64 t299, .int .i64 t300, .int .i64 t301, .int .i64 t302, .int .i64 t303, .int .i64 t304, .int .i64 t305], .int .i64 t306]), m6_, m9_, m10_, (by rw [ha.out]; exact putSel_upk 4 hb_ rfl rfl rfl), QBK268, QBK269, QBK278, QBK285, QHB, QNB308_307, QNB307_308, QBK307, QGW307, QGE307, QNB268_307, QNB307_268, QNB269_307, QNB307_269, QNB278_307, QNB307_278, QNB285_307, QNB307_285, QBK308, QGW308, QGE308, QNB268_308, QNB308_268, QNB269_308, QNB308_269, QNB278_308, QNB308_278, QNB285_308, QNB308_285, fun h0_ => absurd ((hoff 11 (by kernel_rfl)).symm.trans h0_) (by decide), fun h0_ => absurd ((hoff 12 (by kernel_rfl)).symm.trans h0_) (by decide), QHO276, QHO283, QHO290_e1, QHO295_e4, QHO276_e10, QHO283_e10, QHO290_p1_10, QHO295_p4_10, QX1_, QX4_, fun _ => rfl, fun h0_ => absurd ((hoff 6 (by kernel_rfl)).symm.trans h0_) (by decide), QX9_, QX10_⟩
         refine steps_cons ?_ ?_
         ·rintro b a w' ⟨v289, v294, gb307, gb308, m1_, m4_, m5_, m6_, m9_, m10_, ha, QBK268, QBK269, QBK278, QBK285, QHB, QNB308_307, QNB307_308, QBK307, QGW307, QGE307, QNB268_307, QNB307_268, QNB269_307, QNB307_269, QNB278_307, QNB307_278, QNB285_307, QNB307_285, QBK308, QGW308, QGE308, QNB268_308, QNB308_268, QNB269_308, QNB308_269, QNB278_308, QNB308_278, QNB285_308, QNB308_285, QBK307_e11, QBK308_e12, QHO276, QHO283, QHO290_e1, QHO295_e4, QHO276_e10, QHO283_e10, QHO290_p1_10, QHO295_p4_10, QX1_, QX4_, QX5_, QX6_, QX9_, QX10_⟩ hb_ hon hoff
          refine ⟨_, rfl, fun K hK => ?_⟩
          have e32 : a.tmps[32]? = some (m5_) := by rw [ha]; exact putSel_on (e := (5, 32, m5_)) 4 rfl rfl (hon 5 (by kernel_rfl)) rfl
          rw [QX5_ (hon 5 (by kernel_rfl))] at e32
          replace ha := AM ha
          have BK268 := AM QBK268
          have BK269 := AM QBK269
          have BK278 := AM QBK278
          have BK285 := AM QBK285
          have HB := AM QHB
          have HO276 := AM QHO276
          have HO283 := AM QHO283
          have HO290 := AM (QHO290_e1 (hon 1 (by kernel_rfl)))
          have HO295 := AM (QHO295_e4 (hon 4 (by kernel_rfl)))
          refine value_ (w1 := w') (v := .agg #[.int .i64 t291, .int .i64 t292, v294]) (by rfl) rfl ?_ ?_
          ·go_simp
           (try simp only [i64_w])
           try rfl
          refine hK.out _ _ ⟨v289, v294, gb307, gb308, m1_, m4_, m5_, (.agg #[.int .i64 t291, .int .i64 t292, v294]), m9_, m10_, (by rw [ha.out]; exact putSel_upk 5 hb_ rfl rfl rfl), QBK268, QBK269, QBK278, QBK285, QHB, QNB308_307, QNB307_308, QBK307, QGW307, QGE307, QNB268_307, QNB307_268, QNB269_307, QNB307_269, QNB278_307, QNB307_278, QNB285_307, QNB307_285, QBK308, QGW308, QGE308, QNB268_308, QNB308_268, QNB269_308, QNB308_269, QNB278_308, QNB308_278, QNB285_308, QNB308_285, fun h0_ => absurd ((hoff 11 (by kernel_rfl)).symm.trans h0_) (by decide), fun h0_ => absurd ((hoff 12 (by kernel_rfl)).symm.trans h0_) (by decide), QHO276, QHO283, QHO290_e1, QHO295_e4, QHO276_e10, QHO283_e10, QHO290_p1_10, QHO295_p4_10, QX1_, QX4_, QX5_, fun _ => rfl, QX9_, QX10_⟩
         refine steps_cons ?_ ?_
         ·rintro b a w' ⟨v289, v294, gb307, gb308, m1_, m4_, m5_, m6_, m9_, m10_, ha, QBK268, QBK269, QBK278, QBK285, QHB, QNB308_307, QNB307_308, QBK307, QGW307, QGE307, QNB268_307, QNB307_268, QNB269_307, QNB307_269, QNB278_307, QNB307_278, QNB285_307, QNB307_285, QBK308, QGW308, QGE308, QNB268_308, QNB308_268, QNB269_308, QNB308_269, QNB278_308, QNB308_278, QNB285_308, QNB308_285, QBK307_e11, QBK308_e12, QHO276, QHO283, QHO290_e1, QHO295_e4, QHO276_e10, QHO283_e10, QHO290_p1_10, QHO295_p4_10, QX1_, QX4_, QX5_, QX6_, QX9_, QX10_⟩ hb_ hon hoff
          refine ⟨_, rfl, fun K hK => ?_⟩
          have e32 : a.tmps[32]? = some (m5_) := by rw [ha]; exact putSel_on (e := (5, 32, m5_)) 4 rfl rfl (hon 5 (by kernel_rfl)) rfl
          rw [QX5_ (hon 5 (by kernel_rfl))] at e32
          replace ha := AM ha
          have BK268 := AM QBK268
          have BK269 := AM QBK269
          have BK278 := AM QBK278
          have BK285 := AM QBK285
          have HB := AM QHB
          have HO276 := AM QHO276
          have HO283 := AM QHO283
          have HO290 := AM (QHO290_e1 (hon 1 (by kernel_rfl)))
          have HO295 := AM (QHO295_e4 (hon 4 (by kernel_rfl)))
          refine value_ (w1 := w') (v := .agg #[.int .i64 t296, .int .i64 t297, .int .i64 t298, .int .i64 t299, .int .i64 t300, .int .i64 t301, .int .i64 t302, .int .i64 t303, .int .i64 t304, .int .i64 t305]) (by rfl) rfl ?_ ?_
          ·go_simp
           (try simp only [i64_w])
           try rfl
          refine hK.out _ _ ⟨v289, v294, gb307, gb308, m1_, m4_, m5_, m6_, m9_, m10_, (by rw [ha.out]; exact putSel_upk 6 hb_ rfl rfl rfl), QBK268, QBK269, QBK278, QBK285, QHB, QNB308_307, QNB307_308, QBK307, QGW307, QGE307, QNB268_307, QNB307_268, QNB269_307, QNB307_269, QNB278_307, QNB307_278, QNB285_307, QNB307_285, QBK308, QGW308, QGE308, QNB268_308, QNB308_268, QNB269_308, QNB308_269, QNB278_308, QNB308_278, QNB285_308, QNB308_285, QBK307_e11, fun h0_ => absurd ((hoff 12 (by kernel_rfl)).symm.trans h0_) (by decide), QHO276, QHO283, QHO290_e1, QHO295_e4, QHO276_e10, QHO283_e10, QHO290_p1_10, QHO295_p4_10, QX1_, QX4_, QX5_, QX6_, QX9_, QX10_⟩
         refine steps_cons ?_ ?_
         ·rintro b a w' ⟨v289, v294, gb307, gb308, m1_, m4_, m5_, m6_, m9_, m10_, ha, QBK268, QBK269, QBK278, QBK285, QHB, QNB308_307, QNB307_308, QBK307, QGW307, QGE307, QNB268_307, QNB307_268, QNB269_307, QNB307_269, QNB278_307, QNB307_278, QNB285_307, QNB307_285, QBK308, QGW308, QGE308, QNB268_308, QNB308_268, QNB269_308, QNB308_269, QNB278_308, QNB308_278, QNB285_308, QNB308_285, QBK307_e11, QBK308_e12, QHO276, QHO283, QHO290_e1, QHO295_e4, QHO276_e10, QHO283_e10, QHO290_p1_10, QHO295_p4_10, QX1_, QX4_, QX5_, QX6_, QX9_, QX10_⟩ hb_ hon hoff
          refine ⟨_, rfl, fun K hK => ?_⟩
          have e32 : a.tmps[32]? = some (m5_) := by rw [ha]; exact putSel_on (e := (5, 32, m5_)) 4 rfl rfl (hon 5 (by kernel_rfl)) rfl
          rw [QX5_ (hon 5 (by kernel_rfl))] at e32
          replace ha := AM ha
          have BK268 := AM QBK268
          have BK269 := AM QBK269
          have BK278 := AM QBK278
          have BK285 := AM QBK285
          have HB := AM QHB
          have HO276 := AM QHO276
          have HO283 := AM QHO283
          have HO290 := AM (QHO290_e1 (hon 1 (by kernel_rfl)))
          have HO295 := AM (QHO295_e4 (hon 4 (by kernel_rfl)))
          refine value_ (w1 := w') (v := .int .i64 t306) (by rfl) rfl ?_ ?_
          ·go_simp
           (try simp only [i64_w])
           try rfl
          refine hK.out _ _ ⟨v289, v294, gb307, gb308, m1_, m4_, m5_, m6_, m9_, m10_, (by rw [ha.out]; exact putSel_upk 7 hb_ rfl rfl rfl), QBK268, QBK269, QBK278, QBK285, QHB, QNB308_307, QNB307_308, QBK307, QGW307, QGE307, QNB268_307, QNB307_268, QNB269_307, QNB307_269, QNB278_307, QNB307_278, QNB285_307, QNB307_285, QBK308, QGW308, QGE308, QNB268_308, QNB308_268, QNB269_308, QNB308_269, QNB278_308, QNB308_278, QNB285_308, QNB308_285, QBK307_e11, QBK308_e12, QHO276, QHO283, QHO290_e1, QHO295_e4, QHO276_e10, QHO283_e10, QHO290_p1_10, QHO295_p4_10, QX1_, QX4_, QX5_, QX6_, QX9_, QX10_⟩
         refine steps_cons ?_ ?_
         ·rintro b a w' ⟨v289, v294, gb307, gb308, m1_, m4_, m5_, m6_, m9_, m10_, ha, QBK268, QBK269, QBK278, QBK285, QHB, QNB308_307, QNB307_308, QBK307, QGW307, QGE307, QNB268_307, QNB307_268, QNB269_307, QNB307_269, QNB278_307, QNB307_278, QNB285_307, QNB307_285, QBK308, QGW308, QGE308, QNB268_308, QNB308_268, QNB269_308, QNB308_269, QNB278_308, QNB308_278, QNB285_308, QNB308_285, QBK307_e11, QBK308_e12, QHO276, QHO283, QHO290_e1, QHO295_e4, QHO276_e10, QHO283_e10, QHO290_p1_10, QHO295_p4_10, QX1_, QX4_, QX5_, QX6_, QX9_, QX10_⟩ hb_ hon hoff
          refine ⟨_, rfl, fun K hK => ?_⟩
          replace ha := AM ha
          have BK268 := AM QBK268
          have BK269 := AM QBK269
          have BK278 := AM QBK278
          have BK285 := AM QBK285
          have HB := AM QHB
          have HO276 := AM QHO276
          have HO283 := AM QHO283
          refine box_step ?hg (N := 11) ?hd (cs := #[.int .i64 0, .int .i64 0, .slice none 0 0]) (t := 24) ?hr ?_; (case hd => rfl); (case hg => rfl); (case hr => first | (go_simp; done) | (go_simp; rfl))
          intro gb307 hg w44 hbox hb
          have n0_ := AM (Kd.R_below (GS.rR HO276.out) hb)
          have n1_ := AM (Kd.R_below (GS.rR HO283.out) hb)
          have n2_ := AM (bqB (GS.bqX BK268.out) hb)
          have n3_ := AM (bqB (GS.bqX BK269.out) hb)
          have n4_ := AM (bqB (GS.bqX BK278.out) hb)
          have n5_ := AM (bqB (GS.bqX BK285.out) hb)
          have n6_ := AM (lqT (GS.lB HB.out) hb)
          have n7_ := AM (hbox)
          have n8_ := AM ((by rw [hg]; exact (lqZ (GS.lB HB.out)) : w.heap.size ≤ gb307))
          have n9_ := AM ((by rw [hg]; exact (lqZ (GS.lB HB.out)) : w.heap.size ≤ gb307))
          have n10_ := AM ((by rw [hg]; exact Nat.ne_of_lt (blk_lt (GS.bqX BK268.out)) : gb268 ≠ gb307))
          have n11_ := AM ((by rw [hg]; exact Nat.ne_of_gt (blk_lt (GS.bqX BK268.out)) : gb307 ≠ gb268))
          have n12_ := AM ((by rw [hg]; exact Nat.ne_of_lt (blk_lt (GS.bqX BK269.out)) : gb269 ≠ gb307))
          have n13_ := AM ((by rw [hg]; exact Nat.ne_of_gt (blk_lt (GS.bqX BK269.out)) : gb307 ≠ gb269))
          have n14_ := AM ((by rw [hg]; exact Nat.ne_of_lt (blk_lt (GS.bqX BK278.out)) : gb278 ≠ gb307))
          have n15_ := AM ((by rw [hg]; exact Nat.ne_of_gt (blk_lt (GS.bqX BK278.out)) : gb307 ≠ gb278))
          have n16_ := AM ((by rw [hg]; exact Nat.ne_of_lt (blk_lt (GS.bqX BK285.out)) : gb285 ≠ gb307))
          have n17_ := AM ((by rw [hg]; exact Nat.ne_of_gt (blk_lt (GS.bqX BK285.out)) : gb307 ≠ gb285))
          have z_NB308_307 := fun (h0_ : up b 9 9 = true) (h1_ : up b 9 10 = true) => (show gb308 ≠ gb307 from ((by rw [hg]; exact Nat.ne_of_lt (blk_lt (GS.bqX (QBK308 h1_ (hoff 12 (by kernel_rfl))))) : gb308 ≠ gb307)))
          have z_NB307_308 := fun (h0_ : up b 9 9 = true) (h1_ : up b 9 10 = true) => (show gb307 ≠ gb308 from ((by rw [hg]; exact Nat.ne_of_gt (blk_lt (GS.bqX (QBK308 h1_ (hoff 12 (by kernel_rfl))))) : gb307 ≠ gb308)))
          have z_BK308 := fun (h0_ : b 10 = true) (h1_ : b 12 = false) => (show w44.heap[gb308]? = some (.cells #[.int .i64 0, .int .i64 0, .int .i64 0, .int .i64 0, .int .i64 0, .int .i64 0, .int .i64 0, .int .i64 0, .int .i64 0, .int .i64 0] 33 (0, 0)) from by first | exact (bqB (GS.bqX (QBK308 h0_ h1_)) hb))
          have z_HO290_e1 := fun (h0_ : b 1 = true) => (show Kd.R k33 33 w44 w.heap.size (fun k_ => some k_ ≠ (.slice Ao34 t274.length co34 : Value).ownBlock ∧ some k_ ≠ (.slice Ao41 t281.length co41 : Value).ownBlock) v289 t288 from by first | exact (Kd.R_below (GS.rR (QHO290_e1 h0_)) hb) | exact Kd.R_mono (Kd.R_below (GS.rR (QHO290_e1 h0_)) hb) (fun _ hk => GS.cj hk))
          have z_HO295_e4 := fun (h0_ : b 4 = true) => (show Kd.R k33 33 w44 w.heap.size (fun k_ => some k_ ≠ (.slice Ao34 t274.length co34 : Value).ownBlock ∧ some k_ ≠ (.slice Ao41 t281.length co41 : Value).ownBlock ∧ some k_ ≠ (v289 : Value).ownBlock) v294 t293 from by first | exact (Kd.R_below (GS.rR (QHO295_e4 h0_)) hb) | exact Kd.R_mono (Kd.R_below (GS.rR (QHO295_e4 h0_)) hb) (fun _ hk => GS.cj hk))
          have z_HO276_e10 := fun (h0_ : b 10 = true) => (show Kd.R k33 33 w44 w.heap.size (fun k_ => some k_ ≠ (.slice Ao41 t281.length co41 : Value).ownBlock ∧ k_ ≠ gb308) (.slice Ao34 t274.length co34) t274 from by first | exact (Kd.R_below (GS.rR (QHO276_e10 h0_)) hb) | exact Kd.R_mono (Kd.R_below (GS.rR (QHO276_e10 h0_)) hb) (fun _ hk => GS.cj hk))
          have z_HO283_e10 := fun (h0_ : b 10 = true) => (show Kd.R k33 33 w44 w.heap.size (fun k_ => some k_ ≠ (.slice Ao34 t274.length co34 : Value).ownBlock ∧ k_ ≠ gb308) (.slice Ao41 t281.length co41) t281 from by first | exact (Kd.R_below (GS.rR (QHO283_e10 h0_)) hb) | exact Kd.R_mono (Kd.R_below (GS.rR (QHO283_e10 h0_)) hb) (fun _ hk => GS.cj hk))
          have z_HO290_p1_10 := fun (h0_ : b 1 = true) (h1_ : b 10 = true) => (show Kd.R k33 33 w44 w.heap.size (fun k_ => some k_ ≠ (.slice Ao34 t274.length co34 : Value).ownBlock ∧ some k_ ≠ (.slice Ao41 t281.length co41 : Value).ownBlock ∧ k_ ≠ gb308) v289 t288 from by first | exact (Kd.R_below (GS.rR (QHO290_p1_10 h0_ h1_)) hb) | exact Kd.R_mono (Kd.R_below (GS.rR (QHO290_p1_10 h0_ h1_)) hb) (fun _ hk => GS.cj hk))
          have z_HO295_p4_10 := fun (h0_ : b 4 = true) (h1_ : b 10 = true) => (show Kd.R k33 33 w44 w.heap.size (fun k_ => some k_ ≠ (.slice Ao34 t274.length co34 : Value).ownBlock ∧ some k_ ≠ (.slice Ao41 t281.length co41 : Value).ownBlock ∧ k_ ≠ gb308 ∧ some k_ ≠ (v289 : Value).ownBlock) v294 t293 from by first | exact (Kd.R_below (GS.rR (QHO295_p4_10 h0_ h1_)) hb) | exact Kd.R_mono (Kd.R_below (GS.rR (QHO295_p4_10 h0_ h1_)) hb) (fun _ hk => GS.cj hk))
          clear HO276
          clear HO283
          clear BK268
          clear BK269
          clear BK278
          clear BK285
          clear HB
          have HO276 := n0_
          have HO283 := n1_
          have BK268 := n2_
          have BK269 := n3_
          have BK278 := n4_
          have BK285 := n5_
          have HB := n6_
          have BK307 := n7_
          have GW307 := n8_
          have GE307 := n9_
          have NB268_307 := n10_
          have NB307_268 := n11_
          have NB269_307 := n12_
          have NB307_269 := n13_
          have NB278_307 := n14_
          have NB307_278 := n15_
          have NB285_307 := n16_
          have NB307_285 := n17_
          clear n0_ n1_ n2_ n3_ n4_ n5_ n6_ n7_ n8_ n9_ n10_ n11_ n12_ n13_ n14_ n15_ n16_ n17_
          clear hb hbox hg
          refine hK.out _ _ ⟨v289, v294, gb307, gb308, m1_, m4_, m5_, m6_, (.pointer (some ⟨gb307, 0, none⟩)), m10_, (by rw [ha.out]; exact putSel_upk 8 hb_ rfl rfl rfl), (GS.bqX BK268.out), (GS.bqX BK269.out), (GS.bqX BK278.out), (GS.bqX BK285.out), (GS.lB HB.out), z_NB308_307, z_NB307_308, fun _ _ => (GS.bqX BK307.out), fun _ => GW307.out, fun _ => GE307.out, fun _ => NB268_307.out, fun _ => NB307_268.out, fun _ => NB269_307.out, fun _ => NB307_269.out, fun _ => NB278_307.out, fun _ => NB307_278.out, fun _ => NB285_307.out, fun _ => NB307_285.out, z_BK308, QGW308, QGE308, QNB268_308, QNB308_268, QNB269_308, QNB308_269, QNB278_308, QNB308_278, QNB285_308, QNB308_285, fun h0_ => absurd ((hoff 11 (by kernel_rfl)).symm.trans h0_) (by decide), fun h0_ => absurd ((hoff 12 (by kernel_rfl)).symm.trans h0_) (by decide), (GS.rR (Kd.R_mono HO276.out (fun _ hk => GS.cj hk))), (GS.rR (Kd.R_mono HO283.out (fun _ hk => GS.cj hk))), z_HO290_e1, z_HO295_e4, z_HO276_e10, z_HO283_e10, z_HO290_p1_10, z_HO295_p4_10, QX1_, QX4_, QX5_, QX6_, fun _ => rfl, QX10_⟩
         refine steps_cons ?_ ?_
         ·rintro b a w' ⟨v289, v294, gb307, gb308, m1_, m4_, m5_, m6_, m9_, m10_, ha, QBK268, QBK269, QBK278, QBK285, QHB, QNB308_307, QNB307_308, QBK307, QGW307, QGE307, QNB268_307, QNB307_268, QNB269_307, QNB307_269, QNB278_307, QNB307_278, QNB285_307, QNB307_285, QBK308, QGW308, QGE308, QNB268_308, QNB308_268, QNB269_308, QNB308_269, QNB278_308, QNB308_278, QNB285_308, QNB308_285, QBK307_e11, QBK308_e12, QHO276, QHO283, QHO290_e1, QHO295_e4, QHO276_e10, QHO283_e10, QHO290_p1_10, QHO295_p4_10, QX1_, QX4_, QX5_, QX6_, QX9_, QX10_⟩ hb_ hon hoff
          refine ⟨_, rfl, fun K hK => ?_⟩
          replace ha := AM ha
          have BK268 := AM QBK268
          have BK269 := AM QBK269
          have BK278 := AM QBK278
          have BK285 := AM QBK285
          have HB := AM QHB
          have HO276 := AM QHO276
          have HO283 := AM QHO283
          refine box_step ?hg (N := 12) ?hd (cs := #[.int .i64 0, .int .i64 0, .int .i64 0, .int .i64 0, .int .i64 0, .int .i64 0, .int .i64 0, .int .i64 0, .int .i64 0, .int .i64 0]) (t := 33) ?hr ?_; (case hd => rfl); (case hg => rfl); (case hr => first | (go_simp; done) | (go_simp; rfl))
          intro gb308 hg w44 hbox hb
          have n0_ := AM (Kd.R_below (Kd.R_elderB (GS.rR HO276.out) gb308 (Nat.le_of_eq hg.symm)) hb)
          have n1_ := AM (Kd.R_below (Kd.R_elderB (GS.rR HO283.out) gb308 (Nat.le_of_eq hg.symm)) hb)
          have n2_ := AM (bqB (GS.bqX BK268.out) hb)
          have n3_ := AM (bqB (GS.bqX BK269.out) hb)
          have n4_ := AM (bqB (GS.bqX BK278.out) hb)
          have n5_ := AM (bqB (GS.bqX BK285.out) hb)
          have n6_ := AM (lqT (GS.lB HB.out) hb)
          have n7_ := AM (hbox)
          have n8_ := AM ((by rw [hg]; exact (lqZ (GS.lB HB.out)) : w.heap.size ≤ gb308))
          have n9_ := AM ((by rw [hg]; exact (lqZ (GS.lB HB.out)) : w.heap.size ≤ gb308))
          have n10_ := AM ((by rw [hg]; exact Nat.ne_of_lt (blk_lt (GS.bqX BK268.out)) : gb268 ≠ gb308))
          have n11_ := AM ((by rw [hg]; exact Nat.ne_of_gt (blk_lt (GS.bqX BK268.out)) : gb308 ≠ gb268))
          have n12_ := AM ((by rw [hg]; exact Nat.ne_of_lt (blk_lt (GS.bqX BK269.out)) : gb269 ≠ gb308))
          have n13_ := AM ((by rw [hg]; exact Nat.ne_of_gt (blk_lt (GS.bqX BK269.out)) : gb308 ≠ gb269))
          have n14_ := AM ((by rw [hg]; exact Nat.ne_of_lt (blk_lt (GS.bqX BK278.out)) : gb278 ≠ gb308))
          have n15_ := AM ((by rw [hg]; exact Nat.ne_of_gt (blk_lt (GS.bqX BK278.out)) : gb308 ≠ gb278))
          have n16_ := AM ((by rw [hg]; exact Nat.ne_of_lt (blk_lt (GS.bqX BK285.out)) : gb285 ≠ gb308))
          have n17_ := AM ((by rw [hg]; exact Nat.ne_of_gt (blk_lt (GS.bqX BK285.out)) : gb308 ≠ gb285))
          have z_NB308_307 := fun (h0_ : up b 10 9 = true) (h1_ : up b 10 10 = true) => (show gb308 ≠ gb307 from ((by rw [hg]; exact Nat.ne_of_gt (blk_lt (GS.bqX (QBK307 h0_ (hoff 11 (by kernel_rfl))))) : gb308 ≠ gb307)))
          have z_NB307_308 := fun (h0_ : up b 10 9 = true) (h1_ : up b 10 10 = true) => (show gb307 ≠ gb308 from ((by rw [hg]; exact Nat.ne_of_lt (blk_lt (GS.bqX (QBK307 h0_ (hoff 11 (by kernel_rfl))))) : gb307 ≠ gb308)))
          have z_BK307 := fun (h0_ : b 9 = true) (h1_ : b 11 = false) => (show w44.heap[gb307]? = some (.cells #[.int .i64 0, .int .i64 0, .slice none 0 0] 24 (0, 0)) from by first | exact (bqB (GS.bqX (QBK307 h0_ h1_)) hb))
          have z_HO290_e1 := fun (h0_ : b 1 = true) => (show Kd.R k33 33 w44 w.heap.size (fun k_ => some k_ ≠ (.slice Ao34 t274.length co34 : Value).ownBlock ∧ some k_ ≠ (.slice Ao41 t281.length co41 : Value).ownBlock) v289 t288 from by first | exact (Kd.R_below (Kd.R_elderB (GS.rR (QHO290_e1 h0_)) gb308 (Nat.le_of_eq hg.symm)) hb) | exact Kd.R_mono (Kd.R_below (Kd.R_elderB (GS.rR (QHO290_e1 h0_)) gb308 (Nat.le_of_eq hg.symm)) hb) (fun _ hk => GS.cj hk))
          have z_HO295_e4 := fun (h0_ : b 4 = true) => (show Kd.R k33 33 w44 w.heap.size (fun k_ => some k_ ≠ (.slice Ao34 t274.length co34 : Value).ownBlock ∧ some k_ ≠ (.slice Ao41 t281.length co41 : Value).ownBlock ∧ some k_ ≠ (v289 : Value).ownBlock) v294 t293 from by first | exact (Kd.R_below (Kd.R_elderB (GS.rR (QHO295_e4 h0_)) gb308 (Nat.le_of_eq hg.symm)) hb) | exact Kd.R_mono (Kd.R_below (Kd.R_elderB (GS.rR (QHO295_e4 h0_)) gb308 (Nat.le_of_eq hg.symm)) hb) (fun _ hk => GS.cj hk))
          have z_HO290_p1_10 := fun (h0_ : up b 10 1 = true) (h1_ : up b 10 10 = true) => (show Kd.R k33 33 w44 w.heap.size (fun k_ => some k_ ≠ (.slice Ao34 t274.length co34 : Value).ownBlock ∧ some k_ ≠ (.slice Ao41 t281.length co41 : Value).ownBlock ∧ k_ ≠ gb308) v289 t288 from (Kd.R_mono (Kd.R_below (Kd.R_elderB (GS.rR (QHO290_e1 h0_)) gb308 (Nat.le_of_eq hg.symm)) hb) (fun _ hk => GS.cj hk)))
          have z_HO295_p4_10 := fun (h0_ : up b 10 4 = true) (h1_ : up b 10 10 = true) => (show Kd.R k33 33 w44 w.heap.size (fun k_ => some k_ ≠ (.slice Ao34 t274.length co34 : Value).ownBlock ∧ some k_ ≠ (.slice Ao41 t281.length co41 : Value).ownBlock ∧ k_ ≠ gb308 ∧ some k_ ≠ (v289 : Value).ownBlock) v294 t293 from (Kd.R_mono (Kd.R_below (Kd.R_elderB (GS.rR (QHO295_e4 h0_)) gb308 (Nat.le_of_eq hg.symm)) hb) (fun _ hk => GS.cj hk)))
          clear HO276
          clear HO283
          clear BK268
          clear BK269
          clear BK278
          clear BK285
          clear HB
          have HO276 := n0_
          have HO283 := n1_
          have BK268 := n2_
          have BK269 := n3_
          have BK278 := n4_
          have BK285 := n5_
          have HB := n6_
          have BK308 := n7_
          have GW308 := n8_
          have GE308 := n9_
          have NB268_308 := n10_
          have NB308_268 := n11_
          have NB269_308 := n12_
          have NB308_269 := n13_
          have NB278_308 := n14_
          have NB308_278 := n15_
          have NB285_308 := n16_
          have NB308_285 := n17_
          clear n0_ n1_ n2_ n3_ n4_ n5_ n6_ n7_ n8_ n9_ n10_ n11_ n12_ n13_ n14_ n15_ n16_ n17_
          clear hb hbox hg
          refine hK.out _ _ ⟨v289, v294, gb307, gb308, m1_, m4_, m5_, m6_, m9_, (.pointer (some ⟨gb308, 0, none⟩)), (by rw [ha.out]; exact putSel_upk 9 hb_ rfl rfl rfl), (GS.bqX BK268.out), (GS.bqX BK269.out), (GS.bqX BK278.out), (GS.bqX BK285.out), (GS.lB HB.out), z_NB308_307, z_NB307_308, z_BK307, QGW307, QGE307, QNB268_307, QNB307_268, QNB269_307, QNB307_269, QNB278_307, QNB307_278, QNB285_307, QNB307_285, fun _ _ => (GS.bqX BK308.out), fun _ => GW308.out, fun _ => GE308.out, fun _ => NB268_308.out, fun _ => NB308_268.out, fun _ => NB269_308.out, fun _ => NB308_269.out, fun _ => NB278_308.out, fun _ => NB308_278.out, fun _ => NB285_308.out, fun _ => NB308_285.out, fun h0_ => absurd ((hoff 11 (by kernel_rfl)).symm.trans h0_) (by decide), fun h0_ => absurd ((hoff 12 (by kernel_rfl)).symm.trans h0_) (by decide), Kd.R_mono ((GS.rR (Kd.R_mono HO276.out (fun _ hk => GS.cj hk)))) (fun _ hk => GS.cj hk), Kd.R_mono ((GS.rR (Kd.R_mono HO283.out (fun _ hk => GS.cj hk)))) (fun _ hk => GS.cj hk), z_HO290_e1, z_HO295_e4, fun _ => (GS.rR (Kd.R_mono HO276.out (fun _ hk => GS.cj hk))), fun _ => (GS.rR (Kd.R_mono HO283.out (fun _ hk => GS.cj hk))), z_HO290_p1_10, z_HO295_p4_10, QX1_, QX4_, QX5_, QX6_, QX9_, fun _ => rfl⟩
         refine steps_cons ?_ ?_
         ·rintro b a w' ⟨v289, v294, gb307, gb308, m1_, m4_, m5_, m6_, m9_, m10_, ha, QBK268, QBK269, QBK278, QBK285, QHB, QNB308_307, QNB307_308, QBK307, QGW307, QGE307, QNB268_307, QNB307_268, QNB269_307, QNB307_269, QNB278_307, QNB307_278, QNB285_307, QNB307_285, QBK308, QGW308, QGE308, QNB268_308, QNB308_268, QNB269_308, QNB308_269, QNB278_308, QNB308_278, QNB285_308, QNB308_285, QBK307_e11, QBK308_e12, QHO276, QHO283, QHO290_e1, QHO295_e4, QHO276_e10, QHO283_e10, QHO290_p1_10, QHO295_p4_10, QX1_, QX4_, QX5_, QX6_, QX9_, QX10_⟩ hb_ hon hoff
          refine ⟨_, rfl, fun K hK => ?_⟩
          have e11 : a.tmps[11]? = some (m9_) := by rw [ha]; exact putSel_on (e := (9, 11, m9_)) 8 rfl rfl (hon 9 (by kernel_rfl)) rfl
          rw [QX9_ (hon 9 (by kernel_rfl))] at e11
          have e38 : a.tmps[38]? = some (m6_) := by rw [ha]; exact putSel_on (e := (6, 38, m6_)) 5 rfl rfl (hon 6 (by kernel_rfl)) rfl
          rw [QX6_ (hon 6 (by kernel_rfl))] at e38
          replace ha := AM ha
          have BK268 := AM QBK268
          have BK269 := AM QBK269
          have BK278 := AM QBK278
          have BK285 := AM QBK285
          have HB := AM QHB
          have NB308_307 := AM (QNB308_307 (hon 9 (by kernel_rfl)) (hon 10 (by kernel_rfl)))
          have NB307_308 := AM (QNB307_308 (hon 9 (by kernel_rfl)) (hon 10 (by kernel_rfl)))
          have BK307 := AM (QBK307 (hon 9 (by kernel_rfl)) hb_)
          have GW307 := AM (QGW307 (hon 9 (by kernel_rfl)))
          have GE307 := AM (QGE307 (hon 9 (by kernel_rfl)))
          have NB268_307 := AM (QNB268_307 (hon 9 (by kernel_rfl)))
          have NB307_268 := AM (QNB307_268 (hon 9 (by kernel_rfl)))
          have NB269_307 := AM (QNB269_307 (hon 9 (by kernel_rfl)))
          have NB307_269 := AM (QNB307_269 (hon 9 (by kernel_rfl)))
          have NB278_307 := AM (QNB278_307 (hon 9 (by kernel_rfl)))
          have NB307_278 := AM (QNB307_278 (hon 9 (by kernel_rfl)))
          have NB285_307 := AM (QNB285_307 (hon 9 (by kernel_rfl)))
          have NB307_285 := AM (QNB307_285 (hon 9 (by kernel_rfl)))
          have BK308 := AM (QBK308 (hon 10 (by kernel_rfl)) (hoff 12 (by kernel_rfl)))
          have GW308 := AM (QGW308 (hon 10 (by kernel_rfl)))
          have GE308 := AM (QGE308 (hon 10 (by kernel_rfl)))
          have NB268_308 := AM (QNB268_308 (hon 10 (by kernel_rfl)))
          have NB308_268 := AM (QNB308_268 (hon 10 (by kernel_rfl)))
          have NB269_308 := AM (QNB269_308 (hon 10 (by kernel_rfl)))
          have NB308_269 := AM (QNB308_269 (hon 10 (by kernel_rfl)))
          have NB278_308 := AM (QNB278_308 (hon 10 (by kernel_rfl)))
          have NB308_278 := AM (QNB308_278 (hon 10 (by kernel_rfl)))
          have NB285_308 := AM (QNB285_308 (hon 10 (by kernel_rfl)))
          have NB308_285 := AM (QNB308_285 (hon 10 (by kernel_rfl)))
          have HO276 := AM QHO276
          have HO283 := AM QHO283
          have HO290 := AM (QHO290_e1 (hon 1 (by kernel_rfl)))
          have HO295 := AM (QHO295_e4 (hon 4 (by kernel_rfl)))
          have HO276 := AM (QHO276_e10 (hon 10 (by kernel_rfl)))
          have HO283 := AM (QHO283_e10 (hon 10 (by kernel_rfl)))
          have HO290 := AM (QHO290_p1_10 (hon 1 (by kernel_rfl)) (hon 10 (by kernel_rfl)))
          have HO295 := AM (QHO295_p4_10 (hon 4 (by kernel_rfl)) (hon 10 (by kernel_rfl)))
          obtain ⟨Ao52, co52, eo52⟩ := Kd.R_slice HO295.out
          (first | subst eo52 | (injection eo52 with f1_ f2_ f3_; have f4_ := f1_.symm; have f5_ := f3_.symm; clear f1_ f2_ f3_; subst f4_; subst f5_))
          have hs50 : w'.cell? ⟨gb307, 0, none⟩ = some (.int .i64 0) := (bqC BK307.out 0).trans rfl
          have hfs50 := bqF BK307.out 0
          have hns50_0 := NB268_307.out
          have hns50_1 := NB269_307.out
          have hns50_2 := NB278_307.out
          have hns50_3 := NB285_307.out
          have hns50_5 := NB308_307.out
          have hms50_0 := NB307_268.out
          have hms50_1 := NB307_269.out
          have hms50_2 := NB307_278.out
          have hms50_3 := NB307_285.out
          have hms50_5 := NB307_308.out
          have hs51 : w'.cell? ⟨gb307, 1, none⟩ = some (.int .i64 0) := (bqC BK307.out 1).trans rfl
          have hfs51 := bqF BK307.out 1
          have hns51_0 := NB268_307.out
          have hns51_1 := NB269_307.out
          have hns51_2 := NB278_307.out
          have hns51_3 := NB285_307.out
          have hns51_5 := NB308_307.out
          have hms51_0 := NB307_268.out
          have hms51_1 := NB307_269.out
          have hms51_2 := NB307_278.out
          have hms51_3 := NB307_285.out
          have hms51_5 := NB307_308.out
          have hs53 : w'.cell? ⟨gb307, 2, none⟩ = some (.slice none 0 0) := (bqC BK307.out 2).trans rfl
          have hfs53 := bqF BK307.out 2
          have hns53_0 := NB268_307.out
          have hns53_1 := NB269_307.out
          have hns53_2 := NB278_307.out
          have hns53_3 := NB285_307.out
          have hns53_5 := NB308_307.out
          have hms53_0 := NB307_268.out
          have hms53_1 := NB307_269.out
          have hms53_2 := NB307_278.out
          have hms53_3 := NB307_285.out
          have hms53_5 := NB307_308.out
          refine skip_ (w1 := ?_) (by rfl) rfl ?_ ?_
          rotate_left
          ·go_simp
           rfl
          refine hK.out _ _ ⟨v289, .slice Ao52 t293.length co52, gb307, gb308, m1_, m4_, m5_, m6_, m9_, m10_, (by rw [ha.out]; exact putSel_none (v := undef) rfl), (GS.bqX BK268.out), (GS.bqX BK269.out), (GS.bqX BK278.out), (GS.bqX BK285.out), (GS.lB HB.out), fun _ _ => NB308_307.out, fun _ _ => NB307_308.out, fun _ h1_ => absurd ((up_self b 11).symm.trans h1_) (by decide), fun _ => GW307.out, fun _ => GE307.out, fun _ => NB268_307.out, fun _ => NB307_268.out, fun _ => NB269_307.out, fun _ => NB307_269.out, fun _ => NB278_307.out, fun _ => NB307_278.out, fun _ => NB285_307.out, fun _ => NB307_285.out, fun _ _ => (GS.bqX BK308.out), fun _ => GW308.out, fun _ => GE308.out, fun _ => NB268_308.out, fun _ => NB308_268.out, fun _ => NB269_308.out, fun _ => NB308_269.out, fun _ => NB278_308.out, fun _ => NB308_278.out, fun _ => NB285_308.out, fun _ => NB308_285.out, fun _ => (GS.bqZ BK307.out), fun h0_ => absurd ((hoff 12 (by kernel_rfl)).symm.trans h0_) (by decide), Kd.R_mono ((by (with_reducible repeat (first | apply Kd.R_alloc | apply Kd.R_drewN | apply Kd.R_drew)); exact Kd.R_mono (Kd.R_far (p := ⟨gb307, 2, none⟩) (Kd.R_far (p := ⟨gb307, 1, none⟩) (Kd.R_far (p := ⟨gb307, 0, none⟩) (Kd.R_types HO276.out BK307.out (by decide)) (fun _ hk => hk.2) (.int .i64 t291)) (fun _ hk => hk.2) (.int .i64 t292)) (fun _ hk => hk.2) (.slice Ao52 t293.length co52)) (fun _ hk => hk))) (fun _ hk => GS.cj hk), Kd.R_mono ((by (with_reducible repeat (first | apply Kd.R_alloc | apply Kd.R_drewN | apply Kd.R_drew)); exact Kd.R_mono (Kd.R_far (p := ⟨gb307, 2, none⟩) (Kd.R_far (p := ⟨gb307, 1, none⟩) (Kd.R_far (p := ⟨gb307, 0, none⟩) (Kd.R_types HO283.out BK307.out (by decide)) (fun _ hk => hk.2) (.int .i64 t291)) (fun _ hk => hk.2) (.int .i64 t292)) (fun _ hk => hk.2) (.slice Ao52 t293.length co52)) (fun _ hk => hk))) (fun _ hk => GS.cj hk), fun _ => Kd.R_mono ((by (with_reducible repeat (first | apply Kd.R_alloc | apply Kd.R_drewN | apply Kd.R_drew)); exact Kd.R_mono (Kd.R_far (p := ⟨gb307, 2, none⟩) (Kd.R_far (p := ⟨gb307, 1, none⟩) (Kd.R_far (p := ⟨gb307, 0, none⟩) (Kd.R_types HO290.out BK307.out (by decide)) (fun _ hk => hk.2) (.int .i64 t291)) (fun _ hk => hk.2) (.int .i64 t292)) (fun _ hk => hk.2) (.slice Ao52 t293.length co52)) (fun _ hk => hk))) (fun _ hk => GS.cj hk), fun _ => Kd.R_mono ((by (with_reducible repeat (first | apply Kd.R_alloc | apply Kd.R_drewN | apply Kd.R_drew)); exact Kd.R_mono (Kd.R_far (p := ⟨gb307, 2, none⟩) (Kd.R_far (p := ⟨gb307, 1, none⟩) (Kd.R_far (p := ⟨gb307, 0, none⟩) (Kd.R_types HO295.out BK307.out (by decide)) (fun _ hk => hk.2) (.int .i64 t291)) (fun _ hk => hk.2) (.int .i64 t292)) (fun _ hk => hk.2) (.slice Ao52 t293.length co52)) (fun _ hk => hk))) (fun _ hk => GS.cj hk), fun _ => (by (with_reducible repeat (first | apply Kd.R_alloc | apply Kd.R_drewN | apply Kd.R_drew)); exact Kd.R_mono (Kd.R_far (p := ⟨gb307, 2, none⟩) (Kd.R_far (p := ⟨gb307, 1, none⟩) (Kd.R_far (p := ⟨gb307, 0, none⟩) (Kd.R_types HO276.out BK307.out (by decide)) (fun _ hk => hk.2) (.int .i64 t291)) (fun _ hk => hk.2) (.int .i64 t292)) (fun _ hk => hk.2) (.slice Ao52 t293.length co52)) (fun _ hk => GS.cj hk)), fun _ => (by (with_reducible repeat (first | apply Kd.R_alloc | apply Kd.R_drewN | apply Kd.R_drew)); exact Kd.R_mono (Kd.R_far (p := ⟨gb307, 2, none⟩) (Kd.R_far (p := ⟨gb307, 1, none⟩) (Kd.R_far (p := ⟨gb307, 0, none⟩) (Kd.R_types HO283.out BK307.out (by decide)) (fun _ hk => hk.2) (.int .i64 t291)) (fun _ hk => hk.2) (.int .i64 t292)) (fun _ hk => hk.2) (.slice Ao52 t293.length co52)) (fun _ hk => GS.cj hk)), fun _ _ => (by (with_reducible repeat (first | apply Kd.R_alloc | apply Kd.R_drewN | apply Kd.R_drew)); exact Kd.R_mono (Kd.R_far (p := ⟨gb307, 2, none⟩) (Kd.R_far (p := ⟨gb307, 1, none⟩) (Kd.R_far (p := ⟨gb307, 0, none⟩) (Kd.R_types HO290.out BK307.out (by decide)) (fun _ hk => hk.2) (.int .i64 t291)) (fun _ hk => hk.2) (.int .i64 t292)) (fun _ hk => hk.2) (.slice Ao52 t293.length co52)) (fun _ hk => GS.cj hk)), fun _ _ => (by (with_reducible repeat (first | apply Kd.R_alloc | apply Kd.R_drewN | apply Kd.R_drew)); exact Kd.R_mono (Kd.R_far (p := ⟨gb307, 2, none⟩) (Kd.R_far (p := ⟨gb307, 1, none⟩) (Kd.R_far (p := ⟨gb307, 0, none⟩) (Kd.R_types HO295.out BK307.out (by decide)) (fun _ hk => hk.2) (.int .i64 t291)) (fun _ hk => hk.2) (.int .i64 t292)) (fun _ hk => hk.2) (.slice Ao52 t293.length co52)) (fun _ hk => GS.cj hk)), QX1_, QX4_, QX5_, QX6_, QX9_, QX10_⟩
         refine steps_cons ?_ ?_
         ·rintro b a w' ⟨v289, v294, gb307, gb308, m1_, m4_, m5_, m6_, m9_, m10_, ha, QBK268, QBK269, QBK278, QBK285, QHB, QNB308_307, QNB307_308, QBK307, QGW307, QGE307, QNB268_307, QNB307_268, QNB269_307, QNB307_269, QNB278_307, QNB307_278, QNB285_307, QNB307_285, QBK308, QGW308, QGE308, QNB268_308, QNB308_268, QNB269_308, QNB308_269, QNB278_308, QNB308_278, QNB285_308, QNB308_285, QBK307_e11, QBK308_e12, QHO276, QHO283, QHO290_e1, QHO295_e4, QHO276_e10, QHO283_e10, QHO290_p1_10, QHO295_p4_10, QX1_, QX4_, QX5_, QX6_, QX9_, QX10_⟩ hb_ hon hoff
          refine ⟨_, rfl, fun K hK => ?_⟩
          have e12 : a.tmps[12]? = some (m10_) := by rw [ha]; exact putSel_on (e := (10, 12, m10_)) 9 rfl rfl (hon 10 (by kernel_rfl)) rfl
          rw [QX10_ (hon 10 (by kernel_rfl))] at e12
          have e39 : a.tmps[39]? = some (.agg #[.int .i64 t296, .int .i64 t297, .int .i64 t298, .int .i64 t299, .int .i64 t300, .int .i64 t301, .int .i64 t302, .int .i64 t303, .int .i64 t304, .int .i64 t305]) := by rw [ha]; exact putSel_on (e := (7, 39, .agg #[.int .i64 t296, .int .i64 t297, .int .i64 t298, .int .i64 t299, .int .i64 t300, .int .i64 t301, .int .i64 t302, .int .i64 t303, .int .i64 t304, .int .i64 t305])) 6 rfl rfl (hon 7 (by kernel_rfl)) rfl
          replace ha := AM ha
          have BK268 := AM QBK268
          have BK269 := AM QBK269
          have BK278 := AM QBK278
          have BK285 := AM QBK285
          have HB := AM QHB
          have NB308_307 := AM (QNB308_307 (hon 9 (by kernel_rfl)) (hon 10 (by kernel_rfl)))
          have NB307_308 := AM (QNB307_308 (hon 9 (by kernel_rfl)) (hon 10 (by kernel_rfl)))
          have GW307 := AM (QGW307 (hon 9 (by kernel_rfl)))
          have GE307 := AM (QGE307 (hon 9 (by kernel_rfl)))
          have NB268_307 := AM (QNB268_307 (hon 9 (by kernel_rfl)))
          have NB307_268 := AM (QNB307_268 (hon 9 (by kernel_rfl)))
          have NB269_307 := AM (QNB269_307 (hon 9 (by kernel_rfl)))
          have NB307_269 := AM (QNB307_269 (hon 9 (by kernel_rfl)))
          have NB278_307 := AM (QNB278_307 (hon 9 (by kernel_rfl)))
          have NB307_278 := AM (QNB307_278 (hon 9 (by kernel_rfl)))
          have NB285_307 := AM (QNB285_307 (hon 9 (by kernel_rfl)))
          have NB307_285 := AM (QNB307_285 (hon 9 (by kernel_rfl)))
          have BK308 := AM (QBK308 (hon 10 (by kernel_rfl)) hb_)
          have GW308 := AM (QGW308 (hon 10 (by kernel_rfl)))
          have GE308 := AM (QGE308 (hon 10 (by kernel_rfl)))
          have NB268_308 := AM (QNB268_308 (hon 10 (by kernel_rfl)))
          have NB308_268 := AM (QNB308_268 (hon 10 (by kernel_rfl)))
          have NB269_308 := AM (QNB269_308 (hon 10 (by kernel_rfl)))
          have NB308_269 := AM (QNB308_269 (hon 10 (by kernel_rfl)))
          have NB278_308 := AM (QNB278_308 (hon 10 (by kernel_rfl)))
          have NB308_278 := AM (QNB308_278 (hon 10 (by kernel_rfl)))
          have NB285_308 := AM (QNB285_308 (hon 10 (by kernel_rfl)))
          have NB308_285 := AM (QNB308_285 (hon 10 (by kernel_rfl)))
          have BK307 := AM (QBK307_e11 (hon 11 (by kernel_rfl)))
          have HO276 := AM QHO276
          have HO283 := AM QHO283
          have HO290 := AM (QHO290_e1 (hon 1 (by kernel_rfl)))
          have HO295 := AM (QHO295_e4 (hon 4 (by kernel_rfl)))
          have HO276 := AM (QHO276_e10 (hon 10 (by kernel_rfl)))
          have HO283 := AM (QHO283_e10 (hon 10 (by kernel_rfl)))
          have HO290 := AM (QHO290_p1_10 (hon 1 (by kernel_rfl)) (hon 10 (by kernel_rfl)))
          have HO295 := AM (QHO295_p4_10 (hon 4 (by kernel_rfl)) (hon 10 (by kernel_rfl)))
          have hs54 : w'.cell? ⟨gb308, 0, none⟩ = some (.int .i64 0) := (bqC BK308.out 0).trans rfl
          have hfs54 := bqF BK308.out 0
          have hns54_0 := NB268_308.out
          have hns54_1 := NB269_308.out
          have hns54_2 := NB278_308.out
          have hns54_3 := NB285_308.out
          have hns54_4 := NB307_308.out
          have hms54_0 := NB308_268.out
          have hms54_1 := NB308_269.out
          have hms54_2 := NB308_278.out
          have hms54_3 := NB308_285.out
          have hms54_4 := NB308_307.out
          have hs55 : w'.cell? ⟨gb308, 1, none⟩ = some (.int .i64 0) := (bqC BK308.out 1).trans rfl
          have hfs55 := bqF BK308.out 1
          have hns55_0 := NB268_308.out
          have hns55_1 := NB269_308.out
          have hns55_2 := NB278_308.out
          have hns55_3 := NB285_308.out
          have hns55_4 := NB307_308.out
          have hms55_0 := NB308_268.out
          have hms55_1 := NB308_269.out
          have hms55_2 := NB308_278.out
          have hms55_3 := NB308_285.out
          have hms55_4 := NB308_307.out
          have hs56 : w'.cell? ⟨gb308, 2, none⟩ = some (.int .i64 0) := (bqC BK308.out 2).trans rfl
          have hfs56 := bqF BK308.out 2
          have hns56_0 := NB268_308.out
          have hns56_1 := NB269_308.out
          have hns56_2 := NB278_308.out
          have hns56_3 := NB285_308.out
          have hns56_4 := NB307_308.out
          have hms56_0 := NB308_268.out
          have hms56_1 := NB308_269.out
          have hms56_2 := NB308_278.out
          have hms56_3 := NB308_285.out
          have hms56_4 := NB308_307.out
          have hs57 : w'.cell? ⟨gb308, 3, none⟩ = some (.int .i64 0) := (bqC BK308.out 3).trans rfl
          have hfs57 := bqF BK308.out 3
          have hns57_0 := NB268_308.out
          have hns57_1 := NB269_308.out
          have hns57_2 := NB278_308.out
          have hns57_3 := NB285_308.out
          have hns57_4 := NB307_308.out
          have hms57_0 := NB308_268.out
          have hms57_1 := NB308_269.out
          have hms57_2 := NB308_278.out
          have hms57_3 := NB308_285.out
          have hms57_4 := NB308_307.out
          have hs58 : w'.cell? ⟨gb308, 4, none⟩ = some (.int .i64 0) := (bqC BK308.out 4).trans rfl
          have hfs58 := bqF BK308.out 4
          have hns58_0 := NB268_308.out
          have hns58_1 := NB269_308.out
          have hns58_2 := NB278_308.out
          have hns58_3 := NB285_308.out
          have hns58_4 := NB307_308.out
          have hms58_0 := NB308_268.out
          have hms58_1 := NB308_269.out
          have hms58_2 := NB308_278.out
          have hms58_3 := NB308_285.out
          have hms58_4 := NB308_307.out
          have hs59 : w'.cell? ⟨gb308, 5, none⟩ = some (.int .i64 0) := (bqC BK308.out 5).trans rfl
          have hfs59 := bqF BK308.out 5
          have hns59_0 := NB268_308.out
          have hns59_1 := NB269_308.out
          have hns59_2 := NB278_308.out
          have hns59_3 := NB285_308.out
          have hns59_4 := NB307_308.out
          have hms59_0 := NB308_268.out
          have hms59_1 := NB308_269.out
          have hms59_2 := NB308_278.out
          have hms59_3 := NB308_285.out
          have hms59_4 := NB308_307.out
          have hs60 : w'.cell? ⟨gb308, 6, none⟩ = some (.int .i64 0) := (bqC BK308.out 6).trans rfl
          have hfs60 := bqF BK308.out 6
          have hns60_0 := NB268_308.out
          have hns60_1 := NB269_308.out
          have hns60_2 := NB278_308.out
          have hns60_3 := NB285_308.out
          have hns60_4 := NB307_308.out
          have hms60_0 := NB308_268.out
          have hms60_1 := NB308_269.out
          have hms60_2 := NB308_278.out
          have hms60_3 := NB308_285.out
          have hms60_4 := NB308_307.out
          have hs61 : w'.cell? ⟨gb308, 7, none⟩ = some (.int .i64 0) := (bqC BK308.out 7).trans rfl
          have hfs61 := bqF BK308.out 7
          have hns61_0 := NB268_308.out
          have hns61_1 := NB269_308.out
          have hns61_2 := NB278_308.out
          have hns61_3 := NB285_308.out
          have hns61_4 := NB307_308.out
          have hms61_0 := NB308_268.out
          have hms61_1 := NB308_269.out
          have hms61_2 := NB308_278.out
          have hms61_3 := NB308_285.out
          have hms61_4 := NB308_307.out
          have hs62 : w'.cell? ⟨gb308, 8, none⟩ = some (.int .i64 0) := (bqC BK308.out 8).trans rfl
          have hfs62 := bqF BK308.out 8
          have hns62_0 := NB268_308.out
          have hns62_1 := NB269_308.out
          have hns62_2 := NB278_308.out
          have hns62_3 := NB285_308.out
          have hns62_4 := NB307_308.out
          have hms62_0 := NB308_268.out
          have hms62_1 := NB308_269.out
          have hms62_2 := NB308_278.out
          have hms62_3 := NB308_285.out
          have hms62_4 := NB308_307.out
          have hs63 : w'.cell? ⟨gb308, 9, none⟩ = some (.int .i64 0) := (bqC BK308.out 9).trans rfl
          have hfs63 := bqF BK308.out 9
          have hns63_0 := NB268_308.out
          have hns63_1 := NB269_308.out
          have hns63_2 := NB278_308.out
          have hns63_3 := NB285_308.out
          have hns63_4 := NB307_308.out
          have hms63_0 := NB308_268.out
          have hms63_1 := NB308_269.out
          have hms63_2 := NB308_278.out
          have hms63_3 := NB308_285.out
          have hms63_4 := NB308_307.out
          refine skip_ (w1 := ?_) (by rfl) rfl ?_ ?_
          rotate_left
          ·go_simp
           rfl
          refine hK.out _ _ ⟨v289, v294, gb307, gb308, m1_, m4_, m5_, m6_, m9_, m10_, (by rw [ha.out]; exact putSel_none (v := undef) rfl), (GS.bqX BK268.out), (GS.bqX BK269.out), (GS.bqX BK278.out), (GS.bqX BK285.out), (GS.lB HB.out), fun _ _ => NB308_307.out, fun _ _ => NB307_308.out, fun _ h1_ => absurd ((hon 11 (by kernel_rfl)).symm.trans h1_) (by decide), fun _ => GW307.out, fun _ => GE307.out, fun _ => NB268_307.out, fun _ => NB307_268.out, fun _ => NB269_307.out, fun _ => NB307_269.out, fun _ => NB278_307.out, fun _ => NB307_278.out, fun _ => NB285_307.out, fun _ => NB307_285.out, fun _ h1_ => absurd ((up_self b 12).symm.trans h1_) (by decide), fun _ => GW308.out, fun _ => GE308.out, fun _ => NB268_308.out, fun _ => NB308_268.out, fun _ => NB269_308.out, fun _ => NB308_269.out, fun _ => NB278_308.out, fun _ => NB308_278.out, fun _ => NB285_308.out, fun _ => NB308_285.out, fun _ => (GS.bqX BK307.out), fun _ => (GS.bqZ BK308.out), Kd.R_mono ((by (with_reducible repeat (first | apply Kd.R_alloc | apply Kd.R_drewN | apply Kd.R_drew)); exact Kd.R_mono (Kd.R_far (p := ⟨gb308, 9, none⟩) (Kd.R_far (p := ⟨gb308, 8, none⟩) (Kd.R_far (p := ⟨gb308, 7, none⟩) (Kd.R_far (p := ⟨gb308, 6, none⟩) (Kd.R_far (p := ⟨gb308, 5, none⟩) (Kd.R_far (p := ⟨gb308, 4, none⟩) (Kd.R_far (p := ⟨gb308, 3, none⟩) (Kd.R_far (p := ⟨gb308, 2, none⟩) (Kd.R_far (p := ⟨gb308, 1, none⟩) (Kd.R_far (p := ⟨gb308, 0, none⟩) (Kd.R_mono HO276.out (fun k_ hk => (⟨hk, GS.cj hk⟩ : _ ∧ k_ ≠ gb308))) (fun _ hk => hk.2) (.int .i64 t296)) (fun _ hk => hk.2) (.int .i64 t297)) (fun _ hk => hk.2) (.int .i64 t298)) (fun _ hk => hk.2) (.int .i64 t299)) (fun _ hk => hk.2) (.int .i64 t300)) (fun _ hk => hk.2) (.int .i64 t301)) (fun _ hk => hk.2) (.int .i64 t302)) (fun _ hk => hk.2) (.int .i64 t303)) (fun _ hk => hk.2) (.int .i64 t304)) (fun _ hk => hk.2) (.int .i64 t305)) (fun _ hk => hk))) (fun _ hk => GS.cj hk), Kd.R_mono ((by (with_reducible repeat (first | apply Kd.R_alloc | apply Kd.R_drewN | apply Kd.R_drew)); exact Kd.R_mono (Kd.R_far (p := ⟨gb308, 9, none⟩) (Kd.R_far (p := ⟨gb308, 8, none⟩) (Kd.R_far (p := ⟨gb308, 7, none⟩) (Kd.R_far (p := ⟨gb308, 6, none⟩) (Kd.R_far (p := ⟨gb308, 5, none⟩) (Kd.R_far (p := ⟨gb308, 4, none⟩) (Kd.R_far (p := ⟨gb308, 3, none⟩) (Kd.R_far (p := ⟨gb308, 2, none⟩) (Kd.R_far (p := ⟨gb308, 1, none⟩) (Kd.R_far (p := ⟨gb308, 0, none⟩) (Kd.R_mono HO283.out (fun k_ hk => (⟨hk, GS.cj hk⟩ : _ ∧ k_ ≠ gb308))) (fun _ hk => hk.2) (.int .i64 t296)) (fun _ hk => hk.2) (.int .i64 t297)) (fun _ hk => hk.2) (.int .i64 t298)) (fun _ hk => hk.2) (.int .i64 t299)) (fun _ hk => hk.2) (.int .i64 t300)) (fun _ hk => hk.2) (.int .i64 t301)) (fun _ hk => hk.2) (.int .i64 t302)) (fun _ hk => hk.2) (.int .i64 t303)) (fun _ hk => hk.2) (.int .i64 t304)) (fun _ hk => hk.2) (.int .i64 t305)) (fun _ hk => hk))) (fun _ hk => GS.cj hk), fun _ => Kd.R_mono ((by (with_reducible repeat (first | apply Kd.R_alloc | apply Kd.R_drewN | apply Kd.R_drew)); exact Kd.R_mono (Kd.R_far (p := ⟨gb308, 9, none⟩) (Kd.R_far (p := ⟨gb308, 8, none⟩) (Kd.R_far (p := ⟨gb308, 7, none⟩) (Kd.R_far (p := ⟨gb308, 6, none⟩) (Kd.R_far (p := ⟨gb308, 5, none⟩) (Kd.R_far (p := ⟨gb308, 4, none⟩) (Kd.R_far (p := ⟨gb308, 3, none⟩) (Kd.R_far (p := ⟨gb308, 2, none⟩) (Kd.R_far (p := ⟨gb308, 1, none⟩) (Kd.R_far (p := ⟨gb308, 0, none⟩) (Kd.R_mono HO290.out (fun k_ hk => (⟨hk, GS.cj hk⟩ : _ ∧ k_ ≠ gb308))) (fun _ hk => hk.2) (.int .i64 t296)) (fun _ hk => hk.2) (.int .i64 t297)) (fun _ hk => hk.2) (.int .i64 t298)) (fun _ hk => hk.2) (.int .i64 t299)) (fun _ hk => hk.2) (.int .i64 t300)) (fun _ hk => hk.2) (.int .i64 t301)) (fun _ hk => hk.2) (.int .i64 t302)) (fun _ hk => hk.2) (.int .i64 t303)) (fun _ hk => hk.2) (.int .i64 t304)) (fun _ hk => hk.2) (.int .i64 t305)) (fun _ hk => hk))) (fun _ hk => GS.cj hk), fun _ => Kd.R_mono ((by (with_reducible repeat (first | apply Kd.R_alloc | apply Kd.R_drewN | apply Kd.R_drew)); exact Kd.R_mono (Kd.R_far (p := ⟨gb308, 9, none⟩) (Kd.R_far (p := ⟨gb308, 8, none⟩) (Kd.R_far (p := ⟨gb308, 7, none⟩) (Kd.R_far (p := ⟨gb308, 6, none⟩) (Kd.R_far (p := ⟨gb308, 5, none⟩) (Kd.R_far (p := ⟨gb308, 4, none⟩) (Kd.R_far (p := ⟨gb308, 3, none⟩) (Kd.R_far (p := ⟨gb308, 2, none⟩) (Kd.R_far (p := ⟨gb308, 1, none⟩) (Kd.R_far (p := ⟨gb308, 0, none⟩) (Kd.R_mono HO295.out (fun k_ hk => (⟨hk, GS.cj hk⟩ : _ ∧ k_ ≠ gb308))) (fun _ hk => hk.2) (.int .i64 t296)) (fun _ hk => hk.2) (.int .i64 t297)) (fun _ hk => hk.2) (.int .i64 t298)) (fun _ hk => hk.2) (.int .i64 t299)) (fun _ hk => hk.2) (.int .i64 t300)) (fun _ hk => hk.2) (.int .i64 t301)) (fun _ hk => hk.2) (.int .i64 t302)) (fun _ hk => hk.2) (.int .i64 t303)) (fun _ hk => hk.2) (.int .i64 t304)) (fun _ hk => hk.2) (.int .i64 t305)) (fun _ hk => hk))) (fun _ hk => GS.cj hk), fun _ => (by (with_reducible repeat (first | apply Kd.R_alloc | apply Kd.R_drewN | apply Kd.R_drew)); exact Kd.R_mono (Kd.R_far (p := ⟨gb308, 9, none⟩) (Kd.R_far (p := ⟨gb308, 8, none⟩) (Kd.R_far (p := ⟨gb308, 7, none⟩) (Kd.R_far (p := ⟨gb308, 6, none⟩) (Kd.R_far (p := ⟨gb308, 5, none⟩) (Kd.R_far (p := ⟨gb308, 4, none⟩) (Kd.R_far (p := ⟨gb308, 3, none⟩) (Kd.R_far (p := ⟨gb308, 2, none⟩) (Kd.R_far (p := ⟨gb308, 1, none⟩) (Kd.R_far (p := ⟨gb308, 0, none⟩) (Kd.R_mono HO276.out (fun k_ hk => (⟨hk, GS.cj hk⟩ : _ ∧ k_ ≠ gb308))) (fun _ hk => hk.2) (.int .i64 t296)) (fun _ hk => hk.2) (.int .i64 t297)) (fun _ hk => hk.2) (.int .i64 t298)) (fun _ hk => hk.2) (.int .i64 t299)) (fun _ hk => hk.2) (.int .i64 t300)) (fun _ hk => hk.2) (.int .i64 t301)) (fun _ hk => hk.2) (.int .i64 t302)) (fun _ hk => hk.2) (.int .i64 t303)) (fun _ hk => hk.2) (.int .i64 t304)) (fun _ hk => hk.2) (.int .i64 t305)) (fun _ hk => GS.cj hk)), fun _ => (by (with_reducible repeat (first | apply Kd.R_alloc | apply Kd.R_drewN | apply Kd.R_drew)); exact Kd.R_mono (Kd.R_far (p := ⟨gb308, 9, none⟩) (Kd.R_far (p := ⟨gb308, 8, none⟩) (Kd.R_far (p := ⟨gb308, 7, none⟩) (Kd.R_far (p := ⟨gb308, 6, none⟩) (Kd.R_far (p := ⟨gb308, 5, none⟩) (Kd.R_far (p := ⟨gb308, 4, none⟩) (Kd.R_far (p := ⟨gb308, 3, none⟩) (Kd.R_far (p := ⟨gb308, 2, none⟩) (Kd.R_far (p := ⟨gb308, 1, none⟩) (Kd.R_far (p := ⟨gb308, 0, none⟩) (Kd.R_mono HO283.out (fun k_ hk => (⟨hk, GS.cj hk⟩ : _ ∧ k_ ≠ gb308))) (fun _ hk => hk.2) (.int .i64 t296)) (fun _ hk => hk.2) (.int .i64 t297)) (fun _ hk => hk.2) (.int .i64 t298)) (fun _ hk => hk.2) (.int .i64 t299)) (fun _ hk => hk.2) (.int .i64 t300)) (fun _ hk => hk.2) (.int .i64 t301)) (fun _ hk => hk.2) (.int .i64 t302)) (fun _ hk => hk.2) (.int .i64 t303)) (fun _ hk => hk.2) (.int .i64 t304)) (fun _ hk => hk.2) (.int .i64 t305)) (fun _ hk => GS.cj hk)), fun _ _ => (by (with_reducible repeat (first | apply Kd.R_alloc | apply Kd.R_drewN | apply Kd.R_drew)); exact Kd.R_mono (Kd.R_far (p := ⟨gb308, 9, none⟩) (Kd.R_far (p := ⟨gb308, 8, none⟩) (Kd.R_far (p := ⟨gb308, 7, none⟩) (Kd.R_far (p := ⟨gb308, 6, none⟩) (Kd.R_far (p := ⟨gb308, 5, none⟩) (Kd.R_far (p := ⟨gb308, 4, none⟩) (Kd.R_far (p := ⟨gb308, 3, none⟩) (Kd.R_far (p := ⟨gb308, 2, none⟩) (Kd.R_far (p := ⟨gb308, 1, none⟩) (Kd.R_far (p := ⟨gb308, 0, none⟩) (Kd.R_mono HO290.out (fun k_ hk => (⟨hk, GS.cj hk⟩ : _ ∧ k_ ≠ gb308))) (fun _ hk => hk.2) (.int .i64 t296)) (fun _ hk => hk.2) (.int .i64 t297)) (fun _ hk => hk.2) (.int .i64 t298)) (fun _ hk => hk.2) (.int .i64 t299)) (fun _ hk => hk.2) (.int .i64 t300)) (fun _ hk => hk.2) (.int .i64 t301)) (fun _ hk => hk.2) (.int .i64 t302)) (fun _ hk => hk.2) (.int .i64 t303)) (fun _ hk => hk.2) (.int .i64 t304)) (fun _ hk => hk.2) (.int .i64 t305)) (fun _ hk => GS.cj hk)), fun _ _ => (by (with_reducible repeat (first | apply Kd.R_alloc | apply Kd.R_drewN | apply Kd.R_drew)); exact Kd.R_mono (Kd.R_far (p := ⟨gb308, 9, none⟩) (Kd.R_far (p := ⟨gb308, 8, none⟩) (Kd.R_far (p := ⟨gb308, 7, none⟩) (Kd.R_far (p := ⟨gb308, 6, none⟩) (Kd.R_far (p := ⟨gb308, 5, none⟩) (Kd.R_far (p := ⟨gb308, 4, none⟩) (Kd.R_far (p := ⟨gb308, 3, none⟩) (Kd.R_far (p := ⟨gb308, 2, none⟩) (Kd.R_far (p := ⟨gb308, 1, none⟩) (Kd.R_far (p := ⟨gb308, 0, none⟩) (Kd.R_mono HO295.out (fun k_ hk => (⟨hk, GS.cj hk⟩ : _ ∧ k_ ≠ gb308))) (fun _ hk => hk.2) (.int .i64 t296)) (fun _ hk => hk.2) (.int .i64 t297)) (fun _ hk => hk.2) (.int .i64 t298)) (fun _ hk => hk.2) (.int .i64 t299)) (fun _ hk => hk.2) (.int .i64 t300)) (fun _ hk => hk.2) (.int .i64 t301)) (fun _ hk => hk.2) (.int .i64 t302)) (fun _ hk => hk.2) (.int .i64 t303)) (fun _ hk => hk.2) (.int .i64 t304)) (fun _ hk => hk.2) (.int .i64 t305)) (fun _ hk => GS.cj hk)), QX1_, QX4_, QX5_, QX6_, QX9_, QX10_⟩
         refine steps_cons ?_ ?_
         ·rintro b a w' ⟨v289, v294, gb307, gb308, m1_, m4_, m5_, m6_, m9_, m10_, ha, QBK268, QBK269, QBK278, QBK285, QHB, QNB308_307, QNB307_308, QBK307, QGW307, QGE307, QNB268_307, QNB307_268, QNB269_307, QNB307_269, QNB278_307, QNB307_278, QNB285_307, QNB307_285, QBK308, QGW308, QGE308, QNB268_308, QNB308_268, QNB269_308, QNB308_269, QNB278_308, QNB308_278, QNB285_308, QNB308_285, QBK307_e11, QBK308_e12, QHO276, QHO283, QHO290_e1, QHO295_e4, QHO276_e10, QHO283_e10, QHO290_p1_10, QHO295_p4_10, QX1_, QX4_, QX5_, QX6_, QX9_, QX10_⟩ hb_ hon hoff
          refine ⟨_, rfl, fun K hK => ?_⟩
          have e40 : a.tmps[40]? = some (.int .i64 t306) := by rw [ha]; exact putSel_on (e := (8, 40, .int .i64 t306)) 7 rfl rfl (hon 8 (by kernel_rfl)) rfl
          replace ha := AM ha
          have BK268 := AM QBK268
          have BK269 := AM QBK269
          have BK278 := AM QBK278
          have BK285 := AM QBK285
          have HB := AM QHB
          have NB308_307 := AM (QNB308_307 (hon 9 (by kernel_rfl)) (hon 10 (by kernel_rfl)))
          have NB307_308 := AM (QNB307_308 (hon 9 (by kernel_rfl)) (hon 10 (by kernel_rfl)))
          have GW307 := AM (QGW307 (hon 9 (by kernel_rfl)))
          have GE307 := AM (QGE307 (hon 9 (by kernel_rfl)))
          have NB268_307 := AM (QNB268_307 (hon 9 (by kernel_rfl)))
          have NB307_268 := AM (QNB307_268 (hon 9 (by kernel_rfl)))
          have NB269_307 := AM (QNB269_307 (hon 9 (by kernel_rfl)))
          have NB307_269 := AM (QNB307_269 (hon 9 (by kernel_rfl)))
          have NB278_307 := AM (QNB278_307 (hon 9 (by kernel_rfl)))
          have NB307_278 := AM (QNB307_278 (hon 9 (by kernel_rfl)))
          have NB285_307 := AM (QNB285_307 (hon 9 (by kernel_rfl)))
          have NB307_285 := AM (QNB307_285 (hon 9 (by kernel_rfl)))
          have GW308 := AM (QGW308 (hon 10 (by kernel_rfl)))
          have GE308 := AM (QGE308 (hon 10 (by kernel_rfl)))
          have NB268_308 := AM (QNB268_308 (hon 10 (by kernel_rfl)))
          have NB308_268 := AM (QNB308_268 (hon 10 (by kernel_rfl)))
          have NB269_308 := AM (QNB269_308 (hon 10 (by kernel_rfl)))
          have NB308_269 := AM (QNB308_269 (hon 10 (by kernel_rfl)))
          have NB278_308 := AM (QNB278_308 (hon 10 (by kernel_rfl)))
          have NB308_278 := AM (QNB308_278 (hon 10 (by kernel_rfl)))
          have NB285_308 := AM (QNB285_308 (hon 10 (by kernel_rfl)))
          have NB308_285 := AM (QNB308_285 (hon 10 (by kernel_rfl)))
          have BK307 := AM (QBK307_e11 (hon 11 (by kernel_rfl)))
          have BK308 := AM (QBK308_e12 (hon 12 (by kernel_rfl)))
          have HO276 := AM QHO276
          have HO283 := AM QHO283
          have HO290 := AM (QHO290_e1 (hon 1 (by kernel_rfl)))
          have HO295 := AM (QHO295_e4 (hon 4 (by kernel_rfl)))
          have HO276 := AM (QHO276_e10 (hon 10 (by kernel_rfl)))
          have HO283 := AM (QHO283_e10 (hon 10 (by kernel_rfl)))
          have HO290 := AM (QHO290_p1_10 (hon 1 (by kernel_rfl)) (hon 10 (by kernel_rfl)))
          have HO295 := AM (QHO295_p4_10 (hon 4 (by kernel_rfl)) (hon 10 (by kernel_rfl)))
          refine value_ (w1 := w') (v := .int .i64 t306) (by rfl) rfl ?_ ?_
          ·go_simp
           (try simp only [i64_w])
           try rfl
          refine hK.out _ _ ⟨v289, v294, gb307, gb308, m1_, m4_, m5_, m6_, m9_, m10_, (by rw [ha.out]; exact putSel_upk 10 hb_ rfl rfl rfl), QBK268, QBK269, QBK278, QBK285, QHB, QNB308_307, QNB307_308, fun _ h1_ => absurd ((hon 11 (by kernel_rfl)).symm.trans h1_) (by decide), QGW307, QGE307, QNB268_307, QNB307_268, QNB269_307, QNB307_269, QNB278_307, QNB307_278, QNB285_307, QNB307_285, fun _ h1_ => absurd ((hon 12 (by kernel_rfl)).symm.trans h1_) (by decide), QGW308, QGE308, QNB268_308, QNB308_268, QNB269_308, QNB308_269, QNB278_308, QNB308_278, QNB285_308, QNB308_285, QBK307_e11, QBK308_e12, QHO276, QHO283, QHO290_e1, QHO295_e4, QHO276_e10, QHO283_e10, QHO290_p1_10, QHO295_p4_10, QX1_, QX4_, QX5_, QX6_, QX9_, QX10_⟩
         exact steps_nil
        rintro b a w63 hall ⟨v289, v294, gb307, gb308, m1_, m4_, m5_, m6_, m9_, m10_, ha, QBK268, QBK269, QBK278, QBK285, QHB, QNB308_307, QNB307_308, QBK307, QGW307, QGE307, QNB268_307, QNB307_268, QNB269_307, QNB307_269, QNB278_307, QNB307_278, QNB285_307, QNB307_285, QBK308, QGW308, QGE308, QNB268_308, QNB308_268, QNB269_308, QNB308_269, QNB278_308, QNB308_278, QNB285_308, QNB308_285, QBK307_e11, QBK308_e12, QHO276, QHO283, QHO290_e1, QHO295_e4, QHO276_e10, QHO283_e10, QHO290_p1_10, QHO295_p4_10, QX1_, QX4_, QX5_, QX6_, QX9_, QX10_⟩
        clear BK268 BK269 BK278 BK285 HB HO276 HO283
        have hb0_ := hall 0 (by kernel_rfl)
        have hb1_ := hall 1 (by kernel_rfl)
        have hb3_ := hall 3 (by kernel_rfl)
        have hb4_ := hall 4 (by kernel_rfl)
        have hb5_ := hall 5 (by kernel_rfl)
        have hb6_ := hall 6 (by kernel_rfl)
        have hb7_ := hall 7 (by kernel_rfl)
        have hb8_ := hall 8 (by kernel_rfl)
        have hb9_ := hall 9 (by kernel_rfl)
        have hb10_ := hall 10 (by kernel_rfl)
        have hb11_ := hall 11 (by kernel_rfl)
        have hb12_ := hall 12 (by kernel_rfl)
        have hb13_ := hall 13 (by kernel_rfl)
        subst ha
        obtain rfl := QX1_ hb1_
        obtain rfl := QX4_ hb4_
        obtain rfl := QX5_ hb5_
        obtain rfl := QX6_ hb6_
        obtain rfl := QX9_ hb9_
        obtain rfl := QX10_ hb10_
        simp only [putSel, hb0_, hb1_, hb3_, hb4_, hb5_, hb6_, hb7_, hb8_, hb9_, hb10_, hb11_, hb12_, hb13_, if_true, Act.put, List.setIfInBounds_toArray, List.set_cons_zero, List.set_cons_succ]
        have BK268 := AM QBK268
        clear QBK268
        have BK269 := AM QBK269
        clear QBK269
        have BK278 := AM QBK278
        clear QBK278
        have BK285 := AM QBK285
        clear QBK285
        have HB := AM QHB
        clear QHB
        have NB308_307 := AM (QNB308_307 hb9_ hb10_)
        clear QNB308_307
        have NB307_308 := AM (QNB307_308 hb9_ hb10_)
        clear QNB307_308
        clear QBK307
        have GW307 := AM (QGW307 hb9_)
        clear QGW307
        have GE307 := AM (QGE307 hb9_)
        clear QGE307
        have NB268_307 := AM (QNB268_307 hb9_)
        clear QNB268_307
        have NB307_268 := AM (QNB307_268 hb9_)
        clear QNB307_268
        have NB269_307 := AM (QNB269_307 hb9_)
        clear QNB269_307
        have NB307_269 := AM (QNB307_269 hb9_)
        clear QNB307_269
        have NB278_307 := AM (QNB278_307 hb9_)
        clear QNB278_307
        have NB307_278 := AM (QNB307_278 hb9_)
        clear QNB307_278
        have NB285_307 := AM (QNB285_307 hb9_)
        clear QNB285_307
        have NB307_285 := AM (QNB307_285 hb9_)
        clear QNB307_285
        clear QBK308
        have GW308 := AM (QGW308 hb10_)
        clear QGW308
        have GE308 := AM (QGE308 hb10_)
        clear QGE308
        have NB268_308 := AM (QNB268_308 hb10_)
        clear QNB268_308
        have NB308_268 := AM (QNB308_268 hb10_)
        clear QNB308_268
        have NB269_308 := AM (QNB269_308 hb10_)
        clear QNB269_308
        have NB308_269 := AM (QNB308_269 hb10_)
        clear QNB308_269
        have NB278_308 := AM (QNB278_308 hb10_)
        clear QNB278_308
        have NB308_278 := AM (QNB308_278 hb10_)
        clear QNB308_278
        have NB285_308 := AM (QNB285_308 hb10_)
        clear QNB285_308
        have NB308_285 := AM (QNB308_285 hb10_)
        clear QNB308_285
        have BK307 := AM (QBK307_e11 hb11_)
        clear QBK307_e11
        have BK308 := AM (QBK308_e12 hb12_)
        clear QBK308_e12
        have HO276 := AM QHO276
        clear QHO276
        have HO283 := AM QHO283
        clear QHO283
        have HO290 := AM (QHO290_e1 hb1_)
        clear QHO290_e1
        have HO295 := AM (QHO295_e4 hb4_)
        clear QHO295_e4
        have HO276 := AM (QHO276_e10 hb10_)
        clear QHO276_e10
        have HO283 := AM (QHO283_e10 hb10_)
        clear QHO283_e10
        have HO290 := AM (QHO290_p1_10 hb1_ hb10_)
        clear QHO290_p1_10
        have HO295 := AM (QHO295_p4_10 hb4_ hb10_)
        have n_ := AM (GW.R_sym (v' := v289) rfl HO276.out (fun k hk => (HO290.out.1 k hk).1)); clear HO276; have HO276 := n_; clear n_
        have n_ := AM (GW.R_sym (v' := v294) rfl HO276.out (fun k hk => (HO295.out.1 k hk).1)); clear HO276; have HO276 := n_; clear n_
        have n_ := AM (GW.R_sym (v' := v289) rfl HO283.out (fun k hk => (HO290.out.1 k hk).2.1)); clear HO283; have HO283 := n_; clear n_
        have n_ := AM (GW.R_sym (v' := v294) rfl HO283.out (fun k hk => (HO295.out.1 k hk).2.1)); clear HO283; have HO283 := n_; clear n_
        have n_ := AM (GW.R_sym (v' := v294) rfl HO290.out (fun k hk => (HO295.out.1 k hk).2.2.2)); clear HO290; have HO290 := n_; clear n_
        clear QHO295_p4_10
        clear hall hb0_ hb1_ hb3_ hb4_ hb5_ hb6_ hb7_ hb8_ hb9_ hb10_ hb11_ hb12_ hb13_
        have hnb64 := NB268_307.out
        have hnc64 := NB307_268.out
        have hnb65 := NB268_308.out
        have hnc65 := NB308_268.out
        obtain ⟨hcz66_0, hcz66_1, hcz66_2, hfz66_0, hfz66_1, hfz66_2⟩ := GS.c3 BK268.out
        have hnb67 := NB269_307.out
        have hnc67 := NB307_269.out
        have hnb68 := NB269_308.out
        have hnc68 := NB308_269.out
        obtain ⟨hcz69_0, hcz69_1, hcz69_2, hcz69_3, hcz69_4, hcz69_5, hcz69_6, hfz69_0, hfz69_1, hfz69_2, hfz69_3, hfz69_4, hfz69_5, hfz69_6⟩ := GS.c7 BK269.out
        try go_wp2_with (first | ((with_reducible refine gqC (f := 16) rfl ?_); refine GS.gL (some 45) Try.func16 #[.agg #[.int .i64 a0_0, .int .i64 a0_1, .slice A0_2 l0_2.length c0_2], .int .i64 a1, .agg #[.int .i64 a2_0, .int .i64 a2_1, .int .i64 a2_2, .int .i64 a2_3, .int .i64 a2_4, .int .i64 a2_5, .int .i64 a2_6]] ?_; (with_reducible refine (spileref42_Send.calls k a0_0 a0_1 _ _ l0_2 a1 a2_0 a2_1 a2_2 a2_3 a2_4 a2_5 a2_6 t309 t310 t311 t314 t315 t316 t317 t318 t319 t320 t321 t322 t323 t324 _ ?side1 ?side2 A12.out).mono ?_); (case side1 => exact GS.rC (Kd.C_below HR0_2.out HB.out)); (case side2 => exact HC0_2.out); rintro e w70 ⟨v312, rfl, ho0, hb⟩; refine ⟨_, rfl, ?_⟩; have n0_ := AM (Kd.R_elder' (GS.rR HO276.out) (Kd.R_base ho0) hb); have n1_ := AM (Kd.R_elder' (GS.rR HO283.out) (Kd.R_base ho0) hb); have n2_ := AM (Kd.R_elder' (GS.rR HO290.out) (Kd.R_base ho0) hb); have n3_ := AM (Kd.R_elder' (GS.rR HO295.out) (Kd.R_base ho0) hb); have n4_ := AM (Kd.R_lower (Kd.R_newB (Kd.R_new' (Kd.R_new' (Kd.R_new' (Kd.R_new' ho0 (Kd.R_lt (GS.rR HO276.out))) (Kd.R_lt (GS.rR HO283.out))) (Kd.R_lt (GS.rR HO290.out))) (Kd.R_lt (GS.rR HO295.out))) (GS.bqX BK308.out)) (lqZ (GS.lB HB.out))); have n5_ := AM (bqB (GS.bqX BK268.out) hb); have n6_ := AM (bqB (GS.bqX BK269.out) hb); have n7_ := AM (bqB (GS.bqX BK278.out) hb); have n8_ := AM (bqB (GS.bqX BK285.out) hb); have n9_ := AM (bqB (GS.bqX BK307.out) hb); have n10_ := AM (bqB (GS.bqX BK308.out) hb); have n11_ := AM (lqT (GS.lB HB.out) hb); clear HO276; clear HO283; clear HO290; clear HO295; clear BK268; clear BK269; clear BK278; clear BK285; clear BK307; clear BK308; clear HB; have HO276 := n0_; have HO283 := n1_; have HO290 := n2_; have HO295 := n3_; have HO313 := n4_; have BK268 := n5_; have BK269 := n6_; have BK278 := n7_; have BK285 := n8_; have BK307 := n9_; have BK308 := n10_; have HB := n11_; clear n0_ n1_ n2_ n3_ n4_ n5_ n6_ n7_ n8_ n9_ n10_ n11_; (try clear hb); (try clear hb2); (try clear hk); (try clear hi); (try clear ho0)) | ((with_reducible refine gqD (N := 14) rfl ?_); refine GS.bx (N := 14) (cs := #[.int .i64 0, .int .i64 0, .slice none 0 0]) (t := 24) ?_; intro gb325 hg w71 hbox hb; have n0_ := AM (Kd.R_below (GS.rR HO276.out) hb); have n1_ := AM (Kd.R_below (GS.rR HO283.out) hb); have n2_ := AM (Kd.R_below (GS.rR HO290.out) hb); have n3_ := AM (Kd.R_below (GS.rR HO295.out) hb); have n4_ := AM (Kd.R_below (GS.rR HO313.out) hb); have n5_ := AM (bqB (GS.bqX BK268.out) hb); have n6_ := AM (bqB (GS.bqX BK269.out) hb); have n7_ := AM (bqB (GS.bqX BK278.out) hb); have n8_ := AM (bqB (GS.bqX BK285.out) hb); have n9_ := AM (bqB (GS.bqX BK307.out) hb); have n10_ := AM (bqB (GS.bqX BK308.out) hb); have n11_ := AM (lqT (GS.lB HB.out) hb); have n12_ := AM (hbox); have n13_ := AM ((by rw [hg]; exact (lqZ (GS.lB HB.out)) : w.heap.size ≤ gb325)); have n14_ := AM ((by rw [hg]; exact (lqZ (GS.lB HB.out)) : w.heap.size ≤ gb325)); have n15_ := AM ((by rw [hg]; exact Nat.ne_of_lt (blk_lt (GS.bqX BK268.out)) : gb268 ≠ gb325)); have n16_ := AM ((by rw [hg]; exact Nat.ne_of_gt (blk_lt (GS.bqX BK268.out)) : gb325 ≠ gb268)); have n17_ := AM ((by rw [hg]; exact Nat.ne_of_lt (blk_lt (GS.bqX BK269.out)) : gb269 ≠ gb325)); have n18_ := AM ((by rw [hg]; exact Nat.ne_of_gt (blk_lt (GS.bqX BK269.out)) : gb325 ≠ gb269)); have n19_ := AM ((by rw [hg]; exact Nat.ne_of_lt (blk_lt (GS.bqX BK278.out)) : gb278 ≠ gb325)); have n20_ := AM ((by rw [hg]; exact Nat.ne_of_gt (blk_lt (GS.bqX BK278.out)) : gb325 ≠ gb278)); have n21_ := AM ((by rw [hg]; exact Nat.ne_of_lt (blk_lt (GS.bqX BK285.out)) : gb285 ≠ gb325)); have n22_ := AM ((by rw [hg]; exact Nat.ne_of_gt (blk_lt (GS.bqX BK285.out)) : gb325 ≠ gb285)); have n23_ := AM ((by rw [hg]; exact Nat.ne_of_lt (blk_lt (GS.bqX BK307.out)) : gb307 ≠ gb325)); have n24_ := AM ((by rw [hg]; exact Nat.ne_of_gt (blk_lt (GS.bqX BK307.out)) : gb325 ≠ gb307)); have n25_ := AM ((by rw [hg]; exact Nat.ne_of_lt (blk_lt (GS.bqX BK308.out)) : gb308 ≠ gb325)); have n26_ := AM ((by rw [hg]; exact Nat.ne_of_gt (blk_lt (GS.bqX BK308.out)) : gb325 ≠ gb308)); clear HO276; clear HO283; clear HO290; clear HO295; clear HO313; clear BK268; clear BK269; clear BK278; clear BK285; clear BK307; clear BK308; clear HB; have HO276 := n0_; have HO283 := n1_; have HO290 := n2_; have HO295 := n3_; have HO313 := n4_; have BK268 := n5_; have BK269 := n6_; have BK278 := n7_; have BK285 := n8_; have BK307 := n9_; have BK308 := n10_; have HB := n11_; have BK325 := n12_; have GW325 := n13_; have GE325 := n14_; have NB268_325 := n15_; have NB325_268 := n16_; have NB269_325 := n17_; have NB325_269 := n18_; have NB278_325 := n19_; have NB325_278 := n20_; have NB285_325 := n21_; have NB325_285 := n22_; have NB307_325 := n23_; have NB325_307 := n24_; have NB308_325 := n25_; have NB325_308 := n26_; clear n0_ n1_ n2_ n3_ n4_ n5_ n6_ n7_ n8_ n9_ n10_ n11_ n12_ n13_ n14_ n15_ n16_ n17_ n18_ n19_ n20_ n21_ n22_ n23_ n24_ n25_ n26_; clear hb hbox hg) | ((with_reducible refine gqD (N := 15) rfl ?_); refine GS.bx (N := 15) (cs := #[.int .i64 0, .int .i64 0, .int .i64 0, .int .i64 0, .int .i64 0, .int .i64 0, .int .i64 0, .int .i64 0, .int .i64 0, .int .i64 0]) (t := 33) ?_; intro gb326 hg w72 hbox hb; have n0_ := AM (Kd.R_below (Kd.R_elderB (GS.rR HO276.out) gb326 (Nat.le_of_eq hg.symm)) hb); have n1_ := AM (Kd.R_below (Kd.R_elderB (GS.rR HO283.out) gb326 (Nat.le_of_eq hg.symm)) hb); have n2_ := AM (Kd.R_below (Kd.R_elderB (GS.rR HO290.out) gb326 (Nat.le_of_eq hg.symm)) hb); have n3_ := AM (Kd.R_below (Kd.R_elderB (GS.rR HO295.out) gb326 (Nat.le_of_eq hg.symm)) hb); have n4_ := AM (Kd.R_below (Kd.R_elderB (GS.rR HO313.out) gb326 (Nat.le_of_eq hg.symm)) hb); have n5_ := AM (bqB (GS.bqX BK268.out) hb); have n6_ := AM (bqB (GS.bqX BK269.out) hb); have n7_ := AM (bqB (GS.bqX BK278.out) hb); have n8_ := AM (bqB (GS.bqX BK285.out) hb); have n9_ := AM (bqB (GS.bqX BK307.out) hb); have n10_ := AM (bqB (GS.bqX BK308.out) hb); have n11_ := AM (bqB (GS.bqX BK325.out) hb); have n12_ := AM (lqT (GS.lB HB.out) hb); have n13_ := AM (hbox); have n14_ := AM ((by rw [hg]; exact (lqZ (GS.lB HB.out)) : w.heap.size ≤ gb326)); have n15_ := AM ((by rw [hg]; exact (lqZ (GS.lB HB.out)) : w.heap.size ≤ gb326)); have n16_ := AM ((by rw [hg]; exact Nat.ne_of_lt (blk_lt (GS.bqX BK268.out)) : gb268 ≠ gb326)); have n17_ := AM ((by rw [hg]; exact Nat.ne_of_gt (blk_lt (GS.bqX BK268.out)) : gb326 ≠ gb268)); have n18_ := AM ((by rw [hg]; exact Nat.ne_of_lt (blk_lt (GS.bqX BK269.out)) : gb269 ≠ gb326)); have n19_ := AM ((by rw [hg]; exact Nat.ne_of_gt (blk_lt (GS.bqX BK269.out)) : gb326 ≠ gb269)); have n20_ := AM ((by rw [hg]; exact Nat.ne_of_lt (blk_lt (GS.bqX BK278.out)) : gb278 ≠ gb326)); have n21_ := AM ((by rw [hg]; exact Nat.ne_of_gt (blk_lt (GS.bqX BK278.out)) : gb326 ≠ gb278)); have n22_ := AM ((by rw [hg]; exact Nat.ne_of_lt (blk_lt (GS.bqX BK285.out)) : gb285 ≠ gb326)); have n23_ := AM ((by rw [hg]; exact Nat.ne_of_gt (blk_lt (GS.bqX BK285.out)) : gb326 ≠ gb285)); have n24_ := AM ((by rw [hg]; exact Nat.ne_of_lt (blk_lt (GS.bqX BK307.out)) : gb307 ≠ gb326)); have n25_ := AM ((by rw [hg]; exact Nat.ne_of_gt (blk_lt (GS.bqX BK307.out)) : gb326 ≠ gb307)); have n26_ := AM ((by rw [hg]; exact Nat.ne_of_lt (blk_lt (GS.bqX BK308.out)) : gb308 ≠ gb326)); have n27_ := AM ((by rw [hg]; exact Nat.ne_of_gt (blk_lt (GS.bqX BK308.out)) : gb326 ≠ gb308)); have n28_ := AM ((by rw [hg]; exact Nat.ne_of_lt (blk_lt (GS.bqX BK325.out)) : gb325 ≠ gb326)); have n29_ := AM ((by rw [hg]; exact Nat.ne_of_gt (blk_lt (GS.bqX BK325.out)) : gb326 ≠ gb325)); clear HO276; clear HO283; clear HO290; clear HO295; clear HO313; clear BK268; clear BK269; clear BK278; clear BK285; clear BK307; clear BK308; clear BK325; clear HB; have HO276 := n0_; have HO283 := n1_; have HO290 := n2_; have HO295 := n3_; have HO313 := n4_; have BK268 := n5_; have BK269 := n6_; have BK278 := n7_; have BK285 := n8_; have BK307 := n9_; have BK308 := n10_; have BK325 := n11_; have HB := n12_; have BK326 := n13_; have GW326 := n14_; have GE326 := n15_; have NB268_326 := n16_; have NB326_268 := n17_; have NB269_326 := n18_; have NB326_269 := n19_; have NB278_326 := n20_; have NB326_278 := n21_; have NB285_326 := n22_; have NB326_285 := n23_; have NB307_326 := n24_; have NB326_307 := n25_; have NB308_326 := n26_; have NB326_308 := n27_; have NB325_326 := n28_; have NB326_325 := n29_; clear n0_ n1_ n2_ n3_ n4_ n5_ n6_ n7_ n8_ n9_ n10_ n11_ n12_ n13_ n14_ n15_ n16_ n17_ n18_ n19_ n20_ n21_ n22_ n23_ n24_ n25_ n26_ n27_ n28_ n29_; clear hb hbox hg; have hnb73 := NB325_268.out; have hnc73 := NB268_325.out; have hnb74 := NB325_269.out; have hnc74 := NB269_325.out; have hnb75 := NB325_278.out; have hnc75 := NB278_325.out; have hnb76 := NB325_285.out; have hnc76 := NB285_325.out; have hnb77 := NB325_307.out; have hnc77 := NB307_325.out; have hnb78 := NB325_308.out; have hnc78 := NB308_325.out; have hnb79 := NB325_326.out; have hnc79 := NB326_325.out; obtain ⟨hcz80_0, hcz80_1, hcz80_2, hfz80_0, hfz80_1, hfz80_2⟩ := GS.c3 BK325.out; obtain ⟨Ao81, co81, eo81⟩ := Kd.R_slice HO313.out; subst eo81; have hnb82 := NB326_268.out; have hnc82 := NB268_326.out; have hnb83 := NB326_269.out; have hnc83 := NB269_326.out; have hnb84 := NB326_278.out; have hnc84 := NB278_326.out; have hnb85 := NB326_285.out; have hnc85 := NB285_326.out; have hnb86 := NB326_307.out; have hnc86 := NB307_326.out; have hnb87 := NB326_308.out; have hnc87 := NB308_326.out; obtain ⟨hcz88_0, hcz88_1, hcz88_2, hcz88_3, hcz88_4, hcz88_5, hcz88_6, hcz88_7, hcz88_8, hcz88_9, hfz88_0, hfz88_1, hfz88_2, hfz88_3, hfz88_4, hfz88_5, hfz88_6, hfz88_7, hfz88_8, hfz88_9⟩ := GS.c10 BK326.out))
        have n0_ : Aside0 (Kd.R k33 33 (((((((((((((w72.setCell ⟨gb325, 0, none⟩ (.int .i64 t309)).setCell ⟨gb325, 1, none⟩ (.int .i64 t310)).setCell ⟨gb325, 2, none⟩ (.slice Ao81 t311.length co81)).setCell ⟨gb326, 0, none⟩ (.int .i64 t314)).setCell ⟨gb326, 1, none⟩ (.int .i64 t315)).setCell ⟨gb326, 2, none⟩ (.int .i64 t316)).setCell ⟨gb326, 3, none⟩ (.int .i64 t317)).setCell ⟨gb326, 4, none⟩ (.int .i64 t318)).setCell ⟨gb326, 5, none⟩ (.int .i64 t319)).setCell ⟨gb326, 6, none⟩ (.int .i64 t320)).setCell ⟨gb326, 7, none⟩ (.int .i64 t321)).setCell ⟨gb326, 8, none⟩ (.int .i64 t322)).setCell ⟨gb326, 9, none⟩ (.int .i64 t323)) w.heap.size (fun k_ => some k_ ≠ (.slice Ao41 t281.length co41 : Value).ownBlock ∧ some k_ ≠ (v289 : Value).ownBlock ∧ some k_ ≠ (v294 : Value).ownBlock ∧ some k_ ≠ (.slice Ao81 t311.length co81 : Value).ownBlock ∧ k_ ≠ gb308 ∧ k_ ≠ gb326) (.slice Ao34 t274.length co34) t274) := ⟨by (with_reducible repeat (first | apply Kd.R_alloc | apply Kd.R_drewN | apply Kd.R_drew)); exact Kd.R_mono (Kd.R_far (p := ⟨gb326, 9, none⟩) (Kd.R_far (p := ⟨gb326, 8, none⟩) (Kd.R_far (p := ⟨gb326, 7, none⟩) (Kd.R_far (p := ⟨gb326, 6, none⟩) (Kd.R_far (p := ⟨gb326, 5, none⟩) (Kd.R_far (p := ⟨gb326, 4, none⟩) (Kd.R_far (p := ⟨gb326, 3, none⟩) (Kd.R_far (p := ⟨gb326, 2, none⟩) (Kd.R_far (p := ⟨gb326, 1, none⟩) (Kd.R_far (p := ⟨gb326, 0, none⟩) (Kd.R_far (p := ⟨gb325, 2, none⟩) (Kd.R_far (p := ⟨gb325, 1, none⟩) (Kd.R_far (p := ⟨gb325, 0, none⟩) (Kd.R_mono (Kd.R_types HO276.out BK325.out (by decide)) (fun k_ hk => (⟨hk, GS.cj hk⟩ : _ ∧ k_ ≠ gb326))) (fun _ hk => hk.1.2) (.int .i64 t309)) (fun _ hk => hk.1.2) (.int .i64 t310)) (fun _ hk => hk.1.2) (.slice Ao81 t311.length co81)) (fun _ hk => hk.2) (.int .i64 t314)) (fun _ hk => hk.2) (.int .i64 t315)) (fun _ hk => hk.2) (.int .i64 t316)) (fun _ hk => hk.2) (.int .i64 t317)) (fun _ hk => hk.2) (.int .i64 t318)) (fun _ hk => hk.2) (.int .i64 t319)) (fun _ hk => hk.2) (.int .i64 t320)) (fun _ hk => hk.2) (.int .i64 t321)) (fun _ hk => hk.2) (.int .i64 t322)) (fun _ hk => hk.2) (.int .i64 t323)) (fun _ hk => by simp only [hk, ne_eq, not_false_eq_true, and_self])⟩
        have n1_ : Aside0 (Kd.R k33 33 (((((((((((((w72.setCell ⟨gb325, 0, none⟩ (.int .i64 t309)).setCell ⟨gb325, 1, none⟩ (.int .i64 t310)).setCell ⟨gb325, 2, none⟩ (.slice Ao81 t311.length co81)).setCell ⟨gb326, 0, none⟩ (.int .i64 t314)).setCell ⟨gb326, 1, none⟩ (.int .i64 t315)).setCell ⟨gb326, 2, none⟩ (.int .i64 t316)).setCell ⟨gb326, 3, none⟩ (.int .i64 t317)).setCell ⟨gb326, 4, none⟩ (.int .i64 t318)).setCell ⟨gb326, 5, none⟩ (.int .i64 t319)).setCell ⟨gb326, 6, none⟩ (.int .i64 t320)).setCell ⟨gb326, 7, none⟩ (.int .i64 t321)).setCell ⟨gb326, 8, none⟩ (.int .i64 t322)).setCell ⟨gb326, 9, none⟩ (.int .i64 t323)) w.heap.size (fun k_ => some k_ ≠ (.slice Ao34 t274.length co34 : Value).ownBlock ∧ some k_ ≠ (v289 : Value).ownBlock ∧ some k_ ≠ (v294 : Value).ownBlock ∧ some k_ ≠ (.slice Ao81 t311.length co81 : Value).ownBlock ∧ k_ ≠ gb308 ∧ k_ ≠ gb326) (.slice Ao41 t281.length co41) t281) := ⟨by (with_reducible repeat (first | apply Kd.R_alloc | apply Kd.R_drewN | apply Kd.R_drew)); exact Kd.R_mono (Kd.R_far (p := ⟨gb326, 9, none⟩) (Kd.R_far (p := ⟨gb326, 8, none⟩) (Kd.R_far (p := ⟨gb326, 7, none⟩) (Kd.R_far (p := ⟨gb326, 6, none⟩) (Kd.R_far (p := ⟨gb326, 5, none⟩) (Kd.R_far (p := ⟨gb326, 4, none⟩) (Kd.R_far (p := ⟨gb326, 3, none⟩) (Kd.R_far (p := ⟨gb326, 2, none⟩) (Kd.R_far (p := ⟨gb326, 1, none⟩) (Kd.R_far (p := ⟨gb326, 0, none⟩) (Kd.R_far (p := ⟨gb325, 2, none⟩) (Kd.R_far (p := ⟨gb325, 1, none⟩) (Kd.R_far (p := ⟨gb325, 0, none⟩) (Kd.R_mono (Kd.R_types HO283.out BK325.out (by decide)) (fun k_ hk => (⟨hk, GS.cj hk⟩ : _ ∧ k_ ≠ gb326))) (fun _ hk => hk.1.2) (.int .i64 t309)) (fun _ hk => hk.1.2) (.int .i64 t310)) (fun _ hk => hk.1.2) (.slice Ao81 t311.length co81)) (fun _ hk => hk.2) (.int .i64 t314)) (fun _ hk => hk.2) (.int .i64 t315)) (fun _ hk => hk.2) (.int .i64 t316)) (fun _ hk => hk.2) (.int .i64 t317)) (fun _ hk => hk.2) (.int .i64 t318)) (fun _ hk => hk.2) (.int .i64 t319)) (fun _ hk => hk.2) (.int .i64 t320)) (fun _ hk => hk.2) (.int .i64 t321)) (fun _ hk => hk.2) (.int .i64 t322)) (fun _ hk => hk.2) (.int .i64 t323)) (fun _ hk => by simp only [hk, ne_eq, not_false_eq_true, and_self])⟩
        have n2_ : Aside0 (Kd.R k33 33 (((((((((((((w72.setCell ⟨gb325, 0, none⟩ (.int .i64 t309)).setCell ⟨gb325, 1, none⟩ (.int .i64 t310)).setCell ⟨gb325, 2, none⟩ (.slice Ao81 t311.length co81)).setCell ⟨gb326, 0, none⟩ (.int .i64 t314)).setCell ⟨gb326, 1, none⟩ (.int .i64 t315)).setCell ⟨gb326, 2, none⟩ (.int .i64 t316)).setCell ⟨gb326, 3, none⟩ (.int .i64 t317)).setCell ⟨gb326, 4, none⟩ (.int .i64 t318)).setCell ⟨gb326, 5, none⟩ (.int .i64 t319)).setCell ⟨gb326, 6, none⟩ (.int .i64 t320)).setCell ⟨gb326, 7, none⟩ (.int .i64 t321)).setCell ⟨gb326, 8, none⟩ (.int .i64 t322)).setCell ⟨gb326, 9, none⟩ (.int .i64 t323)) w.heap.size (fun k_ => some k_ ≠ (.slice Ao34 t274.length co34 : Value).ownBlock ∧ some k_ ≠ (.slice Ao41 t281.length co41 : Value).ownBlock ∧ some k_ ≠ (v294 : Value).ownBlock ∧ some k_ ≠ (.slice Ao81 t311.length co81 : Value).ownBlock ∧ k_ ≠ gb308 ∧ k_ ≠ gb326) v289 t288) := ⟨by (with_reducible repeat (first | apply Kd.R_alloc | apply Kd.R_drewN | apply Kd.R_drew)); exact Kd.R_mono (Kd.R_far (p := ⟨gb326, 9, none⟩) (Kd.R_far (p := ⟨gb326, 8, none⟩) (Kd.R_far (p := ⟨gb326, 7, none⟩) (Kd.R_far (p := ⟨gb326, 6, none⟩) (Kd.R_far (p := ⟨gb326, 5, none⟩) (Kd.R_far (p := ⟨gb326, 4, none⟩) (Kd.R_far (p := ⟨gb326, 3, none⟩) (Kd.R_far (p := ⟨gb326, 2, none⟩) (Kd.R_far (p := ⟨gb326, 1, none⟩) (Kd.R_far (p := ⟨gb326, 0, none⟩) (Kd.R_far (p := ⟨gb325, 2, none⟩) (Kd.R_far (p := ⟨gb325, 1, none⟩) (Kd.R_far (p := ⟨gb325, 0, none⟩) (Kd.R_mono (Kd.R_types HO290.out BK325.out (by decide)) (fun k_ hk => (⟨hk, GS.cj hk⟩ : _ ∧ k_ ≠ gb326))) (fun _ hk => hk.1.2) (.int .i64 t309)) (fun _ hk => hk.1.2) (.int .i64 t310)) (fun _ hk => hk.1.2) (.slice Ao81 t311.length co81)) (fun _ hk => hk.2) (.int .i64 t314)) (fun _ hk => hk.2) (.int .i64 t315)) (fun _ hk => hk.2) (.int .i64 t316)) (fun _ hk => hk.2) (.int .i64 t317)) (fun _ hk => hk.2) (.int .i64 t318)) (fun _ hk => hk.2) (.int .i64 t319)) (fun _ hk => hk.2) (.int .i64 t320)) (fun _ hk => hk.2) (.int .i64 t321)) (fun _ hk => hk.2) (.int .i64 t322)) (fun _ hk => hk.2) (.int .i64 t323)) (fun _ hk => by simp only [hk, ne_eq, not_false_eq_true, and_self])⟩
        have n3_ : Aside0 (Kd.R k33 33 (((((((((((((w72.setCell ⟨gb325, 0, none⟩ (.int .i64 t309)).setCell ⟨gb325, 1, none⟩ (.int .i64 t310)).setCell ⟨gb325, 2, none⟩ (.slice Ao81 t311.length co81)).setCell ⟨gb326, 0, none⟩ (.int .i64 t314)).setCell ⟨gb326, 1, none⟩ (.int .i64 t315)).setCell ⟨gb326, 2, none⟩ (.int .i64 t316)).setCell ⟨gb326, 3, none⟩ (.int .i64 t317)).setCell ⟨gb326, 4, none⟩ (.int .i64 t318)).setCell ⟨gb326, 5, none⟩ (.int .i64 t319)).setCell ⟨gb326, 6, none⟩ (.int .i64 t320)).setCell ⟨gb326, 7, none⟩ (.int .i64 t321)).setCell ⟨gb326, 8, none⟩ (.int .i64 t322)).setCell ⟨gb326, 9, none⟩ (.int .i64 t323)) w.heap.size (fun k_ => some k_ ≠ (.slice Ao34 t274.length co34 : Value).ownBlock ∧ some k_ ≠ (.slice Ao41 t281.length co41 : Value).ownBlock ∧ some k_ ≠ (v289 : Value).ownBlock ∧ some k_ ≠ (.slice Ao81 t311.length co81 : Value).ownBlock ∧ k_ ≠ gb308 ∧ k_ ≠ gb326) v294 t293) := ⟨by (with_reducible repeat (first | apply Kd.R_alloc | apply Kd.R_drewN | apply Kd.R_drew)); exact Kd.R_mono (Kd.R_far (p := ⟨gb326, 9, none⟩) (Kd.R_far (p := ⟨gb326, 8, none⟩) (Kd.R_far (p := ⟨gb326, 7, none⟩) (Kd.R_far (p := ⟨gb326, 6, none⟩) (Kd.R_far (p := ⟨gb326, 5, none⟩) (Kd.R_far (p := ⟨gb326, 4, none⟩) (Kd.R_far (p := ⟨gb326, 3, none⟩) (Kd.R_far (p := ⟨gb326, 2, none⟩) (Kd.R_far (p := ⟨gb326, 1, none⟩) (Kd.R_far (p := ⟨gb326, 0, none⟩) (Kd.R_far (p := ⟨gb325, 2, none⟩) (Kd.R_far (p := ⟨gb325, 1, none⟩) (Kd.R_far (p := ⟨gb325, 0, none⟩) (Kd.R_mono (Kd.R_types HO295.out BK325.out (by decide)) (fun k_ hk => (⟨hk, GS.cj hk⟩ : _ ∧ k_ ≠ gb326))) (fun _ hk => hk.1.2) (.int .i64 t309)) (fun _ hk => hk.1.2) (.int .i64 t310)) (fun _ hk => hk.1.2) (.slice Ao81 t311.length co81)) (fun _ hk => hk.2) (.int .i64 t314)) (fun _ hk => hk.2) (.int .i64 t315)) (fun _ hk => hk.2) (.int .i64 t316)) (fun _ hk => hk.2) (.int .i64 t317)) (fun _ hk => hk.2) (.int .i64 t318)) (fun _ hk => hk.2) (.int .i64 t319)) (fun _ hk => hk.2) (.int .i64 t320)) (fun _ hk => hk.2) (.int .i64 t321)) (fun _ hk => hk.2) (.int .i64 t322)) (fun _ hk => hk.2) (.int .i64 t323)) (fun _ hk => by simp only [hk, ne_eq, not_false_eq_true, and_self])⟩
        have n4_ : Aside0 (Kd.R k33 33 (((((((((((((w72.setCell ⟨gb325, 0, none⟩ (.int .i64 t309)).setCell ⟨gb325, 1, none⟩ (.int .i64 t310)).setCell ⟨gb325, 2, none⟩ (.slice Ao81 t311.length co81)).setCell ⟨gb326, 0, none⟩ (.int .i64 t314)).setCell ⟨gb326, 1, none⟩ (.int .i64 t315)).setCell ⟨gb326, 2, none⟩ (.int .i64 t316)).setCell ⟨gb326, 3, none⟩ (.int .i64 t317)).setCell ⟨gb326, 4, none⟩ (.int .i64 t318)).setCell ⟨gb326, 5, none⟩ (.int .i64 t319)).setCell ⟨gb326, 6, none⟩ (.int .i64 t320)).setCell ⟨gb326, 7, none⟩ (.int .i64 t321)).setCell ⟨gb326, 8, none⟩ (.int .i64 t322)).setCell ⟨gb326, 9, none⟩ (.int .i64 t323)) w.heap.size (fun k_ => some k_ ≠ (.slice Ao34 t274.length co34 : Value).ownBlock ∧ some k_ ≠ (.slice Ao41 t281.length co41 : Value).ownBlock ∧ some k_ ≠ (v289 : Value).ownBlock ∧ some k_ ≠ (v294 : Value).ownBlock ∧ k_ ≠ gb308 ∧ k_ ≠ gb326) (.slice Ao81 t311.length co81) t311) := ⟨by (with_reducible repeat (first | apply Kd.R_alloc | apply Kd.R_drewN | apply Kd.R_drew)); exact Kd.R_mono (Kd.R_far (p := ⟨gb326, 9, none⟩) (Kd.R_far (p := ⟨gb326, 8, none⟩) (Kd.R_far (p := ⟨gb326, 7, none⟩) (Kd.R_far (p := ⟨gb326, 6, none⟩) (Kd.R_far (p := ⟨gb326, 5, none⟩) (Kd.R_far (p := ⟨gb326, 4, none⟩) (Kd.R_far (p := ⟨gb326, 3, none⟩) (Kd.R_far (p := ⟨gb326, 2, none⟩) (Kd.R_far (p := ⟨gb326, 1, none⟩) (Kd.R_far (p := ⟨gb326, 0, none⟩) (Kd.R_far (p := ⟨gb325, 2, none⟩) (Kd.R_far (p := ⟨gb325, 1, none⟩) (Kd.R_far (p := ⟨gb325, 0, none⟩) (Kd.R_mono (Kd.R_types HO313.out BK325.out (by decide)) (fun k_ hk => (⟨hk, GS.cj hk⟩ : _ ∧ k_ ≠ gb326))) (fun _ hk => hk.1.2) (.int .i64 t309)) (fun _ hk => hk.1.2) (.int .i64 t310)) (fun _ hk => hk.1.2) (.slice Ao81 t311.length co81)) (fun _ hk => hk.2) (.int .i64 t314)) (fun _ hk => hk.2) (.int .i64 t315)) (fun _ hk => hk.2) (.int .i64 t316)) (fun _ hk => hk.2) (.int .i64 t317)) (fun _ hk => hk.2) (.int .i64 t318)) (fun _ hk => hk.2) (.int .i64 t319)) (fun _ hk => hk.2) (.int .i64 t320)) (fun _ hk => hk.2) (.int .i64 t321)) (fun _ hk => hk.2) (.int .i64 t322)) (fun _ hk => hk.2) (.int .i64 t323)) (fun _ hk => by simp only [hk, ne_eq, not_false_eq_true, and_self])⟩
        have n5_ : Aside0 ((((((((((((((w72.setCell ⟨gb325, 0, none⟩ (.int .i64 t309)).setCell ⟨gb325, 1, none⟩ (.int .i64 t310)).setCell ⟨gb325, 2, none⟩ (.slice Ao81 t311.length co81)).setCell ⟨gb326, 0, none⟩ (.int .i64 t314)).setCell ⟨gb326, 1, none⟩ (.int .i64 t315)).setCell ⟨gb326, 2, none⟩ (.int .i64 t316)).setCell ⟨gb326, 3, none⟩ (.int .i64 t317)).setCell ⟨gb326, 4, none⟩ (.int .i64 t318)).setCell ⟨gb326, 5, none⟩ (.int .i64 t319)).setCell ⟨gb326, 6, none⟩ (.int .i64 t320)).setCell ⟨gb326, 7, none⟩ (.int .i64 t321)).setCell ⟨gb326, 8, none⟩ (.int .i64 t322)).setCell ⟨gb326, 9, none⟩ (.int .i64 t323)).heap[gb268]? = some (.cells #[.int .i64 a0_0, .int .i64 a0_1, .slice A0_2 l0_2.length c0_2] 24 (0, 0))) := ⟨GS.bqX BK268.out⟩
        have n6_ : Aside0 ((((((((((((((w72.setCell ⟨gb325, 0, none⟩ (.int .i64 t309)).setCell ⟨gb325, 1, none⟩ (.int .i64 t310)).setCell ⟨gb325, 2, none⟩ (.slice Ao81 t311.length co81)).setCell ⟨gb326, 0, none⟩ (.int .i64 t314)).setCell ⟨gb326, 1, none⟩ (.int .i64 t315)).setCell ⟨gb326, 2, none⟩ (.int .i64 t316)).setCell ⟨gb326, 3, none⟩ (.int .i64 t317)).setCell ⟨gb326, 4, none⟩ (.int .i64 t318)).setCell ⟨gb326, 5, none⟩ (.int .i64 t319)).setCell ⟨gb326, 6, none⟩ (.int .i64 t320)).setCell ⟨gb326, 7, none⟩ (.int .i64 t321)).setCell ⟨gb326, 8, none⟩ (.int .i64 t322)).setCell ⟨gb326, 9, none⟩ (.int .i64 t323)).heap[gb269]? = some (.cells #[.int .i64 a2_0, .int .i64 a2_1, .int .i64 a2_2, .int .i64 a2_3, .int .i64 a2_4, .int .i64 a2_5, .int .i64 a2_6] 26 (0, 0))) := ⟨GS.bqX BK269.out⟩
        have n7_ : Aside0 ((((((((((((((w72.setCell ⟨gb325, 0, none⟩ (.int .i64 t309)).setCell ⟨gb325, 1, none⟩ (.int .i64 t310)).setCell ⟨gb325, 2, none⟩ (.slice Ao81 t311.length co81)).setCell ⟨gb326, 0, none⟩ (.int .i64 t314)).setCell ⟨gb326, 1, none⟩ (.int .i64 t315)).setCell ⟨gb326, 2, none⟩ (.int .i64 t316)).setCell ⟨gb326, 3, none⟩ (.int .i64 t317)).setCell ⟨gb326, 4, none⟩ (.int .i64 t318)).setCell ⟨gb326, 5, none⟩ (.int .i64 t319)).setCell ⟨gb326, 6, none⟩ (.int .i64 t320)).setCell ⟨gb326, 7, none⟩ (.int .i64 t321)).setCell ⟨gb326, 8, none⟩ (.int .i64 t322)).setCell ⟨gb326, 9, none⟩ (.int .i64 t323)).heap[gb278]? = some (.cells #[.int .i64 t272, .int .i64 t273, .slice Ao34 t274.length co34] 24 (0, 0))) := ⟨GS.bqX BK278.out⟩
        have n8_ : Aside0 ((((((((((((((w72.setCell ⟨gb325, 0, none⟩ (.int .i64 t309)).setCell ⟨gb325, 1, none⟩ (.int .i64 t310)).setCell ⟨gb325, 2, none⟩ (.slice Ao81 t311.length co81)).setCell ⟨gb326, 0, none⟩ (.int .i64 t314)).setCell ⟨gb326, 1, none⟩ (.int .i64 t315)).setCell ⟨gb326, 2, none⟩ (.int .i64 t316)).setCell ⟨gb326, 3, none⟩ (.int .i64 t317)).setCell ⟨gb326, 4, none⟩ (.int .i64 t318)).setCell ⟨gb326, 5, none⟩ (.int .i64 t319)).setCell ⟨gb326, 6, none⟩ (.int .i64 t320)).setCell ⟨gb326, 7, none⟩ (.int .i64 t321)).setCell ⟨gb326, 8, none⟩ (.int .i64 t322)).setCell ⟨gb326, 9, none⟩ (.int .i64 t323)).heap[gb285]? = some (.cells #[.int .i64 t279, .int .i64 t280, .slice Ao41 t281.length co41] 24 (0, 0))) := ⟨GS.bqX BK285.out⟩
        have n9_ : Aside0 ((((((((((((((w72.setCell ⟨gb325, 0, none⟩ (.int .i64 t309)).setCell ⟨gb325, 1, none⟩ (.int .i64 t310)).setCell ⟨gb325, 2, none⟩ (.slice Ao81 t311.length co81)).setCell ⟨gb326, 0, none⟩ (.int .i64 t314)).setCell ⟨gb326, 1, none⟩ (.int .i64 t315)).setCell ⟨gb326, 2, none⟩ (.int .i64 t316)).setCell ⟨gb326, 3, none⟩ (.int .i64 t317)).setCell ⟨gb326, 4, none⟩ (.int .i64 t318)).setCell ⟨gb326, 5, none⟩ (.int .i64 t319)).setCell ⟨gb326, 6, none⟩ (.int .i64 t320)).setCell ⟨gb326, 7, none⟩ (.int .i64 t321)).setCell ⟨gb326, 8, none⟩ (.int .i64 t322)).setCell ⟨gb326, 9, none⟩ (.int .i64 t323)).heap[gb307]? = some (.cells #[.int .i64 t291, .int .i64 t292, v294] 24 (0, 0))) := ⟨GS.bqX BK307.out⟩
        have n10_ : Aside0 ((((((((((((((w72.setCell ⟨gb325, 0, none⟩ (.int .i64 t309)).setCell ⟨gb325, 1, none⟩ (.int .i64 t310)).setCell ⟨gb325, 2, none⟩ (.slice Ao81 t311.length co81)).setCell ⟨gb326, 0, none⟩ (.int .i64 t314)).setCell ⟨gb326, 1, none⟩ (.int .i64 t315)).setCell ⟨gb326, 2, none⟩ (.int .i64 t316)).setCell ⟨gb326, 3, none⟩ (.int .i64 t317)).setCell ⟨gb326, 4, none⟩ (.int .i64 t318)).setCell ⟨gb326, 5, none⟩ (.int .i64 t319)).setCell ⟨gb326, 6, none⟩ (.int .i64 t320)).setCell ⟨gb326, 7, none⟩ (.int .i64 t321)).setCell ⟨gb326, 8, none⟩ (.int .i64 t322)).setCell ⟨gb326, 9, none⟩ (.int .i64 t323)).heap[gb308]? = some (.cells #[.int .i64 t296, .int .i64 t297, .int .i64 t298, .int .i64 t299, .int .i64 t300, .int .i64 t301, .int .i64 t302, .int .i64 t303, .int .i64 t304, .int .i64 t305] 33 (0, 0))) := ⟨GS.bqX BK308.out⟩
        have n11_ : Aside0 ((((((((((((((w72.setCell ⟨gb325, 0, none⟩ (.int .i64 t309)).setCell ⟨gb325, 1, none⟩ (.int .i64 t310)).setCell ⟨gb325, 2, none⟩ (.slice Ao81 t311.length co81)).setCell ⟨gb326, 0, none⟩ (.int .i64 t314)).setCell ⟨gb326, 1, none⟩ (.int .i64 t315)).setCell ⟨gb326, 2, none⟩ (.int .i64 t316)).setCell ⟨gb326, 3, none⟩ (.int .i64 t317)).setCell ⟨gb326, 4, none⟩ (.int .i64 t318)).setCell ⟨gb326, 5, none⟩ (.int .i64 t319)).setCell ⟨gb326, 6, none⟩ (.int .i64 t320)).setCell ⟨gb326, 7, none⟩ (.int .i64 t321)).setCell ⟨gb326, 8, none⟩ (.int .i64 t322)).setCell ⟨gb326, 9, none⟩ (.int .i64 t323)).heap[gb325]? = some (.cells #[.int .i64 t309, .int .i64 t310, .slice Ao81 t311.length co81] 24 (0, 0))) := ⟨GS.bqZ BK325.out⟩
        have n12_ : Aside0 ((((((((((((((w72.setCell ⟨gb325, 0, none⟩ (.int .i64 t309)).setCell ⟨gb325, 1, none⟩ (.int .i64 t310)).setCell ⟨gb325, 2, none⟩ (.slice Ao81 t311.length co81)).setCell ⟨gb326, 0, none⟩ (.int .i64 t314)).setCell ⟨gb326, 1, none⟩ (.int .i64 t315)).setCell ⟨gb326, 2, none⟩ (.int .i64 t316)).setCell ⟨gb326, 3, none⟩ (.int .i64 t317)).setCell ⟨gb326, 4, none⟩ (.int .i64 t318)).setCell ⟨gb326, 5, none⟩ (.int .i64 t319)).setCell ⟨gb326, 6, none⟩ (.int .i64 t320)).setCell ⟨gb326, 7, none⟩ (.int .i64 t321)).setCell ⟨gb326, 8, none⟩ (.int .i64 t322)).setCell ⟨gb326, 9, none⟩ (.int .i64 t323)).heap[gb326]? = some (.cells #[.int .i64 t314, .int .i64 t315, .int .i64 t316, .int .i64 t317, .int .i64 t318, .int .i64 t319, .int .i64 t320, .int .i64 t321, .int .i64 t322, .int .i64 t323] 33 (0, 0))) := ⟨GS.bqZ BK326.out⟩
        have n13_ : Aside0 (Below w.heap.size w (((((((((((((w72.setCell ⟨gb325, 0, none⟩ (.int .i64 t309)).setCell ⟨gb325, 1, none⟩ (.int .i64 t310)).setCell ⟨gb325, 2, none⟩ (.slice Ao81 t311.length co81)).setCell ⟨gb326, 0, none⟩ (.int .i64 t314)).setCell ⟨gb326, 1, none⟩ (.int .i64 t315)).setCell ⟨gb326, 2, none⟩ (.int .i64 t316)).setCell ⟨gb326, 3, none⟩ (.int .i64 t317)).setCell ⟨gb326, 4, none⟩ (.int .i64 t318)).setCell ⟨gb326, 5, none⟩ (.int .i64 t319)).setCell ⟨gb326, 6, none⟩ (.int .i64 t320)).setCell ⟨gb326, 7, none⟩ (.int .i64 t321)).setCell ⟨gb326, 8, none⟩ (.int .i64 t322)).setCell ⟨gb326, 9, none⟩ (.int .i64 t323))) := ⟨GS.lB HB.out⟩
        (try clear HO276)
        (try clear HO283)
        (try clear HO290)
        (try clear HO295)
        (try clear HO313)
        (try clear BK268)
        (try clear BK269)
        (try clear BK278)
        (try clear BK285)
        (try clear BK307)
        (try clear BK308)
        (try clear BK325)
        (try clear BK326)
        (try clear HB)
        generalize (((((((((((((w72.setCell ⟨gb325, 0, none⟩ (.int .i64 t309)).setCell ⟨gb325, 1, none⟩ (.int .i64 t310)).setCell ⟨gb325, 2, none⟩ (.slice Ao81 t311.length co81)).setCell ⟨gb326, 0, none⟩ (.int .i64 t314)).setCell ⟨gb326, 1, none⟩ (.int .i64 t315)).setCell ⟨gb326, 2, none⟩ (.int .i64 t316)).setCell ⟨gb326, 3, none⟩ (.int .i64 t317)).setCell ⟨gb326, 4, none⟩ (.int .i64 t318)).setCell ⟨gb326, 5, none⟩ (.int .i64 t319)).setCell ⟨gb326, 6, none⟩ (.int .i64 t320)).setCell ⟨gb326, 7, none⟩ (.int .i64 t321)).setCell ⟨gb326, 8, none⟩ (.int .i64 t322)).setCell ⟨gb326, 9, none⟩ (.int .i64 t323)) = w89 at n0_ n1_ n2_ n3_ n4_ n5_ n6_ n7_ n8_ n9_ n10_ n11_ n12_ n13_ ⊢
        have HO276 := n0_
        have HO283 := n1_
        have HO290 := n2_
        have HO295 := n3_
        have HO313 := n4_
        have BK268 := n5_
        have BK269 := n6_
        have BK278 := n7_
        have BK285 := n8_
        have BK307 := n9_
        have BK308 := n10_
        have BK325 := n11_
        have BK326 := n12_
        have HB := n13_
        clear n0_ n1_ n2_ n3_ n4_ n5_ n6_ n7_ n8_ n9_ n10_ n11_ n12_ n13_
        have n0_ := AM (Kd.R_drew HO276.out)
        have n1_ := AM (Kd.R_drew HO283.out)
        have n2_ := AM (Kd.R_drew HO290.out)
        have n3_ := AM (Kd.R_drew HO295.out)
        have n4_ := AM (Kd.R_drew HO313.out)
        have n5_ := AM (bqD BK268.out)
        have n6_ := AM (bqD BK269.out)
        have n7_ := AM (bqD BK278.out)
        have n8_ := AM (bqD BK285.out)
        have n9_ := AM (bqD BK307.out)
        have n10_ := AM (bqD BK308.out)
        have n11_ := AM (bqD BK325.out)
        have n12_ := AM (bqD BK326.out)
        have n13_ := AM (lqD HB.out)
        clear HO276
        clear HO283
        clear HO290
        clear HO295
        clear HO313
        clear BK268
        clear BK269
        clear BK278
        clear BK285
        clear BK307
        clear BK308
        clear BK325
        clear BK326
        clear HB
        have HO276 := n0_
        have HO283 := n1_
        have HO290 := n2_
        have HO295 := n3_
        have HO313 := n4_
        have BK268 := n5_
        have BK269 := n6_
        have BK278 := n7_
        have BK285 := n8_
        have BK307 := n9_
        have BK308 := n10_
        have BK325 := n11_
        have BK326 := n12_
        have HB := n13_
        clear n0_ n1_ n2_ n3_ n4_ n5_ n6_ n7_ n8_ n9_ n10_ n11_ n12_ n13_
        refine start_ (n := 32) (S := fun w' => w'.cell? ⟨gb268, 0, none⟩ = some (.int .i64 a0_0) ∧ w'.cell? ⟨gb268, 1, none⟩ = some (.int .i64 a0_1) ∧ w'.cell? ⟨gb268, 2, none⟩ = some (.slice A0_2 l0_2.length c0_2) ∧ w'.cell? ⟨gb278, 0, none⟩ = some (.int .i64 t272) ∧ w'.cell? ⟨gb278, 1, none⟩ = some (.int .i64 t273) ∧ w'.cell? ⟨gb278, 2, none⟩ = some (.slice Ao34 t274.length co34) ∧ w'.cell? ⟨gb285, 0, none⟩ = some (.int .i64 t279) ∧ w'.cell? ⟨gb285, 1, none⟩ = some (.int .i64 t280) ∧ w'.cell? ⟨gb285, 2, none⟩ = some (.slice Ao41 t281.length co41) ∧ w'.cell? ⟨gb307, 0, none⟩ = some (.int .i64 t291) ∧ w'.cell? ⟨gb307, 1, none⟩ = some (.int .i64 t292) ∧ w'.cell? ⟨gb307, 2, none⟩ = some (v294) ∧ w'.cell? ⟨gb325, 0, none⟩ = some (.int .i64 t309) ∧ w'.cell? ⟨gb325, 1, none⟩ = some (.int .i64 t310) ∧ w'.cell? ⟨gb325, 2, none⟩ = some (.slice Ao81 t311.length co81) ∧ w'.cell? ⟨gb308, 0, none⟩ = some (.int .i64 t296) ∧ w'.cell? ⟨gb308, 1, none⟩ = some (.int .i64 t297) ∧ w'.cell? ⟨gb308, 2, none⟩ = some (.int .i64 t298) ∧ w'.cell? ⟨gb308, 3, none⟩ = some (.int .i64 t299) ∧ w'.cell? ⟨gb308, 4, none⟩ = some (.int .i64 t300) ∧ w'.cell? ⟨gb308, 5, none⟩ = some (.int .i64 t301) ∧ w'.cell? ⟨gb308, 6, none⟩ = some (.int .i64 t302) ∧ w'.cell? ⟨gb308, 7, none⟩ = some (.int .i64 t303) ∧ w'.cell? ⟨gb308, 8, none⟩ = some (.int .i64 t304) ∧ w'.cell? ⟨gb308, 9, none⟩ = some (.int .i64 t305) ∧ w'.cell? ⟨gb326, 0, none⟩ = some (.int .i64 t314) ∧ w'.cell? ⟨gb326, 1, none⟩ = some (.int .i64 t315) ∧ w'.cell? ⟨gb326, 2, none⟩ = some (.int .i64 t316) ∧ w'.cell? ⟨gb326, 3, none⟩ = some (.int .i64 t317) ∧ w'.cell? ⟨gb326, 4, none⟩ = some (.int .i64 t318) ∧ w'.cell? ⟨gb326, 5, none⟩ = some (.int .i64 t319) ∧ w'.cell? ⟨gb326, 6, none⟩ = some (.int .i64 t320) ∧ w'.cell? ⟨gb326, 7, none⟩ = some (.int .i64 t321) ∧ w'.cell? ⟨gb326, 8, none⟩ = some (.int .i64 t322) ∧ w'.cell? ⟨gb326, 9, none⟩ = some (.int .i64 t323)) (ds := []) #[false, false, false, false, false, false, false, false, false, false, false, false, false, false, false, false, false, false, false, false, false, false, false, false, false, false, false, false, false, false, false, false] (by kernel_rfl) rfl rfl ⟨(bqC BK268.out 0).trans rfl, (bqC BK268.out 1).trans rfl, (bqC BK268.out 2).trans rfl, (bqC BK278.out 0).trans rfl, (bqC BK278.out 1).trans rfl, (bqC BK278.out 2).trans rfl, (bqC BK285.out 0).trans rfl, (bqC BK285.out 1).trans rfl, (bqC BK285.out 2).trans rfl, (bqC BK307.out 0).trans rfl, (bqC BK307.out 1).trans rfl, (bqC BK307.out 2).trans rfl, (bqC BK325.out 0).trans rfl, (bqC BK325.out 1).trans rfl, (bqC BK325.out 2).trans rfl, (bqC BK308.out 0).trans rfl, (bqC BK308.out 1).trans rfl, (bqC BK308.out 2).trans rfl, (bqC BK308.out 3).trans rfl, (bqC BK308.out 4).trans rfl, (bqC BK308.out 5).trans rfl, (bqC BK308.out 6).trans rfl, (bqC BK308.out 7).trans rfl, (bqC BK308.out 8).trans rfl, (bqC BK308.out 9).trans rfl, (bqC BK326.out 0).trans rfl, (bqC BK326.out 1).trans rfl, (bqC BK326.out 2).trans rfl, (bqC BK326.out 3).trans rfl, (bqC BK326.out 4).trans rfl, (bqC BK326.out 5).trans rfl, (bqC BK326.out 6).trans rfl, (bqC BK326.out 7).trans rfl, (bqC BK326.out 8).trans rfl, (bqC BK326.out 9).trans rfl⟩ (fun hHeld => ?_); refine with_tabW spilelaw42_SenderSends.tab9 spilelaw42_SenderSends.bits9 (fun HT_ HW_ => ?_)
        generalize w89.drew = w90 at HO276 HO283 HO290 HO295 HO313 BK268 BK269 BK278 BK285 BK307 BK308 BK325 BK326 HB hHeld ⊢
        refine take_ (i := 0) (N := some 49) (v := ?_) (a' := ?_) #[true, false, false, false, false, false, false, false, false, false, false, false, false, false, false, false, false, false, false, false, false, false, false, false, false, false, false, false, false, false, false, false] rfl rfl (take_ofW HT_.out HW_.out (by kernel_rfl)) (fun _ _ _ h => h) (Or.inl ⟨by rfl, ?_⟩) hHeld ?_ ?_
        rotate_left
        ·rintro w' ⟨s0, s1, s2, s3, s4, s5, s6, s7, s8, s9, s10, s11, s12, s13, s14, s15, s16, s17, s18, s19, s20, s21, s22, s23, s24, s25, s26, s27, s28, s29, s30, s31, s32, s33, s34⟩
         go_simp
         with_reducible rfl
        rotate_left
        ·simp only [Act.put, List.setIfInBounds_toArray, List.set_cons_zero, List.set_cons_succ, i64_w, i32_w]
         rfl
        refine take_ (i := 3) (N := some 52) (v := ?_) (a' := ?_) #[true, false, false, true, false, false, false, false, false, false, false, false, false, false, false, false, false, false, false, false, false, false, false, false, false, false, false, false, false, false, false, false] rfl rfl (take_ofW HT_.out HW_.out (by kernel_rfl)) (fun _ _ _ h => h) (Or.inl ⟨by rfl, ?_⟩) hHeld ?_ ?_
        rotate_left
        ·rintro w' ⟨s0, s1, s2, s3, s4, s5, s6, s7, s8, s9, s10, s11, s12, s13, s14, s15, s16, s17, s18, s19, s20, s21, s22, s23, s24, s25, s26, s27, s28, s29, s30, s31, s32, s33, s34⟩
         go_simp
         with_reducible rfl
        rotate_left
        ·simp only [Act.put, List.setIfInBounds_toArray, List.set_cons_zero, List.set_cons_succ, i64_w, i32_w]
         rfl
        refine one_ (i := 1) (N := some 50) #[true, true, false, true, false, false, false, false, false, false, false, false, false, false, false, false, false, false, false, false, false, false, false, false, false, false, false, false, false, false, false, false] rfl rfl (one_of HT_.out (by kernel_rfl)) (by decide) (fun K hK => ?_)
        refine goes_ Try.func15 (by kernel_rfl) rfl #[.agg #[.int .i64 a0_0, .int .i64 a0_1, .slice A0_2 l0_2.length c0_2]] (by rfl) rfl rfl (by (try simp only [List.map_toArray, List.map_cons, List.map_nil]); first | done | rfl | (simp only [List.length_drop, List.length_take]; rfl)) ?_
        with_reducible refine (spileref42_Copy.calls a0_0 a0_1 _ _ l0_2 t327 t328 t329 _ ?side1 ?side2 A13.out).mono ?_
        (case side1 => exact GS.rC (Kd.C_below HR0_2.out HB.out))
        (case side2 => exact HC0_2.out)
        rintro e w91 ⟨v330, rfl, ho0, hb⟩
        refine ⟨_, rfl, ?_⟩
        have n0_ := AM (Kd.R_elder' (GS.rR HO276.out) (Kd.R_base ho0) hb)
        have n1_ := AM (Kd.R_elder' (GS.rR HO283.out) (Kd.R_base ho0) hb)
        have n2_ := AM (Kd.R_elder' (GS.rR HO290.out) (Kd.R_base ho0) hb)
        have n3_ := AM (Kd.R_elder' (GS.rR HO295.out) (Kd.R_base ho0) hb)
        have n4_ := AM (Kd.R_elder' (GS.rR HO313.out) (Kd.R_base ho0) hb)
        have n5_ := AM (Kd.R_lower (Kd.R_newB (Kd.R_newB (Kd.R_new' (Kd.R_new' (Kd.R_new' (Kd.R_new' (Kd.R_new' ho0 (Kd.R_lt (GS.rR HO276.out))) (Kd.R_lt (GS.rR HO283.out))) (Kd.R_lt (GS.rR HO290.out))) (Kd.R_lt (GS.rR HO295.out))) (Kd.R_lt (GS.rR HO313.out))) (GS.bqX BK308.out)) (GS.bqX BK326.out)) (lqZ (GS.lB HB.out)))
        have n6_ := AM (bqB (GS.bqX BK268.out) hb)
        have n7_ := AM (bqB (GS.bqX BK269.out) hb)
        have n8_ := AM (bqB (GS.bqX BK278.out) hb)
        have n9_ := AM (bqB (GS.bqX BK285.out) hb)
        have n10_ := AM (bqB (GS.bqX BK307.out) hb)
        have n11_ := AM (bqB (GS.bqX BK308.out) hb)
        have n12_ := AM (bqB (GS.bqX BK325.out) hb)
        have n13_ := AM (bqB (GS.bqX BK326.out) hb)
        have n14_ := AM (lqT (GS.lB HB.out) hb)
        clear HO276
        clear HO283
        clear HO290
        clear HO295
        clear HO313
        clear BK268
        clear BK269
        clear BK278
        clear BK285
        clear BK307
        clear BK308
        clear BK325
        clear BK326
        clear HB
        have HO276 := n0_
        have HO283 := n1_
        have HO290 := n2_
        have HO295 := n3_
        have HO313 := n4_
        have HO331 := n5_
        have BK268 := n6_
        have BK269 := n7_
        have BK278 := n8_
        have BK285 := n9_
        have BK307 := n10_
        have BK308 := n11_
        have BK325 := n12_
        have BK326 := n13_
        have HB := n14_
        clear n0_ n1_ n2_ n3_ n4_ n5_ n6_ n7_ n8_ n9_ n10_ n11_ n12_ n13_ n14_
        (try clear hb)
        (try clear hb2)
        (try clear hk)
        (try clear hi)
        (try clear ho0)
        obtain ⟨Ao92, co92, eo92⟩ := Kd.R_slice HO331.out
        (first | subst eo92 | (injection eo92 with f1_ f2_ f3_; have f4_ := f1_.symm; have f5_ := f3_.symm; clear f1_ f2_ f3_; subst f4_; subst f5_))
        refine hK.out _ _ ⟨(bqC BK268.out 0).trans rfl, (bqC BK268.out 1).trans rfl, (bqC BK268.out 2).trans rfl, (bqC BK278.out 0).trans rfl, (bqC BK278.out 1).trans rfl, (bqC BK278.out 2).trans rfl, (bqC BK285.out 0).trans rfl, (bqC BK285.out 1).trans rfl, (bqC BK285.out 2).trans rfl, (bqC BK307.out 0).trans rfl, (bqC BK307.out 1).trans rfl, (bqC BK307.out 2).trans rfl, (bqC BK325.out 0).trans rfl, (bqC BK325.out 1).trans rfl, (bqC BK325.out 2).trans rfl, (bqC BK308.out 0).trans rfl, (bqC BK308.out 1).trans rfl, (bqC BK308.out 2).trans rfl, (bqC BK308.out 3).trans rfl, (bqC BK308.out 4).trans rfl, (bqC BK308.out 5).trans rfl, (bqC BK308.out 6).trans rfl, (bqC BK308.out 7).trans rfl, (bqC BK308.out 8).trans rfl, (bqC BK308.out 9).trans rfl, (bqC BK326.out 0).trans rfl, (bqC BK326.out 1).trans rfl, (bqC BK326.out 2).trans rfl, (bqC BK326.out 3).trans rfl, (bqC BK326.out 4).trans rfl, (bqC BK326.out 5).trans rfl, (bqC BK326.out 6).trans rfl, (bqC BK326.out 7).trans rfl, (bqC BK326.out 8).trans rfl, (bqC BK326.out 9).trans rfl⟩ (fun hHeld => ?_)
        clear hK K
        refine norm_ (a' := ?_) ?_ ?_
        rotate_left
        ·show Act.put _ (some 50) _ = _
         simp only [Act.put, List.setIfInBounds_toArray, List.set_cons_zero, List.set_cons_succ, i64_w, i32_w]
         rfl
        refine one_ (i := 2) (N := some 51) #[true, true, true, true, false, false, false, false, false, false, false, false, false, false, false, false, false, false, false, false, false, false, false, false, false, false, false, false, false, false, false, false] rfl rfl (one_of HT_.out (by kernel_rfl)) (by decide) (fun K hK => ?_)
        refine goes_ Try.func17 (by kernel_rfl) rfl #[.agg #[.int .i64 t327, .int .i64 t328, .slice Ao92 t329.length co92]] (by rfl) rfl rfl (by (try simp only [List.map_toArray, List.map_cons, List.map_nil]); first | done | rfl | (simp only [List.length_drop, List.length_take]; rfl)) ?_
        with_reducible refine (sender_Check.calls k t327 t328 _ _ t329 t332 _ ?side1 ?side2 A14.out).mono ?_
        (case side1 => repeat (first | exact (Kd.R_reads' HO331.out).2.2 | (with_reducible refine Kd.C_alloc ?_ _) | (with_reducible refine Kd.C_drewN ?_ _) | (with_reducible refine Kd.C_drew ?_)))
        (case side2 => exact (Kd.R_reads' HO331.out).2.1)
        rintro e w93 ⟨rfl, hb⟩
        refine ⟨_, rfl, ?_⟩
        have n0_ := AM (Kd.R_below (GS.rR HO276.out) hb)
        have n1_ := AM (Kd.R_below (GS.rR HO283.out) hb)
        have n2_ := AM (Kd.R_below (GS.rR HO290.out) hb)
        have n3_ := AM (Kd.R_below (GS.rR HO295.out) hb)
        have n4_ := AM (Kd.R_below (GS.rR HO313.out) hb)
        have n5_ := AM (Kd.R_below (GS.rR HO331.out) hb)
        have n6_ := AM (bqB (GS.bqX BK268.out) hb)
        have n7_ := AM (bqB (GS.bqX BK269.out) hb)
        have n8_ := AM (bqB (GS.bqX BK278.out) hb)
        have n9_ := AM (bqB (GS.bqX BK285.out) hb)
        have n10_ := AM (bqB (GS.bqX BK307.out) hb)
        have n11_ := AM (bqB (GS.bqX BK308.out) hb)
        have n12_ := AM (bqB (GS.bqX BK325.out) hb)
        have n13_ := AM (bqB (GS.bqX BK326.out) hb)
        have n14_ := AM (lqT (GS.lB HB.out) hb)
        clear HO276
        clear HO283
        clear HO290
        clear HO295
        clear HO313
        clear HO331
        clear BK268
        clear BK269
        clear BK278
        clear BK285
        clear BK307
        clear BK308
        clear BK325
        clear BK326
        clear HB
        have HO276 := n0_
        have HO283 := n1_
        have HO290 := n2_
        have HO295 := n3_
        have HO313 := n4_
        have HO331 := n5_
        have BK268 := n6_
        have BK269 := n7_
        have BK278 := n8_
        have BK285 := n9_
        have BK307 := n10_
        have BK308 := n11_
        have BK325 := n12_
        have BK326 := n13_
        have HB := n14_
        clear n0_ n1_ n2_ n3_ n4_ n5_ n6_ n7_ n8_ n9_ n10_ n11_ n12_ n13_ n14_
        (try clear hb)
        (try clear hb2)
        (try clear hk)
        (try clear hi)
        refine hK.out _ _ ⟨(bqC BK268.out 0).trans rfl, (bqC BK268.out 1).trans rfl, (bqC BK268.out 2).trans rfl, (bqC BK278.out 0).trans rfl, (bqC BK278.out 1).trans rfl, (bqC BK278.out 2).trans rfl, (bqC BK285.out 0).trans rfl, (bqC BK285.out 1).trans rfl, (bqC BK285.out 2).trans rfl, (bqC BK307.out 0).trans rfl, (bqC BK307.out 1).trans rfl, (bqC BK307.out 2).trans rfl, (bqC BK325.out 0).trans rfl, (bqC BK325.out 1).trans rfl, (bqC BK325.out 2).trans rfl, (bqC BK308.out 0).trans rfl, (bqC BK308.out 1).trans rfl, (bqC BK308.out 2).trans rfl, (bqC BK308.out 3).trans rfl, (bqC BK308.out 4).trans rfl, (bqC BK308.out 5).trans rfl, (bqC BK308.out 6).trans rfl, (bqC BK308.out 7).trans rfl, (bqC BK308.out 8).trans rfl, (bqC BK308.out 9).trans rfl, (bqC BK326.out 0).trans rfl, (bqC BK326.out 1).trans rfl, (bqC BK326.out 2).trans rfl, (bqC BK326.out 3).trans rfl, (bqC BK326.out 4).trans rfl, (bqC BK326.out 5).trans rfl, (bqC BK326.out 6).trans rfl, (bqC BK326.out 7).trans rfl, (bqC BK326.out 8).trans rfl, (bqC BK326.out 9).trans rfl⟩ (fun hHeld => ?_)
        clear hK K
        refine norm_ (a' := ?_) ?_ ?_
        rotate_left
        ·show Act.put _ (some 51) _ = _
         simp only [Act.put, List.setIfInBounds_toArray, List.set_cons_zero, List.set_cons_succ, i64_w, i32_w]
         rfl
        refine one_ (i := 4) (N := some 53) #[true, true, true, true, true, false, false, false, false, false, false, false, false, false, false, false, false, false, false, false, false, false, false, false, false, false, false, false, false, false, false, false] rfl rfl (one_of HT_.out (by kernel_rfl)) (by decide) (fun K hK => ?_)
        refine goes_ Try.func18 (by kernel_rfl) rfl #[.agg #[.int .i64 a0_0, .int .i64 a0_1, .slice A0_2 l0_2.length c0_2]] (by rfl) rfl rfl (by (try simp only [List.map_toArray, List.map_cons, List.map_nil]); first | done | rfl | (simp only [List.length_drop, List.length_take]; rfl)) ?_
        with_reducible refine (spileref42_Check.calls k a0_0 a0_1 _ _ l0_2 t333 _ ?side1 ?side2 A15.out).mono ?_
        (case side1 => exact GS.rC (Kd.C_below HR0_2.out HB.out))
        (case side2 => exact HC0_2.out)
        rintro e w94 ⟨rfl, hb⟩
        refine ⟨_, rfl, ?_⟩
        have n0_ := AM (Kd.R_below (GS.rR HO276.out) hb)
        have n1_ := AM (Kd.R_below (GS.rR HO283.out) hb)
        have n2_ := AM (Kd.R_below (GS.rR HO290.out) hb)
        have n3_ := AM (Kd.R_below (GS.rR HO295.out) hb)
        have n4_ := AM (Kd.R_below (GS.rR HO313.out) hb)
        have n5_ := AM (Kd.R_below (GS.rR HO331.out) hb)
        have n6_ := AM (bqB (GS.bqX BK268.out) hb)
        have n7_ := AM (bqB (GS.bqX BK269.out) hb)
        have n8_ := AM (bqB (GS.bqX BK278.out) hb)
        have n9_ := AM (bqB (GS.bqX BK285.out) hb)
        have n10_ := AM (bqB (GS.bqX BK307.out) hb)
        have n11_ := AM (bqB (GS.bqX BK308.out) hb)
        have n12_ := AM (bqB (GS.bqX BK325.out) hb)
        have n13_ := AM (bqB (GS.bqX BK326.out) hb)
        have n14_ := AM (lqT (GS.lB HB.out) hb)
        clear HO276
        clear HO283
        clear HO290
        clear HO295
        clear HO313
        clear HO331
        clear BK268
        clear BK269
        clear BK278
        clear BK285
        clear BK307
        clear BK308
        clear BK325
        clear BK326
        clear HB
        have HO276 := n0_
        have HO283 := n1_
        have HO290 := n2_
        have HO295 := n3_
        have HO313 := n4_
        have HO331 := n5_
        have BK268 := n6_
        have BK269 := n7_
        have BK278 := n8_
        have BK285 := n9_
        have BK307 := n10_
        have BK308 := n11_
        have BK325 := n12_
        have BK326 := n13_
        have HB := n14_
        clear n0_ n1_ n2_ n3_ n4_ n5_ n6_ n7_ n8_ n9_ n10_ n11_ n12_ n13_ n14_
        (try clear hb)
        (try clear hb2)
        (try clear hk)
        (try clear hi)
        refine hK.out _ _ ⟨(bqC BK268.out 0).trans rfl, (bqC BK268.out 1).trans rfl, (bqC BK268.out 2).trans rfl, (bqC BK278.out 0).trans rfl, (bqC BK278.out 1).trans rfl, (bqC BK278.out 2).trans rfl, (bqC BK285.out 0).trans rfl, (bqC BK285.out 1).trans rfl, (bqC BK285.out 2).trans rfl, (bqC BK307.out 0).trans rfl, (bqC BK307.out 1).trans rfl, (bqC BK307.out 2).trans rfl, (bqC BK325.out 0).trans rfl, (bqC BK325.out 1).trans rfl, (bqC BK325.out 2).trans rfl, (bqC BK308.out 0).trans rfl, (bqC BK308.out 1).trans rfl, (bqC BK308.out 2).trans rfl, (bqC BK308.out 3).trans rfl, (bqC BK308.out 4).trans rfl, (bqC BK308.out 5).trans rfl, (bqC BK308.out 6).trans rfl, (bqC BK308.out 7).trans rfl, (bqC BK308.out 8).trans rfl, (bqC BK308.out 9).trans rfl, (bqC BK326.out 0).trans rfl, (bqC BK326.out 1).trans rfl, (bqC BK326.out 2).trans rfl, (bqC BK326.out 3).trans rfl, (bqC BK326.out 4).trans rfl, (bqC BK326.out 5).trans rfl, (bqC BK326.out 6).trans rfl, (bqC BK326.out 7).trans rfl, (bqC BK326.out 8).trans rfl, (bqC BK326.out 9).trans rfl⟩ (fun hHeld => ?_)
        clear hK K
        refine norm_ (a' := ?_) ?_ ?_
        rotate_left
        ·show Act.put _ (some 53) _ = _
         simp only [Act.put, List.setIfInBounds_toArray, List.set_cons_zero, List.set_cons_succ, i64_w, i32_w]
         rfl
        refine pure_ (i := 5) (N := some 54) (v := ?_) (a' := ?_) #[true, true, true, true, true, true, false, false, false, false, false, false, false, false, false, false, false, false, false, false, false, false, false, false, false, false, false, false, false, false, false, false] rfl rfl (any_of HT_.out (by kernel_rfl)) (fun _ _ _ h => h) (Or.inl ⟨by rfl, ?_⟩) ?_ ?_
        rotate_left
        ·intro w'
         go_simp
         with_reducible rfl
        rotate_left
        ·simp only [Act.put, List.setIfInBounds_toArray, List.set_cons_zero, List.set_cons_succ, i64_w, i32_w]
         rfl
        refine pure_ (i := 6) (N := some 55) (v := ?_) (a' := ?_) #[true, true, true, true, true, true, true, false, false, false, false, false, false, false, false, false, false, false, false, false, false, false, false, false, false, false, false, false, false, false, false, false] rfl rfl (any_of HT_.out (by kernel_rfl)) (fun _ _ _ h => h) (Or.inl ⟨by rfl, ?_⟩) ?_ ?_
        rotate_left
        ·intro w'
         go_simp
         with_reducible rfl
        rotate_left
        ·simp only [Act.put, List.setIfInBounds_toArray, List.set_cons_zero, List.set_cons_succ, i64_w, i32_w]
         rfl
        refine take_ (i := 7) (N := some 56) (v := ?_) (a' := ?_) #[true, true, true, true, true, true, true, true, false, false, false, false, false, false, false, false, false, false, false, false, false, false, false, false, false, false, false, false, false, false, false, false] rfl rfl (take_ofW HT_.out HW_.out (by kernel_rfl)) (fun _ _ _ h => h) (Or.inl ⟨by rfl, ?_⟩) hHeld ?_ ?_
        rotate_left
        ·rintro w' ⟨s0, s1, s2, s3, s4, s5, s6, s7, s8, s9, s10, s11, s12, s13, s14, s15, s16, s17, s18, s19, s20, s21, s22, s23, s24, s25, s26, s27, s28, s29, s30, s31, s32, s33, s34⟩
         go_simp
         with_reducible rfl
        rotate_left
        ·simp only [Act.put, List.setIfInBounds_toArray, List.set_cons_zero, List.set_cons_succ, i64_w, i32_w]
         rfl
        refine take_ (i := 8) (N := some 57) (v := ?_) (a' := ?_) #[true, true, true, true, true, true, true, true, true, false, false, false, false, false, false, false, false, false, false, false, false, false, false, false, false, false, false, false, false, false, false, false] rfl rfl (take_ofW HT_.out HW_.out (by kernel_rfl)) (fun _ _ _ h => h) (Or.inl ⟨by rfl, ?_⟩) hHeld ?_ ?_
        rotate_left
        ·rintro w' ⟨s0, s1, s2, s3, s4, s5, s6, s7, s8, s9, s10, s11, s12, s13, s14, s15, s16, s17, s18, s19, s20, s21, s22, s23, s24, s25, s26, s27, s28, s29, s30, s31, s32, s33, s34⟩
         go_simp
         with_reducible rfl
        rotate_left
        ·simp only [Act.put, List.setIfInBounds_toArray, List.set_cons_zero, List.set_cons_succ, i64_w, i32_w]
         rfl
        refine one_ (i := 9) (N := some 58) #[true, true, true, true, true, true, true, true, true, true, false, false, false, false, false, false, false, false, false, false, false, false, false, false, false, false, false, false, false, false, false, false] rfl rfl (one_of HT_.out (by kernel_rfl)) (by decide) (fun K hK => ?_)
        refine goes_ Try.func19 (by kernel_rfl) rfl #[.agg #[.int .i64 t272, .int .i64 t273, .slice Ao34 t274.length co34], .agg #[.int .i64 t279, .int .i64 t280, .slice Ao41 t281.length co41]] (by rfl) rfl rfl (by (try simp only [List.map_toArray, List.map_cons, List.map_nil]); first | done | rfl | (simp only [List.length_drop, List.length_take]; rfl)) ?_
        with_reducible refine (spileref42_Same.calls k t272 t273 _ _ t274 t279 t280 _ _ t281 true _ ?side1 ?side2 ?side3 ?side4 A17.out).mono ?_
        (case side1 => repeat (first | exact (Kd.R_reads' HO276.out).2.2 | (with_reducible refine Kd.C_alloc ?_ _) | (with_reducible refine Kd.C_drewN ?_ _) | (with_reducible refine Kd.C_drew ?_)))
        (case side2 => exact (Kd.R_reads' HO276.out).2.1)
        (case side3 => repeat (first | exact (Kd.R_reads' HO283.out).2.2 | (with_reducible refine Kd.C_alloc ?_ _) | (with_reducible refine Kd.C_drewN ?_ _) | (with_reducible refine Kd.C_drew ?_)))
        (case side4 => exact (Kd.R_reads' HO283.out).2.1)
        rintro e w95 ⟨rfl, hb⟩
        refine ⟨_, rfl, ?_⟩
        have n0_ := AM (Kd.R_below (GS.rR HO276.out) hb)
        have n1_ := AM (Kd.R_below (GS.rR HO283.out) hb)
        have n2_ := AM (Kd.R_below (GS.rR HO290.out) hb)
        have n3_ := AM (Kd.R_below (GS.rR HO295.out) hb)
        have n4_ := AM (Kd.R_below (GS.rR HO313.out) hb)
        have n5_ := AM (Kd.R_below (GS.rR HO331.out) hb)
        have n6_ := AM (bqB (GS.bqX BK268.out) hb)
        have n7_ := AM (bqB (GS.bqX BK269.out) hb)
        have n8_ := AM (bqB (GS.bqX BK278.out) hb)
        have n9_ := AM (bqB (GS.bqX BK285.out) hb)
        have n10_ := AM (bqB (GS.bqX BK307.out) hb)
        have n11_ := AM (bqB (GS.bqX BK308.out) hb)
        have n12_ := AM (bqB (GS.bqX BK325.out) hb)
        have n13_ := AM (bqB (GS.bqX BK326.out) hb)
        have n14_ := AM (lqT (GS.lB HB.out) hb)
        clear HO276
        clear HO283
        clear HO290
        clear HO295
        clear HO313
        clear HO331
        clear BK268
        clear BK269
        clear BK278
        clear BK285
        clear BK307
        clear BK308
        clear BK325
        clear BK326
        clear HB
        have HO276 := n0_
        have HO283 := n1_
        have HO290 := n2_
        have HO295 := n3_
        have HO313 := n4_
        have HO331 := n5_
        have BK268 := n6_
        have BK269 := n7_
        have BK278 := n8_
        have BK285 := n9_
        have BK307 := n10_
        have BK308 := n11_
        have BK325 := n12_
        have BK326 := n13_
        have HB := n14_
        clear n0_ n1_ n2_ n3_ n4_ n5_ n6_ n7_ n8_ n9_ n10_ n11_ n12_ n13_ n14_
        (try clear hb)
        (try clear hb2)
        (try clear hk)
        (try clear hi)
        obtain ⟨Ao96, co96, eo96⟩ := Kd.R_slice HO295.out
        (first | subst eo96 | (injection eo96 with f1_ f2_ f3_; have f4_ := f1_.symm; have f5_ := f3_.symm; clear f1_ f2_ f3_; subst f4_; subst f5_))
        refine hK.out _ _ ⟨(bqC BK268.out 0).trans rfl, (bqC BK268.out 1).trans rfl, (bqC BK268.out 2).trans rfl, (bqC BK278.out 0).trans rfl, (bqC BK278.out 1).trans rfl, (bqC BK278.out 2).trans rfl, (bqC BK285.out 0).trans rfl, (bqC BK285.out 1).trans rfl, (bqC BK285.out 2).trans rfl, (bqC BK307.out 0).trans rfl, (bqC BK307.out 1).trans rfl, (bqC BK307.out 2).trans rfl, (bqC BK325.out 0).trans rfl, (bqC BK325.out 1).trans rfl, (bqC BK325.out 2).trans rfl, (bqC BK308.out 0).trans rfl, (bqC BK308.out 1).trans rfl, (bqC BK308.out 2).trans rfl, (bqC BK308.out 3).trans rfl, (bqC BK308.out 4).trans rfl, (bqC BK308.out 5).trans rfl, (bqC BK308.out 6).trans rfl, (bqC BK308.out 7).trans rfl, (bqC BK308.out 8).trans rfl, (bqC BK308.out 9).trans rfl, (bqC BK326.out 0).trans rfl, (bqC BK326.out 1).trans rfl, (bqC BK326.out 2).trans rfl, (bqC BK326.out 3).trans rfl, (bqC BK326.out 4).trans rfl, (bqC BK326.out 5).trans rfl, (bqC BK326.out 6).trans rfl, (bqC BK326.out 7).trans rfl, (bqC BK326.out 8).trans rfl, (bqC BK326.out 9).trans rfl⟩ (fun hHeld => ?_)
        clear hK K
        refine norm_ (a' := ?_) ?_ ?_
        rotate_left
        ·show Act.put _ (some 58) _ = _
         simp only [Act.put, List.setIfInBounds_toArray, List.set_cons_zero, List.set_cons_succ, i64_w, i32_w]
         rfl
        refine pure_ (i := 10) (N := some 59) (v := ?_) (a' := ?_) #[true, true, true, true, true, true, true, true, true, true, true, false, false, false, false, false, false, false, false, false, false, false, false, false, false, false, false, false, false, false, false, false] rfl rfl (any_of HT_.out (by kernel_rfl)) (fun _ _ _ h => h) (Or.inl ⟨by rfl, ?_⟩) ?_ ?_
        rotate_left
        ·intro w'
         go_simp
         with_reducible rfl
        rotate_left
        ·simp only [Act.put, List.setIfInBounds_toArray, List.set_cons_zero, List.set_cons_succ, i64_w, i32_w]
         rfl
        refine pure_ (i := 11) (N := some 60) (v := ?_) (a' := ?_) #[true, true, true, true, true, true, true, true, true, true, true, true, false, false, false, false, false, false, false, false, false, false, false, false, false, false, false, false, false, false, false, false] rfl rfl (any_of HT_.out (by kernel_rfl)) (fun _ _ _ h => h) (Or.inl ⟨by rfl, ?_⟩) ?_ ?_
        rotate_left
        ·intro w'
         go_simp
         with_reducible rfl
        rotate_left
        ·simp only [Act.put, List.setIfInBounds_toArray, List.set_cons_zero, List.set_cons_succ, i64_w, i32_w]
         rfl
        refine pure_ (i := 12) (N := some 61) (v := ?_) (a' := ?_) #[true, true, true, true, true, true, true, true, true, true, true, true, true, false, false, false, false, false, false, false, false, false, false, false, false, false, false, false, false, false, false, false] rfl rfl (any_of HT_.out (by kernel_rfl)) (fun _ _ _ h => h) (Or.inl ⟨by rfl, ?_⟩) ?_ ?_
        rotate_left
        ·intro w'
         go_simp
         with_reducible rfl
        rotate_left
        ·simp only [Act.put, List.setIfInBounds_toArray, List.set_cons_zero, List.set_cons_succ, i64_w, i32_w]
         rfl
        refine pure_ (i := 13) (N := some 62) (v := ?_) (a' := ?_) #[true, true, true, true, true, true, true, true, true, true, true, true, true, true, false, false, false, false, false, false, false, false, false, false, false, false, false, false, false, false, false, false] rfl rfl (any_of HT_.out (by kernel_rfl)) (fun _ _ _ h => h) (Or.inl ⟨by rfl, ?_⟩) ?_ ?_
        rotate_left
        ·intro w'
         go_simp
         with_reducible rfl
        rotate_left
        ·simp only [Act.put, List.setIfInBounds_toArray, List.set_cons_zero, List.set_cons_succ, i64_w, i32_w]
         rfl
        refine pure_ (i := 14) (N := some 63) (v := ?_) (a' := ?_) #[true, true, true, true, true, true, true, true, true, true, true, true, true, true, true, false, false, false, false, false, false, false, false, false, false, false, false, false, false, false, false, false] rfl rfl (any_of HT_.out (by kernel_rfl)) (fun _ _ _ h => h) (Or.inl ⟨by rfl, ?_⟩) ?_ ?_
        rotate_left
        ·intro w'
         go_simp
         with_reducible rfl
        rotate_left
        ·simp only [Act.put, List.setIfInBounds_toArray, List.set_cons_zero, List.set_cons_succ, i64_w, i32_w]
         rfl
        refine pure_ (i := 15) (N := some 64) (v := ?_) (a' := ?_) #[true, true, true, true, true, true, true, true, true, true, true, true, true, true, true, true, false, false, false, false, false, false, false, false, false, false, false, false, false, false, false, false] rfl rfl (any_of HT_.out (by kernel_rfl)) (fun _ _ _ h => h) (Or.inl ⟨by rfl, ?_⟩) ?_ ?_
        rotate_left
        ·intro w'
         go_simp
         with_reducible rfl
        rotate_left
        ·simp only [Act.put, List.setIfInBounds_toArray, List.set_cons_zero, List.set_cons_succ, i64_w, i32_w]
         rfl
        refine pure_ (i := 16) (N := some 65) (v := ?_) (a' := ?_) #[true, true, true, true, true, true, true, true, true, true, true, true, true, true, true, true, true, false, false, false, false, false, false, false, false, false, false, false, false, false, false, false] rfl rfl (any_of HT_.out (by kernel_rfl)) (fun _ _ _ h => h) (Or.inl ⟨by rfl, ?_⟩) ?_ ?_
        rotate_left
        ·intro w'
         go_simp
         with_reducible rfl
        rotate_left
        ·simp only [Act.put, List.setIfInBounds_toArray, List.set_cons_zero, List.set_cons_succ, i64_w, i32_w]
         rfl
        refine take_ (i := 17) (N := some 66) (v := ?_) (a' := ?_) #[true, true, true, true, true, true, true, true, true, true, true, true, true, true, true, true, true, true, false, false, false, false, false, false, false, false, false, false, false, false, false, false] rfl rfl (take_ofW HT_.out HW_.out (by kernel_rfl)) (fun _ _ _ h => h) (Or.inl ⟨by rfl, ?_⟩) hHeld ?_ ?_
        rotate_left
        ·rintro w' ⟨s0, s1, s2, s3, s4, s5, s6, s7, s8, s9, s10, s11, s12, s13, s14, s15, s16, s17, s18, s19, s20, s21, s22, s23, s24, s25, s26, s27, s28, s29, s30, s31, s32, s33, s34⟩
         go_simp
         with_reducible rfl
        rotate_left
        ·simp only [Act.put, List.setIfInBounds_toArray, List.set_cons_zero, List.set_cons_succ, i64_w, i32_w]
         rfl
        refine take_ (i := 18) (N := some 67) (v := ?_) (a' := ?_) #[true, true, true, true, true, true, true, true, true, true, true, true, true, true, true, true, true, true, true, false, false, false, false, false, false, false, false, false, false, false, false, false] rfl rfl (take_ofW HT_.out HW_.out (by kernel_rfl)) (fun _ _ _ h => h) (Or.inl ⟨by rfl, ?_⟩) hHeld ?_ ?_
        rotate_left
        ·rintro w' ⟨s0, s1, s2, s3, s4, s5, s6, s7, s8, s9, s10, s11, s12, s13, s14, s15, s16, s17, s18, s19, s20, s21, s22, s23, s24, s25, s26, s27, s28, s29, s30, s31, s32, s33, s34⟩
         go_simp
         with_reducible rfl
        rotate_left
        ·simp only [Act.put, List.setIfInBounds_toArray, List.set_cons_zero, List.set_cons_succ, i64_w, i32_w]
         rfl
        refine one_ (i := 19) (N := some 68) #[true, true, true, true, true, true, true, true, true, true, true, true, true, true, true, true, true, true, true, true, false, false, false, false, false, false, false, false, false, false, false, false] rfl rfl (one_of HT_.out (by kernel_rfl)) (by decide) (fun K hK => ?_)
        refine goes_ Try.func19 (by kernel_rfl) rfl #[.agg #[.int .i64 t291, .int .i64 t292, .slice Ao96 t293.length co96], .agg #[.int .i64 t309, .int .i64 t310, .slice Ao81 t311.length co81]] (by rfl) rfl rfl (by (try simp only [List.map_toArray, List.map_cons, List.map_nil]); first | done | rfl | (simp only [List.length_drop, List.length_take]; rfl)) ?_
        with_reducible refine (spileref42_Same.calls k t291 t292 _ _ t293 t309 t310 _ _ t311 true _ ?side1 ?side2 ?side3 ?side4 A20.out).mono ?_
        (case side1 => repeat (first | exact (Kd.R_reads' HO295.out).2.2 | (with_reducible refine Kd.C_alloc ?_ _) | (with_reducible refine Kd.C_drewN ?_ _) | (with_reducible refine Kd.C_drew ?_)))
        (case side2 => exact (Kd.R_reads' HO295.out).2.1)
        (case side3 => repeat (first | exact (Kd.R_reads' HO313.out).2.2 | (with_reducible refine Kd.C_alloc ?_ _) | (with_reducible refine Kd.C_drewN ?_ _) | (with_reducible refine Kd.C_drew ?_)))
        (case side4 => exact (Kd.R_reads' HO313.out).2.1)
        rintro e w97 ⟨rfl, hb⟩
        refine ⟨_, rfl, ?_⟩
        have n0_ := AM (Kd.R_below (GS.rR HO276.out) hb)
        have n1_ := AM (Kd.R_below (GS.rR HO283.out) hb)
        have n2_ := AM (Kd.R_below (GS.rR HO290.out) hb)
        have n3_ := AM (Kd.R_below (GS.rR HO295.out) hb)
        have n4_ := AM (Kd.R_below (GS.rR HO313.out) hb)
        have n5_ := AM (Kd.R_below (GS.rR HO331.out) hb)
        have n6_ := AM (bqB (GS.bqX BK268.out) hb)
        have n7_ := AM (bqB (GS.bqX BK269.out) hb)
        have n8_ := AM (bqB (GS.bqX BK278.out) hb)
        have n9_ := AM (bqB (GS.bqX BK285.out) hb)
        have n10_ := AM (bqB (GS.bqX BK307.out) hb)
        have n11_ := AM (bqB (GS.bqX BK308.out) hb)
        have n12_ := AM (bqB (GS.bqX BK325.out) hb)
        have n13_ := AM (bqB (GS.bqX BK326.out) hb)
        have n14_ := AM (lqT (GS.lB HB.out) hb)
        clear HO276
        clear HO283
        clear HO290
        clear HO295
        clear HO313
        clear HO331
        clear BK268
        clear BK269
        clear BK278
        clear BK285
        clear BK307
        clear BK308
        clear BK325
        clear BK326
        clear HB
        have HO276 := n0_
        have HO283 := n1_
        have HO290 := n2_
        have HO295 := n3_
        have HO313 := n4_
        have HO331 := n5_
        have BK268 := n6_
        have BK269 := n7_
        have BK278 := n8_
        have BK285 := n9_
        have BK307 := n10_
        have BK308 := n11_
        have BK325 := n12_
        have BK326 := n13_
        have HB := n14_
        clear n0_ n1_ n2_ n3_ n4_ n5_ n6_ n7_ n8_ n9_ n10_ n11_ n12_ n13_ n14_
        (try clear hb)
        (try clear hb2)
        (try clear hk)
        (try clear hi)
        refine hK.out _ _ ⟨(bqC BK268.out 0).trans rfl, (bqC BK268.out 1).trans rfl, (bqC BK268.out 2).trans rfl, (bqC BK278.out 0).trans rfl, (bqC BK278.out 1).trans rfl, (bqC BK278.out 2).trans rfl, (bqC BK285.out 0).trans rfl, (bqC BK285.out 1).trans rfl, (bqC BK285.out 2).trans rfl, (bqC BK307.out 0).trans rfl, (bqC BK307.out 1).trans rfl, (bqC BK307.out 2).trans rfl, (bqC BK325.out 0).trans rfl, (bqC BK325.out 1).trans rfl, (bqC BK325.out 2).trans rfl, (bqC BK308.out 0).trans rfl, (bqC BK308.out 1).trans rfl, (bqC BK308.out 2).trans rfl, (bqC BK308.out 3).trans rfl, (bqC BK308.out 4).trans rfl, (bqC BK308.out 5).trans rfl, (bqC BK308.out 6).trans rfl, (bqC BK308.out 7).trans rfl, (bqC BK308.out 8).trans rfl, (bqC BK308.out 9).trans rfl, (bqC BK326.out 0).trans rfl, (bqC BK326.out 1).trans rfl, (bqC BK326.out 2).trans rfl, (bqC BK326.out 3).trans rfl, (bqC BK326.out 4).trans rfl, (bqC BK326.out 5).trans rfl, (bqC BK326.out 6).trans rfl, (bqC BK326.out 7).trans rfl, (bqC BK326.out 8).trans rfl, (bqC BK326.out 9).trans rfl⟩ (fun hHeld => ?_)
        clear hK K
        refine norm_ (a' := ?_) ?_ ?_
        rotate_left
        ·show Act.put _ (some 68) _ = _
         simp only [Act.put, List.setIfInBounds_toArray, List.set_cons_zero, List.set_cons_succ, i64_w, i32_w]
         rfl
        refine pure_ (i := 20) (N := some 69) (v := ?_) (a' := ?_) #[true, true, true, true, true, true, true, true, true, true, true, true, true, true, true, true, true, true, true, true, true, false, false, false, false, false, false, false, false, false, false, false] rfl rfl (any_of HT_.out (by kernel_rfl)) (fun _ _ _ h => h) (Or.inl ⟨by rfl, ?_⟩) ?_ ?_
        rotate_left
        ·intro w'
         go_simp
         with_reducible rfl
        rotate_left
        ·simp only [Act.put, List.setIfInBounds_toArray, List.set_cons_zero, List.set_cons_succ, i64_w, i32_w]
         rfl
        refine pure_ (i := 21) (N := some 70) (v := ?_) (a' := ?_) #[true, true, true, true, true, true, true, true, true, true, true, true, true, true, true, true, true, true, true, true, true, true, false, false, false, false, false, false, false, false, false, false] rfl rfl (any_of HT_.out (by kernel_rfl)) (fun _ _ _ h => h) (Or.inl ⟨by rfl, ?_⟩) ?_ ?_
        rotate_left
        ·intro w'
         go_simp
         with_reducible rfl
        rotate_left
        ·simp only [Act.put, List.setIfInBounds_toArray, List.set_cons_zero, List.set_cons_succ, i64_w, i32_w]
         rfl
        refine take_ (i := 22) (N := some 71) (v := ?_) (a' := ?_) #[true, true, true, true, true, true, true, true, true, true, true, true, true, true, true, true, true, true, true, true, true, true, true, false, false, false, false, false, false, false, false, false] rfl rfl (take_ofW HT_.out HW_.out (by kernel_rfl)) (fun _ _ _ h => h) (Or.inl ⟨by rfl, ?_⟩) hHeld ?_ ?_
        rotate_left
        ·rintro w' ⟨s0, s1, s2, s3, s4, s5, s6, s7, s8, s9, s10, s11, s12, s13, s14, s15, s16, s17, s18, s19, s20, s21, s22, s23, s24, s25, s26, s27, s28, s29, s30, s31, s32, s33, s34⟩
         go_simp
         with_reducible rfl
        rotate_left
        ·simp only [Act.put, List.setIfInBounds_toArray, List.set_cons_zero, List.set_cons_succ, i64_w, i32_w]
         rfl
        refine take_ (i := 23) (N := some 72) (v := ?_) (a' := ?_) #[true, true, true, true, true, true, true, true, true, true, true, true, true, true, true, true, true, true, true, true, true, true, true, true, false, false, false, false, false, false, false, false] rfl rfl (take_ofW HT_.out HW_.out (by kernel_rfl)) (fun _ _ _ h => h) (Or.inl ⟨by rfl, ?_⟩) hHeld ?_ ?_
        rotate_left
        ·rintro w' ⟨s0, s1, s2, s3, s4, s5, s6, s7, s8, s9, s10, s11, s12, s13, s14, s15, s16, s17, s18, s19, s20, s21, s22, s23, s24, s25, s26, s27, s28, s29, s30, s31, s32, s33, s34⟩
         go_simp
         with_reducible rfl
        rotate_left
        ·simp only [Act.put, List.setIfInBounds_toArray, List.set_cons_zero, List.set_cons_succ, i64_w, i32_w]
         rfl
        refine pure_ (i := 24) (N := some 73) (v := ?_) (a' := ?_) #[true, true, true, true, true, true, true, true, true, true, true, true, true, true, true, true, true, true, true, true, true, true, true, true, true, false, false, false, false, false, false, false] rfl rfl (any_of HT_.out (by kernel_rfl)) (fun _ _ _ h => h) (Or.inl ⟨by rfl, ?_⟩) ?_ ?_
        rotate_left
        ·intro w'
         go_simp
         with_reducible rfl
        rotate_left
        ·simp only [Act.put, List.setIfInBounds_toArray, List.set_cons_zero, List.set_cons_succ, i64_w, i32_w]
         rfl
        refine pure_ (i := 25) (N := some 74) (v := ?_) (a' := ?_) #[true, true, true, true, true, true, true, true, true, true, true, true, true, true, true, true, true, true, true, true, true, true, true, true, true, true, false, false, false, false, false, false] rfl rfl (any_of HT_.out (by kernel_rfl)) (fun _ _ _ h => h) (Or.inl ⟨by rfl, ?_⟩) ?_ ?_
        rotate_left
        ·intro w'
         go_simp
         with_reducible rfl
        rotate_left
        ·simp only [Act.put, List.setIfInBounds_toArray, List.set_cons_zero, List.set_cons_succ, i64_w, i32_w]
         rfl
        refine pure_ (i := 26) (N := some 75) (v := ?_) (a' := ?_) #[true, true, true, true, true, true, true, true, true, true, true, true, true, true, true, true, true, true, true, true, true, true, true, true, true, true, true, false, false, false, false, false] rfl rfl (any_of HT_.out (by kernel_rfl)) (fun _ _ _ h => h) (Or.inl ⟨by rfl, ?_⟩) ?_ ?_
        rotate_left
        ·intro w'
         go_simp
         with_reducible rfl
        rotate_left
        ·simp only [Act.put, List.setIfInBounds_toArray, List.set_cons_zero, List.set_cons_succ, i64_w, i32_w]
         rfl
        refine pure_ (i := 27) (N := some 76) (v := ?_) (a' := ?_) #[true, true, true, true, true, true, true, true, true, true, true, true, true, true, true, true, true, true, true, true, true, true, true, true, true, true, true, true, false, false, false, false] rfl rfl (any_of HT_.out (by kernel_rfl)) (fun _ _ _ h => h) (Or.inl ⟨by rfl, ?_⟩) ?_ ?_
        rotate_left
        ·intro w'
         go_simp
         with_reducible rfl
        rotate_left
        ·simp only [Act.put, List.setIfInBounds_toArray, List.set_cons_zero, List.set_cons_succ, i64_w, i32_w]
         rfl
        refine pure_ (i := 28) (N := some 77) (v := ?_) (a' := ?_) #[true, true, true, true, true, true, true, true, true, true, true, true, true, true, true, true, true, true, true, true, true, true, true, true, true, true, true, true, true, false, false, false] rfl rfl (any_of HT_.out (by kernel_rfl)) (fun _ _ _ h => h) (Or.inl ⟨by rfl, ?_⟩) ?_ ?_
        rotate_left
        ·intro w'
         go_simp
         with_reducible rfl
        rotate_left
        ·simp only [Act.put, List.setIfInBounds_toArray, List.set_cons_zero, List.set_cons_succ, i64_w, i32_w]
         rfl
        refine pure_ (i := 29) (N := some 78) (v := ?_) (a' := ?_) #[true, true, true, true, true, true, true, true, true, true, true, true, true, true, true, true, true, true, true, true, true, true, true, true, true, true, true, true, true, true, false, false] rfl rfl (any_of HT_.out (by kernel_rfl)) (fun _ _ _ h => h) (Or.inl ⟨by rfl, ?_⟩) ?_ ?_
        rotate_left
        ·intro w'
         go_simp
         with_reducible rfl
        rotate_left
        ·simp only [Act.put, List.setIfInBounds_toArray, List.set_cons_zero, List.set_cons_succ, i64_w, i32_w]
         rfl
        refine pure_ (i := 30) (N := some 79) (v := ?_) (a' := ?_) #[true, true, true, true, true, true, true, true, true, true, true, true, true, true, true, true, true, true, true, true, true, true, true, true, true, true, true, true, true, true, true, false] rfl rfl (any_of HT_.out (by kernel_rfl)) (fun _ _ _ h => h) (Or.inl ⟨by rfl, ?_⟩) ?_ ?_
        rotate_left
        ·intro w'
         go_simp
         with_reducible rfl
        rotate_left
        ·simp only [Act.put, List.setIfInBounds_toArray, List.set_cons_zero, List.set_cons_succ, i64_w, i32_w]
         rfl
        refine pure_ (i := 31) (N := some 6) (v := ?_) (a' := ?_) #[true, true, true, true, true, true, true, true, true, true, true, true, true, true, true, true, true, true, true, true, true, true, true, true, true, true, true, true, true, true, true, true] rfl rfl (any_of HT_.out (by kernel_rfl)) (fun _ _ _ h => h) (Or.inl ⟨by rfl, ?_⟩) ?_ ?_
        rotate_left
        ·intro w'
         go_simp
         with_reducible rfl
        rotate_left
        ·simp only [Act.put, List.setIfInBounds_toArray, List.set_cons_zero, List.set_cons_succ, i64_w, i32_w]
         rfl
        refine done_ (done_of HT_.out (by kernel_rfl)) ?_
        try go_wp2
        go_ret
        exact ⟨by first | rfl | (simp [errW_none, errW_some] <;> rfl) | (simp [*, errW_none, errW_some] <;> rfl), GS.lB HB.out⟩
       ·rw [if_neg c22] at H
        exact absurd H (by simp)
      ·replace c21 := Bool.eq_false_iff.mpr c21
       subst c21
       have H1 : (none) = some r := by rw [if_neg (show ¬ (false = true) by decide)] at H; exact H
       clear H
       have H := H1
       clear H1
       exact absurd H (by simp)
     ·rw [if_neg c19] at H
      exact absurd H (by simp)
    ·replace c18 := Bool.eq_false_iff.mpr c18
     subst c18
     have H1 : (none) = some r := by rw [if_neg (show ¬ (false = true) by decide)] at H; exact H
     clear H
     have H := H1
     clear H1
     exact absurd H (by simp)
   ·rw [if_neg c16] at H
    exact absurd H (by simp)
  ·replace c7 := Bool.eq_false_iff.mpr c7
   subst c7
   have H1 : (some true) = some r := by rw [if_neg (show ¬ (false = true) by decide)] at H; exact H
   clear H
   have H := H1
   clear H1
   obtain rfl := Option.some.inj H
   go_enter Try.func3, Try.ntmps3
   go_wp2_with (first | ((with_reducible refine gqD (N := 3) rfl ?_); refine GS.bx (N := 3) (cs := #[.int .i64 a0_0, .int .i64 a0_1, .slice A0_2 l0_2.length c0_2]) (t := 24) ?_; intro gb268 hg w98 hbox hb; have n0_ := AM (lqT (GS.lB HB.out) hb); have n1_ := AM (hbox); have n2_ := AM ((by rw [hg]; exact (lqZ (GS.lB HB.out)) : w.heap.size ≤ gb268)); have n3_ := AM ((by rw [hg]; exact (lqZ (GS.lB HB.out)) : w.heap.size ≤ gb268)); clear HB; have HB := n0_; have BK268 := n1_; have GW268 := n2_; have GE268 := n3_; clear n0_ n1_ n2_ n3_; clear hb hbox hg) | ((with_reducible refine gqD (N := 5) rfl ?_); refine GS.bx (N := 5) (cs := #[.int .i64 a2_0, .int .i64 a2_1, .int .i64 a2_2, .int .i64 a2_3, .int .i64 a2_4, .int .i64 a2_5, .int .i64 a2_6]) (t := 26) ?_; intro gb269 hg w99 hbox hb; have n0_ := AM (bqB (GS.bqX BK268.out) hb); have n1_ := AM (lqT (GS.lB HB.out) hb); have n2_ := AM (hbox); have n3_ := AM ((by rw [hg]; exact (lqZ (GS.lB HB.out)) : w.heap.size ≤ gb269)); have n4_ := AM ((by rw [hg]; exact (lqZ (GS.lB HB.out)) : w.heap.size ≤ gb269)); have n5_ := AM ((by rw [hg]; exact Nat.ne_of_lt (blk_lt (GS.bqX BK268.out)) : gb268 ≠ gb269)); have n6_ := AM ((by rw [hg]; exact Nat.ne_of_gt (blk_lt (GS.bqX BK268.out)) : gb269 ≠ gb268)); clear BK268; clear HB; have BK268 := n0_; have HB := n1_; have BK269 := n2_; have GW269 := n3_; have GE269 := n4_; have NB268_269 := n5_; have NB269_268 := n6_; clear n0_ n1_ n2_ n3_ n4_ n5_ n6_; clear hb hbox hg) | ((with_reducible refine gqC (f := 10) rfl ?_); refine GS.gL (some 17) Try.func10 #[] ?_; (with_reducible refine (spilelaw42_awake.calls k  true _ A4.out).mono ?_); rintro e w100 ⟨rfl, hb⟩; refine ⟨_, rfl, ?_⟩; have n0_ := AM (bqB (GS.bqX BK268.out) hb); have n1_ := AM (bqB (GS.bqX BK269.out) hb); have n2_ := AM (lqT (GS.lB HB.out) hb); clear BK268; clear BK269; clear HB; have BK268 := n0_; have BK269 := n1_; have HB := n2_; clear n0_ n1_ n2_; (try clear hb); (try clear hb2); (try clear hk); (try clear hi); have hnb101 := NB268_269.out; have hnc101 := NB269_268.out; obtain ⟨hcz102_0, hcz102_1, hcz102_2, hfz102_0, hfz102_1, hfz102_2⟩ := GS.c3 BK268.out) | ((with_reducible refine gqC (f := 11) rfl ?_); refine GS.gL (some 20) Try.func11 #[.agg #[.int .i64 a0_0, .int .i64 a0_1, .slice A0_2 l0_2.length c0_2]] ?_; (with_reducible refine (spileref42_Few.calls a0_0 a0_1 _ _ l0_2 false _ ?side1 ?side2 A6.out).mono ?_); (case side1 => exact GS.rC (Kd.C_below HR0_2.out HB.out)); (case side2 => exact HC0_2.out); rintro e w103 ⟨rfl, hb⟩; refine ⟨_, rfl, ?_⟩; have n0_ := AM (bqB (GS.bqX BK268.out) hb); have n1_ := AM (bqB (GS.bqX BK269.out) hb); have n2_ := AM (lqT (GS.lB HB.out) hb); clear BK268; clear BK269; clear HB; have BK268 := n0_; have BK269 := n1_; have HB := n2_; clear n0_ n1_ n2_; (try clear hb); (try clear hb2); (try clear hk); (try clear hi)))
   go_ret
   exact ⟨by first | rfl | (simp [errW_none, errW_some] <;> rfl) | (simp [*, errW_none, errW_some] <;> rfl), GS.lB HB.out⟩
 ·replace c5 := Bool.eq_false_iff.mpr c5
  subst c5
  have H1 : (none) = some r := by rw [if_neg (show ¬ (false = true) by decide)] at H; exact H
  clear H
  have H := H1
  clear H1
  exact absurd H (by simp)

end Go.Proofs.Ytfafeeobjlkjnaa.K
