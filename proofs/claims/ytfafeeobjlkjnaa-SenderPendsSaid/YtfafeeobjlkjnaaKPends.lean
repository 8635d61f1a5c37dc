-- PRINTED by print.py (a twelfth state) out of the translation. Not trusted: Lean checks it.
import Derived.Test.YtfafeeobjlkjnaaK0
import Derived.Test.YtfafeeobjlkjnaaGShort
import Derived.Test.YtfafeeobjlkjnaaGSym
import Derived.Test.YtfafeeobjlkjnaaK2
import Derived.Test.YtfafeeobjlkjnaaK5
import Derived.Test.YtfafeeobjlkjnaaK6
import Derived.Test.YtfafeeobjlkjnaaK7
import Derived.Test.YtfafeeobjlkjnaaK8
import Derived.Test.YtfafeeobjlkjnaaK9
import Derived.Test.YtfafeeobjlkjnaaGClone
import Derived.Test.YtfafeeobjlkjnaaGHeard
namespace Go.Proofs.Ytfafeeobjlkjnaa.K
open Go.RowKit Go.Proofs.YtfafeeobjlkjnaaW.PrintWords Go.Proofs.YtfafeeobjlkjnaaW.PrintLast Go.Proofs.YtfafeeobjlkjnaaW.PrintMore
attribute [local go_sem] max2_int min2_int max_two min_two max_three min_three max_four min_four   -- for this text's walks alone
set_option linter.unusedVariables false
set_option linter.unusedSimpArgs false

attribute [local go_sem high] eqA33
/-! ### spilelaw42_SenderPends: function 4 -/
def spilelaw42_SenderPends.j0 : Nat → Bool → Int → Int → List (S33) → Int → Int → List (S33) → Int → Int → Int → Int → Int → Int → Int → Int → Int → Int → Option (Bool)
 | 0, _, _, _, _, _, _, _, _, _, _, _, _, _, _, _, _, _ => none
 | k + 1, x82, x310000, x310001, x310002, x334000, x334001, x334002, x335000, x335001, x335002, x335003, x335004, x335005, x335006, x335007, x335008, x335009 => if x82 = true then (none) else ((sender_Heard.f k x334000 x334001 x334002 x310000 x335002).bind fun bt351 => (if bt351.2.2.2 = 0 then ((api_Envelope_20.f k bt351.2.2.1 x310002).bind fun t358 => (if t358 = true then (if bt351.2.1 = x334001 then (some (bt351.1 == x310000)) else (none)) else (none))) else (none)))
def spilelaw42_SenderPends.f (k : Nat) (a0_0 : Int) (a0_1 : Int) (l0_2 : List (S33)) (a1 : Int) (a2_0 : Int) (a2_1 : Int) (a2_2 : Int) (a2_3 : Int) (a2_4 : Int) (a2_5 : Int) (a2_6 : Int) : Option (Bool) := (spilelaw42_awake.f k).bind fun t311 => (if t311 = true then (if (l0_2.length : Int) > 14 then (some true) else ((spileref42_Copy.f a0_0 a0_1 l0_2).bind fun bt312 => ((sender_Send.f k bt312.1 bt312.2.1 bt312.2.2 a1 a2_0 a2_1 a2_2 a2_3 a2_4 a2_5 a2_6).bind fun bt317 => (if bt317.2.2.2.2.2.2.2.2.2.2.2.2.2 = 0 then (if (!(bt317.2.2.2.1 == a0_0) || (!(bt317.2.2.2.2.1 == a1) || (!(bt317.2.2.2.2.2.1 == a0_1) || ((!(bt317.2.2.2.2.2.2.1 == a2_0) || (!(bt317.2.2.2.2.2.2.2.1 == a2_1) || (!(bt317.2.2.2.2.2.2.2.2.1 == a2_2) || (!(bt317.2.2.2.2.2.2.2.2.2.1 == a2_3) || (!(bt317.2.2.2.2.2.2.2.2.2.2.1 == a2_4) || (!(bt317.2.2.2.2.2.2.2.2.2.2.2.1 == a2_5) || (!(bt317.2.2.2.2.2.2.2.2.2.2.2.2.1 == a2_6)))))))))))) = true then (none) else (if bt317.2.1 = (wrap64 (a0_1 + 1)) then ((api_Envelope_21.f l0_2).bind fun t335 => ((some (([(⟨bt317.2.2.2.1, bt317.2.2.2.2.1, bt317.2.2.2.2.2.1, (⟨bt317.2.2.2.2.2.2.1, bt317.2.2.2.2.2.2.2.1, bt317.2.2.2.2.2.2.2.2.1, bt317.2.2.2.2.2.2.2.2.2.1, bt317.2.2.2.2.2.2.2.2.2.2.1, bt317.2.2.2.2.2.2.2.2.2.2.2.1, bt317.2.2.2.2.2.2.2.2.2.2.2.2.1⟩ : S26)⟩ : S33)] : List (S33)) : List (S33))).bind fun y338 => (if t335.length + y338.length < 1759218604441 then ((api_Envelope_20.f k bt317.2.2.1 (t335 ++ y338)).bind fun t344 => (if t344 = true then ((spileref42_Copy.f bt317.1 bt317.2.1 bt317.2.2.1).bind fun bt345 => ((sender_Check.f k bt345.1 bt345.2.1 bt345.2.2).bind fun t350 => (spilelaw42_SenderPends.j0 k (t350 != 0) a0_0 a0_1 l0_2 bt317.1 bt317.2.1 bt317.2.2.1 bt317.2.2.2.1 bt317.2.2.2.2.1 bt317.2.2.2.2.2.1 bt317.2.2.2.2.2.2.1 bt317.2.2.2.2.2.2.2.1 bt317.2.2.2.2.2.2.2.2.1 bt317.2.2.2.2.2.2.2.2.2.1 bt317.2.2.2.2.2.2.2.2.2.2.1 bt317.2.2.2.2.2.2.2.2.2.2.2.1 bt317.2.2.2.2.2.2.2.2.2.2.2.2.1))) else (none))) else (none)))) else (none))) else (if bt317.1 = 0 then (if bt317.2.1 = 0 then (if (bt317.2.2.1.length : Int) = 0 then (some (bt317.2.2.2.1 == 0 && (bt317.2.2.2.2.1 == 0 && (bt317.2.2.2.2.2.1 == 0 && ((bt317.2.2.2.2.2.2.1 == 0 && (bt317.2.2.2.2.2.2.2.1 == 0 && (bt317.2.2.2.2.2.2.2.2.1 == 0 && (bt317.2.2.2.2.2.2.2.2.2.1 == 0 && (bt317.2.2.2.2.2.2.2.2.2.2.1 == 0 && (bt317.2.2.2.2.2.2.2.2.2.2.2.1 == 0 && (bt317.2.2.2.2.2.2.2.2.2.2.2.2.1 == 0)))))))))))) else (none)) else (none)) else (none)))))) else (none))
theorem spilelaw42_SenderPends.mono_l : ∀ k, (∀ y0 y1 y2 y3 y4 y5 y6 y7 y8 y9 y10 y11 y12 y13 y14 y15 y16, LeO (spilelaw42_SenderPends.j0 k y0 y1 y2 y3 y4 y5 y6 y7 y8 y9 y10 y11 y12 y13 y14 y15 y16) (spilelaw42_SenderPends.j0 (k + 1) y0 y1 y2 y3 y4 y5 y6 y7 y8 y9 y10 y11 y12 y13 y14 y15 y16))
 | 0 => fun _ _ _ _ _ _ _ _ _ _ _ _ _ _ _ _ _ r h => by simp [spilelaw42_SenderPends.j0] at h
 | k + 1 => by
  have ih0 := spilelaw42_SenderPends.mono_l k
  ·intro y0 y1 y2 y3 y4 y5 y6 y7 y8 y9 y10 y11 y12 y13 y14 y15 y16
   unfold spilelaw42_SenderPends.j0
   repeat' first
   | (with_reducible exact ih0 _ _ _ _ _ _ _ _ _ _ _ _ _ _ _ _ _)
   | (with_reducible exact api_Envelope_20.mono _ _ _)
   | (with_reducible exact sender_Check.mono _ _ _ _)
   | (with_reducible exact sender_Heard.mono _ _ _ _ _ _)
   | (with_reducible exact sender_Send.mono _ _ _ _ _ _ _ _ _ _ _ _)
   | (with_reducible exact spilelaw42_awake.mono _)
   | (with_reducible exact LeO.refl _)
   | (with_reducible exact LeO.none _)
   | (with_reducible refine LeO.ite ?_ ?_)
   | (with_reducible refine LeO.bind ?_ (fun _ => ?_))
   | exact ih0 _ _ _ _ _ _ _ _ _ _ _ _ _ _ _ _ _
   | exact api_Envelope_20.mono _ _ _
   | exact sender_Check.mono _ _ _ _
   | exact sender_Heard.mono _ _ _ _ _ _
   | exact sender_Send.mono _ _ _ _ _ _ _ _ _ _ _ _
   | exact spilelaw42_awake.mono _
   | exact LeO.none _
   | refine LeO.ite ?_ ?_
   | refine LeO.bind ?_ (fun _ => ?_)
theorem spilelaw42_SenderPends.mono : ∀ a0 a1 a2 a3 a4 a5 a6 a7 a8 a9 a10 k, LeO (spilelaw42_SenderPends.f k a0 a1 a2 a3 a4 a5 a6 a7 a8 a9 a10) (spilelaw42_SenderPends.f (k + 1) a0 a1 a2 a3 a4 a5 a6 a7 a8 a9 a10) := by
 intro a0 a1 a2 a3 a4 a5 a6 a7 a8 a9 a10 k
 have ih0 := spilelaw42_SenderPends.mono_l k
 unfold spilelaw42_SenderPends.f
 repeat' first
   | (with_reducible exact ih0 _ _ _ _ _ _ _ _ _ _ _ _ _ _ _ _ _)
   | (with_reducible exact api_Envelope_20.mono _ _ _)
   | (with_reducible exact sender_Check.mono _ _ _ _)
   | (with_reducible exact sender_Heard.mono _ _ _ _ _ _)
   | (with_reducible exact sender_Send.mono _ _ _ _ _ _ _ _ _ _ _ _)
   | (with_reducible exact spilelaw42_awake.mono _)
   | (with_reducible exact LeO.refl _)
   | (with_reducible exact LeO.none _)
   | (with_reducible refine LeO.ite ?_ ?_)
   | (with_reducible refine LeO.bind ?_ (fun _ => ?_))
   | exact ih0 _ _ _ _ _ _ _ _ _ _ _ _ _ _ _ _ _
   | exact api_Envelope_20.mono _ _ _
   | exact sender_Check.mono _ _ _ _
   | exact sender_Heard.mono _ _ _ _ _ _
   | exact sender_Send.mono _ _ _ _ _ _ _ _ _ _ _ _
   | exact spilelaw42_awake.mono _
   | exact LeO.none _
   | refine LeO.ite ?_ ?_
   | refine LeO.bind ?_ (fun _ => ?_)
def spilelaw42_SenderPends.T5 : Bool × List (List Nat × List Nat) := (true, [([], []), ([0], [0]), ([], []), ([], []), ([1, 2, 3, 1], [1, 2, 3]), ([4], [4]), ([5], [5]), ([5], [5]), ([5], [5]), ([], []), ([], []), ([9, 6, 4, 0, 1, 2, 3, 4, 5, 6, 9, 10], [6, 9]), ([10, 7, 11, 0, 1, 2, 3, 4, 5, 6, 7, 9, 10, 11], [7, 10]), ([8, 12, 0, 1, 2, 3, 4, 5, 6, 7, 8, 9, 10, 11, 12], [8])])
def spilelaw42_SenderPends.B5 : List Nat := [0, 1, 0, 0, 15, 31, 63, 63, 63, 0, 0, 1663, 3839, 8191]
theorem spilelaw42_SenderPends.tab5 : rtab .any (opsOf Try.f4 5) = spilelaw42_SenderPends.T5 := by kernel_rfl
theorem spilelaw42_SenderPends.bits5 : waitsOk spilelaw42_SenderPends.T5.2 spilelaw42_SenderPends.B5 = true := by kernel_rfl
def spilelaw42_SenderPends.T8 : Bool × List (List Nat × List Nat) := (true, [([], []), ([], []), ([1], [1]), ([], []), ([], []), ([4], [4]), ([], []), ([2, 3, 5, 6], [2, 3, 5, 6]), ([0, 7], [0, 7]), ([8], [8]), ([9], [9]), ([10, 9], [9, 10]), ([9], [9]), ([12, 9], [9, 12]), ([13, 9], [9, 13]), ([11, 14, 9], [9, 11, 14]), ([9, 15], [9, 15]), ([16, 9], [16]), ([17], [17]), ([18, 17], [17, 18]), ([17], [17]), ([20, 17], [17, 20]), ([21, 17, 17], [17, 21]), ([17], [17]), ([23, 17], [17, 23]), ([22, 24, 22, 17], [17, 22, 24]), ([19, 25, 25, 17], [17, 19, 25]), ([26, 17], [17, 26]), ([17, 27], [17, 27]), ([28, 26], [28]), ([29], [29]), ([30, 29, 29], [29, 30]), ([31, 31, 29], [29, 31]), ([32, 29], [29, 32]), ([29, 33], [29, 33])])
def spilelaw42_SenderPends.B8 : List Nat := [0, 0, 2, 0, 0, 16, 0, 126, 255, 511, 1023, 2047, 1023, 5119, 13311, 32767, 65535, 131071, 262143, 524287, 262143, 1310719, 3407871, 262143, 8650751, 32767999, 67108863, 134217727, 268435455, 536870911, 1073741823, 2147483647, 4294967295, 8589934591, 17179869183]
theorem spilelaw42_SenderPends.tab8 : rtab .any (opsOf Try.f4 8) = spilelaw42_SenderPends.T8 := by kernel_rfl
theorem spilelaw42_SenderPends.bits8 : waitsOk spilelaw42_SenderPends.T8.2 spilelaw42_SenderPends.B8 = true := by kernel_rfl
set_option maxHeartbeats 8000000 in
set_option maxRecDepth 100000 in
theorem spilelaw42_SenderPends.calls (k : Nat) (a0_0 : Int) (a0_1 : Int) (A0_2 : Option Addr) (c0_2 : Nat) (l0_2 : List (S33)) (a1 : Int) (a2_0 : Int) (a2_1 : Int) (a2_2 : Int) (a2_3 : Int) (a2_4 : Int) (a2_5 : Int) (a2_6 : Int) (r : Bool) (w : World) (hr0_2 : Kd.C k33 w A0_2 l0_2.length l0_2) (hc0_2 : l0_2.length ≤ c0_2) (h : spilelaw42_SenderPends.f k a0_0 a0_1 l0_2 a1 a2_0 a2_1 a2_2 a2_3 a2_4 a2_5 a2_6 = some r) :
  Calls Try.prog 4 #[.agg #[.int .i64 a0_0, .int .i64 a0_1, .slice A0_2 l0_2.length c0_2], .int .i64 a1, .agg #[.int .i64 a2_0, .int .i64 a2_1, .int .i64 a2_2, .int .i64 a2_3, .int .i64 a2_4, .int .i64 a2_5, .int .i64 a2_6]] w fun e w' => e = .returned (.bool r) ∧ Below w.heap.size w w' := by
 have hu24 := Try.underlying24
 have hu26 := Try.underlying26
 have hu33 := Try.underlying33
 have hu44 := Try.underlying44
 have HR0_2 := Aside0.mk hr0_2
 have HC0_2 := Aside0.mk hc0_2
 clear hr0_2 hc0_2
 have HB := Aside0.mk (Below.refl w.heap.size w)
 have H : ((spilelaw42_awake.f k).bind fun t311 => (if t311 = true then (if (l0_2.length : Int) > 14 then (some true) else ((spileref42_Copy.f a0_0 a0_1 l0_2).bind fun bt312 => ((sender_Send.f k bt312.1 bt312.2.1 bt312.2.2 a1 a2_0 a2_1 a2_2 a2_3 a2_4 a2_5 a2_6).bind fun bt317 => (if bt317.2.2.2.2.2.2.2.2.2.2.2.2.2 = 0 then (if (!(bt317.2.2.2.1 == a0_0) || (!(bt317.2.2.2.2.1 == a1) || (!(bt317.2.2.2.2.2.1 == a0_1) || ((!(bt317.2.2.2.2.2.2.1 == a2_0) || (!(bt317.2.2.2.2.2.2.2.1 == a2_1) || (!(bt317.2.2.2.2.2.2.2.2.1 == a2_2) || (!(bt317.2.2.2.2.2.2.2.2.2.1 == a2_3) || (!(bt317.2.2.2.2.2.2.2.2.2.2.1 == a2_4) || (!(bt317.2.2.2.2.2.2.2.2.2.2.2.1 == a2_5) || (!(bt317.2.2.2.2.2.2.2.2.2.2.2.2.1 == a2_6)))))))))))) = true then (none) else (if bt317.2.1 = (wrap64 (a0_1 + 1)) then ((api_Envelope_21.f l0_2).bind fun t335 => ((some (([(⟨bt317.2.2.2.1, bt317.2.2.2.2.1, bt317.2.2.2.2.2.1, (⟨bt317.2.2.2.2.2.2.1, bt317.2.2.2.2.2.2.2.1, bt317.2.2.2.2.2.2.2.2.1, bt317.2.2.2.2.2.2.2.2.2.1, bt317.2.2.2.2.2.2.2.2.2.2.1, bt317.2.2.2.2.2.2.2.2.2.2.2.1, bt317.2.2.2.2.2.2.2.2.2.2.2.2.1⟩ : S26)⟩ : S33)] : List (S33)) : List (S33))).bind fun y338 => (if t335.length + y338.length < 1759218604441 then ((api_Envelope_20.f k bt317.2.2.1 (t335 ++ y338)).bind fun t344 => (if t344 = true then ((spileref42_Copy.f bt317.1 bt317.2.1 bt317.2.2.1).bind fun bt345 => ((sender_Check.f k bt345.1 bt345.2.1 bt345.2.2).bind fun t350 => (spilelaw42_SenderPends.j0 k (t350 != 0) a0_0 a0_1 l0_2 bt317.1 bt317.2.1 bt317.2.2.1 bt317.2.2.2.1 bt317.2.2.2.2.1 bt317.2.2.2.2.2.1 bt317.2.2.2.2.2.2.1 bt317.2.2.2.2.2.2.2.1 bt317.2.2.2.2.2.2.2.2.1 bt317.2.2.2.2.2.2.2.2.2.1 bt317.2.2.2.2.2.2.2.2.2.2.1 bt317.2.2.2.2.2.2.2.2.2.2.2.1 bt317.2.2.2.2.2.2.2.2.2.2.2.2.1))) else (none))) else (none)))) else (none))) else (if bt317.1 = 0 then (if bt317.2.1 = 0 then (if (bt317.2.2.1.length : Int) = 0 then (some (bt317.2.2.2.1 == 0 && (bt317.2.2.2.2.1 == 0 && (bt317.2.2.2.2.2.1 == 0 && ((bt317.2.2.2.2.2.2.1 == 0 && (bt317.2.2.2.2.2.2.2.1 == 0 && (bt317.2.2.2.2.2.2.2.2.1 == 0 && (bt317.2.2.2.2.2.2.2.2.2.1 == 0 && (bt317.2.2.2.2.2.2.2.2.2.2.1 == 0 && (bt317.2.2.2.2.2.2.2.2.2.2.2.1 == 0 && (bt317.2.2.2.2.2.2.2.2.2.2.2.2.1 == 0)))))))))))) else (none)) else (none)) else (none)))))) else (none))) = some r := h
 clear h
 replace H := Option.bind_eq_some_iff.mp H
 obtain ⟨t311, A40, H⟩ := H
 replace H : (if t311 = true then (if (l0_2.length : Int) > 14 then (some true) else ((spileref42_Copy.f a0_0 a0_1 l0_2).bind fun bt312 => ((sender_Send.f k bt312.1 bt312.2.1 bt312.2.2 a1 a2_0 a2_1 a2_2 a2_3 a2_4 a2_5 a2_6).bind fun bt317 => (if bt317.2.2.2.2.2.2.2.2.2.2.2.2.2 = 0 then (if (!(bt317.2.2.2.1 == a0_0) || (!(bt317.2.2.2.2.1 == a1) || (!(bt317.2.2.2.2.2.1 == a0_1) || ((!(bt317.2.2.2.2.2.2.1 == a2_0) || (!(bt317.2.2.2.2.2.2.2.1 == a2_1) || (!(bt317.2.2.2.2.2.2.2.2.1 == a2_2) || (!(bt317.2.2.2.2.2.2.2.2.2.1 == a2_3) || (!(bt317.2.2.2.2.2.2.2.2.2.2.1 == a2_4) || (!(bt317.2.2.2.2.2.2.2.2.2.2.2.1 == a2_5) || (!(bt317.2.2.2.2.2.2.2.2.2.2.2.2.1 == a2_6)))))))))))) = true then (none) else (if bt317.2.1 = (wrap64 (a0_1 + 1)) then ((api_Envelope_21.f l0_2).bind fun t335 => ((some (([(⟨bt317.2.2.2.1, bt317.2.2.2.2.1, bt317.2.2.2.2.2.1, (⟨bt317.2.2.2.2.2.2.1, bt317.2.2.2.2.2.2.2.1, bt317.2.2.2.2.2.2.2.2.1, bt317.2.2.2.2.2.2.2.2.2.1, bt317.2.2.2.2.2.2.2.2.2.2.1, bt317.2.2.2.2.2.2.2.2.2.2.2.1, bt317.2.2.2.2.2.2.2.2.2.2.2.2.1⟩ : S26)⟩ : S33)] : List (S33)) : List (S33))).bind fun y338 => (if t335.length + y338.length < 1759218604441 then ((api_Envelope_20.f k bt317.2.2.1 (t335 ++ y338)).bind fun t344 => (if t344 = true then ((spileref42_Copy.f bt317.1 bt317.2.1 bt317.2.2.1).bind fun bt345 => ((sender_Check.f k bt345.1 bt345.2.1 bt345.2.2).bind fun t350 => (spilelaw42_SenderPends.j0 k (t350 != 0) a0_0 a0_1 l0_2 bt317.1 bt317.2.1 bt317.2.2.1 bt317.2.2.2.1 bt317.2.2.2.2.1 bt317.2.2.2.2.2.1 bt317.2.2.2.2.2.2.1 bt317.2.2.2.2.2.2.2.1 bt317.2.2.2.2.2.2.2.2.1 bt317.2.2.2.2.2.2.2.2.2.1 bt317.2.2.2.2.2.2.2.2.2.2.1 bt317.2.2.2.2.2.2.2.2.2.2.2.1 bt317.2.2.2.2.2.2.2.2.2.2.2.2.1))) else (none))) else (none)))) else (none))) else (if bt317.1 = 0 then (if bt317.2.1 = 0 then (if (bt317.2.2.1.length : Int) = 0 then (some (bt317.2.2.2.1 == 0 && (bt317.2.2.2.2.1 == 0 && (bt317.2.2.2.2.2.1 == 0 && ((bt317.2.2.2.2.2.2.1 == 0 && (bt317.2.2.2.2.2.2.2.1 == 0 && (bt317.2.2.2.2.2.2.2.2.1 == 0 && (bt317.2.2.2.2.2.2.2.2.2.1 == 0 && (bt317.2.2.2.2.2.2.2.2.2.2.1 == 0 && (bt317.2.2.2.2.2.2.2.2.2.2.2.1 == 0 && (bt317.2.2.2.2.2.2.2.2.2.2.2.2.1 == 0)))))))))))) else (none)) else (none)) else (none)))))) else (none)) = some r := H
 have A4 := Aside0.mk A40
 clear A40
 by_cases c5 : t311 = true
 ·subst c5
  have H1 : (if (l0_2.length : Int) > 14 then (some true) else ((spileref42_Copy.f a0_0 a0_1 l0_2).bind fun bt312 => ((sender_Send.f k bt312.1 bt312.2.1 bt312.2.2 a1 a2_0 a2_1 a2_2 a2_3 a2_4 a2_5 a2_6).bind fun bt317 => (if bt317.2.2.2.2.2.2.2.2.2.2.2.2.2 = 0 then (if (!(bt317.2.2.2.1 == a0_0) || (!(bt317.2.2.2.2.1 == a1) || (!(bt317.2.2.2.2.2.1 == a0_1) || ((!(bt317.2.2.2.2.2.2.1 == a2_0) || (!(bt317.2.2.2.2.2.2.2.1 == a2_1) || (!(bt317.2.2.2.2.2.2.2.2.1 == a2_2) || (!(bt317.2.2.2.2.2.2.2.2.2.1 == a2_3) || (!(bt317.2.2.2.2.2.2.2.2.2.2.1 == a2_4) || (!(bt317.2.2.2.2.2.2.2.2.2.2.2.1 == a2_5) || (!(bt317.2.2.2.2.2.2.2.2.2.2.2.2.1 == a2_6)))))))))))) = true then (none) else (if bt317.2.1 = (wrap64 (a0_1 + 1)) then ((api_Envelope_21.f l0_2).bind fun t335 => ((some (([(⟨bt317.2.2.2.1, bt317.2.2.2.2.1, bt317.2.2.2.2.2.1, (⟨bt317.2.2.2.2.2.2.1, bt317.2.2.2.2.2.2.2.1, bt317.2.2.2.2.2.2.2.2.1, bt317.2.2.2.2.2.2.2.2.2.1, bt317.2.2.2.2.2.2.2.2.2.2.1, bt317.2.2.2.2.2.2.2.2.2.2.2.1, bt317.2.2.2.2.2.2.2.2.2.2.2.2.1⟩ : S26)⟩ : S33)] : List (S33)) : List (S33))).bind fun y338 => (if t335.length + y338.length < 1759218604441 then ((api_Envelope_20.f k bt317.2.2.1 (t335 ++ y338)).bind fun t344 => (if t344 = true then ((spileref42_Copy.f bt317.1 bt317.2.1 bt317.2.2.1).bind fun bt345 => ((sender_Check.f k bt345.1 bt345.2.1 bt345.2.2).bind fun t350 => (spilelaw42_SenderPends.j0 k (t350 != 0) a0_0 a0_1 l0_2 bt317.1 bt317.2.1 bt317.2.2.1 bt317.2.2.2.1 bt317.2.2.2.2.1 bt317.2.2.2.2.2.1 bt317.2.2.2.2.2.2.1 bt317.2.2.2.2.2.2.2.1 bt317.2.2.2.2.2.2.2.2.1 bt317.2.2.2.2.2.2.2.2.2.1 bt317.2.2.2.2.2.2.2.2.2.2.1 bt317.2.2.2.2.2.2.2.2.2.2.2.1 bt317.2.2.2.2.2.2.2.2.2.2.2.2.1))) else (none))) else (none)))) else (none))) else (if bt317.1 = 0 then (if bt317.2.1 = 0 then (if (bt317.2.2.1.length : Int) = 0 then (some (bt317.2.2.2.1 == 0 && (bt317.2.2.2.2.1 == 0 && (bt317.2.2.2.2.2.1 == 0 && ((bt317.2.2.2.2.2.2.1 == 0 && (bt317.2.2.2.2.2.2.2.1 == 0 && (bt317.2.2.2.2.2.2.2.2.1 == 0 && (bt317.2.2.2.2.2.2.2.2.2.1 == 0 && (bt317.2.2.2.2.2.2.2.2.2.2.1 == 0 && (bt317.2.2.2.2.2.2.2.2.2.2.2.1 == 0 && (bt317.2.2.2.2.2.2.2.2.2.2.2.2.1 == 0)))))))))))) else (none)) else (none)) else (none)))))) = some r := by rw [if_pos rfl] at H; exact H
  clear H
  have H := H1
  clear H1
  by_cases c6 : (l0_2.length : Int) > 14
  ·rw [if_pos c6] at H
   have c6b0 : decide (14 < (l0_2.length : Int)) = true := decide_eq_true c6
   have c6b1 : decide (14 < l0_2.length) = true := decide_eq_true (by omega)
   clear c6
   obtain rfl := Option.some.inj H
   go_enter Try.func4, Try.ntmps4
   go_wp2_with (first | ((with_reducible refine gqD (N := 3) rfl ?_); (try (refine gate_guard (by rfl) ?_; dsimp only)); refine box_event ?hg (N := 3) ?hd (cs := #[.int .i64 a0_0, .int .i64 a0_1, .slice A0_2 l0_2.length c0_2]) (t := 24) ?hr ?_; (case hd => rfl); (case hg => rfl); (case hr => first | (go_simp; done) | (go_simp; rfl)); intro gb309 hg w7 hbox hb; have n0_ := Aside0.mk (lqT (by repeat (first | (with_reducible first | exact HB.out | apply lqA | apply lqN | apply lqD) | exact HB.out)) hb); have n1_ := Aside0.mk (hbox); have n2_ := Aside0.mk ((by rw [hg]; exact (lqZ (by repeat (first | (with_reducible first | exact HB.out | apply lqA | apply lqN | apply lqD) | exact HB.out))) : w.heap.size ≤ gb309)); have n3_ := Aside0.mk ((by rw [hg]; exact (lqZ (by repeat (first | (with_reducible first | exact HB.out | apply lqA | apply lqN | apply lqD) | exact HB.out))) : w.heap.size ≤ gb309)); clear HB; have HB := n0_; have BK309 := n1_; have GW309 := n2_; have GE309 := n3_; clear n0_ n1_ n2_ n3_; clear hb hbox hg) | ((with_reducible refine gqD (N := 5) rfl ?_); (try (refine gate_guard (by rfl) ?_; dsimp only)); refine box_event ?hg (N := 5) ?hd (cs := #[.int .i64 a2_0, .int .i64 a2_1, .int .i64 a2_2, .int .i64 a2_3, .int .i64 a2_4, .int .i64 a2_5, .int .i64 a2_6]) (t := 26) ?hr ?_; (case hd => rfl); (case hg => rfl); (case hr => first | (go_simp; done) | (go_simp; rfl)); intro gb310 hg w8 hbox hb; have n0_ := Aside0.mk (bqB (GS.bqX BK309.out) hb); have n1_ := Aside0.mk (lqT (by repeat (first | (with_reducible first | exact HB.out | apply lqA | apply lqN | apply lqD | refine lqS ?_ GE309.out) | exact HB.out)) hb); have n2_ := Aside0.mk (hbox); have n3_ := Aside0.mk ((by rw [hg]; exact (lqZ (by repeat (first | (with_reducible first | exact HB.out | apply lqA | apply lqN | apply lqD | refine lqS ?_ GE309.out) | exact HB.out))) : w.heap.size ≤ gb310)); have n4_ := Aside0.mk ((by rw [hg]; exact (lqZ (by repeat (first | (with_reducible first | exact HB.out | apply lqA | apply lqN | apply lqD | refine lqS ?_ GE309.out) | exact HB.out))) : w.heap.size ≤ gb310)); have n5_ := Aside0.mk ((by rw [hg]; exact Nat.ne_of_lt (blk_lt (GS.bqX BK309.out)) : gb309 ≠ gb310)); have n6_ := Aside0.mk ((by rw [hg]; exact Nat.ne_of_gt (blk_lt (GS.bqX BK309.out)) : gb310 ≠ gb309)); clear BK309; clear HB; have BK309 := n0_; have HB := n1_; have BK310 := n2_; have GW310 := n3_; have GE310 := n4_; have NB309_310 := n5_; have NB310_309 := n6_; clear n0_ n1_ n2_ n3_ n4_ n5_ n6_; clear hb hbox hg) | ((with_reducible refine gqC (f := 10) rfl ?_); refine goesL_ (some 12) rfl rfl Try.func10 (by kernel_rfl) rfl #[] rfl (by (try simp only [List.map_toArray, List.map_cons, List.map_nil]); first | done | rfl | (simp only [List.length_drop, List.length_take]; rfl)) ?_; (with_reducible refine (spilelaw42_awake.calls k  true _ A4.out).mono ?_); rintro e w9 ⟨rfl, hb⟩; refine ⟨_, rfl, ?_⟩; have n0_ := Aside0.mk (bqB (GS.bqX BK309.out) hb); have n1_ := Aside0.mk (bqB (GS.bqX BK310.out) hb); have n2_ := Aside0.mk (lqT (by repeat (first | (with_reducible first | exact HB.out | apply lqA | apply lqN | apply lqD | refine lqS ?_ GE309.out | refine lqS ?_ GE310.out) | exact HB.out)) hb); clear BK309; clear BK310; clear HB; have BK309 := n0_; have BK310 := n1_; have HB := n2_; clear n0_ n1_ n2_; (try clear hb); (try clear hb2); (try clear hk); (try clear hi); have hnb10 := NB309_310.out; have hnc10 := NB310_309.out; have hcz11_0 : w9.cell? ⟨gb309, 0, none⟩ = some (.int .i64 a0_0) := (bqC BK309.out 0).trans rfl; have hcz11_1 : w9.cell? ⟨gb309, 1, none⟩ = some (.int .i64 a0_1) := (bqC BK309.out 1).trans rfl; have hcz11_2 : w9.cell? ⟨gb309, 2, none⟩ = some (.slice A0_2 l0_2.length c0_2) := (bqC BK309.out 2).trans rfl; have hfz11_0 := bqF BK309.out 0; have hfz11_1 := bqF BK309.out 1; have hfz11_2 := bqF BK309.out 2))
   go_ret
   exact ⟨by first | rfl | (simp [errW_none, errW_some] <;> rfl) | (simp [*, errW_none, errW_some] <;> rfl), by repeat (first | (with_reducible first | exact HB.out | apply lqA | apply lqN | apply lqD | refine lqS ?_ GE309.out | refine lqS ?_ GE310.out) | exact HB.out)⟩
  ·rw [if_neg c6] at H
   have c6b0 : decide (14 < (l0_2.length : Int)) = false := decide_eq_false c6
   have c6b1 : decide (14 < l0_2.length) = false := decide_eq_false (by omega)
   clear c6
   replace H := Option.bind_eq_some_iff.mp H
   obtain ⟨⟨t312, t313, t314⟩, A120, H⟩ := H
   replace H : ((sender_Send.f k t312 t313 t314 a1 a2_0 a2_1 a2_2 a2_3 a2_4 a2_5 a2_6).bind fun bt317 => (if bt317.2.2.2.2.2.2.2.2.2.2.2.2.2 = 0 then (if (!(bt317.2.2.2.1 == a0_0) || (!(bt317.2.2.2.2.1 == a1) || (!(bt317.2.2.2.2.2.1 == a0_1) || ((!(bt317.2.2.2.2.2.2.1 == a2_0) || (!(bt317.2.2.2.2.2.2.2.1 == a2_1) || (!(bt317.2.2.2.2.2.2.2.2.1 == a2_2) || (!(bt317.2.2.2.2.2.2.2.2.2.1 == a2_3) || (!(bt317.2.2.2.2.2.2.2.2.2.2.1 == a2_4) || (!(bt317.2.2.2.2.2.2.2.2.2.2.2.1 == a2_5) || (!(bt317.2.2.2.2.2.2.2.2.2.2.2.2.1 == a2_6)))))))))))) = true then (none) else (if bt317.2.1 = (wrap64 (a0_1 + 1)) then ((api_Envelope_21.f l0_2).bind fun t335 => ((some (([(⟨bt317.2.2.2.1, bt317.2.2.2.2.1, bt317.2.2.2.2.2.1, (⟨bt317.2.2.2.2.2.2.1, bt317.2.2.2.2.2.2.2.1, bt317.2.2.2.2.2.2.2.2.1, bt317.2.2.2.2.2.2.2.2.2.1, bt317.2.2.2.2.2.2.2.2.2.2.1, bt317.2.2.2.2.2.2.2.2.2.2.2.1, bt317.2.2.2.2.2.2.2.2.2.2.2.2.1⟩ : S26)⟩ : S33)] : List (S33)) : List (S33))).bind fun y338 => (if t335.length + y338.length < 1759218604441 then ((api_Envelope_20.f k bt317.2.2.1 (t335 ++ y338)).bind fun t344 => (if t344 = true then ((spileref42_Copy.f bt317.1 bt317.2.1 bt317.2.2.1).bind fun bt345 => ((sender_Check.f k bt345.1 bt345.2.1 bt345.2.2).bind fun t350 => (spilelaw42_SenderPends.j0 k (t350 != 0) a0_0 a0_1 l0_2 bt317.1 bt317.2.1 bt317.2.2.1 bt317.2.2.2.1 bt317.2.2.2.2.1 bt317.2.2.2.2.2.1 bt317.2.2.2.2.2.2.1 bt317.2.2.2.2.2.2.2.1 bt317.2.2.2.2.2.2.2.2.1 bt317.2.2.2.2.2.2.2.2.2.1 bt317.2.2.2.2.2.2.2.2.2.2.1 bt317.2.2.2.2.2.2.2.2.2.2.2.1 bt317.2.2.2.2.2.2.2.2.2.2.2.2.1))) else (none))) else (none)))) else (none))) else (if bt317.1 = 0 then (if bt317.2.1 = 0 then (if (bt317.2.2.1.length : Int) = 0 then (some (bt317.2.2.2.1 == 0 && (bt317.2.2.2.2.1 == 0 && (bt317.2.2.2.2.2.1 == 0 && ((bt317.2.2.2.2.2.2.1 == 0 && (bt317.2.2.2.2.2.2.2.1 == 0 && (bt317.2.2.2.2.2.2.2.2.1 == 0 && (bt317.2.2.2.2.2.2.2.2.2.1 == 0 && (bt317.2.2.2.2.2.2.2.2.2.2.1 == 0 && (bt317.2.2.2.2.2.2.2.2.2.2.2.1 == 0 && (bt317.2.2.2.2.2.2.2.2.2.2.2.2.1 == 0)))))))))))) else (none)) else (none)) else (none)))) = some r := H
   have A12 := Aside0.mk A120
   clear A120
   replace H := Option.bind_eq_some_iff.mp H
   obtain ⟨⟨t317, t318, t319, t322, t323, t324, t325, t326, t327, t328, t329, t330, t331, t332⟩, A130, H⟩ := H
   replace H : (if t332 = 0 then (if (!(t322 == a0_0) || (!(t323 == a1) || (!(t324 == a0_1) || ((!(t325 == a2_0) || (!(t326 == a2_1) || (!(t327 == a2_2) || (!(t328 == a2_3) || (!(t329 == a2_4) || (!(t330 == a2_5) || (!(t331 == a2_6)))))))))))) = true then (none) else (if t318 = (wrap64 (a0_1 + 1)) then ((api_Envelope_21.f l0_2).bind fun t335 => ((some (([(⟨t322, t323, t324, (⟨t325, t326, t327, t328, t329, t330, t331⟩ : S26)⟩ : S33)] : List (S33)) : List (S33))).bind fun y338 => (if t335.length + y338.length < 1759218604441 then ((api_Envelope_20.f k t319 (t335 ++ y338)).bind fun t344 => (if t344 = true then ((spileref42_Copy.f t317 t318 t319).bind fun bt345 => ((sender_Check.f k bt345.1 bt345.2.1 bt345.2.2).bind fun t350 => (spilelaw42_SenderPends.j0 k (t350 != 0) a0_0 a0_1 l0_2 t317 t318 t319 t322 t323 t324 t325 t326 t327 t328 t329 t330 t331))) else (none))) else (none)))) else (none))) else (if t317 = 0 then (if t318 = 0 then (if (t319.length : Int) = 0 then (some (t322 == 0 && (t323 == 0 && (t324 == 0 && ((t325 == 0 && (t326 == 0 && (t327 == 0 && (t328 == 0 && (t329 == 0 && (t330 == 0 && (t331 == 0)))))))))))) else (none)) else (none)) else (none))) = some r := H
   have A13 := Aside0.mk A130
   clear A130
   by_cases c14 : t332 = 0
   ·rw [if_pos c14] at H
    have c14b0 : (t332 == 0) = true := beq_iff_eq.mpr c14
    try simp only [beq_self_eq_true, Bool.not_true, Bool.false_or, Bool.true_and] at c14b0
    have c14b1 : (t332 != 0) = false := bne_eq_false_iff_eq.mpr c14
    clear c14
    have HC15 := Aside0.mk H
    clear H
    go_enter Try.func4, Try.ntmps4
    try go_wp2_with (first | ((with_reducible refine gqD (N := 3) rfl ?_); (try (refine gate_guard (by rfl) ?_; dsimp only)); refine box_event ?hg (N := 3) ?hd (cs := #[.int .i64 a0_0, .int .i64 a0_1, .slice A0_2 l0_2.length c0_2]) (t := 24) ?hr ?_; (case hd => rfl); (case hg => rfl); (case hr => first | (go_simp; done) | (go_simp; rfl)); intro gb309 hg w16 hbox hb; have n0_ := Aside0.mk (lqT (by repeat (first | (with_reducible first | exact HB.out | apply lqA | apply lqN | apply lqD) | exact HB.out)) hb); have n1_ := Aside0.mk (hbox); have n2_ := Aside0.mk ((by rw [hg]; exact (lqZ (by repeat (first | (with_reducible first | exact HB.out | apply lqA | apply lqN | apply lqD) | exact HB.out))) : w.heap.size ≤ gb309)); have n3_ := Aside0.mk ((by rw [hg]; exact (lqZ (by repeat (first | (with_reducible first | exact HB.out | apply lqA | apply lqN | apply lqD) | exact HB.out))) : w.heap.size ≤ gb309)); clear HB; have HB := n0_; have BK309 := n1_; have GW309 := n2_; have GE309 := n3_; clear n0_ n1_ n2_ n3_; clear hb hbox hg) | ((with_reducible refine gqD (N := 5) rfl ?_); (try (refine gate_guard (by rfl) ?_; dsimp only)); refine box_event ?hg (N := 5) ?hd (cs := #[.int .i64 a2_0, .int .i64 a2_1, .int .i64 a2_2, .int .i64 a2_3, .int .i64 a2_4, .int .i64 a2_5, .int .i64 a2_6]) (t := 26) ?hr ?_; (case hd => rfl); (case hg => rfl); (case hr => first | (go_simp; done) | (go_simp; rfl)); intro gb310 hg w17 hbox hb; have n0_ := Aside0.mk (bqB (GS.bqX BK309.out) hb); have n1_ := Aside0.mk (lqT (by repeat (first | (with_reducible first | exact HB.out | apply lqA | apply lqN | apply lqD | refine lqS ?_ GE309.out) | exact HB.out)) hb); have n2_ := Aside0.mk (hbox); have n3_ := Aside0.mk ((by rw [hg]; exact (lqZ (by repeat (first | (with_reducible first | exact HB.out | apply lqA | apply lqN | apply lqD | refine lqS ?_ GE309.out) | exact HB.out))) : w.heap.size ≤ gb310)); have n4_ := Aside0.mk ((by rw [hg]; exact (lqZ (by repeat (first | (with_reducible first | exact HB.out | apply lqA | apply lqN | apply lqD | refine lqS ?_ GE309.out) | exact HB.out))) : w.heap.size ≤ gb310)); have n5_ := Aside0.mk ((by rw [hg]; exact Nat.ne_of_lt (blk_lt (GS.bqX BK309.out)) : gb309 ≠ gb310)); have n6_ := Aside0.mk ((by rw [hg]; exact Nat.ne_of_gt (blk_lt (GS.bqX BK309.out)) : gb310 ≠ gb309)); clear BK309; clear HB; have BK309 := n0_; have HB := n1_; have BK310 := n2_; have GW310 := n3_; have GE310 := n4_; have NB309_310 := n5_; have NB310_309 := n6_; clear n0_ n1_ n2_ n3_ n4_ n5_ n6_; clear hb hbox hg) | ((with_reducible refine gqC (f := 10) rfl ?_); refine goesL_ (some 12) rfl rfl Try.func10 (by kernel_rfl) rfl #[] rfl (by (try simp only [List.map_toArray, List.map_cons, List.map_nil]); first | done | rfl | (simp only [List.length_drop, List.length_take]; rfl)) ?_; (with_reducible refine (spilelaw42_awake.calls k  true _ A4.out).mono ?_); rintro e w18 ⟨rfl, hb⟩; refine ⟨_, rfl, ?_⟩; have n0_ := Aside0.mk (bqB (GS.bqX BK309.out) hb); have n1_ := Aside0.mk (bqB (GS.bqX BK310.out) hb); have n2_ := Aside0.mk (lqT (by repeat (first | (with_reducible first | exact HB.out | apply lqA | apply lqN | apply lqD | refine lqS ?_ GE309.out | refine lqS ?_ GE310.out) | exact HB.out)) hb); clear BK309; clear BK310; clear HB; have BK309 := n0_; have BK310 := n1_; have HB := n2_; clear n0_ n1_ n2_; (try clear hb); (try clear hb2); (try clear hk); (try clear hi); have hnb19 := NB309_310.out; have hnc19 := NB310_309.out; have hcz20_0 : w18.cell? ⟨gb309, 0, none⟩ = some (.int .i64 a0_0) := (bqC BK309.out 0).trans rfl; have hcz20_1 : w18.cell? ⟨gb309, 1, none⟩ = some (.int .i64 a0_1) := (bqC BK309.out 1).trans rfl; have hcz20_2 : w18.cell? ⟨gb309, 2, none⟩ = some (.slice A0_2 l0_2.length c0_2) := (bqC BK309.out 2).trans rfl; have hfz20_0 := bqF BK309.out 0; have hfz20_1 := bqF BK309.out 1; have hfz20_2 := bqF BK309.out 2))
    have n0_ := Aside0.mk (bqD BK309.out)
    have n1_ := Aside0.mk (bqD BK310.out)
    have n2_ := Aside0.mk (lqD HB.out)
    clear BK309
    clear BK310
    clear HB
    have BK309 := n0_
    have BK310 := n1_
    have HB := n2_
    clear n0_ n1_ n2_
    refine start_ (n := 14) (S := fun w' => True) (ds := []) #[false, false, false, false, false, false, false, false, false, false, false, false, false, false] (by kernel_rfl) rfl rfl trivial (fun hHeld => ?_); refine with_tabW spilelaw42_SenderPends.tab5 spilelaw42_SenderPends.bits5 (fun HT_ HW_ => ?_)
    generalize w18.drew = w21 at BK309 BK310 HB hHeld ⊢
    refine pure_ (i := 2) (N := some 21) (v := ?_) (a' := ?_) #[false, false, true, false, false, false, false, false, false, false, false, false, false, false] rfl rfl (any_of HT_.out (by kernel_rfl)) (fun _ _ _ h => h) (Or.inl ⟨by rfl, ?_⟩) ?_ ?_
    rotate_left
    ·intro w'
     go_simp
     with_reducible rfl
    rotate_left
    ·simp only [Act.put, List.setIfInBounds_toArray, List.set_cons_zero, List.set_cons_succ, i64_w, i32_w]
     rfl
    refine inv_at [0, 1, 3, 4, 5, 6, 7, 8, 9, 10, 11, 12, 13] (fun a0_ b a w' => ∃ (v315 : Value) (v320 : Value) (gb333 : Nat) (gb334 : Nat) (m1_ : Value) (m4_ : Value) (m5_ : Value) (m6_ : Value) (m9_ : Value) (m10_ : Value), a = putSel a0_ b [(0, 19, .agg #[.int .i64 a0_0, .int .i64 a0_1, .slice A0_2 l0_2.length c0_2]), (1, 20, m1_), (3, 22, .agg #[.int .i64 a2_0, .int .i64 a2_1, .int .i64 a2_2, .int .i64 a2_3, .int .i64 a2_4, .int .i64 a2_5, .int .i64 a2_6]), (4, 23, m4_), (5, 18, m5_), (6, 24, m6_), (7, 25, .agg #[.int .i64 t322, .int .i64 t323, .int .i64 t324, .int .i64 t325, .int .i64 t326, .int .i64 t327, .int .i64 t328, .int .i64 t329, .int .i64 t330, .int .i64 t331]), (8, 26, .int .i64 t332), (9, 7, m9_), (10, 8, m10_), (13, 9, .int .i64 t332)] ∧ (w'.heap[gb309]? = some (.cells #[.int .i64 a0_0, .int .i64 a0_1, .slice A0_2 l0_2.length c0_2] 24 (0, 0))) ∧ (w'.heap[gb310]? = some (.cells #[.int .i64 a2_0, .int .i64 a2_1, .int .i64 a2_2, .int .i64 a2_3, .int .i64 a2_4, .int .i64 a2_5, .int .i64 a2_6] 26 (0, 0))) ∧ (Below w.heap.size w w') ∧ (b 9 = true → b 10 = true → gb334 ≠ gb333) ∧ (b 9 = true → b 10 = true → gb333 ≠ gb334) ∧ (b 1 = true → Kd.R k33 33 w' w.heap.size (fun _ => True) v315 t314) ∧ (b 4 = true → Kd.R k33 33 w' w.heap.size (fun k_ => some k_ ≠ (v315 : Value).ownBlock) v320 t319) ∧ (b 9 = true → b 11 = false → w'.heap[gb333]? = some (.cells #[.int .i64 0, .int .i64 0, .slice none 0 0] 24 (0, 0))) ∧ (b 9 = true → w.heap.size ≤ gb333) ∧ (b 9 = true → w.heap.size ≤ gb333) ∧ (b 9 = true → gb309 ≠ gb333) ∧ (b 9 = true → gb333 ≠ gb309) ∧ (b 9 = true → gb310 ≠ gb333) ∧ (b 9 = true → gb333 ≠ gb310) ∧ (b 10 = true → b 12 = false → w'.heap[gb334]? = some (.cells #[.int .i64 0, .int .i64 0, .int .i64 0, .int .i64 0, .int .i64 0, .int .i64 0, .int .i64 0, .int .i64 0, .int .i64 0, .int .i64 0] 33 (0, 0))) ∧ (b 10 = true → w.heap.size ≤ gb334) ∧ (b 10 = true → w.heap.size ≤ gb334) ∧ (b 10 = true → gb309 ≠ gb334) ∧ (b 10 = true → gb334 ≠ gb309) ∧ (b 10 = true → gb310 ≠ gb334) ∧ (b 10 = true → gb334 ≠ gb310) ∧ (b 11 = true → w'.heap[gb333]? = some (.cells #[.int .i64 t317, .int .i64 t318, v320] 24 (0, 0))) ∧ (b 12 = true → w'.heap[gb334]? = some (.cells #[.int .i64 t322, .int .i64 t323, .int .i64 t324, .int .i64 t325, .int .i64 t326, .int .i64 t327, .int .i64 t328, .int .i64 t329, .int .i64 t330, .int .i64 t331] 33 (0, 0))) ∧ (b 1 = true → b 10 = true → Kd.R k33 33 w' w.heap.size (fun k_ => k_ ≠ gb334) v315 t314) ∧ (b 4 = true → b 10 = true → Kd.R k33 33 w' w.heap.size (fun k_ => k_ ≠ gb334 ∧ some k_ ≠ (v315 : Value).ownBlock) v320 t319) ∧ (b 1 = true → (m1_ : Value) = .agg #[.int .i64 t312, .int .i64 t313, v315]) ∧ (b 4 = true → (m4_ : Value) = .tuple #[.agg #[.int .i64 t317, .int .i64 t318, v320], .agg #[.int .i64 t322, .int .i64 t323, .int .i64 t324, .int .i64 t325, .int .i64 t326, .int .i64 t327, .int .i64 t328, .int .i64 t329, .int .i64 t330, .int .i64 t331], .int .i64 t332]) ∧ (b 5 = true → (m5_ : Value) = .tuple #[.agg #[.int .i64 t317, .int .i64 t318, v320], .agg #[.int .i64 t322, .int .i64 t323, .int .i64 t324, .int .i64 t325, .int .i64 t326, .int .i64 t327, .int .i64 t328, .int .i64 t329, .int .i64 t330, .int .i64 t331], .int .i64 t332]) ∧ (b 6 = true → (m6_ : Value) = .agg #[.int .i64 t317, .int .i64 t318, v320]) ∧ (b 9 = true → (m9_ : Value) = .pointer (some ⟨gb333, 0, none⟩)) ∧ (b 10 = true → (m10_ : Value) = .pointer (some ⟨gb334, 0, none⟩))) HT_.out HW_.out (by kernel_rfl) (by kernel_rfl) ?_ ?_ ?_
    ·exact ⟨.bool false, .bool false, 0, 0, .bool false, .bool false, .bool false, .bool false, .bool false, .bool false, by simp only [putSel, Bool.false_eq_true, if_false], BK309.out, BK310.out, HB.out, fun h_ => absurd h_ (by decide), fun h_ => absurd h_ (by decide), fun h_ => absurd h_ (by decide), fun h_ => absurd h_ (by decide), fun h_ => absurd h_ (by decide), fun h_ => absurd h_ (by decide), fun h_ => absurd h_ (by decide), fun h_ => absurd h_ (by decide), fun h_ => absurd h_ (by decide), fun h_ => absurd h_ (by decide), fun h_ => absurd h_ (by decide), fun h_ => absurd h_ (by decide), fun h_ => absurd h_ (by decide), fun h_ => absurd h_ (by decide), fun h_ => absurd h_ (by decide), fun h_ => absurd h_ (by decide), fun h_ => absurd h_ (by decide), fun h_ => absurd h_ (by decide), fun h_ => absurd h_ (by decide), fun h_ => absurd h_ (by decide), fun h_ => absurd h_ (by decide), fun h_ => absurd h_ (by decide), fun h_ => absurd h_ (by decide), fun h_ => absurd h_ (by decide), fun h_ => absurd h_ (by decide), fun h_ => absurd h_ (by decide), fun h_ => absurd h_ (by decide), fun h_ => absurd h_ (by decide)⟩
    ·skip
     clear BK309 BK310 HB
     refine steps_cons ?_ ?_
     ·rintro b a w' ⟨v315, v320, gb333, gb334, m1_, m4_, m5_, m6_, m9_, m10_, ha, Q_BK309, Q_BK310, Q_HB, Q_NB334_333, Q_NB333_334, Q_HO316_e1, Q_HO321_e4, Q_BK333, Q_GW333, Q_GE333, Q_NB309_333, Q_NB333_309, Q_NB310_333, Q_NB333_310, Q_BK334, Q_GW334, Q_GE334, Q_NB309_334, Q_NB334_309, Q_NB310_334, Q_NB334_310, Q_BK333_e11, Q_BK334_e12, Q_HO316_p1_10, Q_HO321_p4_10, Q_X1_, Q_X4_, Q_X5_, Q_X6_, Q_X9_, Q_X10_⟩ hb_ hon hoff
      refine ⟨_, rfl, fun K hK => ?_⟩
      have e3 : a.tmps[3]? = some (.pointer (some ⟨gb309, 0, none⟩)) := by rw [ha]; exact (putSel_off rfl).trans rfl
      replace ha := Aside0.mk ha
      have BK309 := Aside0.mk Q_BK309
      have BK310 := Aside0.mk Q_BK310
      have HB := Aside0.mk Q_HB
      have hc0_ : w'.cell? ⟨gb309, 0, none⟩ = some (.int .i64 a0_0) := (bqC BK309.out 0).trans rfl
      have hc1_ : w'.cell? ⟨gb309, 1, none⟩ = some (.int .i64 a0_1) := (bqC BK309.out 1).trans rfl
      have hc2_ : w'.cell? ⟨gb309, 2, none⟩ = some (.slice A0_2 l0_2.length c0_2) := (bqC BK309.out 2).trans rfl
      refine value_ (w1 := w') (v := .agg #[.int .i64 a0_0, .int .i64 a0_1, .slice A0_2 l0_2.length c0_2]) (by rfl) rfl ?_ ?_
      ·go_simp
       (try simp only [i64_w])
       try rfl
      refine hK.out _ _ ⟨v315, v320, gb333, gb334, m1_, m4_, m5_, m6_, m9_, m10_, (by rw [ha.out]; exact putSel_upk 0 hb_ rfl rfl rfl), Q_BK309, Q_BK310, Q_HB, Q_NB334_333, Q_NB333_334, fun h0_ => absurd ((hoff 1 (by kernel_rfl)).symm.trans h0_) (by decide), fun h0_ => absurd ((hoff 4 (by kernel_rfl)).symm.trans h0_) (by decide), Q_BK333, Q_GW333, Q_GE333, Q_NB309_333, Q_NB333_309, Q_NB310_333, Q_NB333_310, Q_BK334, Q_GW334, Q_GE334, Q_NB309_334, Q_NB334_309, Q_NB310_334, Q_NB334_310, fun h0_ => absurd ((hoff 11 (by kernel_rfl)).symm.trans h0_) (by decide), fun h0_ => absurd ((hoff 12 (by kernel_rfl)).symm.trans h0_) (by decide), fun h0_ _ => absurd ((hoff 1 (by kernel_rfl)).symm.trans h0_) (by decide), fun h0_ _ => absurd ((hoff 4 (by kernel_rfl)).symm.trans h0_) (by decide), fun h0_ => absurd ((hoff 1 (by kernel_rfl)).symm.trans h0_) (by decide), fun h0_ => absurd ((hoff 4 (by kernel_rfl)).symm.trans h0_) (by decide), fun h0_ => absurd ((hoff 5 (by kernel_rfl)).symm.trans h0_) (by decide), fun h0_ => absurd ((hoff 6 (by kernel_rfl)).symm.trans h0_) (by decide), Q_X9_, Q_X10_⟩
     refine steps_cons ?_ ?_
     ·rintro b a w' ⟨v315, v320, gb333, gb334, m1_, m4_, m5_, m6_, m9_, m10_, ha, Q_BK309, Q_BK310, Q_HB, Q_NB334_333, Q_NB333_334, Q_HO316_e1, Q_HO321_e4, Q_BK333, Q_GW333, Q_GE333, Q_NB309_333, Q_NB333_309, Q_NB310_333, Q_NB333_310, Q_BK334, Q_GW334, Q_GE334, Q_NB309_334, Q_NB334_309, Q_NB310_334, Q_NB334_310, Q_BK333_e11, Q_BK334_e12, Q_HO316_p1_10, Q_HO321_p4_10, Q_X1_, Q_X4_, Q_X5_, Q_X6_, Q_X9_, Q_X10_⟩ hb_ hon hoff
      refine ⟨_, rfl, fun K hK => ?_⟩
      have e19 : a.tmps[19]? = some (.agg #[.int .i64 a0_0, .int .i64 a0_1, .slice A0_2 l0_2.length c0_2]) := by rw [ha]; exact putSel_on (e := (0, 19, .agg #[.int .i64 a0_0, .int .i64 a0_1, .slice A0_2 l0_2.length c0_2])) 0 rfl rfl (hon 0 (by kernel_rfl)) rfl
      replace ha := Aside0.mk ha
      have BK309 := Aside0.mk Q_BK309
      have BK310 := Aside0.mk Q_BK310
      have HB := Aside0.mk Q_HB
      refine goes_ Try.func15 (by kernel_rfl) rfl #[.agg #[.int .i64 a0_0, .int .i64 a0_1, .slice A0_2 l0_2.length c0_2]] (by rfl) rfl rfl (by first | (simp only [List.map_toArray, List.map_cons, List.map_nil, Act.eval, Array.getD_eq_getD_getElem?, Option.getD_some, e19]; done) | (simp only [List.map_toArray, List.map_cons, List.map_nil, Act.eval, Array.getD_eq_getD_getElem?, Option.getD_some, e19]; rfl)) ?_
      with_reducible refine (spileref42_Copy.calls a0_0 a0_1 _ _ l0_2 t312 t313 t314 _ ?side1 ?side2 A12.out).mono ?_
      (case side1 => repeat (first | exact (Kd.C_below HR0_2.out HB.out) | (with_reducible refine Kd.C_alloc ?_ _) | (with_reducible refine Kd.C_drewN ?_ _) | (with_reducible refine Kd.C_drew ?_)))
      (case side2 => exact HC0_2.out)
      rintro e w22 ⟨v315, rfl, ho0, hb⟩
      refine ⟨_, rfl, ?_⟩
      have n0_ := Aside0.mk (Kd.R_lower ho0 (lqZ (by repeat (first | (with_reducible first | exact HB.out | apply lqA | apply lqN | apply lqD | refine lqS ?_ GE309.out | refine lqS ?_ GE310.out) | exact HB.out))))
      have n1_ := Aside0.mk (bqB (GS.bqX BK309.out) hb)
      have n2_ := Aside0.mk (bqB (GS.bqX BK310.out) hb)
      have n3_ := Aside0.mk (lqT (by repeat (first | (with_reducible first | exact HB.out | apply lqA | apply lqN | apply lqD | refine lqS ?_ GE309.out | refine lqS ?_ GE310.out) | exact HB.out)) hb)
      have z_BK333 := fun (h0_ : b 9 = true) (h1_ : b 11 = false) => (show w22.heap[gb333]? = some (.cells #[.int .i64 0, .int .i64 0, .slice none 0 0] 24 (0, 0)) from by first | exact (bqB (GS.bqX (Q_BK333 h0_ h1_)) hb))
      have z_BK334 := fun (h0_ : b 10 = true) (h1_ : b 12 = false) => (show w22.heap[gb334]? = some (.cells #[.int .i64 0, .int .i64 0, .int .i64 0, .int .i64 0, .int .i64 0, .int .i64 0, .int .i64 0, .int .i64 0, .int .i64 0, .int .i64 0] 33 (0, 0)) from by first | exact (bqB (GS.bqX (Q_BK334 h0_ h1_)) hb))
      have z_HO316_p1_10 := fun (h0_ : up b 1 1 = true) (h1_ : up b 1 10 = true) => (show Kd.R k33 33 w22 w.heap.size (fun k_ => k_ ≠ gb334) v315 t314 from (Kd.R_mono (Kd.R_lower (Kd.R_newB ho0 (GS.bqX (Q_BK334 h1_ (hoff 12 (by kernel_rfl))))) (lqZ (by repeat (first | (with_reducible first | exact HB.out | apply lqA | apply lqN | apply lqD | refine lqS ?_ GE309.out | refine lqS ?_ GE310.out | refine lqS ?_ (Q_GE334 h1_)) | exact HB.out)))) (fun _ hk => GS.cj hk)))
      clear BK309
      clear BK310
      clear HB
      have HO316 := n0_
      have BK309 := n1_
      have BK310 := n2_
      have HB := n3_
      clear n0_ n1_ n2_ n3_
      (try clear hb)
      (try clear hb2)
      (try clear hk)
      (try clear hi)
      (try clear ho0)
      refine hK.out _ _ ⟨v315, v320, gb333, gb334, (.agg #[.int .i64 t312, .int .i64 t313, v315]), m4_, m5_, m6_, m9_, m10_, (by rw [ha.out]; exact putSel_upk 1 hb_ rfl rfl rfl), (GS.bqX BK309.out), (GS.bqX BK310.out), (by repeat (first | (with_reducible first | exact HB.out | apply lqA | apply lqN | apply lqD | refine lqS ?_ GE309.out | refine lqS ?_ GE310.out) | exact HB.out)), Q_NB334_333, Q_NB333_334, fun _ => (by (with_reducible repeat (first | apply Kd.R_alloc | apply Kd.R_drewN | apply Kd.R_drew)); exact HO316.out), fun h0_ => absurd ((hoff 4 (by kernel_rfl)).symm.trans h0_) (by decide), z_BK333, Q_GW333, Q_GE333, Q_NB309_333, Q_NB333_309, Q_NB310_333, Q_NB333_310, z_BK334, Q_GW334, Q_GE334, Q_NB309_334, Q_NB334_309, Q_NB310_334, Q_NB334_310, fun h0_ => absurd ((hoff 11 (by kernel_rfl)).symm.trans h0_) (by decide), fun h0_ => absurd ((hoff 12 (by kernel_rfl)).symm.trans h0_) (by decide), z_HO316_p1_10, fun h0_ _ => absurd ((hoff 4 (by kernel_rfl)).symm.trans h0_) (by decide), fun _ => rfl, fun h0_ => absurd ((hoff 4 (by kernel_rfl)).symm.trans h0_) (by decide), fun h0_ => absurd ((hoff 5 (by kernel_rfl)).symm.trans h0_) (by decide), fun h0_ => absurd ((hoff 6 (by kernel_rfl)).symm.trans h0_) (by decide), Q_X9_, Q_X10_⟩
     refine steps_cons ?_ ?_
     ·rintro b a w' ⟨v315, v320, gb333, gb334, m1_, m4_, m5_, m6_, m9_, m10_, ha, Q_BK309, Q_BK310, Q_HB, Q_NB334_333, Q_NB333_334, Q_HO316_e1, Q_HO321_e4, Q_BK333, Q_GW333, Q_GE333, Q_NB309_333, Q_NB333_309, Q_NB310_333, Q_NB333_310, Q_BK334, Q_GW334, Q_GE334, Q_NB309_334, Q_NB334_309, Q_NB310_334, Q_NB334_310, Q_BK333_e11, Q_BK334_e12, Q_HO316_p1_10, Q_HO321_p4_10, Q_X1_, Q_X4_, Q_X5_, Q_X6_, Q_X9_, Q_X10_⟩ hb_ hon hoff
      refine ⟨_, rfl, fun K hK => ?_⟩
      have e5 : a.tmps[5]? = some (.pointer (some ⟨gb310, 0, none⟩)) := by rw [ha]; exact (putSel_off rfl).trans rfl
      replace ha := Aside0.mk ha
      have BK309 := Aside0.mk Q_BK309
      have BK310 := Aside0.mk Q_BK310
      have HB := Aside0.mk Q_HB
      have hc0_ : w'.cell? ⟨gb310, 0, none⟩ = some (.int .i64 a2_0) := (bqC BK310.out 0).trans rfl
      have hc1_ : w'.cell? ⟨gb310, 1, none⟩ = some (.int .i64 a2_1) := (bqC BK310.out 1).trans rfl
      have hc2_ : w'.cell? ⟨gb310, 2, none⟩ = some (.int .i64 a2_2) := (bqC BK310.out 2).trans rfl
      have hc3_ : w'.cell? ⟨gb310, 3, none⟩ = some (.int .i64 a2_3) := (bqC BK310.out 3).trans rfl
      have hc4_ : w'.cell? ⟨gb310, 4, none⟩ = some (.int .i64 a2_4) := (bqC BK310.out 4).trans rfl
      have hc5_ : w'.cell? ⟨gb310, 5, none⟩ = some (.int .i64 a2_5) := (bqC BK310.out 5).trans rfl
      have hc6_ : w'.cell? ⟨gb310, 6, none⟩ = some (.int .i64 a2_6) := (bqC BK310.out 6).trans rfl
      refine value_ (w1 := w') (v := .agg #[.int .i64 a2_0, .int .i64 a2_1, .int .i64 a2_2, .int .i64 a2_3, .int .i64 a2_4, .int .i64 a2_5, .int .i64 a2_6]) (by rfl) rfl ?_ ?_
      ·go_simp
       (try simp only [i64_w])
       try rfl
      refine hK.out _ _ ⟨v315, v320, gb333, gb334, m1_, m4_, m5_, m6_, m9_, m10_, (by rw [ha.out]; exact putSel_upk 2 hb_ rfl rfl rfl), Q_BK309, Q_BK310, Q_HB, Q_NB334_333, Q_NB333_334, Q_HO316_e1, fun h0_ => absurd ((hoff 4 (by kernel_rfl)).symm.trans h0_) (by decide), Q_BK333, Q_GW333, Q_GE333, Q_NB309_333, Q_NB333_309, Q_NB310_333, Q_NB333_310, Q_BK334, Q_GW334, Q_GE334, Q_NB309_334, Q_NB334_309, Q_NB310_334, Q_NB334_310, fun h0_ => absurd ((hoff 11 (by kernel_rfl)).symm.trans h0_) (by decide), fun h0_ => absurd ((hoff 12 (by kernel_rfl)).symm.trans h0_) (by decide), Q_HO316_p1_10, fun h0_ _ => absurd ((hoff 4 (by kernel_rfl)).symm.trans h0_) (by decide), Q_X1_, fun h0_ => absurd ((hoff 4 (by kernel_rfl)).symm.trans h0_) (by decide), fun h0_ => absurd ((hoff 5 (by kernel_rfl)).symm.trans h0_) (by decide), fun h0_ => absurd ((hoff 6 (by kernel_rfl)).symm.trans h0_) (by decide), Q_X9_, Q_X10_⟩
     refine steps_cons ?_ ?_
     ·rintro b a w' ⟨v315, v320, gb333, gb334, m1_, m4_, m5_, m6_, m9_, m10_, ha, Q_BK309, Q_BK310, Q_HB, Q_NB334_333, Q_NB333_334, Q_HO316_e1, Q_HO321_e4, Q_BK333, Q_GW333, Q_GE333, Q_NB309_333, Q_NB333_309, Q_NB310_333, Q_NB333_310, Q_BK334, Q_GW334, Q_GE334, Q_NB309_334, Q_NB334_309, Q_NB310_334, Q_NB334_310, Q_BK333_e11, Q_BK334_e12, Q_HO316_p1_10, Q_HO321_p4_10, Q_X1_, Q_X4_, Q_X5_, Q_X6_, Q_X9_, Q_X10_⟩ hb_ hon hoff
      refine ⟨_, rfl, fun K hK => ?_⟩
      have e20 : a.tmps[20]? = some (m1_) := by rw [ha]; exact putSel_on (e := (1, 20, m1_)) 1 rfl rfl (hon 1 (by kernel_rfl)) rfl
      rw [Q_X1_ (hon 1 (by kernel_rfl))] at e20
      have e21 : a.tmps[21]? = some (.int .i64 a1) := by rw [ha]; exact (putSel_off rfl).trans rfl
      have e22 : a.tmps[22]? = some (.agg #[.int .i64 a2_0, .int .i64 a2_1, .int .i64 a2_2, .int .i64 a2_3, .int .i64 a2_4, .int .i64 a2_5, .int .i64 a2_6]) := by rw [ha]; exact putSel_on (e := (3, 22, .agg #[.int .i64 a2_0, .int .i64 a2_1, .int .i64 a2_2, .int .i64 a2_3, .int .i64 a2_4, .int .i64 a2_5, .int .i64 a2_6])) 2 rfl rfl (hon 3 (by kernel_rfl)) rfl
      replace ha := Aside0.mk ha
      have BK309 := Aside0.mk Q_BK309
      have BK310 := Aside0.mk Q_BK310
      have HB := Aside0.mk Q_HB
      have HO316 := Aside0.mk (Q_HO316_e1 (hon 1 (by kernel_rfl)))
      obtain ⟨Ao24, co24, eo24⟩ := Kd.R_slice HO316.out
      (first | subst eo24 | (injection eo24 with f1_ f2_ f3_; have f4_ := f1_.symm; have f5_ := f3_.symm; clear f1_ f2_ f3_; subst f4_; subst f5_))
      refine goes_ Try.func14 (by kernel_rfl) rfl #[.agg #[.int .i64 t312, .int .i64 t313, .slice Ao24 t314.length co24], .int .i64 a1, .agg #[.int .i64 a2_0, .int .i64 a2_1, .int .i64 a2_2, .int .i64 a2_3, .int .i64 a2_4, .int .i64 a2_5, .int .i64 a2_6]] (by rfl) rfl rfl (by first | (simp only [List.map_toArray, List.map_cons, List.map_nil, Act.eval, Array.getD_eq_getD_getElem?, Option.getD_some, e20, e21, e22]; done) | (simp only [List.map_toArray, List.map_cons, List.map_nil, Act.eval, Array.getD_eq_getD_getElem?, Option.getD_some, e20, e21, e22]; rfl)) ?_
      with_reducible refine (sender_Send.calls k t312 t313 _ _ t314 a1 a2_0 a2_1 a2_2 a2_3 a2_4 a2_5 a2_6 t317 t318 t319 t322 t323 t324 t325 t326 t327 t328 t329 t330 t331 t332 _ ?side1 ?side2 A13.out).mono ?_
      (case side1 => repeat (first | exact (Kd.R_reads' HO316.out).2.2 | (with_reducible refine Kd.C_alloc ?_ _) | (with_reducible refine Kd.C_drewN ?_ _) | (with_reducible refine Kd.C_drew ?_)))
      (case side2 => exact (Kd.R_reads' HO316.out).2.1)
      rintro e w25 ⟨v320, rfl, ho0, hb⟩
      refine ⟨_, rfl, ?_⟩
      have n0_ := Aside0.mk (Kd.R_elder' (by (with_reducible repeat (first | apply Kd.R_alloc | apply Kd.R_drewN | apply Kd.R_drew)); exact HO316.out) (Kd.R_base ho0) hb)
      have n1_ := Aside0.mk (Kd.R_lower (Kd.R_new' ho0 (Kd.R_lt (by (with_reducible repeat (first | apply Kd.R_alloc | apply Kd.R_drewN | apply Kd.R_drew)); exact HO316.out))) (lqZ (by repeat (first | (with_reducible first | exact HB.out | apply lqA | apply lqN | apply lqD | refine lqS ?_ GE309.out | refine lqS ?_ GE310.out) | exact HB.out))))
      have n2_ := Aside0.mk (bqB (GS.bqX BK309.out) hb)
      have n3_ := Aside0.mk (bqB (GS.bqX BK310.out) hb)
      have n4_ := Aside0.mk (lqT (by repeat (first | (with_reducible first | exact HB.out | apply lqA | apply lqN | apply lqD | refine lqS ?_ GE309.out | refine lqS ?_ GE310.out) | exact HB.out)) hb)
      have z_BK333 := fun (h0_ : b 9 = true) (h1_ : b 11 = false) => (show w25.heap[gb333]? = some (.cells #[.int .i64 0, .int .i64 0, .slice none 0 0] 24 (0, 0)) from by first | exact (bqB (GS.bqX (Q_BK333 h0_ h1_)) hb))
      have z_BK334 := fun (h0_ : b 10 = true) (h1_ : b 12 = false) => (show w25.heap[gb334]? = some (.cells #[.int .i64 0, .int .i64 0, .int .i64 0, .int .i64 0, .int .i64 0, .int .i64 0, .int .i64 0, .int .i64 0, .int .i64 0, .int .i64 0] 33 (0, 0)) from by first | exact (bqB (GS.bqX (Q_BK334 h0_ h1_)) hb))
      have z_HO316_p1_10 := fun (h0_ : b 1 = true) (h1_ : b 10 = true) => (show Kd.R k33 33 w25 w.heap.size (fun k_ => k_ ≠ gb334) (.slice Ao24 t314.length co24) t314 from by first | exact (Kd.R_elder' (by (with_reducible repeat (first | apply Kd.R_alloc | apply Kd.R_drewN | apply Kd.R_drew)); exact (Q_HO316_p1_10 h0_ h1_)) (Kd.R_base ho0) hb) | exact Kd.R_mono (Kd.R_elder' (by (with_reducible repeat (first | apply Kd.R_alloc | apply Kd.R_drewN | apply Kd.R_drew)); exact (Q_HO316_p1_10 h0_ h1_)) (Kd.R_base ho0) hb) (fun _ hk => GS.cj hk))
      have z_HO321_p4_10 := fun (h0_ : up b 4 4 = true) (h1_ : up b 4 10 = true) => (show Kd.R k33 33 w25 w.heap.size (fun k_ => k_ ≠ gb334 ∧ some k_ ≠ (.slice Ao24 t314.length co24 : Value).ownBlock) v320 t319 from (Kd.R_mono (Kd.R_lower (Kd.R_newB (Kd.R_new' ho0 (Kd.R_lt (by (with_reducible repeat (first | apply Kd.R_alloc | apply Kd.R_drewN | apply Kd.R_drew)); exact HO316.out))) (GS.bqX (Q_BK334 h1_ (hoff 12 (by kernel_rfl))))) (lqZ (by repeat (first | (with_reducible first | exact HB.out | apply lqA | apply lqN | apply lqD | refine lqS ?_ GE309.out | refine lqS ?_ GE310.out | refine lqS ?_ (Q_GE334 h1_)) | exact HB.out)))) (fun _ hk => GS.cj hk)))
      clear HO316
      clear BK309
      clear BK310
      clear HB
      have HO316 := n0_
      have HO321 := n1_
      have BK309 := n2_
      have BK310 := n3_
      have HB := n4_
      clear n0_ n1_ n2_ n3_ n4_
      (try clear hb)
      (try clear hb2)
      (try clear hk)
      (try clear hi)
      (try clear ho0)
      refine hK.out _ _ ⟨.slice Ao24 t314.length co24, v320, gb333, gb334, m1_, (.tuple #[.agg #[.int .i64 t317, .int .i64 t318, v320], .agg #[.int .i64 t322, .int .i64 t323, .int .i64 t324, .int .i64 t325, .int .i64 t326, .int .i64 t327, .int .i64 t328, .int .i64 t329, .int .i64 t330, .int .i64 t331], .int .i64 t332]), m5_, m6_, m9_, m10_, (by rw [ha.out]; exact putSel_upk 3 hb_ rfl rfl rfl), (GS.bqX BK309.out), (GS.bqX BK310.out), (by repeat (first | (with_reducible first | exact HB.out | apply lqA | apply lqN | apply lqD | refine lqS ?_ GE309.out | refine lqS ?_ GE310.out) | exact HB.out)), Q_NB334_333, Q_NB333_334, fun _ => (by (with_reducible repeat (first | apply Kd.R_alloc | apply Kd.R_drewN | apply Kd.R_drew)); exact Kd.R_mono HO316.out (fun _ hk => GS.cj hk)), fun _ => (by (with_reducible repeat (first | apply Kd.R_alloc | apply Kd.R_drewN | apply Kd.R_drew)); exact Kd.R_mono HO321.out (fun _ hk => GS.cj hk)), z_BK333, Q_GW333, Q_GE333, Q_NB309_333, Q_NB333_309, Q_NB310_333, Q_NB333_310, z_BK334, Q_GW334, Q_GE334, Q_NB309_334, Q_NB334_309, Q_NB310_334, Q_NB334_310, fun h0_ => absurd ((hoff 11 (by kernel_rfl)).symm.trans h0_) (by decide), fun h0_ => absurd ((hoff 12 (by kernel_rfl)).symm.trans h0_) (by decide), z_HO316_p1_10, z_HO321_p4_10, Q_X1_, fun _ => rfl, fun h0_ => absurd ((hoff 5 (by kernel_rfl)).symm.trans h0_) (by decide), fun h0_ => absurd ((hoff 6 (by kernel_rfl)).symm.trans h0_) (by decide), Q_X9_, Q_X10_⟩
     refine steps_cons ?_ ?_
     ·rintro b a w' ⟨v315, v320, gb333, gb334, m1_, m4_, m5_, m6_, m9_, m10_, ha, Q_BK309, Q_BK310, Q_HB, Q_NB334_333, Q_NB333_334, Q_HO316_e1, Q_HO321_e4, Q_BK333, Q_GW333, Q_GE333, Q_NB309_333, Q_NB333_309, Q_NB310_333, Q_NB333_310, Q_BK334, Q_GW334, Q_GE334, Q_NB309_334, Q_NB334_309, Q_NB310_334, Q_NB334_310, Q_BK333_e11, Q_BK334_e12, Q_HO316_p1_10, Q_HO321_p4_10, Q_X1_, Q_X4_, Q_X5_, Q_X6_, Q_X9_, Q_X10_⟩ hb_ hon hoff
      refine ⟨_, rfl, fun K hK => ?_⟩
      have e23 : a.tmps[23]? = some (m4_) := by rw [ha]; exact putSel_on (e := (4, 23, m4_)) 3 rfl rfl (hon 4 (by kernel_rfl)) rfl
      rw [Q_X4_ (hon 4 (by kernel_rfl))] at e23
      replace ha := Aside0.mk ha
      have BK309 := Aside0.mk Q_BK309
      have BK310 := Aside0.mk Q_BK310
      have HB := Aside0.mk Q_HB
      have HO316 := Aside0.mk (Q_HO316_e1 (hon 1 (by kernel_rfl)))
      have HO321 := Aside0.mk (Q_HO321_e4 (hon 4 (by kernel_rfl)))
      refine value_ (w1 := w') (v := .tuple #[.agg #[.int .i64 t317, .int .i64 t318, v320], .agg #[.int .i64 t322, .int .i64 t323, .int .i64 t324, .int .i64 t325, .int .i64 t326, .int .i64 t327, .int .i64 t328, .int .i64 t329, .int .i64 t330, .int .i64 t331], .int .i64 t332]) (by rfl) rfl ?_ ?_
      ·go_simp
       (try simp only [i64_w])
       try rfl
      refine hK.out _ _ ⟨v315, v320, gb333, gb334, m1_, m4_, (.tuple #[.agg #[.int .i64 t317, .int .i64 t318, v320], .agg #[.int .i64 t322, .int .i64 t323, .int .i64 t324, .int .i64 t325, .int .i64 t326, .int .i64 t327, .int .i64 t328, .int .i64 t329, .int .i64 t330, .int .i64 t331], .int .i64 t332]), m6_, m9_, m10_, (by rw [ha.out]; exact putSel_upk 4 hb_ rfl rfl rfl), Q_BK309, Q_BK310, Q_HB, Q_NB334_333, Q_NB333_334, Q_HO316_e1, Q_HO321_e4, Q_BK333, Q_GW333, Q_GE333, Q_NB309_333, Q_NB333_309, Q_NB310_333, Q_NB333_310, Q_BK334, Q_GW334, Q_GE334, Q_NB309_334, Q_NB334_309, Q_NB310_334, Q_NB334_310, fun h0_ => absurd ((hoff 11 (by kernel_rfl)).symm.trans h0_) (by decide), fun h0_ => absurd ((hoff 12 (by kernel_rfl)).symm.trans h0_) (by decide), Q_HO316_p1_10, Q_HO321_p4_10, Q_X1_, Q_X4_, fun _ => rfl, fun h0_ => absurd ((hoff 6 (by kernel_rfl)).symm.trans h0_) (by decide), Q_X9_, Q_X10_⟩
     refine steps_cons ?_ ?_
     ·rintro b a w' ⟨v315, v320, gb333, gb334, m1_, m4_, m5_, m6_, m9_, m10_, ha, Q_BK309, Q_BK310, Q_HB, Q_NB334_333, Q_NB333_334, Q_HO316_e1, Q_HO321_e4, Q_BK333, Q_GW333, Q_GE333, Q_NB309_333, Q_NB333_309, Q_NB310_333, Q_NB333_310, Q_BK334, Q_GW334, Q_GE334, Q_NB309_334, Q_NB334_309, Q_NB310_334, Q_NB334_310, Q_BK333_e11, Q_BK334_e12, Q_HO316_p1_10, Q_HO321_p4_10, Q_X1_, Q_X4_, Q_X5_, Q_X6_, Q_X9_, Q_X10_⟩ hb_ hon hoff
      refine ⟨_, rfl, fun K hK => ?_⟩
      have e18 : a.tmps[18]? = some (m5_) := by rw [ha]; exact putSel_on (e := (5, 18, m5_)) 4 rfl rfl (hon 5 (by kernel_rfl)) rfl
      rw [Q_X5_ (hon 5 (by kernel_rfl))] at e18
      replace ha := Aside0.mk ha
      have BK309 := Aside0.mk Q_BK309
      have BK310 := Aside0.mk Q_BK310
      have HB := Aside0.mk Q_HB
      have HO316 := Aside0.mk (Q_HO316_e1 (hon 1 (by kernel_rfl)))
      have HO321 := Aside0.mk (Q_HO321_e4 (hon 4 (by kernel_rfl)))
      refine value_ (w1 := w') (v := .agg #[.int .i64 t317, .int .i64 t318, v320]) (by rfl) rfl ?_ ?_
      ·go_simp
       (try simp only [i64_w])
       try rfl
      refine hK.out _ _ ⟨v315, v320, gb333, gb334, m1_, m4_, m5_, (.agg #[.int .i64 t317, .int .i64 t318, v320]), m9_, m10_, (by rw [ha.out]; exact putSel_upk 5 hb_ rfl rfl rfl), Q_BK309, Q_BK310, Q_HB, Q_NB334_333, Q_NB333_334, Q_HO316_e1, Q_HO321_e4, Q_BK333, Q_GW333, Q_GE333, Q_NB309_333, Q_NB333_309, Q_NB310_333, Q_NB333_310, Q_BK334, Q_GW334, Q_GE334, Q_NB309_334, Q_NB334_309, Q_NB310_334, Q_NB334_310, fun h0_ => absurd ((hoff 11 (by kernel_rfl)).symm.trans h0_) (by decide), fun h0_ => absurd ((hoff 12 (by kernel_rfl)).symm.trans h0_) (by decide), Q_HO316_p1_10, Q_HO321_p4_10, Q_X1_, Q_X4_, Q_X5_, fun _ => rfl, Q_X9_, Q_X10_⟩
     refine steps_cons ?_ ?_
     ·rintro b a w' ⟨v315, v320, gb333, gb334, m1_, m4_, m5_, m6_, m9_, m10_, ha, Q_BK309, Q_BK310, Q_HB, Q_NB334_333, Q_NB333_334, Q_HO316_e1, Q_HO321_e4, Q_BK333, Q_GW333, Q_GE333, Q_NB309_333, Q_NB333_309, Q_NB310_333, Q_NB333_310, Q_BK334, Q_GW334, Q_GE334, Q_NB309_334, Q_NB334_309, Q_NB310_334, Q_NB334_310, Q_BK333_e11, Q_BK334_e12, Q_HO316_p1_10, Q_HO321_p4_10, Q_X1_, Q_X4_, Q_X5_, Q_X6_, Q_X9_, Q_X10_⟩ hb_ hon hoff
      refine ⟨_, rfl, fun K hK => ?_⟩
      have e18 : a.tmps[18]? = some (m5_) := by rw [ha]; exact putSel_on (e := (5, 18, m5_)) 4 rfl rfl (hon 5 (by kernel_rfl)) rfl
      rw [Q_X5_ (hon 5 (by kernel_rfl))] at e18
      replace ha := Aside0.mk ha
      have BK309 := Aside0.mk Q_BK309
      have BK310 := Aside0.mk Q_BK310
      have HB := Aside0.mk Q_HB
      have HO316 := Aside0.mk (Q_HO316_e1 (hon 1 (by kernel_rfl)))
      have HO321 := Aside0.mk (Q_HO321_e4 (hon 4 (by kernel_rfl)))
      refine value_ (w1 := w') (v := .agg #[.int .i64 t322, .int .i64 t323, .int .i64 t324, .int .i64 t325, .int .i64 t326, .int .i64 t327, .int .i64 t328, .int .i64 t329, .int .i64 t330, .int .i64 t331]) (by rfl) rfl ?_ ?_
      ·go_simp
       (try simp only [i64_w])
       try rfl
      refine hK.out _ _ ⟨v315, v320, gb333, gb334, m1_, m4_, m5_, m6_, m9_, m10_, (by rw [ha.out]; exact putSel_upk 6 hb_ rfl rfl rfl), Q_BK309, Q_BK310, Q_HB, Q_NB334_333, Q_NB333_334, Q_HO316_e1, Q_HO321_e4, Q_BK333, Q_GW333, Q_GE333, Q_NB309_333, Q_NB333_309, Q_NB310_333, Q_NB333_310, Q_BK334, Q_GW334, Q_GE334, Q_NB309_334, Q_NB334_309, Q_NB310_334, Q_NB334_310, Q_BK333_e11, fun h0_ => absurd ((hoff 12 (by kernel_rfl)).symm.trans h0_) (by decide), Q_HO316_p1_10, Q_HO321_p4_10, Q_X1_, Q_X4_, Q_X5_, Q_X6_, Q_X9_, Q_X10_⟩
     refine steps_cons ?_ ?_
     ·rintro b a w' ⟨v315, v320, gb333, gb334, m1_, m4_, m5_, m6_, m9_, m10_, ha, Q_BK309, Q_BK310, Q_HB, Q_NB334_333, Q_NB333_334, Q_HO316_e1, Q_HO321_e4, Q_BK333, Q_GW333, Q_GE333, Q_NB309_333, Q_NB333_309, Q_NB310_333, Q_NB333_310, Q_BK334, Q_GW334, Q_GE334, Q_NB309_334, Q_NB334_309, Q_NB310_334, Q_NB334_310, Q_BK333_e11, Q_BK334_e12, Q_HO316_p1_10, Q_HO321_p4_10, Q_X1_, Q_X4_, Q_X5_, Q_X6_, Q_X9_, Q_X10_⟩ hb_ hon hoff
      refine ⟨_, rfl, fun K hK => ?_⟩
      have e18 : a.tmps[18]? = some (m5_) := by rw [ha]; exact putSel_on (e := (5, 18, m5_)) 4 rfl rfl (hon 5 (by kernel_rfl)) rfl
      rw [Q_X5_ (hon 5 (by kernel_rfl))] at e18
      replace ha := Aside0.mk ha
      have BK309 := Aside0.mk Q_BK309
      have BK310 := Aside0.mk Q_BK310
      have HB := Aside0.mk Q_HB
      have HO316 := Aside0.mk (Q_HO316_e1 (hon 1 (by kernel_rfl)))
      have HO321 := Aside0.mk (Q_HO321_e4 (hon 4 (by kernel_rfl)))
      refine value_ (w1 := w') (v := .int .i64 t332) (by rfl) rfl ?_ ?_
      ·go_simp
       (try simp only [i64_w])
       try rfl
      refine hK.out _ _ ⟨v315, v320, gb333, gb334, m1_, m4_, m5_, m6_, m9_, m10_, (by rw [ha.out]; exact putSel_upk 7 hb_ rfl rfl rfl), Q_BK309, Q_BK310, Q_HB, Q_NB334_333, Q_NB333_334, Q_HO316_e1, Q_HO321_e4, Q_BK333, Q_GW333, Q_GE333, Q_NB309_333, Q_NB333_309, Q_NB310_333, Q_NB333_310, Q_BK334, Q_GW334, Q_GE334, Q_NB309_334, Q_NB334_309, Q_NB310_334, Q_NB334_310, Q_BK333_e11, Q_BK334_e12, Q_HO316_p1_10, Q_HO321_p4_10, Q_X1_, Q_X4_, Q_X5_, Q_X6_, Q_X9_, Q_X10_⟩
     refine steps_cons ?_ ?_
     ·rintro b a w' ⟨v315, v320, gb333, gb334, m1_, m4_, m5_, m6_, m9_, m10_, ha, Q_BK309, Q_BK310, Q_HB, Q_NB334_333, Q_NB333_334, Q_HO316_e1, Q_HO321_e4, Q_BK333, Q_GW333, Q_GE333, Q_NB309_333, Q_NB333_309, Q_NB310_333, Q_NB333_310, Q_BK334, Q_GW334, Q_GE334, Q_NB309_334, Q_NB334_309, Q_NB310_334, Q_NB334_310, Q_BK333_e11, Q_BK334_e12, Q_HO316_p1_10, Q_HO321_p4_10, Q_X1_, Q_X4_, Q_X5_, Q_X6_, Q_X9_, Q_X10_⟩ hb_ hon hoff
      refine ⟨_, rfl, fun K hK => ?_⟩
      replace ha := Aside0.mk ha
      have BK309 := Aside0.mk Q_BK309
      have BK310 := Aside0.mk Q_BK310
      have HB := Aside0.mk Q_HB
      refine box_step ?hg (N := 7) ?hd (cs := #[.int .i64 0, .int .i64 0, .slice none 0 0]) (t := 24) ?hr ?_; (case hd => rfl); (case hg => rfl); (case hr => first | (go_simp; done) | (go_simp; rfl))
      intro gb333 hg w22 hbox hb
      have n0_ := Aside0.mk (bqB (GS.bqX BK309.out) hb)
      have n1_ := Aside0.mk (bqB (GS.bqX BK310.out) hb)
      have n2_ := Aside0.mk (lqT (by repeat (first | (with_reducible first | exact HB.out | apply lqA | apply lqN | apply lqD | refine lqS ?_ GE309.out | refine lqS ?_ GE310.out) | exact HB.out)) hb)
      have n3_ := Aside0.mk (hbox)
      have n4_ := Aside0.mk ((by rw [hg]; exact (lqZ (by repeat (first | (with_reducible first | exact HB.out | apply lqA | apply lqN | apply lqD | refine lqS ?_ GE309.out | refine lqS ?_ GE310.out) | exact HB.out))) : w.heap.size ≤ gb333))
      have n5_ := Aside0.mk ((by rw [hg]; exact (lqZ (by repeat (first | (with_reducible first | exact HB.out | apply lqA | apply lqN | apply lqD | refine lqS ?_ GE309.out | refine lqS ?_ GE310.out) | exact HB.out))) : w.heap.size ≤ gb333))
      have n6_ := Aside0.mk ((by rw [hg]; exact Nat.ne_of_lt (blk_lt (GS.bqX BK309.out)) : gb309 ≠ gb333))
      have n7_ := Aside0.mk ((by rw [hg]; exact Nat.ne_of_gt (blk_lt (GS.bqX BK309.out)) : gb333 ≠ gb309))
      have n8_ := Aside0.mk ((by rw [hg]; exact Nat.ne_of_lt (blk_lt (GS.bqX BK310.out)) : gb310 ≠ gb333))
      have n9_ := Aside0.mk ((by rw [hg]; exact Nat.ne_of_gt (blk_lt (GS.bqX BK310.out)) : gb333 ≠ gb310))
      have z_NB334_333 := fun (h0_ : up b 9 9 = true) (h1_ : up b 9 10 = true) => (show gb334 ≠ gb333 from ((by rw [hg]; exact Nat.ne_of_lt (blk_lt (GS.bqX (Q_BK334 h1_ (hoff 12 (by kernel_rfl))))) : gb334 ≠ gb333)))
      have z_NB333_334 := fun (h0_ : up b 9 9 = true) (h1_ : up b 9 10 = true) => (show gb333 ≠ gb334 from ((by rw [hg]; exact Nat.ne_of_gt (blk_lt (GS.bqX (Q_BK334 h1_ (hoff 12 (by kernel_rfl))))) : gb333 ≠ gb334)))
      have z_HO316_e1 := fun (h0_ : b 1 = true) => (show Kd.R k33 33 w22 w.heap.size (fun _ => True) v315 t314 from by first | exact (Kd.R_below (by (with_reducible repeat (first | apply Kd.R_alloc | apply Kd.R_drewN | apply Kd.R_drew)); exact (Q_HO316_e1 h0_)) hb) | exact Kd.R_mono (Kd.R_below (by (with_reducible repeat (first | apply Kd.R_alloc | apply Kd.R_drewN | apply Kd.R_drew)); exact (Q_HO316_e1 h0_)) hb) (fun _ hk => GS.cj hk))
      have z_HO321_e4 := fun (h0_ : b 4 = true) => (show Kd.R k33 33 w22 w.heap.size (fun k_ => some k_ ≠ (v315 : Value).ownBlock) v320 t319 from by first | exact (Kd.R_below (by (with_reducible repeat (first | apply Kd.R_alloc | apply Kd.R_drewN | apply Kd.R_drew)); exact (Q_HO321_e4 h0_)) hb) | exact Kd.R_mono (Kd.R_below (by (with_reducible repeat (first | apply Kd.R_alloc | apply Kd.R_drewN | apply Kd.R_drew)); exact (Q_HO321_e4 h0_)) hb) (fun _ hk => GS.cj hk))
      have z_BK334 := fun (h0_ : b 10 = true) (h1_ : b 12 = false) => (show w22.heap[gb334]? = some (.cells #[.int .i64 0, .int .i64 0, .int .i64 0, .int .i64 0, .int .i64 0, .int .i64 0, .int .i64 0, .int .i64 0, .int .i64 0, .int .i64 0] 33 (0, 0)) from by first | exact (bqB (GS.bqX (Q_BK334 h0_ h1_)) hb))
      have z_HO316_p1_10 := fun (h0_ : b 1 = true) (h1_ : b 10 = true) => (show Kd.R k33 33 w22 w.heap.size (fun k_ => k_ ≠ gb334) v315 t314 from by first | exact (Kd.R_below (by (with_reducible repeat (first | apply Kd.R_alloc | apply Kd.R_drewN | apply Kd.R_drew)); exact (Q_HO316_p1_10 h0_ h1_)) hb) | exact Kd.R_mono (Kd.R_below (by (with_reducible repeat (first | apply Kd.R_alloc | apply Kd.R_drewN | apply Kd.R_drew)); exact (Q_HO316_p1_10 h0_ h1_)) hb) (fun _ hk => GS.cj hk))
      have z_HO321_p4_10 := fun (h0_ : b 4 = true) (h1_ : b 10 = true) => (show Kd.R k33 33 w22 w.heap.size (fun k_ => k_ ≠ gb334 ∧ some k_ ≠ (v315 : Value).ownBlock) v320 t319 from by first | exact (Kd.R_below (by (with_reducible repeat (first | apply Kd.R_alloc | apply Kd.R_drewN | apply Kd.R_drew)); exact (Q_HO321_p4_10 h0_ h1_)) hb) | exact Kd.R_mono (Kd.R_below (by (with_reducible repeat (first | apply Kd.R_alloc | apply Kd.R_drewN | apply Kd.R_drew)); exact (Q_HO321_p4_10 h0_ h1_)) hb) (fun _ hk => GS.cj hk))
      clear BK309
      clear BK310
      clear HB
      have BK309 := n0_
      have BK310 := n1_
      have HB := n2_
      have BK333 := n3_
      have GW333 := n4_
      have GE333 := n5_
      have NB309_333 := n6_
      have NB333_309 := n7_
      have NB310_333 := n8_
      have NB333_310 := n9_
      clear n0_ n1_ n2_ n3_ n4_ n5_ n6_ n7_ n8_ n9_
      clear hb hbox hg
      refine hK.out _ _ ⟨v315, v320, gb333, gb334, m1_, m4_, m5_, m6_, (.pointer (some ⟨gb333, 0, none⟩)), m10_, (by rw [ha.out]; exact putSel_upk 8 hb_ rfl rfl rfl), (GS.bqX BK309.out), (GS.bqX BK310.out), (by repeat (first | (with_reducible first | exact HB.out | apply lqA | apply lqN | apply lqD | refine lqS ?_ GE309.out | refine lqS ?_ GE310.out | refine lqS ?_ GE333.out) | exact HB.out)), z_NB334_333, z_NB333_334, z_HO316_e1, z_HO321_e4, fun _ _ => (GS.bqX BK333.out), fun _ => GW333.out, fun _ => GE333.out, fun _ => NB309_333.out, fun _ => NB333_309.out, fun _ => NB310_333.out, fun _ => NB333_310.out, z_BK334, Q_GW334, Q_GE334, Q_NB309_334, Q_NB334_309, Q_NB310_334, Q_NB334_310, fun h0_ => absurd ((hoff 11 (by kernel_rfl)).symm.trans h0_) (by decide), fun h0_ => absurd ((hoff 12 (by kernel_rfl)).symm.trans h0_) (by decide), z_HO316_p1_10, z_HO321_p4_10, Q_X1_, Q_X4_, Q_X5_, Q_X6_, fun _ => rfl, Q_X10_⟩
     refine steps_cons ?_ ?_
     ·rintro b a w' ⟨v315, v320, gb333, gb334, m1_, m4_, m5_, m6_, m9_, m10_, ha, Q_BK309, Q_BK310, Q_HB, Q_NB334_333, Q_NB333_334, Q_HO316_e1, Q_HO321_e4, Q_BK333, Q_GW333, Q_GE333, Q_NB309_333, Q_NB333_309, Q_NB310_333, Q_NB333_310, Q_BK334, Q_GW334, Q_GE334, Q_NB309_334, Q_NB334_309, Q_NB310_334, Q_NB334_310, Q_BK333_e11, Q_BK334_e12, Q_HO316_p1_10, Q_HO321_p4_10, Q_X1_, Q_X4_, Q_X5_, Q_X6_, Q_X9_, Q_X10_⟩ hb_ hon hoff
      refine ⟨_, rfl, fun K hK => ?_⟩
      replace ha := Aside0.mk ha
      have BK309 := Aside0.mk Q_BK309
      have BK310 := Aside0.mk Q_BK310
      have HB := Aside0.mk Q_HB
      refine box_step ?hg (N := 8) ?hd (cs := #[.int .i64 0, .int .i64 0, .int .i64 0, .int .i64 0, .int .i64 0, .int .i64 0, .int .i64 0, .int .i64 0, .int .i64 0, .int .i64 0]) (t := 33) ?hr ?_; (case hd => rfl); (case hg => rfl); (case hr => first | (go_simp; done) | (go_simp; rfl))
      intro gb334 hg w22 hbox hb
      have n0_ := Aside0.mk (bqB (GS.bqX BK309.out) hb)
      have n1_ := Aside0.mk (bqB (GS.bqX BK310.out) hb)
      have n2_ := Aside0.mk (lqT (by repeat (first | (with_reducible first | exact HB.out | apply lqA | apply lqN | apply lqD | refine lqS ?_ GE309.out | refine lqS ?_ GE310.out) | exact HB.out)) hb)
      have n3_ := Aside0.mk (hbox)
      have n4_ := Aside0.mk ((by rw [hg]; exact (lqZ (by repeat (first | (with_reducible first | exact HB.out | apply lqA | apply lqN | apply lqD | refine lqS ?_ GE309.out | refine lqS ?_ GE310.out) | exact HB.out))) : w.heap.size ≤ gb334))
      have n5_ := Aside0.mk ((by rw [hg]; exact (lqZ (by repeat (first | (with_reducible first | exact HB.out | apply lqA | apply lqN | apply lqD | refine lqS ?_ GE309.out | refine lqS ?_ GE310.out) | exact HB.out))) : w.heap.size ≤ gb334))
      have n6_ := Aside0.mk ((by rw [hg]; exact Nat.ne_of_lt (blk_lt (GS.bqX BK309.out)) : gb309 ≠ gb334))
      have n7_ := Aside0.mk ((by rw [hg]; exact Nat.ne_of_gt (blk_lt (GS.bqX BK309.out)) : gb334 ≠ gb309))
      have n8_ := Aside0.mk ((by rw [hg]; exact Nat.ne_of_lt (blk_lt (GS.bqX BK310.out)) : gb310 ≠ gb334))
      have n9_ := Aside0.mk ((by rw [hg]; exact Nat.ne_of_gt (blk_lt (GS.bqX BK310.out)) : gb334 ≠ gb310))
      have z_NB334_333 := fun (h0_ : up b 10 9 = true) (h1_ : up b 10 10 = true) => (show gb334 ≠ gb333 from ((by rw [hg]; exact Nat.ne_of_gt (blk_lt (GS.bqX (Q_BK333 h0_ (hoff 11 (by kernel_rfl))))) : gb334 ≠ gb333)))
      have z_NB333_334 := fun (h0_ : up b 10 9 = true) (h1_ : up b 10 10 = true) => (show gb333 ≠ gb334 from ((by rw [hg]; exact Nat.ne_of_lt (blk_lt (GS.bqX (Q_BK333 h0_ (hoff 11 (by kernel_rfl))))) : gb333 ≠ gb334)))
      have z_HO316_e1 := fun (h0_ : b 1 = true) => (show Kd.R k33 33 w22 w.heap.size (fun _ => True) v315 t314 from by first | exact (Kd.R_below (Kd.R_elderB (by (with_reducible repeat (first | apply Kd.R_alloc | apply Kd.R_drewN | apply Kd.R_drew)); exact (Q_HO316_e1 h0_)) gb334 (Nat.le_of_eq hg.symm)) hb) | exact Kd.R_mono (Kd.R_below (Kd.R_elderB (by (with_reducible repeat (first | apply Kd.R_alloc | apply Kd.R_drewN | apply Kd.R_drew)); exact (Q_HO316_e1 h0_)) gb334 (Nat.le_of_eq hg.symm)) hb) (fun _ hk => GS.cj hk))
      have z_HO321_e4 := fun (h0_ : b 4 = true) => (show Kd.R k33 33 w22 w.heap.size (fun k_ => some k_ ≠ (v315 : Value).ownBlock) v320 t319 from by first | exact (Kd.R_below (Kd.R_elderB (by (with_reducible repeat (first | apply Kd.R_alloc | apply Kd.R_drewN | apply Kd.R_drew)); exact (Q_HO321_e4 h0_)) gb334 (Nat.le_of_eq hg.symm)) hb) | exact Kd.R_mono (Kd.R_below (Kd.R_elderB (by (with_reducible repeat (first | apply Kd.R_alloc | apply Kd.R_drewN | apply Kd.R_drew)); exact (Q_HO321_e4 h0_)) gb334 (Nat.le_of_eq hg.symm)) hb) (fun _ hk => GS.cj hk))
      have z_BK333 := fun (h0_ : b 9 = true) (h1_ : b 11 = false) => (show w22.heap[gb333]? = some (.cells #[.int .i64 0, .int .i64 0, .slice none 0 0] 24 (0, 0)) from by first | exact (bqB (GS.bqX (Q_BK333 h0_ h1_)) hb))
      have z_HO316_p1_10 := fun (h0_ : up b 10 1 = true) (h1_ : up b 10 10 = true) => (show Kd.R k33 33 w22 w.heap.size (fun k_ => k_ ≠ gb334) v315 t314 from (Kd.R_mono (Kd.R_below (Kd.R_elderB (by (with_reducible repeat (first | apply Kd.R_alloc | apply Kd.R_drewN | apply Kd.R_drew)); exact (Q_HO316_e1 h0_)) gb334 (Nat.le_of_eq hg.symm)) hb) (fun _ hk => GS.cj hk)))
      have z_HO321_p4_10 := fun (h0_ : up b 10 4 = true) (h1_ : up b 10 10 = true) => (show Kd.R k33 33 w22 w.heap.size (fun k_ => k_ ≠ gb334 ∧ some k_ ≠ (v315 : Value).ownBlock) v320 t319 from (Kd.R_mono (Kd.R_below (Kd.R_elderB (by (with_reducible repeat (first | apply Kd.R_alloc | apply Kd.R_drewN | apply Kd.R_drew)); exact (Q_HO321_e4 h0_)) gb334 (Nat.le_of_eq hg.symm)) hb) (fun _ hk => GS.cj hk)))
      clear BK309
      clear BK310
      clear HB
      have BK309 := n0_
      have BK310 := n1_
      have HB := n2_
      have BK334 := n3_
      have GW334 := n4_
      have GE334 := n5_
      have NB309_334 := n6_
      have NB334_309 := n7_
      have NB310_334 := n8_
      have NB334_310 := n9_
      clear n0_ n1_ n2_ n3_ n4_ n5_ n6_ n7_ n8_ n9_
      clear hb hbox hg
      refine hK.out _ _ ⟨v315, v320, gb333, gb334, m1_, m4_, m5_, m6_, m9_, (.pointer (some ⟨gb334, 0, none⟩)), (by rw [ha.out]; exact putSel_upk 9 hb_ rfl rfl rfl), (GS.bqX BK309.out), (GS.bqX BK310.out), (by repeat (first | (with_reducible first | exact HB.out | apply lqA | apply lqN | apply lqD | refine lqS ?_ GE309.out | refine lqS ?_ GE310.out | refine lqS ?_ GE334.out) | exact HB.out)), z_NB334_333, z_NB333_334, z_HO316_e1, z_HO321_e4, z_BK333, Q_GW333, Q_GE333, Q_NB309_333, Q_NB333_309, Q_NB310_333, Q_NB333_310, fun _ _ => (GS.bqX BK334.out), fun _ => GW334.out, fun _ => GE334.out, fun _ => NB309_334.out, fun _ => NB334_309.out, fun _ => NB310_334.out, fun _ => NB334_310.out, fun h0_ => absurd ((hoff 11 (by kernel_rfl)).symm.trans h0_) (by decide), fun h0_ => absurd ((hoff 12 (by kernel_rfl)).symm.trans h0_) (by decide), z_HO316_p1_10, z_HO321_p4_10, Q_X1_, Q_X4_, Q_X5_, Q_X6_, Q_X9_, fun _ => rfl⟩
     refine steps_cons ?_ ?_
     ·rintro b a w' ⟨v315, v320, gb333, gb334, m1_, m4_, m5_, m6_, m9_, m10_, ha, Q_BK309, Q_BK310, Q_HB, Q_NB334_333, Q_NB333_334, Q_HO316_e1, Q_HO321_e4, Q_BK333, Q_GW333, Q_GE333, Q_NB309_333, Q_NB333_309, Q_NB310_333, Q_NB333_310, Q_BK334, Q_GW334, Q_GE334, Q_NB309_334, Q_NB334_309, Q_NB310_334, Q_NB334_310, Q_BK333_e11, Q_BK334_e12, Q_HO316_p1_10, Q_HO321_p4_10, Q_X1_, Q_X4_, Q_X5_, Q_X6_, Q_X9_, Q_X10_⟩ hb_ hon hoff
      refine ⟨_, rfl, fun K hK => ?_⟩
      have e7 : a.tmps[7]? = some (m9_) := by rw [ha]; exact putSel_on (e := (9, 7, m9_)) 8 rfl rfl (hon 9 (by kernel_rfl)) rfl
      rw [Q_X9_ (hon 9 (by kernel_rfl))] at e7
      have e24 : a.tmps[24]? = some (m6_) := by rw [ha]; exact putSel_on (e := (6, 24, m6_)) 5 rfl rfl (hon 6 (by kernel_rfl)) rfl
      rw [Q_X6_ (hon 6 (by kernel_rfl))] at e24
      replace ha := Aside0.mk ha
      have BK309 := Aside0.mk Q_BK309
      have BK310 := Aside0.mk Q_BK310
      have HB := Aside0.mk Q_HB
      have NB334_333 := Aside0.mk (Q_NB334_333 (hon 9 (by kernel_rfl)) (hon 10 (by kernel_rfl)))
      have NB333_334 := Aside0.mk (Q_NB333_334 (hon 9 (by kernel_rfl)) (hon 10 (by kernel_rfl)))
      have HO316 := Aside0.mk (Q_HO316_e1 (hon 1 (by kernel_rfl)))
      have HO321 := Aside0.mk (Q_HO321_e4 (hon 4 (by kernel_rfl)))
      have BK333 := Aside0.mk (Q_BK333 (hon 9 (by kernel_rfl)) hb_)
      have GW333 := Aside0.mk (Q_GW333 (hon 9 (by kernel_rfl)))
      have GE333 := Aside0.mk (Q_GE333 (hon 9 (by kernel_rfl)))
      have NB309_333 := Aside0.mk (Q_NB309_333 (hon 9 (by kernel_rfl)))
      have NB333_309 := Aside0.mk (Q_NB333_309 (hon 9 (by kernel_rfl)))
      have NB310_333 := Aside0.mk (Q_NB310_333 (hon 9 (by kernel_rfl)))
      have NB333_310 := Aside0.mk (Q_NB333_310 (hon 9 (by kernel_rfl)))
      have BK334 := Aside0.mk (Q_BK334 (hon 10 (by kernel_rfl)) (hoff 12 (by kernel_rfl)))
      have GW334 := Aside0.mk (Q_GW334 (hon 10 (by kernel_rfl)))
      have GE334 := Aside0.mk (Q_GE334 (hon 10 (by kernel_rfl)))
      have NB309_334 := Aside0.mk (Q_NB309_334 (hon 10 (by kernel_rfl)))
      have NB334_309 := Aside0.mk (Q_NB334_309 (hon 10 (by kernel_rfl)))
      have NB310_334 := Aside0.mk (Q_NB310_334 (hon 10 (by kernel_rfl)))
      have NB334_310 := Aside0.mk (Q_NB334_310 (hon 10 (by kernel_rfl)))
      have HO316 := Aside0.mk (Q_HO316_p1_10 (hon 1 (by kernel_rfl)) (hon 10 (by kernel_rfl)))
      have HO321 := Aside0.mk (Q_HO321_p4_10 (hon 4 (by kernel_rfl)) (hon 10 (by kernel_rfl)))
      obtain ⟨Ao30, co30, eo30⟩ := Kd.R_slice HO321.out
      (first | subst eo30 | (injection eo30 with f1_ f2_ f3_; have f4_ := f1_.symm; have f5_ := f3_.symm; clear f1_ f2_ f3_; subst f4_; subst f5_))
      have hs28 : w'.cell? ⟨gb333, 0, none⟩ = some (.int .i64 0) := (bqC BK333.out 0).trans rfl
      have hfs28 := bqF BK333.out 0
      have hns28_0 := NB309_333.out
      have hns28_1 := NB310_333.out
      have hns28_3 := NB334_333.out
      have hms28_0 := NB333_309.out
      have hms28_1 := NB333_310.out
      have hms28_3 := NB333_334.out
      have hs29 : w'.cell? ⟨gb333, 1, none⟩ = some (.int .i64 0) := (bqC BK333.out 1).trans rfl
      have hfs29 := bqF BK333.out 1
      have hns29_0 := NB309_333.out
      have hns29_1 := NB310_333.out
      have hns29_3 := NB334_333.out
      have hms29_0 := NB333_309.out
      have hms29_1 := NB333_310.out
      have hms29_3 := NB333_334.out
      have hs31 : w'.cell? ⟨gb333, 2, none⟩ = some (.slice none 0 0) := (bqC BK333.out 2).trans rfl
      have hfs31 := bqF BK333.out 2
      have hns31_0 := NB309_333.out
      have hns31_1 := NB310_333.out
      have hns31_3 := NB334_333.out
      have hms31_0 := NB333_309.out
      have hms31_1 := NB333_310.out
      have hms31_3 := NB333_334.out
      refine skip_ (w1 := ?_) (by rfl) rfl ?_ ?_
      rotate_left
      ·go_simp
       rfl
      refine hK.out _ _ ⟨v315, .slice Ao30 t319.length co30, gb333, gb334, m1_, m4_, m5_, m6_, m9_, m10_, (by rw [ha.out]; exact putSel_none (v := undef) rfl), (GS.bqX BK309.out), (GS.bqX BK310.out), (by repeat (first | (with_reducible first | exact HB.out | apply lqA | apply lqN | apply lqD | refine lqS ?_ GE309.out | refine lqS ?_ GE310.out | refine lqS ?_ GE333.out | refine lqS ?_ GE334.out) | exact HB.out)), fun _ _ => NB334_333.out, fun _ _ => NB333_334.out, fun _ => Kd.R_mono ((by (with_reducible repeat (first | apply Kd.R_alloc | apply Kd.R_drewN | apply Kd.R_drew)); exact Kd.R_mono (Kd.R_far (p := ⟨gb333, 2, none⟩) (Kd.R_far (p := ⟨gb333, 1, none⟩) (Kd.R_far (p := ⟨gb333, 0, none⟩) (Kd.R_types HO316.out BK333.out (by decide)) (fun _ hk => hk.2) (.int .i64 t317)) (fun _ hk => hk.2) (.int .i64 t318)) (fun _ hk => hk.2) (.slice Ao30 t319.length co30)) (fun _ hk => hk))) (fun _ hk => GS.cj hk), fun _ => Kd.R_mono ((by (with_reducible repeat (first | apply Kd.R_alloc | apply Kd.R_drewN | apply Kd.R_drew)); exact Kd.R_mono (Kd.R_far (p := ⟨gb333, 2, none⟩) (Kd.R_far (p := ⟨gb333, 1, none⟩) (Kd.R_far (p := ⟨gb333, 0, none⟩) (Kd.R_types HO321.out BK333.out (by decide)) (fun _ hk => hk.2) (.int .i64 t317)) (fun _ hk => hk.2) (.int .i64 t318)) (fun _ hk => hk.2) (.slice Ao30 t319.length co30)) (fun _ hk => hk))) (fun _ hk => GS.cj hk), fun _ h1_ => absurd ((up_self b 11).symm.trans h1_) (by decide), fun _ => GW333.out, fun _ => GE333.out, fun _ => NB309_333.out, fun _ => NB333_309.out, fun _ => NB310_333.out, fun _ => NB333_310.out, fun _ _ => (GS.bqX BK334.out), fun _ => GW334.out, fun _ => GE334.out, fun _ => NB309_334.out, fun _ => NB334_309.out, fun _ => NB310_334.out, fun _ => NB334_310.out, fun _ => (GS.bqZ BK333.out), fun h0_ => absurd ((hoff 12 (by kernel_rfl)).symm.trans h0_) (by decide), fun _ _ => (by (with_reducible repeat (first | apply Kd.R_alloc | apply Kd.R_drewN | apply Kd.R_drew)); exact Kd.R_mono (Kd.R_far (p := ⟨gb333, 2, none⟩) (Kd.R_far (p := ⟨gb333, 1, none⟩) (Kd.R_far (p := ⟨gb333, 0, none⟩) (Kd.R_types HO316.out BK333.out (by decide)) (fun _ hk => hk.2) (.int .i64 t317)) (fun _ hk => hk.2) (.int .i64 t318)) (fun _ hk => hk.2) (.slice Ao30 t319.length co30)) (fun _ hk => GS.cj hk)), fun _ _ => (by (with_reducible repeat (first | apply Kd.R_alloc | apply Kd.R_drewN | apply Kd.R_drew)); exact Kd.R_mono (Kd.R_far (p := ⟨gb333, 2, none⟩) (Kd.R_far (p := ⟨gb333, 1, none⟩) (Kd.R_far (p := ⟨gb333, 0, none⟩) (Kd.R_types HO321.out BK333.out (by decide)) (fun _ hk => hk.2) (.int .i64 t317)) (fun _ hk => hk.2) (.int .i64 t318)) (fun _ hk => hk.2) (.slice Ao30 t319.length co30)) (fun _ hk => GS.cj hk)), Q_X1_, Q_X4_, Q_X5_, Q_X6_, Q_X9_, Q_X10_⟩
     refine steps_cons ?_ ?_
     ·rintro b a w' ⟨v315, v320, gb333, gb334, m1_, m4_, m5_, m6_, m9_, m10_, ha, Q_BK309, Q_BK310, Q_HB, Q_NB334_333, Q_NB333_334, Q_HO316_e1, Q_HO321_e4, Q_BK333, Q_GW333, Q_GE333, Q_NB309_333, Q_NB333_309, Q_NB310_333, Q_NB333_310, Q_BK334, Q_GW334, Q_GE334, Q_NB309_334, Q_NB334_309, Q_NB310_334, Q_NB334_310, Q_BK333_e11, Q_BK334_e12, Q_HO316_p1_10, Q_HO321_p4_10, Q_X1_, Q_X4_, Q_X5_, Q_X6_, Q_X9_, Q_X10_⟩ hb_ hon hoff
      refine ⟨_, rfl, fun K hK => ?_⟩
      have e8 : a.tmps[8]? = some (m10_) := by rw [ha]; exact putSel_on (e := (10, 8, m10_)) 9 rfl rfl (hon 10 (by kernel_rfl)) rfl
      rw [Q_X10_ (hon 10 (by kernel_rfl))] at e8
      have e25 : a.tmps[25]? = some (.agg #[.int .i64 t322, .int .i64 t323, .int .i64 t324, .int .i64 t325, .int .i64 t326, .int .i64 t327, .int .i64 t328, .int .i64 t329, .int .i64 t330, .int .i64 t331]) := by rw [ha]; exact putSel_on (e := (7, 25, .agg #[.int .i64 t322, .int .i64 t323, .int .i64 t324, .int .i64 t325, .int .i64 t326, .int .i64 t327, .int .i64 t328, .int .i64 t329, .int .i64 t330, .int .i64 t331])) 6 rfl rfl (hon 7 (by kernel_rfl)) rfl
      replace ha := Aside0.mk ha
      have BK309 := Aside0.mk Q_BK309
      have BK310 := Aside0.mk Q_BK310
      have HB := Aside0.mk Q_HB
      have NB334_333 := Aside0.mk (Q_NB334_333 (hon 9 (by kernel_rfl)) (hon 10 (by kernel_rfl)))
      have NB333_334 := Aside0.mk (Q_NB333_334 (hon 9 (by kernel_rfl)) (hon 10 (by kernel_rfl)))
      have HO316 := Aside0.mk (Q_HO316_e1 (hon 1 (by kernel_rfl)))
      have HO321 := Aside0.mk (Q_HO321_e4 (hon 4 (by kernel_rfl)))
      have GW333 := Aside0.mk (Q_GW333 (hon 9 (by kernel_rfl)))
      have GE333 := Aside0.mk (Q_GE333 (hon 9 (by kernel_rfl)))
      have NB309_333 := Aside0.mk (Q_NB309_333 (hon 9 (by kernel_rfl)))
      have NB333_309 := Aside0.mk (Q_NB333_309 (hon 9 (by kernel_rfl)))
      have NB310_333 := Aside0.mk (Q_NB310_333 (hon 9 (by kernel_rfl)))
      have NB333_310 := Aside0.mk (Q_NB333_310 (hon 9 (by kernel_rfl)))
      have BK334 := Aside0.mk (Q_BK334 (hon 10 (by kernel_rfl)) hb_)
      have GW334 := Aside0.mk (Q_GW334 (hon 10 (by kernel_rfl)))
      have GE334 := Aside0.mk (Q_GE334 (hon 10 (by kernel_rfl)))
      have NB309_334 := Aside0.mk (Q_NB309_334 (hon 10 (by kernel_rfl)))
      have NB334_309 := Aside0.mk (Q_NB334_309 (hon 10 (by kernel_rfl)))
      have NB310_334 := Aside0.mk (Q_NB310_334 (hon 10 (by kernel_rfl)))
      have NB334_310 := Aside0.mk (Q_NB334_310 (hon 10 (by kernel_rfl)))
      have BK333 := Aside0.mk (Q_BK333_e11 (hon 11 (by kernel_rfl)))
      have HO316 := Aside0.mk (Q_HO316_p1_10 (hon 1 (by kernel_rfl)) (hon 10 (by kernel_rfl)))
      have HO321 := Aside0.mk (Q_HO321_p4_10 (hon 4 (by kernel_rfl)) (hon 10 (by kernel_rfl)))
      have hs32 : w'.cell? ⟨gb334, 0, none⟩ = some (.int .i64 0) := (bqC BK334.out 0).trans rfl
      have hfs32 := bqF BK334.out 0
      have hns32_0 := NB309_334.out
      have hns32_1 := NB310_334.out
      have hns32_2 := NB333_334.out
      have hms32_0 := NB334_309.out
      have hms32_1 := NB334_310.out
      have hms32_2 := NB334_333.out
      have hs33 : w'.cell? ⟨gb334, 1, none⟩ = some (.int .i64 0) := (bqC BK334.out 1).trans rfl
      have hfs33 := bqF BK334.out 1
      have hns33_0 := NB309_334.out
      have hns33_1 := NB310_334.out
      have hns33_2 := NB333_334.out
      have hms33_0 := NB334_309.out
      have hms33_1 := NB334_310.out
      have hms33_2 := NB334_333.out
      have hs34 : w'.cell? ⟨gb334, 2, none⟩ = some (.int .i64 0) := (bqC BK334.out 2).trans rfl
      have hfs34 := bqF BK334.out 2
      have hns34_0 := NB309_334.out
      have hns34_1 := NB310_334.out
      have hns34_2 := NB333_334.out
      have hms34_0 := NB334_309.out
      have hms34_1 := NB334_310.out
      have hms34_2 := NB334_333.out
      have hs35 : w'.cell? ⟨gb334, 3, none⟩ = some (.int .i64 0) := (bqC BK334.out 3).trans rfl
      have hfs35 := bqF BK334.out 3
      have hns35_0 := NB309_334.out
      have hns35_1 := NB310_334.out
      have hns35_2 := NB333_334.out
      have hms35_0 := NB334_309.out
      have hms35_1 := NB334_310.out
      have hms35_2 := NB334_333.out
      have hs36 : w'.cell? ⟨gb334, 4, none⟩ = some (.int .i64 0) := (bqC BK334.out 4).trans rfl
      have hfs36 := bqF BK334.out 4
      have hns36_0 := NB309_334.out
      have hns36_1 := NB310_334.out
      have hns36_2 := NB333_334.out
      have hms36_0 := NB334_309.out
      have hms36_1 := NB334_310.out
      have hms36_2 := NB334_333.out
      have hs37 : w'.cell? ⟨gb334, 5, none⟩ = some (.int .i64 0) := (bqC BK334.out 5).trans rfl
      have hfs37 := bqF BK334.out 5
      have hns37_0 := NB309_334.out
      have hns37_1 := NB310_334.out
      have hns37_2 := NB333_334.out
      have hms37_0 := NB334_309.out
      have hms37_1 := NB334_310.out
      have hms37_2 := NB334_333.out
      have hs38 : w'.cell? ⟨gb334, 6, none⟩ = some (.int .i64 0) := (bqC BK334.out 6).trans rfl
      have hfs38 := bqF BK334.out 6
      have hns38_0 := NB309_334.out
      have hns38_1 := NB310_334.out
      have hns38_2 := NB333_334.out
      have hms38_0 := NB334_309.out
      have hms38_1 := NB334_310.out
      have hms38_2 := NB334_333.out
      have hs39 : w'.cell? ⟨gb334, 7, none⟩ = some (.int .i64 0) := (bqC BK334.out 7).trans rfl
      have hfs39 := bqF BK334.out 7
      have hns39_0 := NB309_334.out
      have hns39_1 := NB310_334.out
      have hns39_2 := NB333_334.out
      have hms39_0 := NB334_309.out
      have hms39_1 := NB334_310.out
      have hms39_2 := NB334_333.out
      have hs40 : w'.cell? ⟨gb334, 8, none⟩ = some (.int .i64 0) := (bqC BK334.out 8).trans rfl
      have hfs40 := bqF BK334.out 8
      have hns40_0 := NB309_334.out
      have hns40_1 := NB310_334.out
      have hns40_2 := NB333_334.out
      have hms40_0 := NB334_309.out
      have hms40_1 := NB334_310.out
      have hms40_2 := NB334_333.out
      have hs41 : w'.cell? ⟨gb334, 9, none⟩ = some (.int .i64 0) := (bqC BK334.out 9).trans rfl
      have hfs41 := bqF BK334.out 9
      have hns41_0 := NB309_334.out
      have hns41_1 := NB310_334.out
      have hns41_2 := NB333_334.out
      have hms41_0 := NB334_309.out
      have hms41_1 := NB334_310.out
      have hms41_2 := NB334_333.out
      refine skip_ (w1 := ?_) (by rfl) rfl ?_ ?_
      rotate_left
      ·go_simp
       rfl
      refine hK.out _ _ ⟨v315, v320, gb333, gb334, m1_, m4_, m5_, m6_, m9_, m10_, (by rw [ha.out]; exact putSel_none (v := undef) rfl), (GS.bqX BK309.out), (GS.bqX BK310.out), (by repeat (first | (with_reducible first | exact HB.out | apply lqA | apply lqN | apply lqD | refine lqS ?_ GE309.out | refine lqS ?_ GE310.out | refine lqS ?_ GE333.out | refine lqS ?_ GE334.out) | exact HB.out)), fun _ _ => NB334_333.out, fun _ _ => NB333_334.out, fun _ => Kd.R_mono ((by (with_reducible repeat (first | apply Kd.R_alloc | apply Kd.R_drewN | apply Kd.R_drew)); exact Kd.R_mono (Kd.R_far (p := ⟨gb334, 9, none⟩) (Kd.R_far (p := ⟨gb334, 8, none⟩) (Kd.R_far (p := ⟨gb334, 7, none⟩) (Kd.R_far (p := ⟨gb334, 6, none⟩) (Kd.R_far (p := ⟨gb334, 5, none⟩) (Kd.R_far (p := ⟨gb334, 4, none⟩) (Kd.R_far (p := ⟨gb334, 3, none⟩) (Kd.R_far (p := ⟨gb334, 2, none⟩) (Kd.R_far (p := ⟨gb334, 1, none⟩) (Kd.R_far (p := ⟨gb334, 0, none⟩) (Kd.R_mono HO316.out (fun k_ hk => (⟨hk, GS.cj hk⟩ : _ ∧ k_ ≠ gb334))) (fun _ hk => hk.2) (.int .i64 t322)) (fun _ hk => hk.2) (.int .i64 t323)) (fun _ hk => hk.2) (.int .i64 t324)) (fun _ hk => hk.2) (.int .i64 t325)) (fun _ hk => hk.2) (.int .i64 t326)) (fun _ hk => hk.2) (.int .i64 t327)) (fun _ hk => hk.2) (.int .i64 t328)) (fun _ hk => hk.2) (.int .i64 t329)) (fun _ hk => hk.2) (.int .i64 t330)) (fun _ hk => hk.2) (.int .i64 t331)) (fun _ hk => hk))) (fun _ hk => GS.cj hk), fun _ => Kd.R_mono ((by (with_reducible repeat (first | apply Kd.R_alloc | apply Kd.R_drewN | apply Kd.R_drew)); exact Kd.R_mono (Kd.R_far (p := ⟨gb334, 9, none⟩) (Kd.R_far (p := ⟨gb334, 8, none⟩) (Kd.R_far (p := ⟨gb334, 7, none⟩) (Kd.R_far (p := ⟨gb334, 6, none⟩) (Kd.R_far (p := ⟨gb334, 5, none⟩) (Kd.R_far (p := ⟨gb334, 4, none⟩) (Kd.R_far (p := ⟨gb334, 3, none⟩) (Kd.R_far (p := ⟨gb334, 2, none⟩) (Kd.R_far (p := ⟨gb334, 1, none⟩) (Kd.R_far (p := ⟨gb334, 0, none⟩) (Kd.R_mono HO321.out (fun k_ hk => (⟨hk, GS.cj hk⟩ : _ ∧ k_ ≠ gb334))) (fun _ hk => hk.2) (.int .i64 t322)) (fun _ hk => hk.2) (.int .i64 t323)) (fun _ hk => hk.2) (.int .i64 t324)) (fun _ hk => hk.2) (.int .i64 t325)) (fun _ hk => hk.2) (.int .i64 t326)) (fun _ hk => hk.2) (.int .i64 t327)) (fun _ hk => hk.2) (.int .i64 t328)) (fun _ hk => hk.2) (.int .i64 t329)) (fun _ hk => hk.2) (.int .i64 t330)) (fun _ hk => hk.2) (.int .i64 t331)) (fun _ hk => hk))) (fun _ hk => GS.cj hk), fun _ h1_ => absurd ((hon 11 (by kernel_rfl)).symm.trans h1_) (by decide), fun _ => GW333.out, fun _ => GE333.out, fun _ => NB309_333.out, fun _ => NB333_309.out, fun _ => NB310_333.out, fun _ => NB333_310.out, fun _ h1_ => absurd ((up_self b 12).symm.trans h1_) (by decide), fun _ => GW334.out, fun _ => GE334.out, fun _ => NB309_334.out, fun _ => NB334_309.out, fun _ => NB310_334.out, fun _ => NB334_310.out, fun _ => (GS.bqX BK333.out), fun _ => (GS.bqZ BK334.out), fun _ _ => (by (with_reducible repeat (first | apply Kd.R_alloc | apply Kd.R_drewN | apply Kd.R_drew)); exact Kd.R_mono (Kd.R_far (p := ⟨gb334, 9, none⟩) (Kd.R_far (p := ⟨gb334, 8, none⟩) (Kd.R_far (p := ⟨gb334, 7, none⟩) (Kd.R_far (p := ⟨gb334, 6, none⟩) (Kd.R_far (p := ⟨gb334, 5, none⟩) (Kd.R_far (p := ⟨gb334, 4, none⟩) (Kd.R_far (p := ⟨gb334, 3, none⟩) (Kd.R_far (p := ⟨gb334, 2, none⟩) (Kd.R_far (p := ⟨gb334, 1, none⟩) (Kd.R_far (p := ⟨gb334, 0, none⟩) (Kd.R_mono HO316.out (fun k_ hk => (⟨hk, GS.cj hk⟩ : _ ∧ k_ ≠ gb334))) (fun _ hk => hk.2) (.int .i64 t322)) (fun _ hk => hk.2) (.int .i64 t323)) (fun _ hk => hk.2) (.int .i64 t324)) (fun _ hk => hk.2) (.int .i64 t325)) (fun _ hk => hk.2) (.int .i64 t326)) (fun _ hk => hk.2) (.int .i64 t327)) (fun _ hk => hk.2) (.int .i64 t328)) (fun _ hk => hk.2) (.int .i64 t329)) (fun _ hk => hk.2) (.int .i64 t330)) (fun _ hk => hk.2) (.int .i64 t331)) (fun _ hk => GS.cj hk)), fun _ _ => (by (with_reducible repeat (first | apply Kd.R_alloc | apply Kd.R_drewN | apply Kd.R_drew)); exact Kd.R_mono (Kd.R_far (p := ⟨gb334, 9, none⟩) (Kd.R_far (p := ⟨gb334, 8, none⟩) (Kd.R_far (p := ⟨gb334, 7, none⟩) (Kd.R_far (p := ⟨gb334, 6, none⟩) (Kd.R_far (p := ⟨gb334, 5, none⟩) (Kd.R_far (p := ⟨gb334, 4, none⟩) (Kd.R_far (p := ⟨gb334, 3, none⟩) (Kd.R_far (p := ⟨gb334, 2, none⟩) (Kd.R_far (p := ⟨gb334, 1, none⟩) (Kd.R_far (p := ⟨gb334, 0, none⟩) (Kd.R_mono HO321.out (fun k_ hk => (⟨hk, GS.cj hk⟩ : _ ∧ k_ ≠ gb334))) (fun _ hk => hk.2) (.int .i64 t322)) (fun _ hk => hk.2) (.int .i64 t323)) (fun _ hk => hk.2) (.int .i64 t324)) (fun _ hk => hk.2) (.int .i64 t325)) (fun _ hk => hk.2) (.int .i64 t326)) (fun _ hk => hk.2) (.int .i64 t327)) (fun _ hk => hk.2) (.int .i64 t328)) (fun _ hk => hk.2) (.int .i64 t329)) (fun _ hk => hk.2) (.int .i64 t330)) (fun _ hk => hk.2) (.int .i64 t331)) (fun _ hk => GS.cj hk)), Q_X1_, Q_X4_, Q_X5_, Q_X6_, Q_X9_, Q_X10_⟩
     refine steps_cons ?_ ?_
     ·rintro b a w' ⟨v315, v320, gb333, gb334, m1_, m4_, m5_, m6_, m9_, m10_, ha, Q_BK309, Q_BK310, Q_HB, Q_NB334_333, Q_NB333_334, Q_HO316_e1, Q_HO321_e4, Q_BK333, Q_GW333, Q_GE333, Q_NB309_333, Q_NB333_309, Q_NB310_333, Q_NB333_310, Q_BK334, Q_GW334, Q_GE334, Q_NB309_334, Q_NB334_309, Q_NB310_334, Q_NB334_310, Q_BK333_e11, Q_BK334_e12, Q_HO316_p1_10, Q_HO321_p4_10, Q_X1_, Q_X4_, Q_X5_, Q_X6_, Q_X9_, Q_X10_⟩ hb_ hon hoff
      refine ⟨_, rfl, fun K hK => ?_⟩
      have e26 : a.tmps[26]? = some (.int .i64 t332) := by rw [ha]; exact putSel_on (e := (8, 26, .int .i64 t332)) 7 rfl rfl (hon 8 (by kernel_rfl)) rfl
      replace ha := Aside0.mk ha
      have BK309 := Aside0.mk Q_BK309
      have BK310 := Aside0.mk Q_BK310
      have HB := Aside0.mk Q_HB
      have NB334_333 := Aside0.mk (Q_NB334_333 (hon 9 (by kernel_rfl)) (hon 10 (by kernel_rfl)))
      have NB333_334 := Aside0.mk (Q_NB333_334 (hon 9 (by kernel_rfl)) (hon 10 (by kernel_rfl)))
      have HO316 := Aside0.mk (Q_HO316_e1 (hon 1 (by kernel_rfl)))
      have HO321 := Aside0.mk (Q_HO321_e4 (hon 4 (by kernel_rfl)))
      have GW333 := Aside0.mk (Q_GW333 (hon 9 (by kernel_rfl)))
      have GE333 := Aside0.mk (Q_GE333 (hon 9 (by kernel_rfl)))
      have NB309_333 := Aside0.mk (Q_NB309_333 (hon 9 (by kernel_rfl)))
      have NB333_309 := Aside0.mk (Q_NB333_309 (hon 9 (by kernel_rfl)))
      have NB310_333 := Aside0.mk (Q_NB310_333 (hon 9 (by kernel_rfl)))
      have NB333_310 := Aside0.mk (Q_NB333_310 (hon 9 (by kernel_rfl)))
      have GW334 := Aside0.mk (Q_GW334 (hon 10 (by kernel_rfl)))
      have GE334 := Aside0.mk (Q_GE334 (hon 10 (by kernel_rfl)))
      have NB309_334 := Aside0.mk (Q_NB309_334 (hon 10 (by kernel_rfl)))
      have NB334_309 := Aside0.mk (Q_NB334_309 (hon 10 (by kernel_rfl)))
      have NB310_334 := Aside0.mk (Q_NB310_334 (hon 10 (by kernel_rfl)))
      have NB334_310 := Aside0.mk (Q_NB334_310 (hon 10 (by kernel_rfl)))
      have BK333 := Aside0.mk (Q_BK333_e11 (hon 11 (by kernel_rfl)))
      have BK334 := Aside0.mk (Q_BK334_e12 (hon 12 (by kernel_rfl)))
      have HO316 := Aside0.mk (Q_HO316_p1_10 (hon 1 (by kernel_rfl)) (hon 10 (by kernel_rfl)))
      have HO321 := Aside0.mk (Q_HO321_p4_10 (hon 4 (by kernel_rfl)) (hon 10 (by kernel_rfl)))
      refine value_ (w1 := w') (v := .int .i64 t332) (by rfl) rfl ?_ ?_
      ·go_simp
       (try simp only [i64_w])
       try rfl
      refine hK.out _ _ ⟨v315, v320, gb333, gb334, m1_, m4_, m5_, m6_, m9_, m10_, (by rw [ha.out]; exact putSel_upk 10 hb_ rfl rfl rfl), Q_BK309, Q_BK310, Q_HB, Q_NB334_333, Q_NB333_334, Q_HO316_e1, Q_HO321_e4, fun _ h1_ => absurd ((hon 11 (by kernel_rfl)).symm.trans h1_) (by decide), Q_GW333, Q_GE333, Q_NB309_333, Q_NB333_309, Q_NB310_333, Q_NB333_310, fun _ h1_ => absurd ((hon 12 (by kernel_rfl)).symm.trans h1_) (by decide), Q_GW334, Q_GE334, Q_NB309_334, Q_NB334_309, Q_NB310_334, Q_NB334_310, Q_BK333_e11, Q_BK334_e12, Q_HO316_p1_10, Q_HO321_p4_10, Q_X1_, Q_X4_, Q_X5_, Q_X6_, Q_X9_, Q_X10_⟩
     exact steps_nil
    rintro b a w41 hall ⟨v315, v320, gb333, gb334, m1_, m4_, m5_, m6_, m9_, m10_, ha, Q_BK309, Q_BK310, Q_HB, Q_NB334_333, Q_NB333_334, Q_HO316_e1, Q_HO321_e4, Q_BK333, Q_GW333, Q_GE333, Q_NB309_333, Q_NB333_309, Q_NB310_333, Q_NB333_310, Q_BK334, Q_GW334, Q_GE334, Q_NB309_334, Q_NB334_309, Q_NB310_334, Q_NB334_310, Q_BK333_e11, Q_BK334_e12, Q_HO316_p1_10, Q_HO321_p4_10, Q_X1_, Q_X4_, Q_X5_, Q_X6_, Q_X9_, Q_X10_⟩
    clear BK309 BK310 HB
    have hb0_ := hall 0 (by kernel_rfl)
    have hb1_ := hall 1 (by kernel_rfl)
    have hb3_ := hall 3 (by kernel_rfl)
    have hb4_ := hall 4 (by kernel_rfl)
    have hb5_ := hall 5 (by kernel_rfl)
    have hb6_ := hall 6 (by kernel_rfl)
    have hb7_ := hall 7 (by kernel_rfl)
    have hb8_ := hall 8 (by kernel_rfl)
    have hb9_ := hall 9 (by kernel_rfl)
    have hb10_ := hall 10 (by kernel_rfl)
    have hb11_ := hall 11 (by kernel_rfl)
    have hb12_ := hall 12 (by kernel_rfl)
    have hb13_ := hall 13 (by kernel_rfl)
    subst ha
    obtain rfl := Q_X1_ hb1_
    obtain rfl := Q_X4_ hb4_
    obtain rfl := Q_X5_ hb5_
    obtain rfl := Q_X6_ hb6_
    obtain rfl := Q_X9_ hb9_
    obtain rfl := Q_X10_ hb10_
    simp only [putSel, hb0_, hb1_, hb3_, hb4_, hb5_, hb6_, hb7_, hb8_, hb9_, hb10_, hb11_, hb12_, hb13_, if_true, Act.put, List.setIfInBounds_toArray, List.set_cons_zero, List.set_cons_succ]
    have BK309 := Aside0.mk Q_BK309
    clear Q_BK309
    have BK310 := Aside0.mk Q_BK310
    clear Q_BK310
    have HB := Aside0.mk Q_HB
    clear Q_HB
    have NB334_333 := Aside0.mk (Q_NB334_333 hb9_ hb10_)
    clear Q_NB334_333
    have NB333_334 := Aside0.mk (Q_NB333_334 hb9_ hb10_)
    clear Q_NB333_334
    have HO316 := Aside0.mk (Q_HO316_e1 hb1_)
    clear Q_HO316_e1
    have HO321 := Aside0.mk (Q_HO321_e4 hb4_)
    clear Q_HO321_e4
    clear Q_BK333
    have GW333 := Aside0.mk (Q_GW333 hb9_)
    clear Q_GW333
    have GE333 := Aside0.mk (Q_GE333 hb9_)
    clear Q_GE333
    have NB309_333 := Aside0.mk (Q_NB309_333 hb9_)
    clear Q_NB309_333
    have NB333_309 := Aside0.mk (Q_NB333_309 hb9_)
    clear Q_NB333_309
    have NB310_333 := Aside0.mk (Q_NB310_333 hb9_)
    clear Q_NB310_333
    have NB333_310 := Aside0.mk (Q_NB333_310 hb9_)
    clear Q_NB333_310
    clear Q_BK334
    have GW334 := Aside0.mk (Q_GW334 hb10_)
    clear Q_GW334
    have GE334 := Aside0.mk (Q_GE334 hb10_)
    clear Q_GE334
    have NB309_334 := Aside0.mk (Q_NB309_334 hb10_)
    clear Q_NB309_334
    have NB334_309 := Aside0.mk (Q_NB334_309 hb10_)
    clear Q_NB334_309
    have NB310_334 := Aside0.mk (Q_NB310_334 hb10_)
    clear Q_NB310_334
    have NB334_310 := Aside0.mk (Q_NB334_310 hb10_)
    clear Q_NB334_310
    have BK333 := Aside0.mk (Q_BK333_e11 hb11_)
    clear Q_BK333_e11
    have BK334 := Aside0.mk (Q_BK334_e12 hb12_)
    clear Q_BK334_e12
    have HO316 := Aside0.mk (Q_HO316_p1_10 hb1_ hb10_)
    clear Q_HO316_p1_10
    have HO321 := Aside0.mk (Q_HO321_p4_10 hb4_ hb10_)
    have n_ := Aside0.mk (GW.R_sym (v' := v320) rfl HO316.out (fun k hk => (HO321.out.1 k hk).2)); clear HO316; have HO316 := n_; clear n_
    clear Q_HO321_p4_10
    clear hall hb0_ hb1_ hb3_ hb4_ hb5_ hb6_ hb7_ hb8_ hb9_ hb10_ hb11_ hb12_ hb13_
    go_upto_region 8 with (fail)
    go_cut [82] (fun v82 wc => ∃ (kq : Nat) (x82_14 : Bool), v82 = .bool x82_14 ∧ Aside0 (spilelaw42_SenderPends.j0 kq x82_14 a0_0 a0_1 l0_2 t317 t318 t319 t322 t323 t324 t325 t326 t327 t328 t329 t330 t331 = some r) ∧ Aside0 (kq ≤ k) ∧ Aside0 (Kd.R k33 33 wc w.heap.size (fun k_ => k_ ≠ gb334 ∧ some k_ ≠ (v315 : Value).ownBlock) v320 t319) ∧ Aside0 (wc.heap[gb309]? = some (.cells #[.int .i64 a0_0, .int .i64 a0_1, (.slice A0_2 l0_2.length c0_2)] 24 (0, 0))) ∧ Aside0 (wc.heap[gb310]? = some (.cells #[.int .i64 a2_0, .int .i64 a2_1, .int .i64 a2_2, .int .i64 a2_3, .int .i64 a2_4, .int .i64 a2_5, .int .i64 a2_6] 26 (0, 0))) ∧ Aside0 (wc.heap[gb333]? = some (.cells #[.int .i64 t317, .int .i64 t318, v320] 24 (0, 0))) ∧ Aside0 (wc.heap[gb334]? = some (.cells #[.int .i64 t322, .int .i64 t323, .int .i64 t324, .int .i64 t325, .int .i64 t326, .int .i64 t327, .int .i64 t328, .int .i64 t329, .int .i64 t330, .int .i64 t331] 33 (0, 0))) ∧ Aside0 (Below w.heap.size w wc))
    case first =>
     have H := HC15.out
     clear HC15
     by_cases c42 : (!(t322 == a0_0) || (!(t323 == a1) || (!(t324 == a0_1) || ((!(t325 == a2_0) || (!(t326 == a2_1) || (!(t327 == a2_2) || (!(t328 == a2_3) || (!(t329 == a2_4) || (!(t330 == a2_5) || (!(t331 == a2_6)))))))))))) = true
     ·rw [if_pos c42] at H
      exact absurd H (by simp)
     ·rw [if_neg c42] at H
      have c42b0 : (!(t322 == a0_0) || (!(t323 == a1) || (!(t324 == a0_1) || ((!(t325 == a2_0) || (!(t326 == a2_1) || (!(t327 == a2_2) || (!(t328 == a2_3) || (!(t329 == a2_4) || (!(t330 == a2_5) || (!(t331 == a2_6)))))))))))) = false := by simpa using c42
      try simp only [beq_self_eq_true, Bool.not_true, Bool.false_or, Bool.true_and] at c42b0
      clear c42
      (first | rw [c42b0] | (simp only [i64_w, i32_w]; rw [c42b0]) | skip)
      by_cases c43 : t318 = (wrap64 (a0_1 + 1))
      ·rw [if_pos c43] at H
       have c43b0 : (t318 == (wrap64 (a0_1 + 1))) = true := beq_iff_eq.mpr c43
       try simp only [beq_self_eq_true, Bool.not_true, Bool.false_or, Bool.true_and] at c43b0
       have c43b1 : (t318 != (wrap64 (a0_1 + 1))) = false := bne_eq_false_iff_eq.mpr c43
       clear c43
       replace H := Option.bind_eq_some_iff.mp H
       obtain ⟨t335, A440, H⟩ := H
       replace H : ((some (([(⟨t322, t323, t324, (⟨t325, t326, t327, t328, t329, t330, t331⟩ : S26)⟩ : S33)] : List (S33)) : List (S33))).bind fun y338 => (if t335.length + y338.length < 1759218604441 then ((api_Envelope_20.f k t319 (t335 ++ y338)).bind fun t344 => (if t344 = true then ((spileref42_Copy.f t317 t318 t319).bind fun bt345 => ((sender_Check.f k bt345.1 bt345.2.1 bt345.2.2).bind fun t350 => (spilelaw42_SenderPends.j0 k (t350 != 0) a0_0 a0_1 l0_2 t317 t318 t319 t322 t323 t324 t325 t326 t327 t328 t329 t330 t331))) else (none))) else (none))) = some r := H
       have A44 := Aside0.mk A440
       clear A440
       obtain ⟨y338, hy338⟩ : ∃ y_ : List (S33), y_ = (([(⟨t322, t323, t324, (⟨t325, t326, t327, t328, t329, t330, t331⟩ : S26)⟩ : S33)] : List (S33))) := ⟨_, rfl⟩
       replace H : (if t335.length + y338.length < 1759218604441 then ((api_Envelope_20.f k t319 (t335 ++ y338)).bind fun t344 => (if t344 = true then ((spileref42_Copy.f t317 t318 t319).bind fun bt345 => ((sender_Check.f k bt345.1 bt345.2.1 bt345.2.2).bind fun t350 => (spilelaw42_SenderPends.j0 k (t350 != 0) a0_0 a0_1 l0_2 t317 t318 t319 t322 t323 t324 t325 t326 t327 t328 t329 t330 t331))) else (none))) else (none)) = some r := by first | (rw [hy338]; with_reducible exact H) | (have H2_ := (Option.bind_some _ _).symm.trans H; rw [hy338]; with_reducible exact H2_) | (have H2_ := (Option.bind_some _ _).symm.trans H; with_reducible exact H2_) | with_reducible exact H | (rw [hy338]; exact H) | exact H
       have Ny338 := Aside0.mk hy338
       clear hy338
       by_cases c45 : t335.length + y338.length < 1759218604441
       ·rw [if_pos c45] at H
        have LMc45 := Aside0.mk c45
        clear c45
        obtain ⟨y341, hy341⟩ : ∃ y_ : List (S33), y_ = (t335 ++ y338) := ⟨_, rfl⟩
        replace H : ((api_Envelope_20.f k t319 y341).bind fun t344 => (if t344 = true then ((spileref42_Copy.f t317 t318 t319).bind fun bt345 => ((sender_Check.f k bt345.1 bt345.2.1 bt345.2.2).bind fun t350 => (spilelaw42_SenderPends.j0 k (t350 != 0) a0_0 a0_1 l0_2 t317 t318 t319 t322 t323 t324 t325 t326 t327 t328 t329 t330 t331))) else (none))) = some r := by first | (rw [hy341]; with_reducible exact H) | (have H2_ := (Option.bind_some _ _).symm.trans H; rw [hy341]; with_reducible exact H2_) | (have H2_ := (Option.bind_some _ _).symm.trans H; with_reducible exact H2_) | with_reducible exact H | (rw [hy341]; exact H) | exact H
        have Ny341 := Aside0.mk hy341
        clear hy341
        replace H := Option.bind_eq_some_iff.mp H
        obtain ⟨t344, A460, H⟩ := H
        replace H : (if t344 = true then ((spileref42_Copy.f t317 t318 t319).bind fun bt345 => ((sender_Check.f k bt345.1 bt345.2.1 bt345.2.2).bind fun t350 => (spilelaw42_SenderPends.j0 k (t350 != 0) a0_0 a0_1 l0_2 t317 t318 t319 t322 t323 t324 t325 t326 t327 t328 t329 t330 t331))) else (none)) = some r := H
        have A46 := Aside0.mk A460
        clear A460
        by_cases c47 : t344 = true
        ·subst c47
         have H1 : ((spileref42_Copy.f t317 t318 t319).bind fun bt345 => ((sender_Check.f k bt345.1 bt345.2.1 bt345.2.2).bind fun t350 => (spilelaw42_SenderPends.j0 k (t350 != 0) a0_0 a0_1 l0_2 t317 t318 t319 t322 t323 t324 t325 t326 t327 t328 t329 t330 t331))) = some r := by rw [if_pos rfl] at H; exact H
         clear H
         have H := H1
         clear H1
         replace H := Option.bind_eq_some_iff.mp H
         obtain ⟨⟨t345, t346, t347⟩, A480, H⟩ := H
         replace H : ((sender_Check.f k t345 t346 t347).bind fun t350 => (spilelaw42_SenderPends.j0 k (t350 != 0) a0_0 a0_1 l0_2 t317 t318 t319 t322 t323 t324 t325 t326 t327 t328 t329 t330 t331)) = some r := H
         have A48 := Aside0.mk A480
         clear A480
         replace H := Option.bind_eq_some_iff.mp H
         obtain ⟨t350, A490, H⟩ := H
         replace H : (spilelaw42_SenderPends.j0 k (t350 != 0) a0_0 a0_1 l0_2 t317 t318 t319 t322 t323 t324 t325 t326 t327 t328 t329 t330 t331) = some r := H
         have A49 := Aside0.mk A490
         clear A490
         have H' := Aside0.mk H
         clear H
         obtain ⟨Ao50, co50, eo50⟩ := Kd.R_slice HO321.out
         subst eo50
         try go_wp2
         have n0_ := Aside0.mk (Kd.R_drew HO316.out)
         have n1_ := Aside0.mk (Kd.R_drew HO321.out)
         have n2_ := Aside0.mk (bqD BK309.out)
         have n3_ := Aside0.mk (bqD BK310.out)
         have n4_ := Aside0.mk (bqD BK333.out)
         have n5_ := Aside0.mk (bqD BK334.out)
         have n6_ := Aside0.mk (lqD HB.out)
         clear HO316
         clear HO321
         clear BK309
         clear BK310
         clear BK333
         clear BK334
         clear HB
         have HO316 := n0_
         have HO321 := n1_
         have BK309 := n2_
         have BK310 := n3_
         have BK333 := n4_
         have BK334 := n5_
         have HB := n6_
         clear n0_ n1_ n2_ n3_ n4_ n5_ n6_
         refine start_ (n := 35) (S := fun w' => w'.cell? ⟨gb334, 0, none⟩ = some (.int .i64 t322) ∧ w'.cell? ⟨gb334, 1, none⟩ = some (.int .i64 t323) ∧ w'.cell? ⟨gb334, 2, none⟩ = some (.int .i64 t324) ∧ w'.cell? ⟨gb334, 3, none⟩ = some (.int .i64 t325) ∧ w'.cell? ⟨gb334, 4, none⟩ = some (.int .i64 t326) ∧ w'.cell? ⟨gb334, 5, none⟩ = some (.int .i64 t327) ∧ w'.cell? ⟨gb334, 6, none⟩ = some (.int .i64 t328) ∧ w'.cell? ⟨gb334, 7, none⟩ = some (.int .i64 t329) ∧ w'.cell? ⟨gb334, 8, none⟩ = some (.int .i64 t330) ∧ w'.cell? ⟨gb334, 9, none⟩ = some (.int .i64 t331) ∧ w'.cell? ⟨gb309, 0, none⟩ = some (.int .i64 a0_0) ∧ w'.cell? ⟨gb309, 1, none⟩ = some (.int .i64 a0_1) ∧ w'.cell? ⟨gb309, 2, none⟩ = some (.slice A0_2 l0_2.length c0_2) ∧ w'.cell? ⟨gb310, 0, none⟩ = some (.int .i64 a2_0) ∧ w'.cell? ⟨gb310, 1, none⟩ = some (.int .i64 a2_1) ∧ w'.cell? ⟨gb310, 2, none⟩ = some (.int .i64 a2_2) ∧ w'.cell? ⟨gb310, 3, none⟩ = some (.int .i64 a2_3) ∧ w'.cell? ⟨gb310, 4, none⟩ = some (.int .i64 a2_4) ∧ w'.cell? ⟨gb310, 5, none⟩ = some (.int .i64 a2_5) ∧ w'.cell? ⟨gb310, 6, none⟩ = some (.int .i64 a2_6) ∧ w'.cell? ⟨gb333, 0, none⟩ = some (.int .i64 t317) ∧ w'.cell? ⟨gb333, 1, none⟩ = some (.int .i64 t318) ∧ w'.cell? ⟨gb333, 2, none⟩ = some (.slice Ao50 t319.length co50)) (ds := []) #[false, false, false, false, false, false, false, false, false, false, false, false, false, false, false, false, false, false, false, false, false, false, false, false, false, false, false, false, false, false, false, false, false, false, false] (by kernel_rfl) rfl rfl ⟨(bqC BK334.out 0).trans rfl, (bqC BK334.out 1).trans rfl, (bqC BK334.out 2).trans rfl, (bqC BK334.out 3).trans rfl, (bqC BK334.out 4).trans rfl, (bqC BK334.out 5).trans rfl, (bqC BK334.out 6).trans rfl, (bqC BK334.out 7).trans rfl, (bqC BK334.out 8).trans rfl, (bqC BK334.out 9).trans rfl, (bqC BK309.out 0).trans rfl, (bqC BK309.out 1).trans rfl, (bqC BK309.out 2).trans rfl, (bqC BK310.out 0).trans rfl, (bqC BK310.out 1).trans rfl, (bqC BK310.out 2).trans rfl, (bqC BK310.out 3).trans rfl, (bqC BK310.out 4).trans rfl, (bqC BK310.out 5).trans rfl, (bqC BK310.out 6).trans rfl, (bqC BK333.out 0).trans rfl, (bqC BK333.out 1).trans rfl, (bqC BK333.out 2).trans rfl⟩ (fun hHeld => ?_); refine with_tabW spilelaw42_SenderPends.tab8 spilelaw42_SenderPends.bits8 (fun HT_ HW_ => ?_)
         generalize w41.drew = w51 at HO316 HO321 BK309 BK310 BK333 BK334 HB hHeld ⊢
         refine pure_ (i := 1) (N := some 49) (v := ?_) (a' := ?_) #[false, true, false, false, false, false, false, false, false, false, false, false, false, false, false, false, false, false, false, false, false, false, false, false, false, false, false, false, false, false, false, false, false, false, false] rfl rfl (any_of HT_.out (by kernel_rfl)) (fun _ _ _ h => h) (Or.inl ⟨by rfl, ?_⟩) ?_ ?_
         rotate_left
         ·intro w'
          go_simp
          with_reducible rfl
         rotate_left
         ·simp only [Act.put, List.setIfInBounds_toArray, List.set_cons_zero, List.set_cons_succ, i64_w, i32_w]
          rfl
         refine pure_ (i := 3) (N := some 51) (v := ?_) (a' := ?_) #[false, true, false, true, false, false, false, false, false, false, false, false, false, false, false, false, false, false, false, false, false, false, false, false, false, false, false, false, false, false, false, false, false, false, false] rfl rfl (any_of HT_.out (by kernel_rfl)) (fun _ _ _ h => h) (Or.inl ⟨by rfl, ?_⟩) ?_ ?_
         rotate_left
         ·intro w'
          go_simp
          with_reducible rfl
         rotate_left
         ·simp only [Act.put, List.setIfInBounds_toArray, List.set_cons_zero, List.set_cons_succ, i64_w, i32_w]
          rfl
         refine pure_ (i := 4) (N := some 52) (v := ?_) (a' := ?_) #[false, true, false, true, true, false, false, false, false, false, false, false, false, false, false, false, false, false, false, false, false, false, false, false, false, false, false, false, false, false, false, false, false, false, false] rfl rfl (any_of HT_.out (by kernel_rfl)) (fun _ _ _ h => h) (Or.inl ⟨by rfl, ?_⟩) ?_ ?_
         rotate_left
         ·intro w'
          go_simp
          with_reducible rfl
         rotate_left
         ·simp only [Act.put, List.setIfInBounds_toArray, List.set_cons_zero, List.set_cons_succ, i64_w, i32_w]
          rfl
         refine take_ (i := 0) (N := some 48) (v := ?_) (a' := ?_) #[true, true, false, true, true, false, false, false, false, false, false, false, false, false, false, false, false, false, false, false, false, false, false, false, false, false, false, false, false, false, false, false, false, false, false] rfl rfl (take_ofW HT_.out HW_.out (by kernel_rfl)) (fun _ _ _ h => h) (Or.inl ⟨by rfl, ?_⟩) hHeld ?_ ?_
         rotate_left
         ·rintro w' ⟨s0, s1, s2, s3, s4, s5, s6, s7, s8, s9, s10, s11, s12, s13, s14, s15, s16, s17, s18, s19, s20, s21, s22⟩
          go_simp
          with_reducible rfl
         rotate_left
         ·simp only [Act.put, List.setIfInBounds_toArray, List.set_cons_zero, List.set_cons_succ, i64_w, i32_w]
          rfl
         refine take_ (i := 2) (N := some 50) (v := ?_) (a' := ?_) #[true, true, true, true, true, false, false, false, false, false, false, false, false, false, false, false, false, false, false, false, false, false, false, false, false, false, false, false, false, false, false, false, false, false, false] rfl rfl (take_ofW HT_.out HW_.out (by kernel_rfl)) (fun _ _ _ h => h) (Or.inl ⟨by rfl, ?_⟩) hHeld ?_ ?_
         rotate_left
         ·rintro w' ⟨s0, s1, s2, s3, s4, s5, s6, s7, s8, s9, s10, s11, s12, s13, s14, s15, s16, s17, s18, s19, s20, s21, s22⟩
          go_simp
          with_reducible rfl
         rotate_left
         ·simp only [Act.put, List.setIfInBounds_toArray, List.set_cons_zero, List.set_cons_succ, i64_w, i32_w]
          rfl
         refine take_ (i := 5) (N := some 53) (v := ?_) (a' := ?_) #[true, true, true, true, true, true, false, false, false, false, false, false, false, false, false, false, false, false, false, false, false, false, false, false, false, false, false, false, false, false, false, false, false, false, false] rfl rfl (take_ofW HT_.out HW_.out (by kernel_rfl)) (fun _ _ _ h => h) (Or.inl ⟨by rfl, ?_⟩) hHeld ?_ ?_
         rotate_left
         ·rintro w' ⟨s0, s1, s2, s3, s4, s5, s6, s7, s8, s9, s10, s11, s12, s13, s14, s15, s16, s17, s18, s19, s20, s21, s22⟩
          go_simp
          with_reducible rfl
         rotate_left
         ·simp only [Act.put, List.setIfInBounds_toArray, List.set_cons_zero, List.set_cons_succ, i64_w, i32_w]
          rfl
         refine take_ (i := 6) (N := some 54) (v := ?_) (a' := ?_) #[true, true, true, true, true, true, true, false, false, false, false, false, false, false, false, false, false, false, false, false, false, false, false, false, false, false, false, false, false, false, false, false, false, false, false] rfl rfl (take_ofW HT_.out HW_.out (by kernel_rfl)) (fun _ _ _ h => h) (Or.inl ⟨by rfl, ?_⟩) hHeld ?_ ?_
         rotate_left
         ·rintro w' ⟨s0, s1, s2, s3, s4, s5, s6, s7, s8, s9, s10, s11, s12, s13, s14, s15, s16, s17, s18, s19, s20, s21, s22⟩
          go_simp
          with_reducible rfl
         rotate_left
         ·simp only [Act.put, List.setIfInBounds_toArray, List.set_cons_zero, List.set_cons_succ, i64_w, i32_w]
          rfl
         refine pure_ (i := 7) (N := some 55) (v := ?_) (a' := ?_) #[true, true, true, true, true, true, true, true, false, false, false, false, false, false, false, false, false, false, false, false, false, false, false, false, false, false, false, false, false, false, false, false, false, false, false] rfl rfl (any_of HT_.out (by kernel_rfl)) (fun _ _ _ h => h) (Or.inl ⟨by rfl, ?_⟩) ?_ ?_
         rotate_left
         ·intro w'
          go_simp
          with_reducible rfl
         rotate_left
         ·simp only [Act.put, List.setIfInBounds_toArray, List.set_cons_zero, List.set_cons_succ, i64_w, i32_w]
          rfl
         refine pure_ (i := 8) (N := some 56) (v := ?_) (a' := ?_) #[true, true, true, true, true, true, true, true, true, false, false, false, false, false, false, false, false, false, false, false, false, false, false, false, false, false, false, false, false, false, false, false, false, false, false] rfl rfl (any_of HT_.out (by kernel_rfl)) (fun _ _ _ h => h) (Or.inl ⟨by rfl, ?_⟩) ?_ ?_
         rotate_left
         ·intro w'
          go_simp
          with_reducible rfl
         rotate_left
         ·simp only [Act.put, List.setIfInBounds_toArray, List.set_cons_zero, List.set_cons_succ, i64_w, i32_w]
          rfl
         refine pure_ (i := 9) (N := some 57) (v := ?_) (a' := ?_) #[true, true, true, true, true, true, true, true, true, true, false, false, false, false, false, false, false, false, false, false, false, false, false, false, false, false, false, false, false, false, false, false, false, false, false] rfl rfl (any_of HT_.out (by kernel_rfl)) (fun _ _ _ h => h) (Or.inl ⟨by rfl, ?_⟩) ?_ ?_
         rotate_left
         ·intro w'
          go_simp
          with_reducible rfl
         rotate_left
         ·simp only [Act.put, List.setIfInBounds_toArray, List.set_cons_zero, List.set_cons_succ, i64_w, i32_w]
          rfl
         refine pure_ (i := 10) (N := some 58) (v := ?_) (a' := ?_) #[true, true, true, true, true, true, true, true, true, true, true, false, false, false, false, false, false, false, false, false, false, false, false, false, false, false, false, false, false, false, false, false, false, false, false] rfl rfl (any_of HT_.out (by kernel_rfl)) (fun _ _ _ h => h) (Or.inl ⟨by rfl, ?_⟩) ?_ ?_
         rotate_left
         ·intro w'
          go_simp
          with_reducible rfl
         rotate_left
         ·simp only [Act.put, List.setIfInBounds_toArray, List.set_cons_zero, List.set_cons_succ, i64_w, i32_w]
          rfl
         refine pure_ (i := 12) (N := some 60) (v := ?_) (a' := ?_) #[true, true, true, true, true, true, true, true, true, true, true, false, true, false, false, false, false, false, false, false, false, false, false, false, false, false, false, false, false, false, false, false, false, false, false] rfl rfl (any_of HT_.out (by kernel_rfl)) (fun _ _ _ h => h) (Or.inl ⟨by rfl, ?_⟩) ?_ ?_
         rotate_left
         ·intro w'
          go_simp
          with_reducible rfl
         rotate_left
         ·simp only [Act.put, List.setIfInBounds_toArray, List.set_cons_zero, List.set_cons_succ, i64_w, i32_w]
          rfl
         refine take_ (i := 11) (N := some 59) (v := ?_) (a' := ?_) #[true, true, true, true, true, true, true, true, true, true, true, true, true, false, false, false, false, false, false, false, false, false, false, false, false, false, false, false, false, false, false, false, false, false, false] rfl rfl (take_ofW HT_.out HW_.out (by kernel_rfl)) (fun _ _ _ h => h) (Or.inl ⟨by rfl, ?_⟩) hHeld ?_ ?_
         rotate_left
         ·rintro w' ⟨s0, s1, s2, s3, s4, s5, s6, s7, s8, s9, s10, s11, s12, s13, s14, s15, s16, s17, s18, s19, s20, s21, s22⟩
          go_simp
          with_reducible rfl
         rotate_left
         ·simp only [Act.put, List.setIfInBounds_toArray, List.set_cons_zero, List.set_cons_succ, i64_w, i32_w]
          rfl
         refine take_ (i := 13) (N := some 61) (v := ?_) (a' := ?_) #[true, true, true, true, true, true, true, true, true, true, true, true, true, true, false, false, false, false, false, false, false, false, false, false, false, false, false, false, false, false, false, false, false, false, false] rfl rfl (take_ofW HT_.out HW_.out (by kernel_rfl)) (fun _ _ _ h => h) (Or.inl ⟨by rfl, ?_⟩) hHeld ?_ ?_
         rotate_left
         ·rintro w' ⟨s0, s1, s2, s3, s4, s5, s6, s7, s8, s9, s10, s11, s12, s13, s14, s15, s16, s17, s18, s19, s20, s21, s22⟩
          go_simp
          with_reducible rfl
         rotate_left
         ·simp only [Act.put, List.setIfInBounds_toArray, List.set_cons_zero, List.set_cons_succ, i64_w, i32_w]
          rfl
         refine pure_ (i := 14) (N := some 62) (v := ?_) (a' := ?_) #[true, true, true, true, true, true, true, true, true, true, true, true, true, true, true, false, false, false, false, false, false, false, false, false, false, false, false, false, false, false, false, false, false, false, false] rfl rfl (any_of HT_.out (by kernel_rfl)) (fun _ _ _ h => h) (Or.inl ⟨by rfl, ?_⟩) ?_ ?_
         rotate_left
         ·intro w'
          go_simp
          with_reducible rfl
         rotate_left
         ·simp only [Act.put, List.setIfInBounds_toArray, List.set_cons_zero, List.set_cons_succ, i64_w, i32_w]
          rfl
         refine pure_ (i := 15) (N := some 63) (v := ?_) (a' := ?_) #[true, true, true, true, true, true, true, true, true, true, true, true, true, true, true, true, false, false, false, false, false, false, false, false, false, false, false, false, false, false, false, false, false, false, false] rfl rfl (any_of HT_.out (by kernel_rfl)) (fun _ _ _ h => h) (Or.inl ⟨by rfl, ?_⟩) ?_ ?_
         rotate_left
         ·intro w'
          go_simp
          with_reducible rfl
         rotate_left
         ·simp only [Act.put, List.setIfInBounds_toArray, List.set_cons_zero, List.set_cons_succ, i64_w, i32_w]
          rfl
         refine pure_ (i := 16) (N := some 64) (v := ?_) (a' := ?_) #[true, true, true, true, true, true, true, true, true, true, true, true, true, true, true, true, true, false, false, false, false, false, false, false, false, false, false, false, false, false, false, false, false, false, false] rfl rfl (any_of HT_.out (by kernel_rfl)) (fun _ _ _ h => h) (Or.inl ⟨by rfl, ?_⟩) ?_ ?_
         rotate_left
         ·intro w'
          go_simp
          with_reducible rfl
         rotate_left
         ·simp only [Act.put, List.setIfInBounds_toArray, List.set_cons_zero, List.set_cons_succ, i64_w, i32_w]
          rfl
         refine pure_ (i := 17) (N := some 65) (v := ?_) (a' := ?_) #[true, true, true, true, true, true, true, true, true, true, true, true, true, true, true, true, true, true, false, false, false, false, false, false, false, false, false, false, false, false, false, false, false, false, false] rfl rfl (any_of HT_.out (by kernel_rfl)) (fun _ _ _ h => h) (Or.inl ⟨by rfl, ?_⟩) ?_ ?_
         rotate_left
         ·intro w'
          go_simp
          with_reducible rfl
         rotate_left
         ·simp only [Act.put, List.setIfInBounds_toArray, List.set_cons_zero, List.set_cons_succ, i64_w, i32_w]
          rfl
         refine pure_ (i := 18) (N := some 66) (v := ?_) (a' := ?_) #[true, true, true, true, true, true, true, true, true, true, true, true, true, true, true, true, true, true, true, false, false, false, false, false, false, false, false, false, false, false, false, false, false, false, false] rfl rfl (any_of HT_.out (by kernel_rfl)) (fun _ _ _ h => h) (Or.inl ⟨by rfl, ?_⟩) ?_ ?_
         rotate_left
         ·intro w'
          go_simp
          with_reducible rfl
         rotate_left
         ·simp only [Act.put, List.setIfInBounds_toArray, List.set_cons_zero, List.set_cons_succ, i64_w, i32_w]
          rfl
         refine pure_ (i := 20) (N := some 68) (v := ?_) (a' := ?_) #[true, true, true, true, true, true, true, true, true, true, true, true, true, true, true, true, true, true, true, false, true, false, false, false, false, false, false, false, false, false, false, false, false, false, false] rfl rfl (any_of HT_.out (by kernel_rfl)) (fun _ _ _ h => h) (Or.inl ⟨by rfl, ?_⟩) ?_ ?_
         rotate_left
         ·intro w'
          go_simp
          with_reducible rfl
         rotate_left
         ·simp only [Act.put, List.setIfInBounds_toArray, List.set_cons_zero, List.set_cons_succ, i64_w, i32_w]
          rfl
         refine take_ (i := 19) (N := some 67) (v := ?_) (a' := ?_) #[true, true, true, true, true, true, true, true, true, true, true, true, true, true, true, true, true, true, true, true, true, false, false, false, false, false, false, false, false, false, false, false, false, false, false] rfl rfl (take_ofW HT_.out HW_.out (by kernel_rfl)) (fun _ _ _ h => h) (Or.inl ⟨by rfl, ?_⟩) hHeld ?_ ?_
         rotate_left
         ·rintro w' ⟨s0, s1, s2, s3, s4, s5, s6, s7, s8, s9, s10, s11, s12, s13, s14, s15, s16, s17, s18, s19, s20, s21, s22⟩
          go_simp
          with_reducible rfl
         rotate_left
         ·simp only [Act.put, List.setIfInBounds_toArray, List.set_cons_zero, List.set_cons_succ, i64_w, i32_w]
          rfl
         refine take_ (i := 21) (N := some 69) (v := ?_) (a' := ?_) #[true, true, true, true, true, true, true, true, true, true, true, true, true, true, true, true, true, true, true, true, true, true, false, false, false, false, false, false, false, false, false, false, false, false, false] rfl rfl (take_ofW HT_.out HW_.out (by kernel_rfl)) (fun _ _ _ h => h) (Or.inl ⟨by rfl, ?_⟩) hHeld ?_ ?_
         rotate_left
         ·rintro w' ⟨s0, s1, s2, s3, s4, s5, s6, s7, s8, s9, s10, s11, s12, s13, s14, s15, s16, s17, s18, s19, s20, s21, s22⟩
          go_simp
          with_reducible rfl
         rotate_left
         ·simp only [Act.put, List.setIfInBounds_toArray, List.set_cons_zero, List.set_cons_succ, i64_w, i32_w]
          rfl
         refine take_ (i := 23) (N := some 71) (v := ?_) (a' := ?_) #[true, true, true, true, true, true, true, true, true, true, true, true, true, true, true, true, true, true, true, true, true, true, false, true, false, false, false, false, false, false, false, false, false, false, false] rfl rfl (take_ofW HT_.out HW_.out (by kernel_rfl)) (fun _ _ _ h => h) (Or.inl ⟨by rfl, ?_⟩) hHeld ?_ ?_
         rotate_left
         ·rintro w' ⟨s0, s1, s2, s3, s4, s5, s6, s7, s8, s9, s10, s11, s12, s13, s14, s15, s16, s17, s18, s19, s20, s21, s22⟩
          go_simp
          with_reducible rfl
         rotate_left
         ·simp only [Act.put, List.setIfInBounds_toArray, List.set_cons_zero, List.set_cons_succ, i64_w, i32_w]
          rfl
         refine join_ (σ := Value × Value) 10 #[true, true, true, true, true, true, true, true, true, true, true, true, true, true, true, true, true, true, true, true, true, true, true, true, true, false, false, false, false, false, false, false, false, false, false] (fun s_ => [(70, s_.1), (72, s_.2)]) (fun s_ w' => (w'.cell? ⟨gb334, 0, none⟩ = some (.int .i64 t322) ∧ w'.cell? ⟨gb334, 1, none⟩ = some (.int .i64 t323) ∧ w'.cell? ⟨gb334, 2, none⟩ = some (.int .i64 t324) ∧ w'.cell? ⟨gb334, 3, none⟩ = some (.int .i64 t325) ∧ w'.cell? ⟨gb334, 4, none⟩ = some (.int .i64 t326) ∧ w'.cell? ⟨gb334, 5, none⟩ = some (.int .i64 t327) ∧ w'.cell? ⟨gb334, 6, none⟩ = some (.int .i64 t328) ∧ w'.cell? ⟨gb334, 7, none⟩ = some (.int .i64 t329) ∧ w'.cell? ⟨gb334, 8, none⟩ = some (.int .i64 t330) ∧ w'.cell? ⟨gb334, 9, none⟩ = some (.int .i64 t331) ∧ w'.cell? ⟨gb309, 0, none⟩ = some (.int .i64 a0_0) ∧ w'.cell? ⟨gb309, 1, none⟩ = some (.int .i64 a0_1) ∧ w'.cell? ⟨gb309, 2, none⟩ = some (.slice A0_2 l0_2.length c0_2) ∧ w'.cell? ⟨gb310, 0, none⟩ = some (.int .i64 a2_0) ∧ w'.cell? ⟨gb310, 1, none⟩ = some (.int .i64 a2_1) ∧ w'.cell? ⟨gb310, 2, none⟩ = some (.int .i64 a2_2) ∧ w'.cell? ⟨gb310, 3, none⟩ = some (.int .i64 a2_3) ∧ w'.cell? ⟨gb310, 4, none⟩ = some (.int .i64 a2_4) ∧ w'.cell? ⟨gb310, 5, none⟩ = some (.int .i64 a2_5) ∧ w'.cell? ⟨gb310, 6, none⟩ = some (.int .i64 a2_6) ∧ w'.cell? ⟨gb333, 0, none⟩ = some (.int .i64 t317) ∧ w'.cell? ⟨gb333, 1, none⟩ = some (.int .i64 t318) ∧ w'.cell? ⟨gb333, 2, none⟩ = some (.slice Ao50 t319.length co50)) ∧ (Kd.R k33 33 w' w.heap.size (fun k_ => some k_ ≠ (.slice Ao50 t319.length co50 : Value).ownBlock ∧ some k_ ≠ (s_.1 : Value).ownBlock ∧ some k_ ≠ (s_.2 : Value).ownBlock ∧ k_ ≠ gb334) v315 t314) ∧ (Kd.R k33 33 w' w.heap.size (fun k_ => some k_ ≠ (v315 : Value).ownBlock ∧ some k_ ≠ (s_.1 : Value).ownBlock ∧ some k_ ≠ (s_.2 : Value).ownBlock ∧ k_ ≠ gb334) (.slice Ao50 t319.length co50) t319) ∧ (Kd.R k33 33 w' w.heap.size (fun k_ => some k_ ≠ (v315 : Value).ownBlock ∧ some k_ ≠ (.slice Ao50 t319.length co50 : Value).ownBlock ∧ some k_ ≠ (s_.2 : Value).ownBlock ∧ k_ ≠ gb334) s_.1 t335) ∧ (Kd.R k33 33 w' w.heap.size (fun k_ => some k_ ≠ (v315 : Value).ownBlock ∧ some k_ ≠ (.slice Ao50 t319.length co50 : Value).ownBlock ∧ some k_ ≠ (s_.1 : Value).ownBlock ∧ k_ ≠ gb334) s_.2 y338) ∧ (w'.heap[gb309]? = some (.cells #[.int .i64 a0_0, .int .i64 a0_1, .slice A0_2 l0_2.length c0_2] 24 (0, 0))) ∧ (w'.heap[gb310]? = some (.cells #[.int .i64 a2_0, .int .i64 a2_1, .int .i64 a2_2, .int .i64 a2_3, .int .i64 a2_4, .int .i64 a2_5, .int .i64 a2_6] 26 (0, 0))) ∧ (w'.heap[gb333]? = some (.cells #[.int .i64 t317, .int .i64 t318, .slice Ao50 t319.length co50] 24 (0, 0))) ∧ (w'.heap[gb334]? = some (.cells #[.int .i64 t322, .int .i64 t323, .int .i64 t324, .int .i64 t325, .int .i64 t326, .int .i64 t327, .int .i64 t328, .int .i64 t329, .int .i64 t330, .int .i64 t331] 33 (0, 0))) ∧ (Below w.heap.size w w')) ?_ ?_
         rotate_left
         ·intro hCont
          refine two_ (i := 22) (j := 24) (Ni := some 70) (Nj := some 72) #[true, true, true, true, true, true, true, true, true, true, true, true, true, true, true, true, true, true, true, true, true, true, true, true, false, false, false, false, false, false, false, false, false, false, false] #[true, true, true, true, true, true, true, true, true, true, true, true, true, true, true, true, true, true, true, true, true, true, false, true, true, false, false, false, false, false, false, false, false, false, false] rfl rfl rfl rfl (two_of HT_.out (by kernel_rfl)) (by decide) (by decide) (fun K hK => ?_) (fun K hK => ?_)
          ·skip
           refine goes_ Try.func21 (by kernel_rfl) rfl #[.slice A0_2 l0_2.length c0_2] (by rfl) rfl rfl (by (try simp only [List.map_toArray, List.map_cons, List.map_nil]); first | done | rfl | (simp only [List.length_drop, List.length_take]; rfl)) ?_
           with_reducible refine (api_Envelope_21.calls _ _ l0_2 t335 _ ?side1 ?side2 A44.out).mono ?_
           (case side1 => repeat (first | exact (Kd.C_below HR0_2.out HB.out) | (with_reducible refine Kd.C_alloc ?_ _) | (with_reducible refine Kd.C_drewN ?_ _) | (with_reducible refine Kd.C_drew ?_)))
           (case side2 => exact HC0_2.out)
           rintro e w52 ⟨v336, rfl, ho0, hb⟩
           refine ⟨_, rfl, ?_⟩
           have n0_ := Aside0.mk (Kd.R_elder' (by (with_reducible repeat (first | apply Kd.R_alloc | apply Kd.R_drewN | apply Kd.R_drew)); exact HO316.out) (Kd.R_base ho0) hb)
           have n1_ := Aside0.mk (Kd.R_elder' (by (with_reducible repeat (first | apply Kd.R_alloc | apply Kd.R_drewN | apply Kd.R_drew)); exact HO321.out) (Kd.R_base ho0) hb)
           have n2_ := Aside0.mk (Kd.R_lower (Kd.R_newB (Kd.R_new' (Kd.R_new' ho0 (Kd.R_lt (by (with_reducible repeat (first | apply Kd.R_alloc | apply Kd.R_drewN | apply Kd.R_drew)); exact HO316.out))) (Kd.R_lt (by (with_reducible repeat (first | apply Kd.R_alloc | apply Kd.R_drewN | apply Kd.R_drew)); exact HO321.out))) (GS.bqX BK334.out)) (lqZ (by repeat (first | (with_reducible first | exact HB.out | apply lqA | apply lqN | apply lqD | refine lqS ?_ GE309.out | refine lqS ?_ GE310.out | refine lqS ?_ GE333.out | refine lqS ?_ GE334.out) | exact HB.out))))
           have n3_ := Aside0.mk (bqB (GS.bqX BK309.out) hb)
           have n4_ := Aside0.mk (bqB (GS.bqX BK310.out) hb)
           have n5_ := Aside0.mk (bqB (GS.bqX BK333.out) hb)
           have n6_ := Aside0.mk (bqB (GS.bqX BK334.out) hb)
           have n7_ := Aside0.mk (lqT (by repeat (first | (with_reducible first | exact HB.out | apply lqA | apply lqN | apply lqD | refine lqS ?_ GE309.out | refine lqS ?_ GE310.out | refine lqS ?_ GE333.out | refine lqS ?_ GE334.out) | exact HB.out)) hb)
           clear HO316
           clear HO321
           clear BK309
           clear BK310
           clear BK333
           clear BK334
           clear HB
           have HO316 := n0_
           have HO321 := n1_
           have HO337 := n2_
           have BK309 := n3_
           have BK310 := n4_
           have BK333 := n5_
           have BK334 := n6_
           have HB := n7_
           clear n0_ n1_ n2_ n3_ n4_ n5_ n6_ n7_
           (try clear hb)
           (try clear hb2)
           (try clear hk)
           (try clear hi)
           (try clear ho0)
           refine hK.out _ _ ⟨(bqC BK334.out 0).trans rfl, (bqC BK334.out 1).trans rfl, (bqC BK334.out 2).trans rfl, (bqC BK334.out 3).trans rfl, (bqC BK334.out 4).trans rfl, (bqC BK334.out 5).trans rfl, (bqC BK334.out 6).trans rfl, (bqC BK334.out 7).trans rfl, (bqC BK334.out 8).trans rfl, (bqC BK334.out 9).trans rfl, (bqC BK309.out 0).trans rfl, (bqC BK309.out 1).trans rfl, (bqC BK309.out 2).trans rfl, (bqC BK310.out 0).trans rfl, (bqC BK310.out 1).trans rfl, (bqC BK310.out 2).trans rfl, (bqC BK310.out 3).trans rfl, (bqC BK310.out 4).trans rfl, (bqC BK310.out 5).trans rfl, (bqC BK310.out 6).trans rfl, (bqC BK333.out 0).trans rfl, (bqC BK333.out 1).trans rfl, (bqC BK333.out 2).trans rfl⟩ (fun hHeld => ?_)
           clear hK K
           refine norm_ (a' := ?_) ?_ ?_
           rotate_left
           ·show Act.put _ (some 70) _ = _
            simp only [Act.put, List.setIfInBounds_toArray, List.set_cons_zero, List.set_cons_succ, i64_w, i32_w]
            rfl
           refine one_ (i := 24) (N := some 72) #[true, true, true, true, true, true, true, true, true, true, true, true, true, true, true, true, true, true, true, true, true, true, true, true, true, false, false, false, false, false, false, false, false, false, false] rfl rfl (one_of HT_.out (by kernel_rfl)) (by decide) (fun K hK => ?_)
           refine Kd.R_lit_step k33 _ 33 ?hg (N := 72) ?hd (xs := ([(⟨t322, t323, t324, (⟨t325, t326, t327, t328, t329, t330, t331⟩ : S26)⟩ : S33)] : List (S33))) (inner := [.int .i64 t322, .int .i64 t323, .int .i64 t324, .int .i64 t325, .int .i64 t326, .int .i64 t327, .int .i64 t328, .int .i64 t329, .int .i64 t330, .int .i64 t331]) (ok := fun _ => True) (okp := fun _ => True) ?hr ?hp (fun _ hk => hk) trivial (Below.refl _ _) (Nat.le_refl _) (by simp) ?_; (case hd => rfl); (case hg => rfl); (case hr => first | (go_simp; done) | (go_simp; rfl)); (case hp => exact (Reps.c10 (show Kd.M k33 _ _ _ (⟨t322, t323, t324, (⟨t325, t326, t327, t328, t329, t330, t331⟩ : S26)⟩ : S33) [.int .i64 t322, .int .i64 t323, .int .i64 t324, .int .i64 t325, .int .i64 t326, .int .i64 t327, .int .i64 t328, .int .i64 t329, .int .i64 t330, .int .i64 t331] from (k33_mkM _ _ _ (⟨t322, t323, t324, (⟨t325, t326, t327, t328, t329, t330, t331⟩ : S26)⟩ : S33) )) (Reps.none _ _)))
           intro v339 w53 ho54 hb hg_ hnew_
           clear hg_ hnew_
           (first | rw [← Ny338.out] at ho54 | (simp only [Int.reduceToNat] at ho54; rw [← Ny338.out] at ho54))
           have n0_ := Aside0.mk (Kd.R_elder' (by (with_reducible repeat (first | apply Kd.R_alloc | apply Kd.R_drewN | apply Kd.R_drew)); exact HO316.out) (Kd.R_base ho54) hb)
           have n1_ := Aside0.mk (Kd.R_elder' (by (with_reducible repeat (first | apply Kd.R_alloc | apply Kd.R_drewN | apply Kd.R_drew)); exact HO321.out) (Kd.R_base ho54) hb)
           have n2_ := Aside0.mk (Kd.R_elder' (by (with_reducible repeat (first | apply Kd.R_alloc | apply Kd.R_drewN | apply Kd.R_drew)); exact HO337.out) (Kd.R_base ho54) hb)
           have n3_ := Aside0.mk (Kd.R_lower (Kd.R_newB (Kd.R_new' (Kd.R_new' (Kd.R_new' ho54 (Kd.R_lt (by (with_reducible repeat (first | apply Kd.R_alloc | apply Kd.R_drewN | apply Kd.R_drew)); exact HO316.out))) (Kd.R_lt (by (with_reducible repeat (first | apply Kd.R_alloc | apply Kd.R_drewN | apply Kd.R_drew)); exact HO321.out))) (Kd.R_lt (by (with_reducible repeat (first | apply Kd.R_alloc | apply Kd.R_drewN | apply Kd.R_drew)); exact HO337.out))) (GS.bqX BK334.out)) (lqZ (by repeat (first | (with_reducible first | exact HB.out | apply lqA | apply lqN | apply lqD | refine lqS ?_ GE309.out | refine lqS ?_ GE310.out | refine lqS ?_ GE333.out | refine lqS ?_ GE334.out) | exact HB.out))))
           have n4_ := Aside0.mk (bqB (GS.bqX BK309.out) hb)
           have n5_ := Aside0.mk (bqB (GS.bqX BK310.out) hb)
           have n6_ := Aside0.mk (bqB (GS.bqX BK333.out) hb)
           have n7_ := Aside0.mk (bqB (GS.bqX BK334.out) hb)
           have n8_ := Aside0.mk (lqT (by repeat (first | (with_reducible first | exact HB.out | apply lqA | apply lqN | apply lqD | refine lqS ?_ GE309.out | refine lqS ?_ GE310.out | refine lqS ?_ GE333.out | refine lqS ?_ GE334.out) | exact HB.out)) hb)
           clear HO316
           clear HO321
           clear HO337
           clear BK309
           clear BK310
           clear BK333
           clear BK334
           clear HB
           have HO316 := n0_
           have HO321 := n1_
           have HO337 := n2_
           have HO340 := n3_
           have BK309 := n4_
           have BK310 := n5_
           have BK333 := n6_
           have BK334 := n7_
           have HB := n8_
           clear n0_ n1_ n2_ n3_ n4_ n5_ n6_ n7_ n8_
           clear hb ho54
           refine hK.out _ _ ⟨(bqC BK334.out 0).trans rfl, (bqC BK334.out 1).trans rfl, (bqC BK334.out 2).trans rfl, (bqC BK334.out 3).trans rfl, (bqC BK334.out 4).trans rfl, (bqC BK334.out 5).trans rfl, (bqC BK334.out 6).trans rfl, (bqC BK334.out 7).trans rfl, (bqC BK334.out 8).trans rfl, (bqC BK334.out 9).trans rfl, (bqC BK309.out 0).trans rfl, (bqC BK309.out 1).trans rfl, (bqC BK309.out 2).trans rfl, (bqC BK310.out 0).trans rfl, (bqC BK310.out 1).trans rfl, (bqC BK310.out 2).trans rfl, (bqC BK310.out 3).trans rfl, (bqC BK310.out 4).trans rfl, (bqC BK310.out 5).trans rfl, (bqC BK310.out 6).trans rfl, (bqC BK333.out 0).trans rfl, (bqC BK333.out 1).trans rfl, (bqC BK333.out 2).trans rfl⟩ (fun hHeld => ?_)
           clear hK K
           refine norm_ (a' := ?_) ?_ ?_
           rotate_left
           ·show Act.put _ (some 72) _ = _
            simp only [Act.put, List.setIfInBounds_toArray, List.set_cons_zero, List.set_cons_succ, i64_w, i32_w]
            rfl
           exact norm_ (by simp only [putAll, Act.put, List.setIfInBounds_toArray, List.set_cons_zero, List.set_cons_succ]) (hCont (v336, v339) _ ⟨hHeld, (by (with_reducible repeat (first | apply Kd.R_alloc | apply Kd.R_drewN | apply Kd.R_drew)); exact Kd.R_mono HO316.out (fun _ hk => GS.cj hk)), (by (with_reducible repeat (first | apply Kd.R_alloc | apply Kd.R_drewN | apply Kd.R_drew)); exact Kd.R_mono HO321.out (fun _ hk => GS.cj hk)), (by (with_reducible repeat (first | apply Kd.R_alloc | apply Kd.R_drewN | apply Kd.R_drew)); exact Kd.R_mono HO337.out (fun _ hk => GS.cj hk)), (by (with_reducible repeat (first | apply Kd.R_alloc | apply Kd.R_drewN | apply Kd.R_drew)); exact Kd.R_mono HO340.out (fun _ hk => GS.cj hk)), (GS.bqX BK309.out), (GS.bqX BK310.out), (GS.bqX BK333.out), (GS.bqX BK334.out), (by repeat (first | (with_reducible first | exact HB.out | apply lqA | apply lqN | apply lqD | refine lqS ?_ GE309.out | refine lqS ?_ GE310.out | refine lqS ?_ GE333.out | refine lqS ?_ GE334.out) | exact HB.out))⟩)
          ·skip
           refine Kd.R_lit_step k33 _ 33 ?hg (N := 72) ?hd (xs := ([(⟨t322, t323, t324, (⟨t325, t326, t327, t328, t329, t330, t331⟩ : S26)⟩ : S33)] : List (S33))) (inner := [.int .i64 t322, .int .i64 t323, .int .i64 t324, .int .i64 t325, .int .i64 t326, .int .i64 t327, .int .i64 t328, .int .i64 t329, .int .i64 t330, .int .i64 t331]) (ok := fun _ => True) (okp := fun _ => True) ?hr ?hp (fun _ hk => hk) trivial (Below.refl _ _) (Nat.le_refl _) (by simp) ?_; (case hd => rfl); (case hg => rfl); (case hr => first | (go_simp; done) | (go_simp; rfl)); (case hp => exact (Reps.c10 (show Kd.M k33 _ _ _ (⟨t322, t323, t324, (⟨t325, t326, t327, t328, t329, t330, t331⟩ : S26)⟩ : S33) [.int .i64 t322, .int .i64 t323, .int .i64 t324, .int .i64 t325, .int .i64 t326, .int .i64 t327, .int .i64 t328, .int .i64 t329, .int .i64 t330, .int .i64 t331] from (k33_mkM _ _ _ (⟨t322, t323, t324, (⟨t325, t326, t327, t328, t329, t330, t331⟩ : S26)⟩ : S33) )) (Reps.none _ _)))
           intro v339 w52 ho53 hb hg_ hnew_
           clear hg_ hnew_
           (first | rw [← Ny338.out] at ho53 | (simp only [Int.reduceToNat] at ho53; rw [← Ny338.out] at ho53))
           have n0_ := Aside0.mk (Kd.R_elder' (by (with_reducible repeat (first | apply Kd.R_alloc | apply Kd.R_drewN | apply Kd.R_drew)); exact HO316.out) (Kd.R_base ho53) hb)
           have n1_ := Aside0.mk (Kd.R_elder' (by (with_reducible repeat (first | apply Kd.R_alloc | apply Kd.R_drewN | apply Kd.R_drew)); exact HO321.out) (Kd.R_base ho53) hb)
           have n2_ := Aside0.mk (Kd.R_lower (Kd.R_newB (Kd.R_new' (Kd.R_new' ho53 (Kd.R_lt (by (with_reducible repeat (first | apply Kd.R_alloc | apply Kd.R_drewN | apply Kd.R_drew)); exact HO316.out))) (Kd.R_lt (by (with_reducible repeat (first | apply Kd.R_alloc | apply Kd.R_drewN | apply Kd.R_drew)); exact HO321.out))) (GS.bqX BK334.out)) (lqZ (by repeat (first | (with_reducible first | exact HB.out | apply lqA | apply lqN | apply lqD | refine lqS ?_ GE309.out | refine lqS ?_ GE310.out | refine lqS ?_ GE333.out | refine lqS ?_ GE334.out) | exact HB.out))))
           have n3_ := Aside0.mk (bqB (GS.bqX BK309.out) hb)
           have n4_ := Aside0.mk (bqB (GS.bqX BK310.out) hb)
           have n5_ := Aside0.mk (bqB (GS.bqX BK333.out) hb)
           have n6_ := Aside0.mk (bqB (GS.bqX BK334.out) hb)
           have n7_ := Aside0.mk (lqT (by repeat (first | (with_reducible first | exact HB.out | apply lqA | apply lqN | apply lqD | refine lqS ?_ GE309.out | refine lqS ?_ GE310.out | refine lqS ?_ GE333.out | refine lqS ?_ GE334.out) | exact HB.out)) hb)
           clear HO316
           clear HO321
           clear BK309
           clear BK310
           clear BK333
           clear BK334
           clear HB
           have HO316 := n0_
           have HO321 := n1_
           have HO340 := n2_
           have BK309 := n3_
           have BK310 := n4_
           have BK333 := n5_
           have BK334 := n6_
           have HB := n7_
           clear n0_ n1_ n2_ n3_ n4_ n5_ n6_ n7_
           clear hb ho53
           refine hK.out _ _ ⟨(bqC BK334.out 0).trans rfl, (bqC BK334.out 1).trans rfl, (bqC BK334.out 2).trans rfl, (bqC BK334.out 3).trans rfl, (bqC BK334.out 4).trans rfl, (bqC BK334.out 5).trans rfl, (bqC BK334.out 6).trans rfl, (bqC BK334.out 7).trans rfl, (bqC BK334.out 8).trans rfl, (bqC BK334.out 9).trans rfl, (bqC BK309.out 0).trans rfl, (bqC BK309.out 1).trans rfl, (bqC BK309.out 2).trans rfl, (bqC BK310.out 0).trans rfl, (bqC BK310.out 1).trans rfl, (bqC BK310.out 2).trans rfl, (bqC BK310.out 3).trans rfl, (bqC BK310.out 4).trans rfl, (bqC BK310.out 5).trans rfl, (bqC BK310.out 6).trans rfl, (bqC BK333.out 0).trans rfl, (bqC BK333.out 1).trans rfl, (bqC BK333.out 2).trans rfl⟩ (fun hHeld => ?_)
           clear hK K
           refine norm_ (a' := ?_) ?_ ?_
           rotate_left
           ·show Act.put _ (some 72) _ = _
            simp only [Act.put, List.setIfInBounds_toArray, List.set_cons_zero, List.set_cons_succ, i64_w, i32_w]
            rfl
           refine one_ (i := 22) (N := some 70) #[true, true, true, true, true, true, true, true, true, true, true, true, true, true, true, true, true, true, true, true, true, true, true, true, true, false, false, false, false, false, false, false, false, false, false] rfl rfl (one_of HT_.out (by kernel_rfl)) (by decide) (fun K hK => ?_)
           refine goes_ Try.func21 (by kernel_rfl) rfl #[.slice A0_2 l0_2.length c0_2] (by rfl) rfl rfl (by (try simp only [List.map_toArray, List.map_cons, List.map_nil]); first | done | rfl | (simp only [List.length_drop, List.length_take]; rfl)) ?_
           with_reducible refine (api_Envelope_21.calls _ _ l0_2 t335 _ ?side1 ?side2 A44.out).mono ?_
           (case side1 => repeat (first | exact (Kd.C_below HR0_2.out HB.out) | (with_reducible refine Kd.C_alloc ?_ _) | (with_reducible refine Kd.C_drewN ?_ _) | (with_reducible refine Kd.C_drew ?_)))
           (case side2 => exact HC0_2.out)
           rintro e w54 ⟨v336, rfl, ho0, hb⟩
           refine ⟨_, rfl, ?_⟩
           have n0_ := Aside0.mk (Kd.R_elder' (by (with_reducible repeat (first | apply Kd.R_alloc | apply Kd.R_drewN | apply Kd.R_drew)); exact HO316.out) (Kd.R_base ho0) hb)
           have n1_ := Aside0.mk (Kd.R_elder' (by (with_reducible repeat (first | apply Kd.R_alloc | apply Kd.R_drewN | apply Kd.R_drew)); exact HO321.out) (Kd.R_base ho0) hb)
           have n2_ := Aside0.mk (Kd.R_elder' (by (with_reducible repeat (first | apply Kd.R_alloc | apply Kd.R_drewN | apply Kd.R_drew)); exact HO340.out) (Kd.R_base ho0) hb)
           have n3_ := Aside0.mk (Kd.R_lower (Kd.R_newB (Kd.R_new' (Kd.R_new' (Kd.R_new' ho0 (Kd.R_lt (by (with_reducible repeat (first | apply Kd.R_alloc | apply Kd.R_drewN | apply Kd.R_drew)); exact HO316.out))) (Kd.R_lt (by (with_reducible repeat (first | apply Kd.R_alloc | apply Kd.R_drewN | apply Kd.R_drew)); exact HO321.out))) (Kd.R_lt (by (with_reducible repeat (first | apply Kd.R_alloc | apply Kd.R_drewN | apply Kd.R_drew)); exact HO340.out))) (GS.bqX BK334.out)) (lqZ (by repeat (first | (with_reducible first | exact HB.out | apply lqA | apply lqN | apply lqD | refine lqS ?_ GE309.out | refine lqS ?_ GE310.out | refine lqS ?_ GE333.out | refine lqS ?_ GE334.out) | exact HB.out))))
           have n4_ := Aside0.mk (bqB (GS.bqX BK309.out) hb)
           have n5_ := Aside0.mk (bqB (GS.bqX BK310.out) hb)
           have n6_ := Aside0.mk (bqB (GS.bqX BK333.out) hb)
           have n7_ := Aside0.mk (bqB (GS.bqX BK334.out) hb)
           have n8_ := Aside0.mk (lqT (by repeat (first | (with_reducible first | exact HB.out | apply lqA | apply lqN | apply lqD | refine lqS ?_ GE309.out | refine lqS ?_ GE310.out | refine lqS ?_ GE333.out | refine lqS ?_ GE334.out) | exact HB.out)) hb)
           clear HO316
           clear HO321
           clear HO340
           clear BK309
           clear BK310
           clear BK333
           clear BK334
           clear HB
           have HO316 := n0_
           have HO321 := n1_
           have HO340 := n2_
           have HO337 := n3_
           have BK309 := n4_
           have BK310 := n5_
           have BK333 := n6_
           have BK334 := n7_
           have HB := n8_
           clear n0_ n1_ n2_ n3_ n4_ n5_ n6_ n7_ n8_
           (try clear hb)
           (try clear hb2)
           (try clear hk)
           (try clear hi)
           (try clear ho0)
           refine hK.out _ _ ⟨(bqC BK334.out 0).trans rfl, (bqC BK334.out 1).trans rfl, (bqC BK334.out 2).trans rfl, (bqC BK334.out 3).trans rfl, (bqC BK334.out 4).trans rfl, (bqC BK334.out 5).trans rfl, (bqC BK334.out 6).trans rfl, (bqC BK334.out 7).trans rfl, (bqC BK334.out 8).trans rfl, (bqC BK334.out 9).trans rfl, (bqC BK309.out 0).trans rfl, (bqC BK309.out 1).trans rfl, (bqC BK309.out 2).trans rfl, (bqC BK310.out 0).trans rfl, (bqC BK310.out 1).trans rfl, (bqC BK310.out 2).trans rfl, (bqC BK310.out 3).trans rfl, (bqC BK310.out 4).trans rfl, (bqC BK310.out 5).trans rfl, (bqC BK310.out 6).trans rfl, (bqC BK333.out 0).trans rfl, (bqC BK333.out 1).trans rfl, (bqC BK333.out 2).trans rfl⟩ (fun hHeld => ?_)
           clear hK K
           refine norm_ (a' := ?_) ?_ ?_
           rotate_left
           ·show Act.put _ (some 70) _ = _
            simp only [Act.put, List.setIfInBounds_toArray, List.set_cons_zero, List.set_cons_succ, i64_w, i32_w]
            rfl
           exact norm_ (by simp only [putAll, Act.put, List.setIfInBounds_toArray, List.set_cons_zero, List.set_cons_succ]) (hCont (v336, v339) _ ⟨hHeld, (by (with_reducible repeat (first | apply Kd.R_alloc | apply Kd.R_drewN | apply Kd.R_drew)); exact Kd.R_mono HO316.out (fun _ hk => GS.cj hk)), (by (with_reducible repeat (first | apply Kd.R_alloc | apply Kd.R_drewN | apply Kd.R_drew)); exact Kd.R_mono HO321.out (fun _ hk => GS.cj hk)), (by (with_reducible repeat (first | apply Kd.R_alloc | apply Kd.R_drewN | apply Kd.R_drew)); exact Kd.R_mono HO337.out (fun _ hk => GS.cj hk)), (by (with_reducible repeat (first | apply Kd.R_alloc | apply Kd.R_drewN | apply Kd.R_drew)); exact Kd.R_mono HO340.out (fun _ hk => GS.cj hk)), (GS.bqX BK309.out), (GS.bqX BK310.out), (GS.bqX BK333.out), (GS.bqX BK334.out), (by repeat (first | (with_reducible first | exact HB.out | apply lqA | apply lqN | apply lqD | refine lqS ?_ GE309.out | refine lqS ?_ GE310.out | refine lqS ?_ GE333.out | refine lqS ?_ GE334.out) | exact HB.out))⟩)
         rintro ⟨v336, v339⟩ w55 ⟨hS_, h0_, h1_, h2_, h3_, h4_, h5_, h6_, h7_, h8_⟩
         have n0_ : Aside0 (Kd.R k33 33 w55 w.heap.size (fun k_ => some k_ ≠ (.slice Ao50 t319.length co50 : Value).ownBlock ∧ some k_ ≠ (v336 : Value).ownBlock ∧ some k_ ≠ (v339 : Value).ownBlock ∧ k_ ≠ gb334) v315 t314) := ⟨h0_⟩
         have n1_ : Aside0 (Kd.R k33 33 w55 w.heap.size (fun k_ => some k_ ≠ (v315 : Value).ownBlock ∧ some k_ ≠ (v336 : Value).ownBlock ∧ some k_ ≠ (v339 : Value).ownBlock ∧ k_ ≠ gb334) (.slice Ao50 t319.length co50) t319) := ⟨h1_⟩
         have n2_ : Aside0 (Kd.R k33 33 w55 w.heap.size (fun k_ => some k_ ≠ (v315 : Value).ownBlock ∧ some k_ ≠ (.slice Ao50 t319.length co50 : Value).ownBlock ∧ some k_ ≠ (v339 : Value).ownBlock ∧ k_ ≠ gb334) v336 t335) := ⟨h2_⟩
         have n3_ : Aside0 (Kd.R k33 33 w55 w.heap.size (fun k_ => some k_ ≠ (v315 : Value).ownBlock ∧ some k_ ≠ (.slice Ao50 t319.length co50 : Value).ownBlock ∧ some k_ ≠ (v336 : Value).ownBlock ∧ k_ ≠ gb334) v339 y338) := ⟨h3_⟩
         have n4_ : Aside0 (w55.heap[gb309]? = some (.cells #[.int .i64 a0_0, .int .i64 a0_1, .slice A0_2 l0_2.length c0_2] 24 (0, 0))) := ⟨h4_⟩
         have n5_ : Aside0 (w55.heap[gb310]? = some (.cells #[.int .i64 a2_0, .int .i64 a2_1, .int .i64 a2_2, .int .i64 a2_3, .int .i64 a2_4, .int .i64 a2_5, .int .i64 a2_6] 26 (0, 0))) := ⟨h5_⟩
         have n6_ : Aside0 (w55.heap[gb333]? = some (.cells #[.int .i64 t317, .int .i64 t318, .slice Ao50 t319.length co50] 24 (0, 0))) := ⟨h6_⟩
         have n7_ : Aside0 (w55.heap[gb334]? = some (.cells #[.int .i64 t322, .int .i64 t323, .int .i64 t324, .int .i64 t325, .int .i64 t326, .int .i64 t327, .int .i64 t328, .int .i64 t329, .int .i64 t330, .int .i64 t331] 33 (0, 0))) := ⟨h7_⟩
         have n8_ : Aside0 (Below w.heap.size w w55) := ⟨h8_⟩
         clear HO316
         clear HO321
         clear BK309
         clear BK310
         clear BK333
         clear BK334
         clear HB
         clear h0_ h1_ h2_ h3_ h4_ h5_ h6_ h7_ h8_
         have HO316 := n0_
         have HO321 := n1_
         have HO337 := n2_
         have HO340 := n3_
         have BK309 := n4_
         have BK310 := n5_
         have BK333 := n6_
         have BK334 := n7_
         have HB := n8_
         clear n0_ n1_ n2_ n3_ n4_ n5_ n6_ n7_ n8_
         have hHeld : w55.cell? ⟨gb334, 0, none⟩ = some (.int .i64 t322) ∧ w55.cell? ⟨gb334, 1, none⟩ = some (.int .i64 t323) ∧ w55.cell? ⟨gb334, 2, none⟩ = some (.int .i64 t324) ∧ w55.cell? ⟨gb334, 3, none⟩ = some (.int .i64 t325) ∧ w55.cell? ⟨gb334, 4, none⟩ = some (.int .i64 t326) ∧ w55.cell? ⟨gb334, 5, none⟩ = some (.int .i64 t327) ∧ w55.cell? ⟨gb334, 6, none⟩ = some (.int .i64 t328) ∧ w55.cell? ⟨gb334, 7, none⟩ = some (.int .i64 t329) ∧ w55.cell? ⟨gb334, 8, none⟩ = some (.int .i64 t330) ∧ w55.cell? ⟨gb334, 9, none⟩ = some (.int .i64 t331) ∧ w55.cell? ⟨gb309, 0, none⟩ = some (.int .i64 a0_0) ∧ w55.cell? ⟨gb309, 1, none⟩ = some (.int .i64 a0_1) ∧ w55.cell? ⟨gb309, 2, none⟩ = some (.slice A0_2 l0_2.length c0_2) ∧ w55.cell? ⟨gb310, 0, none⟩ = some (.int .i64 a2_0) ∧ w55.cell? ⟨gb310, 1, none⟩ = some (.int .i64 a2_1) ∧ w55.cell? ⟨gb310, 2, none⟩ = some (.int .i64 a2_2) ∧ w55.cell? ⟨gb310, 3, none⟩ = some (.int .i64 a2_3) ∧ w55.cell? ⟨gb310, 4, none⟩ = some (.int .i64 a2_4) ∧ w55.cell? ⟨gb310, 5, none⟩ = some (.int .i64 a2_5) ∧ w55.cell? ⟨gb310, 6, none⟩ = some (.int .i64 a2_6) ∧ w55.cell? ⟨gb333, 0, none⟩ = some (.int .i64 t317) ∧ w55.cell? ⟨gb333, 1, none⟩ = some (.int .i64 t318) ∧ w55.cell? ⟨gb333, 2, none⟩ = some (.slice Ao50 t319.length co50) := hS_
         obtain ⟨Ao57, co57, eo57⟩ := Kd.R_slice HO340.out
         (first | subst eo57 | (injection eo57 with f1_ f2_ f3_; have f4_ := f1_.symm; have f5_ := f3_.symm; clear f1_ f2_ f3_; subst f4_; subst f5_))
         refine norm_ (a' := ?_) ?_ ?_
         rotate_left
         ·simp only [putAll, Act.put, List.setIfInBounds_toArray, List.set_cons_zero, List.set_cons_succ]
          rfl
         refine one_ (i := 25) (N := some 73) #[true, true, true, true, true, true, true, true, true, true, true, true, true, true, true, true, true, true, true, true, true, true, true, true, true, true, false, false, false, false, false, false, false, false, false] rfl rfl (one_of HT_.out (by kernel_rfl)) (by decide) (fun K hK => ?_)
         refine Kd.R_append_rows_step k33 (w0 := w) w.heap.size (by rfl) (.tmp 70) (.tmp 72) 22 33 (.agg #[(.int .i64 0), (.int .i64 0), (.int .i64 0), (.int .i64 0), (.int .i64 0), (.int .i64 0), (.int .i64 0), (.int .i64 0), (.int .i64 0), (.int .i64 0)]) 80 rfl Try.underlying22 info33 rfl (by decide) (by omega) v336 t335 y338 _ _ _ (fun k_ => some k_ ≠ (v315 : Value).ownBlock ∧ some k_ ≠ (.slice Ao50 t319.length co50 : Value).ownBlock ∧ some k_ ≠ (.slice Ao57 y338.length co57 : Value).ownBlock ∧ k_ ≠ gb334) (fun _ => False) rfl rfl ?aO ?aR (fun _ _ h => h) (fun _ h => h.elim) ?aF ?aB ?aS ?aL ?_
         (case aR => repeat (first | exact (Kd.R_reads' HO340.out).2.2 | (with_reducible refine Kd.C_alloc ?_ _) | (with_reducible refine Kd.C_drewN ?_ _) | (with_reducible refine Kd.C_drew ?_)))
         (case aB => exact (by repeat (first | (with_reducible first | exact HB.out | apply lqA | apply lqN | apply lqD | refine lqS ?_ GE309.out | refine lqS ?_ GE310.out | refine lqS ?_ GE333.out | refine lqS ?_ GE334.out) | exact HB.out)))
         (case aF => exact (fun k_ hk => ⟨Kd.fresh' (Kd.R_lt (by (with_reducible repeat (first | apply Kd.R_alloc | apply Kd.R_drewN | apply Kd.R_drew)); exact HO316.out)) k_ hk, Kd.fresh' (Kd.R_lt (by (with_reducible repeat (first | apply Kd.R_alloc | apply Kd.R_drewN | apply Kd.R_drew)); exact HO321.out)) k_ hk, Kd.fresh' (Kd.R_lt (by (with_reducible repeat (first | apply Kd.R_alloc | apply Kd.R_drewN | apply Kd.R_drew)); exact HO340.out)) k_ hk, Kd.freshB (GS.bqX BK334.out) k_ hk⟩))
         (case aO => exact (by (with_reducible repeat (first | apply Kd.R_alloc | apply Kd.R_drewN | apply Kd.R_drew)); exact HO337.out))
         (case aS => exact (lqZ (by repeat (first | (with_reducible first | exact HB.out | apply lqA | apply lqN | apply lqD | refine lqS ?_ GE309.out | refine lqS ?_ GE310.out | refine lqS ?_ GE333.out | refine lqS ?_ GE334.out) | exact HB.out))))
         (case aL => have := LMc45.out; omega)
         intro v342 w56 ho hb hg hat
         rw [← Ny341.out] at ho
         have n0_ := Aside0.mk (blk_grown (GS.bqX BK309.out) hg (Kd.R_ne HO337.out BK309.out (by decide)))
         have n1_ := Aside0.mk (blk_grown (GS.bqX BK310.out) hg (Kd.R_ne HO337.out BK310.out (by decide)))
         have n2_ := Aside0.mk (Kd.R_after (ok := (fun k_ => some k_ ≠ (.slice Ao50 t319.length co50 : Value).ownBlock ∧ some k_ ≠ (.slice Ao57 y338.length co57 : Value).ownBlock ∧ k_ ≠ gb334)) (by (with_reducible repeat (first | apply Kd.R_alloc | apply Kd.R_drewN | apply Kd.R_drew)); exact Kd.R_mono HO316.out (fun _ hk => GS.cj hk)) hg hat)
         have n3_ := Aside0.mk (Kd.R_after (ok := (fun k_ => some k_ ≠ (v315 : Value).ownBlock ∧ some k_ ≠ (.slice Ao57 y338.length co57 : Value).ownBlock ∧ k_ ≠ gb334)) (by (with_reducible repeat (first | apply Kd.R_alloc | apply Kd.R_drewN | apply Kd.R_drew)); exact Kd.R_mono HO321.out (fun _ hk => GS.cj hk)) hg hat)
         have n4_ := Aside0.mk (blk_grown (GS.bqX BK333.out) hg (Kd.R_ne HO337.out BK333.out (by decide)))
         have n5_ := Aside0.mk (blk_grown (GS.bqX BK334.out) hg (Kd.R_away HO337.out (fun _ hk => GS.cj hk)))
         have n6_ := Aside0.mk (Kd.R_after (ok := (fun k_ => some k_ ≠ (v315 : Value).ownBlock ∧ some k_ ≠ (.slice Ao50 t319.length co50 : Value).ownBlock ∧ k_ ≠ gb334)) (by (with_reducible repeat (first | apply Kd.R_alloc | apply Kd.R_drewN | apply Kd.R_drew)); exact Kd.R_mono HO340.out (fun _ hk => GS.cj hk)) hg hat)
         have n7_ := Aside0.mk (hb)
         have n8_ := Aside0.mk (ho)
         clear BK309
         clear BK310
         clear HO316
         clear HO321
         clear BK333
         clear BK334
         clear HO340
         clear HB
         clear HO337
         have BK309 := n0_
         have BK310 := n1_
         have HO316 := n2_
         have HO321 := n3_
         have BK333 := n4_
         have BK334 := n5_
         have HO340 := n6_
         have HB := n7_
         have HO343 := n8_
         clear n0_ n1_ n2_ n3_ n4_ n5_ n6_ n7_ n8_
         clear ho hb hg hat
         obtain ⟨Ao58, co58, eo58⟩ := Kd.R_slice HO343.out
         (first | subst eo58 | (injection eo58 with f1_ f2_ f3_; have f4_ := f1_.symm; have f5_ := f3_.symm; clear f1_ f2_ f3_; subst f4_; subst f5_))
         refine hK.out _ _ ⟨(bqC BK334.out 0).trans rfl, (bqC BK334.out 1).trans rfl, (bqC BK334.out 2).trans rfl, (bqC BK334.out 3).trans rfl, (bqC BK334.out 4).trans rfl, (bqC BK334.out 5).trans rfl, (bqC BK334.out 6).trans rfl, (bqC BK334.out 7).trans rfl, (bqC BK334.out 8).trans rfl, (bqC BK334.out 9).trans rfl, (bqC BK309.out 0).trans rfl, (bqC BK309.out 1).trans rfl, (bqC BK309.out 2).trans rfl, (bqC BK310.out 0).trans rfl, (bqC BK310.out 1).trans rfl, (bqC BK310.out 2).trans rfl, (bqC BK310.out 3).trans rfl, (bqC BK310.out 4).trans rfl, (bqC BK310.out 5).trans rfl, (bqC BK310.out 6).trans rfl, (bqC BK333.out 0).trans rfl, (bqC BK333.out 1).trans rfl, (bqC BK333.out 2).trans rfl⟩ (fun hHeld => ?_)
         clear hK K
         refine norm_ (a' := ?_) ?_ ?_
         rotate_left
         ·show Act.put _ (some 73) _ = _
          simp only [Act.put, List.setIfInBounds_toArray, List.set_cons_zero, List.set_cons_succ, i64_w, i32_w]
          rfl
         refine one_ (i := 26) (N := some 74) #[true, true, true, true, true, true, true, true, true, true, true, true, true, true, true, true, true, true, true, true, true, true, true, true, true, true, true, false, false, false, false, false, false, false, false] rfl rfl (one_of HT_.out (by kernel_rfl)) (by decide) (fun K hK => ?_)
         refine goes_ Try.func20 (by kernel_rfl) rfl #[.slice Ao50 t319.length co50, .slice Ao58 y341.length co58] (by rfl) rfl rfl (by (try simp only [List.map_toArray, List.map_cons, List.map_nil]); first | done | rfl | (simp only [List.length_drop, List.length_take]; rfl)) ?_
         with_reducible refine (api_Envelope_20.calls k _ _ t319 _ _ y341 true _ ?side1 ?side2 ?side3 ?side4 A46.out).mono ?_
         (case side1 => repeat (first | exact (Kd.R_reads' HO321.out).2.2 | (with_reducible refine Kd.C_alloc ?_ _) | (with_reducible refine Kd.C_drewN ?_ _) | (with_reducible refine Kd.C_drew ?_)))
         (case side2 => exact (Kd.R_reads' HO321.out).2.1)
         (case side3 => repeat (first | exact (Kd.R_reads' HO343.out).2.2 | (with_reducible refine Kd.C_alloc ?_ _) | (with_reducible refine Kd.C_drewN ?_ _) | (with_reducible refine Kd.C_drew ?_)))
         (case side4 => exact (Kd.R_reads' HO343.out).2.1)
         rintro e w' ⟨rfl, ⟨nd, rfl⟩⟩
         refine ⟨_, rfl, ?_⟩
         refine hK.out _ _ ⟨(bqC BK334.out 0).trans rfl, (bqC BK334.out 1).trans rfl, (bqC BK334.out 2).trans rfl, (bqC BK334.out 3).trans rfl, (bqC BK334.out 4).trans rfl, (bqC BK334.out 5).trans rfl, (bqC BK334.out 6).trans rfl, (bqC BK334.out 7).trans rfl, (bqC BK334.out 8).trans rfl, (bqC BK334.out 9).trans rfl, (bqC BK309.out 0).trans rfl, (bqC BK309.out 1).trans rfl, (bqC BK309.out 2).trans rfl, (bqC BK310.out 0).trans rfl, (bqC BK310.out 1).trans rfl, (bqC BK310.out 2).trans rfl, (bqC BK310.out 3).trans rfl, (bqC BK310.out 4).trans rfl, (bqC BK310.out 5).trans rfl, (bqC BK310.out 6).trans rfl, (bqC BK333.out 0).trans rfl, (bqC BK333.out 1).trans rfl, (bqC BK333.out 2).trans rfl⟩ (fun hHeld => ?_)
         clear hK K
         refine norm_ (a' := ?_) ?_ ?_
         rotate_left
         ·show Act.put _ (some 74) _ = _
          simp only [Act.put, List.setIfInBounds_toArray, List.set_cons_zero, List.set_cons_succ, i64_w, i32_w]
          rfl
         refine pure_ (i := 27) (N := some 75) (v := ?_) (a' := ?_) #[true, true, true, true, true, true, true, true, true, true, true, true, true, true, true, true, true, true, true, true, true, true, true, true, true, true, true, true, false, false, false, false, false, false, false] rfl rfl (any_of HT_.out (by kernel_rfl)) (fun _ _ _ h => h) (Or.inl ⟨by rfl, ?_⟩) ?_ ?_
         rotate_left
         ·intro w'
          go_simp
          with_reducible rfl
         rotate_left
         ·simp only [Act.put, List.setIfInBounds_toArray, List.set_cons_zero, List.set_cons_succ, i64_w, i32_w]
          rfl
         refine pure_ (i := 28) (N := some 76) (v := ?_) (a' := ?_) #[true, true, true, true, true, true, true, true, true, true, true, true, true, true, true, true, true, true, true, true, true, true, true, true, true, true, true, true, true, false, false, false, false, false, false] rfl rfl (any_of HT_.out (by kernel_rfl)) (fun _ _ _ h => h) (Or.inl ⟨by rfl, ?_⟩) ?_ ?_
         rotate_left
         ·intro w'
          go_simp
          with_reducible rfl
         rotate_left
         ·simp only [Act.put, List.setIfInBounds_toArray, List.set_cons_zero, List.set_cons_succ, i64_w, i32_w]
          rfl
         refine pure_ (i := 29) (N := some 77) (v := ?_) (a' := ?_) #[true, true, true, true, true, true, true, true, true, true, true, true, true, true, true, true, true, true, true, true, true, true, true, true, true, true, true, true, true, true, false, false, false, false, false] rfl rfl (any_of HT_.out (by kernel_rfl)) (fun _ _ _ h => h) (Or.inl ⟨by rfl, ?_⟩) ?_ ?_
         rotate_left
         ·intro w'
          go_simp
          with_reducible rfl
         rotate_left
         ·simp only [Act.put, List.setIfInBounds_toArray, List.set_cons_zero, List.set_cons_succ, i64_w, i32_w]
          rfl
         refine take_ (i := 30) (N := some 78) (v := ?_) (a' := ?_) #[true, true, true, true, true, true, true, true, true, true, true, true, true, true, true, true, true, true, true, true, true, true, true, true, true, true, true, true, true, true, true, false, false, false, false] rfl rfl (take_ofW HT_.out HW_.out (by kernel_rfl)) (fun _ _ _ h => h) (Or.inl ⟨by rfl, ?_⟩) hHeld ?_ ?_
         rotate_left
         ·rintro w' ⟨s0, s1, s2, s3, s4, s5, s6, s7, s8, s9, s10, s11, s12, s13, s14, s15, s16, s17, s18, s19, s20, s21, s22⟩
          go_simp
          with_reducible rfl
         rotate_left
         ·simp only [Act.put, List.setIfInBounds_toArray, List.set_cons_zero, List.set_cons_succ, i64_w, i32_w]
          rfl
         refine one_ (i := 31) (N := some 79) #[true, true, true, true, true, true, true, true, true, true, true, true, true, true, true, true, true, true, true, true, true, true, true, true, true, true, true, true, true, true, true, true, false, false, false] rfl rfl (one_of HT_.out (by kernel_rfl)) (by decide) (fun K hK => ?_)
         refine goes_ Try.func15 (by kernel_rfl) rfl #[.agg #[.int .i64 t317, .int .i64 t318, .slice Ao50 t319.length co50]] (by rfl) rfl rfl (by (try simp only [List.map_toArray, List.map_cons, List.map_nil]); first | done | rfl | (simp only [List.length_drop, List.length_take]; rfl)) ?_
         with_reducible refine (spileref42_Copy.calls t317 t318 _ _ t319 t345 t346 t347 _ ?side1 ?side2 A48.out).mono ?_
         (case side1 => repeat (first | exact (Kd.R_reads' HO321.out).2.2 | (with_reducible refine Kd.C_alloc ?_ _) | (with_reducible refine Kd.C_drewN ?_ _) | (with_reducible refine Kd.C_drew ?_)))
         (case side2 => exact (Kd.R_reads' HO321.out).2.1)
         rintro e w59 ⟨v348, rfl, ho0, hb⟩
         refine ⟨_, rfl, ?_⟩
         have n0_ := Aside0.mk (Kd.R_elder' (by (with_reducible repeat (first | apply Kd.R_alloc | apply Kd.R_drewN | apply Kd.R_drew)); exact HO316.out) (Kd.R_base ho0) hb)
         have n1_ := Aside0.mk (Kd.R_elder' (by (with_reducible repeat (first | apply Kd.R_alloc | apply Kd.R_drewN | apply Kd.R_drew)); exact HO321.out) (Kd.R_base ho0) hb)
         have n2_ := Aside0.mk (Kd.R_elder' (by (with_reducible repeat (first | apply Kd.R_alloc | apply Kd.R_drewN | apply Kd.R_drew)); exact HO340.out) (Kd.R_base ho0) hb)
         have n3_ := Aside0.mk (Kd.R_elder' (by (with_reducible repeat (first | apply Kd.R_alloc | apply Kd.R_drewN | apply Kd.R_drew)); exact HO343.out) (Kd.R_base ho0) hb)
         have n4_ := Aside0.mk (Kd.R_lower (Kd.R_newB (Kd.R_new' (Kd.R_new' (Kd.R_new' (Kd.R_new' ho0 (Kd.R_lt (by (with_reducible repeat (first | apply Kd.R_alloc | apply Kd.R_drewN | apply Kd.R_drew)); exact HO316.out))) (Kd.R_lt (by (with_reducible repeat (first | apply Kd.R_alloc | apply Kd.R_drewN | apply Kd.R_drew)); exact HO321.out))) (Kd.R_lt (by (with_reducible repeat (first | apply Kd.R_alloc | apply Kd.R_drewN | apply Kd.R_drew)); exact HO340.out))) (Kd.R_lt (by (with_reducible repeat (first | apply Kd.R_alloc | apply Kd.R_drewN | apply Kd.R_drew)); exact HO343.out))) (GS.bqX BK334.out)) (lqZ (by repeat (first | (with_reducible first | exact HB.out | apply lqA | apply lqN | apply lqD | refine lqS ?_ GE309.out | refine lqS ?_ GE310.out | refine lqS ?_ GE333.out | refine lqS ?_ GE334.out) | exact HB.out))))
         have n5_ := Aside0.mk (bqB (GS.bqX BK309.out) hb)
         have n6_ := Aside0.mk (bqB (GS.bqX BK310.out) hb)
         have n7_ := Aside0.mk (bqB (GS.bqX BK333.out) hb)
         have n8_ := Aside0.mk (bqB (GS.bqX BK334.out) hb)
         have n9_ := Aside0.mk (lqT (by repeat (first | (with_reducible first | exact HB.out | apply lqA | apply lqN | apply lqD | refine lqS ?_ GE309.out | refine lqS ?_ GE310.out | refine lqS ?_ GE333.out | refine lqS ?_ GE334.out) | exact HB.out)) hb)
         clear HO316
         clear HO321
         clear HO340
         clear HO343
         clear BK309
         clear BK310
         clear BK333
         clear BK334
         clear HB
         have HO316 := n0_
         have HO321 := n1_
         have HO340 := n2_
         have HO343 := n3_
         have HO349 := n4_
         have BK309 := n5_
         have BK310 := n6_
         have BK333 := n7_
         have BK334 := n8_
         have HB := n9_
         clear n0_ n1_ n2_ n3_ n4_ n5_ n6_ n7_ n8_ n9_
         (try clear hb)
         (try clear hb2)
         (try clear hk)
         (try clear hi)
         (try clear ho0)
         obtain ⟨Ao60, co60, eo60⟩ := Kd.R_slice HO349.out
         (first | subst eo60 | (injection eo60 with f1_ f2_ f3_; have f4_ := f1_.symm; have f5_ := f3_.symm; clear f1_ f2_ f3_; subst f4_; subst f5_))
         refine hK.out _ _ ⟨(bqC BK334.out 0).trans rfl, (bqC BK334.out 1).trans rfl, (bqC BK334.out 2).trans rfl, (bqC BK334.out 3).trans rfl, (bqC BK334.out 4).trans rfl, (bqC BK334.out 5).trans rfl, (bqC BK334.out 6).trans rfl, (bqC BK334.out 7).trans rfl, (bqC BK334.out 8).trans rfl, (bqC BK334.out 9).trans rfl, (bqC BK309.out 0).trans rfl, (bqC BK309.out 1).trans rfl, (bqC BK309.out 2).trans rfl, (bqC BK310.out 0).trans rfl, (bqC BK310.out 1).trans rfl, (bqC BK310.out 2).trans rfl, (bqC BK310.out 3).trans rfl, (bqC BK310.out 4).trans rfl, (bqC BK310.out 5).trans rfl, (bqC BK310.out 6).trans rfl, (bqC BK333.out 0).trans rfl, (bqC BK333.out 1).trans rfl, (bqC BK333.out 2).trans rfl⟩ (fun hHeld => ?_)
         clear hK K
         refine norm_ (a' := ?_) ?_ ?_
         rotate_left
         ·show Act.put _ (some 79) _ = _
          simp only [Act.put, List.setIfInBounds_toArray, List.set_cons_zero, List.set_cons_succ, i64_w, i32_w]
          rfl
         refine one_ (i := 32) (N := some 80) #[true, true, true, true, true, true, true, true, true, true, true, true, true, true, true, true, true, true, true, true, true, true, true, true, true, true, true, true, true, true, true, true, true, false, false] rfl rfl (one_of HT_.out (by kernel_rfl)) (by decide) (fun K hK => ?_)
         refine goes_ Try.func17 (by kernel_rfl) rfl #[.agg #[.int .i64 t345, .int .i64 t346, .slice Ao60 t347.length co60]] (by rfl) rfl rfl (by (try simp only [List.map_toArray, List.map_cons, List.map_nil]); first | done | rfl | (simp only [List.length_drop, List.length_take]; rfl)) ?_
         with_reducible refine (sender_Check.calls k t345 t346 _ _ t347 t350 _ ?side1 ?side2 A49.out).mono ?_
         (case side1 => repeat (first | exact (Kd.R_reads' HO349.out).2.2 | (with_reducible refine Kd.C_alloc ?_ _) | (with_reducible refine Kd.C_drewN ?_ _) | (with_reducible refine Kd.C_drew ?_)))
         (case side2 => exact (Kd.R_reads' HO349.out).2.1)
         rintro e w61 ⟨rfl, hb⟩
         refine ⟨_, rfl, ?_⟩
         have n0_ := Aside0.mk (Kd.R_below (by (with_reducible repeat (first | apply Kd.R_alloc | apply Kd.R_drewN | apply Kd.R_drew)); exact HO316.out) hb)
         have n1_ := Aside0.mk (Kd.R_below (by (with_reducible repeat (first | apply Kd.R_alloc | apply Kd.R_drewN | apply Kd.R_drew)); exact HO321.out) hb)
         have n2_ := Aside0.mk (Kd.R_below (by (with_reducible repeat (first | apply Kd.R_alloc | apply Kd.R_drewN | apply Kd.R_drew)); exact HO340.out) hb)
         have n3_ := Aside0.mk (Kd.R_below (by (with_reducible repeat (first | apply Kd.R_alloc | apply Kd.R_drewN | apply Kd.R_drew)); exact HO343.out) hb)
         have n4_ := Aside0.mk (Kd.R_below (by (with_reducible repeat (first | apply Kd.R_alloc | apply Kd.R_drewN | apply Kd.R_drew)); exact HO349.out) hb)
         have n5_ := Aside0.mk (bqB (GS.bqX BK309.out) hb)
         have n6_ := Aside0.mk (bqB (GS.bqX BK310.out) hb)
         have n7_ := Aside0.mk (bqB (GS.bqX BK333.out) hb)
         have n8_ := Aside0.mk (bqB (GS.bqX BK334.out) hb)
         have n9_ := Aside0.mk (lqT (by repeat (first | (with_reducible first | exact HB.out | apply lqA | apply lqN | apply lqD | refine lqS ?_ GE309.out | refine lqS ?_ GE310.out | refine lqS ?_ GE333.out | refine lqS ?_ GE334.out) | exact HB.out)) hb)
         clear HO316
         clear HO321
         clear HO340
         clear HO343
         clear HO349
         clear BK309
         clear BK310
         clear BK333
         clear BK334
         clear HB
         have HO316 := n0_
         have HO321 := n1_
         have HO340 := n2_
         have HO343 := n3_
         have HO349 := n4_
         have BK309 := n5_
         have BK310 := n6_
         have BK333 := n7_
         have BK334 := n8_
         have HB := n9_
         clear n0_ n1_ n2_ n3_ n4_ n5_ n6_ n7_ n8_ n9_
         (try clear hb)
         (try clear hb2)
         (try clear hk)
         (try clear hi)
         refine hK.out _ _ ⟨(bqC BK334.out 0).trans rfl, (bqC BK334.out 1).trans rfl, (bqC BK334.out 2).trans rfl, (bqC BK334.out 3).trans rfl, (bqC BK334.out 4).trans rfl, (bqC BK334.out 5).trans rfl, (bqC BK334.out 6).trans rfl, (bqC BK334.out 7).trans rfl, (bqC BK334.out 8).trans rfl, (bqC BK334.out 9).trans rfl, (bqC BK309.out 0).trans rfl, (bqC BK309.out 1).trans rfl, (bqC BK309.out 2).trans rfl, (bqC BK310.out 0).trans rfl, (bqC BK310.out 1).trans rfl, (bqC BK310.out 2).trans rfl, (bqC BK310.out 3).trans rfl, (bqC BK310.out 4).trans rfl, (bqC BK310.out 5).trans rfl, (bqC BK310.out 6).trans rfl, (bqC BK333.out 0).trans rfl, (bqC BK333.out 1).trans rfl, (bqC BK333.out 2).trans rfl⟩ (fun hHeld => ?_)
         clear hK K
         refine norm_ (a' := ?_) ?_ ?_
         rotate_left
         ·show Act.put _ (some 80) _ = _
          simp only [Act.put, List.setIfInBounds_toArray, List.set_cons_zero, List.set_cons_succ, i64_w, i32_w]
          rfl
         refine pure_ (i := 33) (N := some 81) (v := ?_) (a' := ?_) #[true, true, true, true, true, true, true, true, true, true, true, true, true, true, true, true, true, true, true, true, true, true, true, true, true, true, true, true, true, true, true, true, true, true, false] rfl rfl (any_of HT_.out (by kernel_rfl)) (fun _ _ _ h => h) (Or.inl ⟨by rfl, ?_⟩) ?_ ?_
         rotate_left
         ·intro w'
          go_simp
          with_reducible rfl
         rotate_left
         ·simp only [Act.put, List.setIfInBounds_toArray, List.set_cons_zero, List.set_cons_succ, i64_w, i32_w]
          rfl
         refine pure_ (i := 34) (N := some 82) (v := ?_) (a' := ?_) #[true, true, true, true, true, true, true, true, true, true, true, true, true, true, true, true, true, true, true, true, true, true, true, true, true, true, true, true, true, true, true, true, true, true, true] rfl rfl (any_of HT_.out (by kernel_rfl)) (fun _ _ _ h => h) (Or.inl ⟨by rfl, ?_⟩) ?_ ?_
         rotate_left
         ·intro w'
          go_simp
          with_reducible rfl
         rotate_left
         ·simp only [Act.put, List.setIfInBounds_toArray, List.set_cons_zero, List.set_cons_succ, i64_w, i32_w]
          rfl
         refine done_ (done_of HT_.out (by kernel_rfl)) ?_
         try go_wp2
         go_meet
         case rel => exact ⟨_, ((t350 != 0)), (by first | rfl | (simp; done) | (simp [*]; done)), H', ⟨by first | omega | exact Nat.le_refl _⟩, ⟨by (with_reducible repeat (first | apply Kd.R_alloc | apply Kd.R_drewN | apply Kd.R_drew)); exact Kd.R_mono HO321.out (fun _ hk => GS.cj hk)⟩, ⟨GS.bqX BK309.out⟩, ⟨GS.bqX BK310.out⟩, ⟨GS.bqX BK333.out⟩, ⟨GS.bqX BK334.out⟩, ⟨by repeat (first | (with_reducible first | exact HB.out | apply lqA | apply lqN | apply lqD | refine lqS ?_ GE309.out | refine lqS ?_ GE310.out | refine lqS ?_ GE333.out | refine lqS ?_ GE334.out) | exact HB.out)⟩⟩
        ·replace c47 := Bool.eq_false_iff.mpr c47
         subst c47
         have H1 : (none) = some r := by rw [if_neg (show ¬ (false = true) by decide)] at H; exact H
         clear H
         have H := H1
         clear H1
         exact absurd H (by simp)
       ·rw [if_neg c45] at H
        exact absurd H (by simp)
      ·rw [if_neg c43] at H
       exact absurd H (by simp)
    case rest =>
     clear HC15
     try clear c1
     try clear c2
     try clear p2
     try clear c4
     try clear c10
     try clear c15
     try clear c17
     try clear c20
     try clear c21
     try clear c43
     try clear c45
     try clear c47
     obtain ⟨kq, x82_14, rfl, HA, HJ14, HO_334002, BK309, BK310, BK333, BK334, HB⟩ := hcut
     cases kq with
     | zero => exact absurd HA.out (by simp [spilelaw42_SenderPends.j0])
     | succ kj14 =>
      have H := HA.out
      clear HA
      simp only [spilelaw42_SenderPends.j0] at H
      by_cases c62 : x82_14 = true
      ·subst c62
       have H1 : (none) = some r := by rw [if_pos rfl] at H; exact H
       clear H
       have H := H1
       clear H1
       exact absurd H (by simp)
      ·replace c62 := Bool.eq_false_iff.mpr c62
       subst c62
       have H1 : ((sender_Heard.f kj14 t317 t318 t319 a0_0 t324).bind fun bt351 => (if bt351.2.2.2 = 0 then ((api_Envelope_20.f kj14 bt351.2.2.1 l0_2).bind fun t358 => (if t358 = true then (if bt351.2.1 = t318 then (some (bt351.1 == a0_0)) else (none)) else (none))) else (none))) = some r := by rw [if_neg (show ¬ (false = true) by decide)] at H; exact H
       clear H
       have H := H1
       clear H1
       replace H := Option.bind_eq_some_iff.mp H
       obtain ⟨⟨t351, t352, t353, t356⟩, A630, H⟩ := H
       replace H : (if t356 = 0 then ((api_Envelope_20.f kj14 t353 l0_2).bind fun t358 => (if t358 = true then (if t352 = t318 then (some (t351 == a0_0)) else (none)) else (none))) else (none)) = some r := H
       have A63 := Aside0.mk A630
       clear A630
       by_cases c64 : t356 = 0
       ·rw [if_pos c64] at H
        have c64b0 : (t356 == 0) = true := beq_iff_eq.mpr c64
        try simp only [beq_self_eq_true, Bool.not_true, Bool.false_or, Bool.true_and] at c64b0
        have c64b1 : (t356 != 0) = false := bne_eq_false_iff_eq.mpr c64
        clear c64
        replace H := Option.bind_eq_some_iff.mp H
        obtain ⟨t358, A650, H⟩ := H
        replace H : (if t358 = true then (if t352 = t318 then (some (t351 == a0_0)) else (none)) else (none)) = some r := H
        have A65 := Aside0.mk A650
        clear A650
        by_cases c66 : t358 = true
        ·subst c66
         have H1 : (if t352 = t318 then (some (t351 == a0_0)) else (none)) = some r := by rw [if_pos rfl] at H; exact H
         clear H
         have H := H1
         clear H1
         by_cases c67 : t352 = t318
         ·rw [if_pos c67] at H
          have c67b0 : (t352 == t318) = true := beq_iff_eq.mpr c67
          try simp only [beq_self_eq_true, Bool.not_true, Bool.false_or, Bool.true_and] at c67b0
          have c67b1 : (t352 != t318) = false := bne_eq_false_iff_eq.mpr c67
          clear c67
          obtain rfl := Option.some.inj H
          have hnb68 := NB333_309.out
          have hnc68 := NB309_333.out
          have hnb69 := NB333_310.out
          have hnc69 := NB310_333.out
          have hnb70 := NB333_334.out
          have hnc70 := NB334_333.out
          have hcz71_0 : wc.cell? ⟨gb333, 0, none⟩ = some (.int .i64 t317) := (bqC BK333.out 0).trans rfl
          have hcz71_1 : wc.cell? ⟨gb333, 1, none⟩ = some (.int .i64 t318) := (bqC BK333.out 1).trans rfl
          have hcz71_2 : wc.cell? ⟨gb333, 2, none⟩ = some (v320) := (bqC BK333.out 2).trans rfl
          have hfz71_0 := bqF BK333.out 0
          have hfz71_1 := bqF BK333.out 1
          have hfz71_2 := bqF BK333.out 2
          have hnb72 := NB309_310.out
          have hnc72 := NB310_309.out
          have hnb73 := NB309_334.out
          have hnc73 := NB334_309.out
          have hcz74_0 : wc.cell? ⟨gb309, 0, none⟩ = some (.int .i64 a0_0) := (bqC BK309.out 0).trans rfl
          have hcz74_1 : wc.cell? ⟨gb309, 1, none⟩ = some (.int .i64 a0_1) := (bqC BK309.out 1).trans rfl
          have hcz74_2 : wc.cell? ⟨gb309, 2, none⟩ = some (.slice A0_2 l0_2.length c0_2) := (bqC BK309.out 2).trans rfl
          have hfz74_0 := bqF BK309.out 0
          have hfz74_1 := bqF BK309.out 1
          have hfz74_2 := bqF BK309.out 2
          have hnb75 := NB334_310.out
          have hnc75 := NB310_334.out
          have hcz76_0 : wc.cell? ⟨gb334, 0, none⟩ = some (.int .i64 t322) := (bqC BK334.out 0).trans rfl
          have hcz76_1 : wc.cell? ⟨gb334, 1, none⟩ = some (.int .i64 t323) := (bqC BK334.out 1).trans rfl
          have hcz76_2 : wc.cell? ⟨gb334, 2, none⟩ = some (.int .i64 t324) := (bqC BK334.out 2).trans rfl
          have hcz76_3 : wc.cell? ⟨gb334, 3, none⟩ = some (.int .i64 t325) := (bqC BK334.out 3).trans rfl
          have hcz76_4 : wc.cell? ⟨gb334, 4, none⟩ = some (.int .i64 t326) := (bqC BK334.out 4).trans rfl
          have hcz76_5 : wc.cell? ⟨gb334, 5, none⟩ = some (.int .i64 t327) := (bqC BK334.out 5).trans rfl
          have hcz76_6 : wc.cell? ⟨gb334, 6, none⟩ = some (.int .i64 t328) := (bqC BK334.out 6).trans rfl
          have hcz76_7 : wc.cell? ⟨gb334, 7, none⟩ = some (.int .i64 t329) := (bqC BK334.out 7).trans rfl
          have hcz76_8 : wc.cell? ⟨gb334, 8, none⟩ = some (.int .i64 t330) := (bqC BK334.out 8).trans rfl
          have hcz76_9 : wc.cell? ⟨gb334, 9, none⟩ = some (.int .i64 t331) := (bqC BK334.out 9).trans rfl
          have hfz76_0 := bqF BK334.out 0
          have hfz76_1 := bqF BK334.out 1
          have hfz76_2 := bqF BK334.out 2
          have hfz76_3 := bqF BK334.out 3
          have hfz76_4 := bqF BK334.out 4
          have hfz76_5 := bqF BK334.out 5
          have hfz76_6 := bqF BK334.out 6
          have hfz76_7 := bqF BK334.out 7
          have hfz76_8 := bqF BK334.out 8
          have hfz76_9 := bqF BK334.out 9
          obtain ⟨Ao77, co77, eo77⟩ := Kd.R_slice HO_334002.out
          subst eo77
          go_wp2_with (first | ((with_reducible refine gqC (f := 22) rfl ?_); refine goesL_ (some 90) rfl rfl Try.func22 (by kernel_rfl) rfl #[.agg #[.int .i64 t317, .int .i64 t318, .slice Ao77 t319.length co77], .agg #[.int .i64 a0_0, .int .i64 t324]] rfl (by (try simp only [List.map_toArray, List.map_cons, List.map_nil]); first | done | rfl | (simp only [List.length_drop, List.length_take]; rfl)) ?_; (with_reducible refine (sender_Heard.calls kj14 t317 t318 _ _ t319 a0_0 t324 t351 t352 t353 t356 _ ?side1 ?side2 A63.out).mono ?_); (case side1 => repeat (first | exact (Kd.R_reads' HO_334002.out).2.2 | (with_reducible refine Kd.C_alloc ?_ _) | (with_reducible refine Kd.C_drewN ?_ _) | (with_reducible refine Kd.C_drew ?_))); (case side2 => exact (Kd.R_reads' HO_334002.out).2.1); rintro e w78 ⟨v354, rfl, ho0, hb⟩; refine ⟨_, rfl, ?_⟩; have n0_ := Aside0.mk (Kd.R_elder' (by (with_reducible repeat (first | apply Kd.R_alloc | apply Kd.R_drewN | apply Kd.R_drew)); exact HO_334002.out) (Kd.R_base ho0) hb); have n1_ := Aside0.mk (Kd.R_lower (Kd.R_newB (Kd.R_new' ho0 (Kd.R_lt (by (with_reducible repeat (first | apply Kd.R_alloc | apply Kd.R_drewN | apply Kd.R_drew)); exact HO_334002.out))) (GS.bqX BK334.out)) (lqZ (by repeat (first | (with_reducible first | exact HB.out | apply lqA | apply lqN | apply lqD | refine lqS ?_ GE309.out | refine lqS ?_ GE310.out | refine lqS ?_ GE333.out | refine lqS ?_ GE334.out) | exact HB.out)))); have n2_ := Aside0.mk (bqB (GS.bqX BK309.out) hb); have n3_ := Aside0.mk (bqB (GS.bqX BK310.out) hb); have n4_ := Aside0.mk (bqB (GS.bqX BK333.out) hb); have n5_ := Aside0.mk (bqB (GS.bqX BK334.out) hb); have n6_ := Aside0.mk (lqT (by repeat (first | (with_reducible first | exact HB.out | apply lqA | apply lqN | apply lqD | refine lqS ?_ GE309.out | refine lqS ?_ GE310.out | refine lqS ?_ GE333.out | refine lqS ?_ GE334.out) | exact HB.out)) hb); clear HO_334002; clear BK309; clear BK310; clear BK333; clear BK334; clear HB; have HO_334002 := n0_; have HO355 := n1_; have BK309 := n2_; have BK310 := n3_; have BK333 := n4_; have BK334 := n5_; have HB := n6_; clear n0_ n1_ n2_ n3_ n4_ n5_ n6_; (try clear hb); (try clear hb2); (try clear hk); (try clear hi); (try clear ho0)) | ((with_reducible refine gqD (N := 10) rfl ?_); (try (refine gate_guard (by rfl) ?_; dsimp only)); refine box_event ?hg (N := 10) ?hd (cs := #[.int .i64 0, .int .i64 0, .slice none 0 0]) (t := 24) ?hr ?_; (case hd => rfl); (case hg => rfl); (case hr => first | (go_simp; done) | (go_simp; rfl)); intro gb357 hg w79 hbox hb; have n0_ := Aside0.mk (Kd.R_below (by (with_reducible repeat (first | apply Kd.R_alloc | apply Kd.R_drewN | apply Kd.R_drew)); exact HO_334002.out) hb); have n1_ := Aside0.mk (Kd.R_below (by (with_reducible repeat (first | apply Kd.R_alloc | apply Kd.R_drewN | apply Kd.R_drew)); exact HO355.out) hb); have n2_ := Aside0.mk (bqB (GS.bqX BK309.out) hb); have n3_ := Aside0.mk (bqB (GS.bqX BK310.out) hb); have n4_ := Aside0.mk (bqB (GS.bqX BK333.out) hb); have n5_ := Aside0.mk (bqB (GS.bqX BK334.out) hb); have n6_ := Aside0.mk (lqT (by repeat (first | (with_reducible first | exact HB.out | apply lqA | apply lqN | apply lqD | refine lqS ?_ GE309.out | refine lqS ?_ GE310.out | refine lqS ?_ GE333.out | refine lqS ?_ GE334.out) | exact HB.out)) hb); have n7_ := Aside0.mk (hbox); have n8_ := Aside0.mk ((by rw [hg]; exact (lqZ (by repeat (first | (with_reducible first | exact HB.out | apply lqA | apply lqN | apply lqD | refine lqS ?_ GE309.out | refine lqS ?_ GE310.out | refine lqS ?_ GE333.out | refine lqS ?_ GE334.out) | exact HB.out))) : w.heap.size ≤ gb357)); have n9_ := Aside0.mk ((by rw [hg]; exact (lqZ (by repeat (first | (with_reducible first | exact HB.out | apply lqA | apply lqN | apply lqD | refine lqS ?_ GE309.out | refine lqS ?_ GE310.out | refine lqS ?_ GE333.out | refine lqS ?_ GE334.out) | exact HB.out))) : w.heap.size ≤ gb357)); have n10_ := Aside0.mk ((by rw [hg]; exact Nat.ne_of_lt (blk_lt (GS.bqX BK309.out)) : gb309 ≠ gb357)); have n11_ := Aside0.mk ((by rw [hg]; exact Nat.ne_of_gt (blk_lt (GS.bqX BK309.out)) : gb357 ≠ gb309)); have n12_ := Aside0.mk ((by rw [hg]; exact Nat.ne_of_lt (blk_lt (GS.bqX BK310.out)) : gb310 ≠ gb357)); have n13_ := Aside0.mk ((by rw [hg]; exact Nat.ne_of_gt (blk_lt (GS.bqX BK310.out)) : gb357 ≠ gb310)); have n14_ := Aside0.mk ((by rw [hg]; exact Nat.ne_of_lt (blk_lt (GS.bqX BK333.out)) : gb333 ≠ gb357)); have n15_ := Aside0.mk ((by rw [hg]; exact Nat.ne_of_gt (blk_lt (GS.bqX BK333.out)) : gb357 ≠ gb333)); have n16_ := Aside0.mk ((by rw [hg]; exact Nat.ne_of_lt (blk_lt (GS.bqX BK334.out)) : gb334 ≠ gb357)); have n17_ := Aside0.mk ((by rw [hg]; exact Nat.ne_of_gt (blk_lt (GS.bqX BK334.out)) : gb357 ≠ gb334)); clear HO_334002; clear HO355; clear BK309; clear BK310; clear BK333; clear BK334; clear HB; have HO_334002 := n0_; have HO355 := n1_; have BK309 := n2_; have BK310 := n3_; have BK333 := n4_; have BK334 := n5_; have HB := n6_; have BK357 := n7_; have GW357 := n8_; have GE357 := n9_; have NB309_357 := n10_; have NB357_309 := n11_; have NB310_357 := n12_; have NB357_310 := n13_; have NB333_357 := n14_; have NB357_333 := n15_; have NB334_357 := n16_; have NB357_334 := n17_; clear n0_ n1_ n2_ n3_ n4_ n5_ n6_ n7_ n8_ n9_ n10_ n11_ n12_ n13_ n14_ n15_ n16_ n17_; clear hb hbox hg; have hnb80 := NB357_309.out; have hnc80 := NB309_357.out; have hnb81 := NB357_310.out; have hnc81 := NB310_357.out; have hnb82 := NB357_333.out; have hnc82 := NB333_357.out; have hnb83 := NB357_334.out; have hnc83 := NB334_357.out; have hcz84_0 : w79.cell? ⟨gb357, 0, none⟩ = some (.int .i64 0) := (bqC BK357.out 0).trans rfl; have hcz84_1 : w79.cell? ⟨gb357, 1, none⟩ = some (.int .i64 0) := (bqC BK357.out 1).trans rfl; have hcz84_2 : w79.cell? ⟨gb357, 2, none⟩ = some (.slice none 0 0) := (bqC BK357.out 2).trans rfl; have hfz84_0 := bqF BK357.out 0; have hfz84_1 := bqF BK357.out 1; have hfz84_2 := bqF BK357.out 2; obtain ⟨Ao85, co85, eo85⟩ := Kd.R_slice HO355.out; subst eo85; have hcz86_0 : w79.cell? ⟨gb309, 0, none⟩ = some (.int .i64 a0_0) := (bqC BK309.out 0).trans rfl; have hcz86_1 : w79.cell? ⟨gb309, 1, none⟩ = some (.int .i64 a0_1) := (bqC BK309.out 1).trans rfl; have hcz86_2 : w79.cell? ⟨gb309, 2, none⟩ = some (.slice A0_2 l0_2.length c0_2) := (bqC BK309.out 2).trans rfl; have hfz86_0 := bqF BK309.out 0; have hfz86_1 := bqF BK309.out 1; have hfz86_2 := bqF BK309.out 2) | (go_at_call 20; (with_reducible refine (api_Envelope_20.calls kj14 _ _ t353 _ _ l0_2 true _ ?side1 ?side2 ?side3 ?side4 A65.out).mono ?_); (case side1 => refine (Kd.R_reads' (e := 33) (base := w.heap.size) (ok := fun k_ => ((True ∧ some k_ ≠ (.slice Ao77 t319.length co77 : Value).ownBlock) ∧ k_ ≠ gb334)) (n := t353.length) (c := co85) ?_).2.2; exact (by (with_reducible repeat (first | apply Kd.R_alloc | apply Kd.R_drewN | apply Kd.R_drew)); exact (Kd.R_mono (Kd.R_far (p := ⟨gb357, 2, none⟩) (Kd.R_far (p := ⟨gb357, 1, none⟩) (Kd.R_far (p := ⟨gb357, 0, none⟩) (Kd.R_types HO355.out BK357.out (by decide)) (fun _ hk => hk.2) (.int .i64 t351)) (fun _ hk => hk.2) (.int .i64 t352)) (fun _ hk => hk.2) (.slice Ao85 t353.length co85)) (fun _ h_ => h_.1)))); (case side2 => exact (Kd.R_reads' HO355.out).2.1); (case side3 => exact Kd.C_below HR0_2.out (by repeat (first | (with_reducible first | exact HB.out | apply lqA | apply lqN | apply lqD | refine lqS ?_ GE309.out | refine lqS ?_ GE310.out | refine lqS ?_ GE333.out | refine lqS ?_ GE334.out | refine lqS ?_ GE357.out) | exact HB.out))); (case side4 => exact HC0_2.out); rintro e w' ⟨rfl, ⟨nd, rfl⟩⟩; have hcz87_0 : w79.cell? ⟨gb333, 0, none⟩ = some (.int .i64 t317) := (bqC BK333.out 0).trans rfl; have hcz87_1 : w79.cell? ⟨gb333, 1, none⟩ = some (.int .i64 t318) := (bqC BK333.out 1).trans rfl; have hcz87_2 : w79.cell? ⟨gb333, 2, none⟩ = some (.slice Ao77 t319.length co77) := (bqC BK333.out 2).trans rfl; have hfz87_0 := bqF BK333.out 0; have hfz87_1 := bqF BK333.out 1; have hfz87_2 := bqF BK333.out 2))
          go_ret
          exact ⟨by first | rfl | (simp [errW_none, errW_some] <;> rfl) | (simp [*, errW_none, errW_some] <;> rfl), by repeat (first | (with_reducible first | exact HB.out | apply lqA | apply lqN | apply lqD | refine lqS ?_ GE309.out | refine lqS ?_ GE310.out | refine lqS ?_ GE333.out | refine lqS ?_ GE334.out | refine lqS ?_ GE357.out) | exact HB.out)⟩
         ·rw [if_neg c67] at H
          exact absurd H (by simp)
        ·replace c66 := Bool.eq_false_iff.mpr c66
         subst c66
         have H1 : (none) = some r := by rw [if_neg (show ¬ (false = true) by decide)] at H; exact H
         clear H
         have H := H1
         clear H1
         exact absurd H (by simp)
       ·rw [if_neg c64] at H
        exact absurd H (by simp)
   ·rw [if_neg c14] at H
    have c14b0 : (t332 == 0) = false := beq_eq_false_iff_ne.mpr c14
    try simp only [beq_self_eq_true, Bool.not_true, Bool.false_or, Bool.true_and] at c14b0
    have c14b1 : (t332 != 0) = true := bne_iff_ne.mpr c14
    by_cases c88 : t317 = 0
    ·rw [if_pos c88] at H
     have c88b0 : (t317 == 0) = true := beq_iff_eq.mpr c88
     try simp only [beq_self_eq_true, Bool.not_true, Bool.false_or, Bool.true_and] at c88b0
     have c88b1 : (t317 != 0) = false := bne_eq_false_iff_eq.mpr c88
     clear c88
     by_cases c89 : t318 = 0
     ·rw [if_pos c89] at H
      have c89b0 : (t318 == 0) = true := beq_iff_eq.mpr c89
      try simp only [beq_self_eq_true, Bool.not_true, Bool.false_or, Bool.true_and] at c89b0
      have c89b1 : (t318 != 0) = false := bne_eq_false_iff_eq.mpr c89
      clear c89
      by_cases c90 : (t319.length : Int) = 0
      ·rw [if_pos c90] at H
       have c90b0 : ((t319.length : Int) == 0) = true := beq_iff_eq.mpr c90
       try simp only [beq_self_eq_true, Bool.not_true, Bool.false_or, Bool.true_and] at c90b0
       have c90b1 : ((t319.length : Int) != 0) = false := bne_eq_false_iff_eq.mpr c90
       clear c90
       obtain rfl := Option.some.inj H
       go_enter Try.func4, Try.ntmps4
       try go_wp2_with (first | ((with_reducible refine gqD (N := 3) rfl ?_); (try (refine gate_guard (by rfl) ?_; dsimp only)); refine box_event ?hg (N := 3) ?hd (cs := #[.int .i64 a0_0, .int .i64 a0_1, .slice A0_2 l0_2.length c0_2]) (t := 24) ?hr ?_; (case hd => rfl); (case hg => rfl); (case hr => first | (go_simp; done) | (go_simp; rfl)); intro gb309 hg w91 hbox hb; have n0_ := Aside0.mk (lqT (by repeat (first | (with_reducible first | exact HB.out | apply lqA | apply lqN | apply lqD) | exact HB.out)) hb); have n1_ := Aside0.mk (hbox); have n2_ := Aside0.mk ((by rw [hg]; exact (lqZ (by repeat (first | (with_reducible first | exact HB.out | apply lqA | apply lqN | apply lqD) | exact HB.out))) : w.heap.size ≤ gb309)); have n3_ := Aside0.mk ((by rw [hg]; exact (lqZ (by repeat (first | (with_reducible first | exact HB.out | apply lqA | apply lqN | apply lqD) | exact HB.out))) : w.heap.size ≤ gb309)); clear HB; have HB := n0_; have BK309 := n1_; have GW309 := n2_; have GE309 := n3_; clear n0_ n1_ n2_ n3_; clear hb hbox hg) | ((with_reducible refine gqD (N := 5) rfl ?_); (try (refine gate_guard (by rfl) ?_; dsimp only)); refine box_event ?hg (N := 5) ?hd (cs := #[.int .i64 a2_0, .int .i64 a2_1, .int .i64 a2_2, .int .i64 a2_3, .int .i64 a2_4, .int .i64 a2_5, .int .i64 a2_6]) (t := 26) ?hr ?_; (case hd => rfl); (case hg => rfl); (case hr => first | (go_simp; done) | (go_simp; rfl)); intro gb310 hg w92 hbox hb; have n0_ := Aside0.mk (bqB (GS.bqX BK309.out) hb); have n1_ := Aside0.mk (lqT (by repeat (first | (with_reducible first | exact HB.out | apply lqA | apply lqN | apply lqD | refine lqS ?_ GE309.out) | exact HB.out)) hb); have n2_ := Aside0.mk (hbox); have n3_ := Aside0.mk ((by rw [hg]; exact (lqZ (by repeat (first | (with_reducible first | exact HB.out | apply lqA | apply lqN | apply lqD | refine lqS ?_ GE309.out) | exact HB.out))) : w.heap.size ≤ gb310)); have n4_ := Aside0.mk ((by rw [hg]; exact (lqZ (by repeat (first | (with_reducible first | exact HB.out | apply lqA | apply lqN | apply lqD | refine lqS ?_ GE309.out) | exact HB.out))) : w.heap.size ≤ gb310)); have n5_ := Aside0.mk ((by rw [hg]; exact Nat.ne_of_lt (blk_lt (GS.bqX BK309.out)) : gb309 ≠ gb310)); have n6_ := Aside0.mk ((by rw [hg]; exact Nat.ne_of_gt (blk_lt (GS.bqX BK309.out)) : gb310 ≠ gb309)); clear BK309; clear HB; have BK309 := n0_; have HB := n1_; have BK310 := n2_; have GW310 := n3_; have GE310 := n4_; have NB309_310 := n5_; have NB310_309 := n6_; clear n0_ n1_ n2_ n3_ n4_ n5_ n6_; clear hb hbox hg) | ((with_reducible refine gqC (f := 10) rfl ?_); refine goesL_ (some 12) rfl rfl Try.func10 (by kernel_rfl) rfl #[] rfl (by (try simp only [List.map_toArray, List.map_cons, List.map_nil]); first | done | rfl | (simp only [List.length_drop, List.length_take]; rfl)) ?_; (with_reducible refine (spilelaw42_awake.calls k  true _ A4.out).mono ?_); rintro e w93 ⟨rfl, hb⟩; refine ⟨_, rfl, ?_⟩; have n0_ := Aside0.mk (bqB (GS.bqX BK309.out) hb); have n1_ := Aside0.mk (bqB (GS.bqX BK310.out) hb); have n2_ := Aside0.mk (lqT (by repeat (first | (with_reducible first | exact HB.out | apply lqA | apply lqN | apply lqD | refine lqS ?_ GE309.out | refine lqS ?_ GE310.out) | exact HB.out)) hb); clear BK309; clear BK310; clear HB; have BK309 := n0_; have BK310 := n1_; have HB := n2_; clear n0_ n1_ n2_; (try clear hb); (try clear hb2); (try clear hk); (try clear hi); have hnb94 := NB309_310.out; have hnc94 := NB310_309.out; have hcz95_0 : w93.cell? ⟨gb309, 0, none⟩ = some (.int .i64 a0_0) := (bqC BK309.out 0).trans rfl; have hcz95_1 : w93.cell? ⟨gb309, 1, none⟩ = some (.int .i64 a0_1) := (bqC BK309.out 1).trans rfl; have hcz95_2 : w93.cell? ⟨gb309, 2, none⟩ = some (.slice A0_2 l0_2.length c0_2) := (bqC BK309.out 2).trans rfl; have hfz95_0 := bqF BK309.out 0; have hfz95_1 := bqF BK309.out 1; have hfz95_2 := bqF BK309.out 2))
       have n0_ := Aside0.mk (bqD BK309.out)
       have n1_ := Aside0.mk (bqD BK310.out)
       have n2_ := Aside0.mk (lqD HB.out)
       clear BK309
       clear BK310
       clear HB
       have BK309 := n0_
       have BK310 := n1_
       have HB := n2_
       clear n0_ n1_ n2_
       refine start_ (n := 14) (S := fun w' => True) (ds := []) #[false, false, false, false, false, false, false, false, false, false, false, false, false, false] (by kernel_rfl) rfl rfl trivial (fun hHeld => ?_); refine with_tabW spilelaw42_SenderPends.tab5 spilelaw42_SenderPends.bits5 (fun HT_ HW_ => ?_)
       generalize w93.drew = w96 at BK309 BK310 HB hHeld ⊢
       refine pure_ (i := 2) (N := some 21) (v := ?_) (a' := ?_) #[false, false, true, false, false, false, false, false, false, false, false, false, false, false] rfl rfl (any_of HT_.out (by kernel_rfl)) (fun _ _ _ h => h) (Or.inl ⟨by rfl, ?_⟩) ?_ ?_
       rotate_left
       ·intro w'
        go_simp
        with_reducible rfl
       rotate_left
       ·simp only [Act.put, List.setIfInBounds_toArray, List.set_cons_zero, List.set_cons_succ, i64_w, i32_w]
        rfl
       refine inv_at [0, 1, 3, 4, 5, 6, 7, 8, 9, 10, 11, 12, 13] (fun a0_ b a w' => ∃ (v315 : Value) (v320 : Value) (gb333 : Nat) (gb334 : Nat) (m1_ : Value) (m4_ : Value) (m5_ : Value) (m6_ : Value) (m9_ : Value) (m10_ : Value), a = putSel a0_ b [(0, 19, .agg #[.int .i64 a0_0, .int .i64 a0_1, .slice A0_2 l0_2.length c0_2]), (1, 20, m1_), (3, 22, .agg #[.int .i64 a2_0, .int .i64 a2_1, .int .i64 a2_2, .int .i64 a2_3, .int .i64 a2_4, .int .i64 a2_5, .int .i64 a2_6]), (4, 23, m4_), (5, 18, m5_), (6, 24, m6_), (7, 25, .agg #[.int .i64 t322, .int .i64 t323, .int .i64 t324, .int .i64 t325, .int .i64 t326, .int .i64 t327, .int .i64 t328, .int .i64 t329, .int .i64 t330, .int .i64 t331]), (8, 26, .int .i64 t332), (9, 7, m9_), (10, 8, m10_), (13, 9, .int .i64 t332)] ∧ (w'.heap[gb309]? = some (.cells #[.int .i64 a0_0, .int .i64 a0_1, .slice A0_2 l0_2.length c0_2] 24 (0, 0))) ∧ (w'.heap[gb310]? = some (.cells #[.int .i64 a2_0, .int .i64 a2_1, .int .i64 a2_2, .int .i64 a2_3, .int .i64 a2_4, .int .i64 a2_5, .int .i64 a2_6] 26 (0, 0))) ∧ (Below w.heap.size w w') ∧ (b 9 = true → b 10 = true → gb334 ≠ gb333) ∧ (b 9 = true → b 10 = true → gb333 ≠ gb334) ∧ (b 1 = true → Kd.R k33 33 w' w.heap.size (fun _ => True) v315 t314) ∧ (b 4 = true → Kd.R k33 33 w' w.heap.size (fun k_ => some k_ ≠ (v315 : Value).ownBlock) v320 t319) ∧ (b 9 = true → b 11 = false → w'.heap[gb333]? = some (.cells #[.int .i64 0, .int .i64 0, .slice none 0 0] 24 (0, 0))) ∧ (b 9 = true → w.heap.size ≤ gb333) ∧ (b 9 = true → w.heap.size ≤ gb333) ∧ (b 9 = true → gb309 ≠ gb333) ∧ (b 9 = true → gb333 ≠ gb309) ∧ (b 9 = true → gb310 ≠ gb333) ∧ (b 9 = true → gb333 ≠ gb310) ∧ (b 10 = true → b 12 = false → w'.heap[gb334]? = some (.cells #[.int .i64 0, .int .i64 0, .int .i64 0, .int .i64 0, .int .i64 0, .int .i64 0, .int .i64 0, .int .i64 0, .int .i64 0, .int .i64 0] 33 (0, 0))) ∧ (b 10 = true → w.heap.size ≤ gb334) ∧ (b 10 = true → w.heap.size ≤ gb334) ∧ (b 10 = true → gb309 ≠ gb334) ∧ (b 10 = true → gb334 ≠ gb309) ∧ (b 10 = true → gb310 ≠ gb334) ∧ (b 10 = true → gb334 ≠ gb310) ∧ (b 11 = true → w'.heap[gb333]? = some (.cells #[.int .i64 t317, .int .i64 t318, v320] 24 (0, 0))) ∧ (b 12 = true → w'.heap[gb334]? = some (.cells #[.int .i64 t322, .int .i64 t323, .int .i64 t324, .int .i64 t325, .int .i64 t326, .int .i64 t327, .int .i64 t328, .int .i64 t329, .int .i64 t330, .int .i64 t331] 33 (0, 0))) ∧ (b 1 = true → b 10 = true → Kd.R k33 33 w' w.heap.size (fun k_ => k_ ≠ gb334) v315 t314) ∧ (b 4 = true → b 10 = true → Kd.R k33 33 w' w.heap.size (fun k_ => k_ ≠ gb334 ∧ some k_ ≠ (v315 : Value).ownBlock) v320 t319) ∧ (b 1 = true → (m1_ : Value) = .agg #[.int .i64 t312, .int .i64 t313, v315]) ∧ (b 4 = true → (m4_ : Value) = .tuple #[.agg #[.int .i64 t317, .int .i64 t318, v320], .agg #[.int .i64 t322, .int .i64 t323, .int .i64 t324, .int .i64 t325, .int .i64 t326, .int .i64 t327, .int .i64 t328, .int .i64 t329, .int .i64 t330, .int .i64 t331], .int .i64 t332]) ∧ (b 5 = true → (m5_ : Value) = .tuple #[.agg #[.int .i64 t317, .int .i64 t318, v320], .agg #[.int .i64 t322, .int .i64 t323, .int .i64 t324, .int .i64 t325, .int .i64 t326, .int .i64 t327, .int .i64 t328, .int .i64 t329, .int .i64 t330, .int .i64 t331], .int .i64 t332]) ∧ (b 6 = true → (m6_ : Value) = .agg #[.int .i64 t317, .int .i64 t318, v320]) ∧ (b 9 = true → (m9_ : Value) = .pointer (some ⟨gb333, 0, none⟩)) ∧ (b 10 = true → (m10_ : Value) = .pointer (some ⟨gb334, 0, none⟩))) HT_.out HW_.out (by kernel_rfl) (by kernel_rfl) ?_ ?_ ?_
       ·exact ⟨.bool false, .bool false, 0, 0, .bool false, .bool false, .bool false, .bool false, .bool false, .bool false, by simp only [putSel, Bool.false_eq_true, if_false], BK309.out, BK310.out, HB.out, fun h_ => absurd h_ (by decide), fun h_ => absurd h_ (by decide), fun h_ => absurd h_ (by decide), fun h_ => absurd h_ (by decide), fun h_ => absurd h_ (by decide), fun h_ => absurd h_ (by decide), fun h_ => absurd h_ (by decide), fun h_ => absurd h_ (by decide), fun h_ => absurd h_ (by decide), fun h_ => absurd h_ (by decide), fun h_ => absurd h_ (by decide), fun h_ => absurd h_ (by decide), fun h_ => absurd h_ (by decide), fun h_ => absurd h_ (by decide), fun h_ => absurd h_ (by decide), fun h_ => absurd h_ (by decide), fun h_ => absurd h_ (by decide), fun h_ => absurd h_ (by decide), fun h_ => absurd h_ (by decide), fun h_ => absurd h_ (by decide), fun h_ => absurd h_ (by decide), fun h_ => absurd h_ (by decide), fun h_ => absurd h_ (by decide), fun h_ => absurd h_ (by decide), fun h_ => absurd h_ (by decide), fun h_ => absurd h_ (by decide), fun h_ => absurd h_ (by decide), fun h_ => absurd h_ (by decide)⟩
       ·skip
        clear BK309 BK310 HB
        refine steps_cons ?_ ?_
        ·rintro b a w' ⟨v315, v320, gb333, gb334, m1_, m4_, m5_, m6_, m9_, m10_, ha, Q_BK309, Q_BK310, Q_HB, Q_NB334_333, Q_NB333_334, Q_HO316_e1, Q_HO321_e4, Q_BK333, Q_GW333, Q_GE333, Q_NB309_333, Q_NB333_309, Q_NB310_333, Q_NB333_310, Q_BK334, Q_GW334, Q_GE334, Q_NB309_334, Q_NB334_309, Q_NB310_334, Q_NB334_310, Q_BK333_e11, Q_BK334_e12, Q_HO316_p1_10, Q_HO321_p4_10, Q_X1_, Q_X4_, Q_X5_, Q_X6_, Q_X9_, Q_X10_⟩ hb_ hon hoff
         refine ⟨_, rfl, fun K hK => ?_⟩
         have e3 : a.tmps[3]? = some (.pointer (some ⟨gb309, 0, none⟩)) := by rw [ha]; exact (putSel_off rfl).trans rfl
         replace ha := Aside0.mk ha
         have BK309 := Aside0.mk Q_BK309
         have BK310 := Aside0.mk Q_BK310
         have HB := Aside0.mk Q_HB
         have hc0_ : w'.cell? ⟨gb309, 0, none⟩ = some (.int .i64 a0_0) := (bqC BK309.out 0).trans rfl
         have hc1_ : w'.cell? ⟨gb309, 1, none⟩ = some (.int .i64 a0_1) := (bqC BK309.out 1).trans rfl
         have hc2_ : w'.cell? ⟨gb309, 2, none⟩ = some (.slice A0_2 l0_2.length c0_2) := (bqC BK309.out 2).trans rfl
         refine value_ (w1 := w') (v := .agg #[.int .i64 a0_0, .int .i64 a0_1, .slice A0_2 l0_2.length c0_2]) (by rfl) rfl ?_ ?_
         ·go_simp
          (try simp only [i64_w])
          try rfl
         refine hK.out _ _ ⟨v315, v320, gb333, gb334, m1_, m4_, m5_, m6_, m9_, m10_, (by rw [ha.out]; exact putSel_upk 0 hb_ rfl rfl rfl), Q_BK309, Q_BK310, Q_HB, Q_NB334_333, Q_NB333_334, fun h0_ => absurd ((hoff 1 (by kernel_rfl)).symm.trans h0_) (by decide), fun h0_ => absurd ((hoff 4 (by kernel_rfl)).symm.trans h0_) (by decide), Q_BK333, Q_GW333, Q_GE333, Q_NB309_333, Q_NB333_309, Q_NB310_333, Q_NB333_310, Q_BK334, Q_GW334, Q_GE334, Q_NB309_334, Q_NB334_309, Q_NB310_334, Q_NB334_310, fun h0_ => absurd ((hoff 11 (by kernel_rfl)).symm.trans h0_) (by decide), fun h0_ => absurd ((hoff 12 (by kernel_rfl)).symm.trans h0_) (by decide), fun h0_ _ => absurd ((hoff 1 (by kernel_rfl)).symm.trans h0_) (by decide), fun h0_ _ => absurd ((hoff 4 (by kernel_rfl)).symm.trans h0_) (by decide), fun h0_ => absurd ((hoff 1 (by kernel_rfl)).symm.trans h0_) (by decide), fun h0_ => absurd ((hoff 4 (by kernel_rfl)).symm.trans h0_) (by decide), fun h0_ => absurd ((hoff 5 (by kernel_rfl)).symm.trans h0_) (by decide), fun h0_ => absurd ((hoff 6 (by kernel_rfl)).symm.trans h0_) (by decide), Q_X9_, Q_X10_⟩
        refine steps_cons ?_ ?_
        ·rintro b a w' ⟨v315, v320, gb333, gb334, m1_, m4_, m5_, m6_, m9_, m10_, ha, Q_BK309, Q_BK310, Q_HB, Q_NB334_333, Q_NB333_334, Q_HO316_e1, Q_HO321_e4, Q_BK333, Q_GW333, Q_GE333, Q_NB309_333, Q_NB333_309, Q_NB310_333, Q_NB333_310, Q_BK334, Q_GW334, Q_GE334, Q_NB309_334, Q_NB334_309, Q_NB310_334, Q_NB334_310, Q_BK333_e11, Q_BK334_e12, Q_HO316_p1_10, Q_HO321_p4_10, Q_X1_, Q_X4_, Q_X5_, Q_X6_, Q_X9_, Q_X10_⟩ hb_ hon hoff
         refine ⟨_, rfl, fun K hK => ?_⟩
         have e19 : a.tmps[19]? = some (.agg #[.int .i64 a0_0, .int .i64 a0_1, .slice A0_2 l0_2.length c0_2]) := by rw [ha]; exact putSel_on (e := (0, 19, .agg #[.int .i64 a0_0, .int .i64 a0_1, .slice A0_2 l0_2.length c0_2])) 0 rfl rfl (hon 0 (by kernel_rfl)) rfl
         replace ha := Aside0.mk ha
         have BK309 := Aside0.mk Q_BK309
         have BK310 := Aside0.mk Q_BK310
         have HB := Aside0.mk Q_HB
         refine goes_ Try.func15 (by kernel_rfl) rfl #[.agg #[.int .i64 a0_0, .int .i64 a0_1, .slice A0_2 l0_2.length c0_2]] (by rfl) rfl rfl (by first | (simp only [List.map_toArray, List.map_cons, List.map_nil, Act.eval, Array.getD_eq_getD_getElem?, Option.getD_some, e19]; done) | (simp only [List.map_toArray, List.map_cons, List.map_nil, Act.eval, Array.getD_eq_getD_getElem?, Option.getD_some, e19]; rfl)) ?_
         with_reducible refine (spileref42_Copy.calls a0_0 a0_1 _ _ l0_2 t312 t313 t314 _ ?side1 ?side2 A12.out).mono ?_
         (case side1 => repeat (first | exact (Kd.C_below HR0_2.out HB.out) | (with_reducible refine Kd.C_alloc ?_ _) | (with_reducible refine Kd.C_drewN ?_ _) | (with_reducible refine Kd.C_drew ?_)))
         (case side2 => exact HC0_2.out)
         rintro e w97 ⟨v315, rfl, ho0, hb⟩
         refine ⟨_, rfl, ?_⟩
         have n0_ := Aside0.mk (Kd.R_lower ho0 (lqZ (by repeat (first | (with_reducible first | exact HB.out | apply lqA | apply lqN | apply lqD | refine lqS ?_ GE309.out | refine lqS ?_ GE310.out) | exact HB.out))))
         have n1_ := Aside0.mk (bqB (GS.bqX BK309.out) hb)
         have n2_ := Aside0.mk (bqB (GS.bqX BK310.out) hb)
         have n3_ := Aside0.mk (lqT (by repeat (first | (with_reducible first | exact HB.out | apply lqA | apply lqN | apply lqD | refine lqS ?_ GE309.out | refine lqS ?_ GE310.out) | exact HB.out)) hb)
         have z_BK333 := fun (h0_ : b 9 = true) (h1_ : b 11 = false) => (show w97.heap[gb333]? = some (.cells #[.int .i64 0, .int .i64 0, .slice none 0 0] 24 (0, 0)) from by first | exact (bqB (GS.bqX (Q_BK333 h0_ h1_)) hb))
         have z_BK334 := fun (h0_ : b 10 = true) (h1_ : b 12 = false) => (show w97.heap[gb334]? = some (.cells #[.int .i64 0, .int .i64 0, .int .i64 0, .int .i64 0, .int .i64 0, .int .i64 0, .int .i64 0, .int .i64 0, .int .i64 0, .int .i64 0] 33 (0, 0)) from by first | exact (bqB (GS.bqX (Q_BK334 h0_ h1_)) hb))
         have z_HO316_p1_10 := fun (h0_ : up b 1 1 = true) (h1_ : up b 1 10 = true) => (show Kd.R k33 33 w97 w.heap.size (fun k_ => k_ ≠ gb334) v315 t314 from (Kd.R_mono (Kd.R_lower (Kd.R_newB ho0 (GS.bqX (Q_BK334 h1_ (hoff 12 (by kernel_rfl))))) (lqZ (by repeat (first | (with_reducible first | exact HB.out | apply lqA | apply lqN | apply lqD | refine lqS ?_ GE309.out | refine lqS ?_ GE310.out | refine lqS ?_ (Q_GE334 h1_)) | exact HB.out)))) (fun _ hk => GS.cj hk)))
         clear BK309
         clear BK310
         clear HB
         have HO316 := n0_
         have BK309 := n1_
         have BK310 := n2_
         have HB := n3_
         clear n0_ n1_ n2_ n3_
         (try clear hb)
         (try clear hb2)
         (try clear hk)
         (try clear hi)
         (try clear ho0)
         refine hK.out _ _ ⟨v315, v320, gb333, gb334, (.agg #[.int .i64 t312, .int .i64 t313, v315]), m4_, m5_, m6_, m9_, m10_, (by rw [ha.out]; exact putSel_upk 1 hb_ rfl rfl rfl), (GS.bqX BK309.out), (GS.bqX BK310.out), (by repeat (first | (with_reducible first | exact HB.out | apply lqA | apply lqN | apply lqD | refine lqS ?_ GE309.out | refine lqS ?_ GE310.out) | exact HB.out)), Q_NB334_333, Q_NB333_334, fun _ => (by (with_reducible repeat (first | apply Kd.R_alloc | apply Kd.R_drewN | apply Kd.R_drew)); exact HO316.out), fun h0_ => absurd ((hoff 4 (by kernel_rfl)).symm.trans h0_) (by decide), z_BK333, Q_GW333, Q_GE333, Q_NB309_333, Q_NB333_309, Q_NB310_333, Q_NB333_310, z_BK334, Q_GW334, Q_GE334, Q_NB309_334, Q_NB334_309, Q_NB310_334, Q_NB334_310, fun h0_ => absurd ((hoff 11 (by kernel_rfl)).symm.trans h0_) (by decide), fun h0_ => absurd ((hoff 12 (by kernel_rfl)).symm.trans h0_) (by decide), z_HO316_p1_10, fun h0_ _ => absurd ((hoff 4 (by kernel_rfl)).symm.trans h0_) (by decide), fun _ => rfl, fun h0_ => absurd ((hoff 4 (by kernel_rfl)).symm.trans h0_) (by decide), fun h0_ => absurd ((hoff 5 (by kernel_rfl)).symm.trans h0_) (by decide), fun h0_ => absurd ((hoff 6 (by kernel_rfl)).symm.trans h0_) (by decide), Q_X9_, Q_X10_⟩
        refine steps_cons ?_ ?_
        ·rintro b a w' ⟨v315, v320, gb333, gb334, m1_, m4_, m5_, m6_, m9_, m10_, ha, Q_BK309, Q_BK310, Q_HB, Q_NB334_333, Q_NB333_334, Q_HO316_e1, Q_HO321_e4, Q_BK333, Q_GW333, Q_GE333, Q_NB309_333, Q_NB333_309, Q_NB310_333, Q_NB333_310, Q_BK334, Q_GW334, Q_GE334, Q_NB309_334, Q_NB334_309, Q_NB310_334, Q_NB334_310, Q_BK333_e11, Q_BK334_e12, Q_HO316_p1_10, Q_HO321_p4_10, Q_X1_, Q_X4_, Q_X5_, Q_X6_, Q_X9_, Q_X10_⟩ hb_ hon hoff
         refine ⟨_, rfl, fun K hK => ?_⟩
         have e5 : a.tmps[5]? = some (.pointer (some ⟨gb310, 0, none⟩)) := by rw [ha]; exact (putSel_off rfl).trans rfl
         replace ha := Aside0.mk ha
         have BK309 := Aside0.mk Q_BK309
         have BK310 := Aside0.mk Q_BK310
         have HB := Aside0.mk Q_HB
         have hc0_ : w'.cell? ⟨gb310, 0, none⟩ = some (.int .i64 a2_0) := (bqC BK310.out 0).trans rfl
         have hc1_ : w'.cell? ⟨gb310, 1, none⟩ = some (.int .i64 a2_1) := (bqC BK310.out 1).trans rfl
         have hc2_ : w'.cell? ⟨gb310, 2, none⟩ = some (.int .i64 a2_2) := (bqC BK310.out 2).trans rfl
         have hc3_ : w'.cell? ⟨gb310, 3, none⟩ = some (.int .i64 a2_3) := (bqC BK310.out 3).trans rfl
         have hc4_ : w'.cell? ⟨gb310, 4, none⟩ = some (.int .i64 a2_4) := (bqC BK310.out 4).trans rfl
         have hc5_ : w'.cell? ⟨gb310, 5, none⟩ = some (.int .i64 a2_5) := (bqC BK310.out 5).trans rfl
         have hc6_ : w'.cell? ⟨gb310, 6, none⟩ = some (.int .i64 a2_6) := (bqC BK310.out 6).trans rfl
         refine value_ (w1 := w') (v := .agg #[.int .i64 a2_0, .int .i64 a2_1, .int .i64 a2_2, .int .i64 a2_3, .int .i64 a2_4, .int .i64 a2_5, .int .i64 a2_6]) (by rfl) rfl ?_ ?_
         ·go_simp
          (try simp only [i64_w])
          try rfl
         refine hK.out _ _ ⟨v315, v320, gb333, gb334, m1_, m4_, m5_, m6_, m9_, m10_, (by rw [ha.out]; exact putSel_upk 2 hb_ rfl rfl rfl), Q_BK309, Q_BK310, Q_HB, Q_NB334_333, Q_NB333_334, Q_HO316_e1, fun h0_ => absurd ((hoff 4 (by kernel_rfl)).symm.trans h0_) (by decide), Q_BK333, Q_GW333, Q_GE333, Q_NB309_333, Q_NB333_309, Q_NB310_333, Q_NB333_310, Q_BK334, Q_GW334, Q_GE334, Q_NB309_334, Q_NB334_309, Q_NB310_334, Q_NB334_310, fun h0_ => absurd ((hoff 11 (by kernel_rfl)).symm.trans h0_) (by decide), fun h0_ => absurd ((hoff 12 (by kernel_rfl)).symm.trans h0_) (by decide), Q_HO316_p1_10, fun h0_ _ => absurd ((hoff 4 (by kernel_rfl)).symm.trans h0_) (by decide), Q_X1_, fun h0_ => absurd ((hoff 4 (by kernel_rfl)).symm.trans h0_) (by decide), fun h0_ => absurd ((hoff 5 (by kernel_rfl)).symm.trans h0_) (by decide), fun h0_ => absurd ((hoff 6 (by kernel_rfl)).symm.trans h0_) (by decide), Q_X9_, Q_X10_⟩
        refine steps_cons ?_ ?_
        ·rintro b a w' ⟨v315, v320, gb333, gb334, m1_, m4_, m5_, m6_, m9_, m10_, ha, Q_BK309, Q_BK310, Q_HB, Q_NB334_333, Q_NB333_334, Q_HO316_e1, Q_HO321_e4, Q_BK333, Q_GW333, Q_GE333, Q_NB309_333, Q_NB333_309, Q_NB310_333, Q_NB333_310, Q_BK334, Q_GW334, Q_GE334, Q_NB309_334, Q_NB334_309, Q_NB310_334, Q_NB334_310, Q_BK333_e11, Q_BK334_e12, Q_HO316_p1_10, Q_HO321_p4_10, Q_X1_, Q_X4_, Q_X5_, Q_X6_, Q_X9_, Q_X10_⟩ hb_ hon hoff
         refine ⟨_, rfl, fun K hK => ?_⟩
         have e20 : a.tmps[20]? = some (m1_) := by rw [ha]; exact putSel_on (e := (1, 20, m1_)) 1 rfl rfl (hon 1 (by kernel_rfl)) rfl
         rw [Q_X1_ (hon 1 (by kernel_rfl))] at e20
         have e21 : a.tmps[21]? = some (.int .i64 a1) := by rw [ha]; exact (putSel_off rfl).trans rfl
         have e22 : a.tmps[22]? = some (.agg #[.int .i64 a2_0, .int .i64 a2_1, .int .i64 a2_2, .int .i64 a2_3, .int .i64 a2_4, .int .i64 a2_5, .int .i64 a2_6]) := by rw [ha]; exact putSel_on (e := (3, 22, .agg #[.int .i64 a2_0, .int .i64 a2_1, .int .i64 a2_2, .int .i64 a2_3, .int .i64 a2_4, .int .i64 a2_5, .int .i64 a2_6])) 2 rfl rfl (hon 3 (by kernel_rfl)) rfl
         replace ha := Aside0.mk ha
         have BK309 := Aside0.mk Q_BK309
         have BK310 := Aside0.mk Q_BK310
         have HB := Aside0.mk Q_HB
         have HO316 := Aside0.mk (Q_HO316_e1 (hon 1 (by kernel_rfl)))
         obtain ⟨Ao99, co99, eo99⟩ := Kd.R_slice HO316.out
         (first | subst eo99 | (injection eo99 with f1_ f2_ f3_; have f4_ := f1_.symm; have f5_ := f3_.symm; clear f1_ f2_ f3_; subst f4_; subst f5_))
         refine goes_ Try.func14 (by kernel_rfl) rfl #[.agg #[.int .i64 t312, .int .i64 t313, .slice Ao99 t314.length co99], .int .i64 a1, .agg #[.int .i64 a2_0, .int .i64 a2_1, .int .i64 a2_2, .int .i64 a2_3, .int .i64 a2_4, .int .i64 a2_5, .int .i64 a2_6]] (by rfl) rfl rfl (by first | (simp only [List.map_toArray, List.map_cons, List.map_nil, Act.eval, Array.getD_eq_getD_getElem?, Option.getD_some, e20, e21, e22]; done) | (simp only [List.map_toArray, List.map_cons, List.map_nil, Act.eval, Array.getD_eq_getD_getElem?, Option.getD_some, e20, e21, e22]; rfl)) ?_
         with_reducible refine (sender_Send.calls k t312 t313 _ _ t314 a1 a2_0 a2_1 a2_2 a2_3 a2_4 a2_5 a2_6 t317 t318 t319 t322 t323 t324 t325 t326 t327 t328 t329 t330 t331 t332 _ ?side1 ?side2 A13.out).mono ?_
         (case side1 => repeat (first | exact (Kd.R_reads' HO316.out).2.2 | (with_reducible refine Kd.C_alloc ?_ _) | (with_reducible refine Kd.C_drewN ?_ _) | (with_reducible refine Kd.C_drew ?_)))
         (case side2 => exact (Kd.R_reads' HO316.out).2.1)
         rintro e w100 ⟨v320, rfl, ho0, hb⟩
         refine ⟨_, rfl, ?_⟩
         have n0_ := Aside0.mk (Kd.R_elder' (by (with_reducible repeat (first | apply Kd.R_alloc | apply Kd.R_drewN | apply Kd.R_drew)); exact HO316.out) (Kd.R_base ho0) hb)
         have n1_ := Aside0.mk (Kd.R_lower (Kd.R_new' ho0 (Kd.R_lt (by (with_reducible repeat (first | apply Kd.R_alloc | apply Kd.R_drewN | apply Kd.R_drew)); exact HO316.out))) (lqZ (by repeat (first | (with_reducible first | exact HB.out | apply lqA | apply lqN | apply lqD | refine lqS ?_ GE309.out | refine lqS ?_ GE310.out) | exact HB.out))))
         have n2_ := Aside0.mk (bqB (GS.bqX BK309.out) hb)
         have n3_ := Aside0.mk (bqB (GS.bqX BK310.out) hb)
         have n4_ := Aside0.mk (lqT (by repeat (first | (with_reducible first | exact HB.out | apply lqA | apply lqN | apply lqD | refine lqS ?_ GE309.out | refine lqS ?_ GE310.out) | exact HB.out)) hb)
         have z_BK333 := fun (h0_ : b 9 = true) (h1_ : b 11 = false) => (show w100.heap[gb333]? = some (.cells #[.int .i64 0, .int .i64 0, .slice none 0 0] 24 (0, 0)) from by first | exact (bqB (GS.bqX (Q_BK333 h0_ h1_)) hb))
         have z_BK334 := fun (h0_ : b 10 = true) (h1_ : b 12 = false) => (show w100.heap[gb334]? = some (.cells #[.int .i64 0, .int .i64 0, .int .i64 0, .int .i64 0, .int .i64 0, .int .i64 0, .int .i64 0, .int .i64 0, .int .i64 0, .int .i64 0] 33 (0, 0)) from by first | exact (bqB (GS.bqX (Q_BK334 h0_ h1_)) hb))
         have z_HO316_p1_10 := fun (h0_ : b 1 = true) (h1_ : b 10 = true) => (show Kd.R k33 33 w100 w.heap.size (fun k_ => k_ ≠ gb334) (.slice Ao99 t314.length co99) t314 from by first | exact (Kd.R_elder' (by (with_reducible repeat (first | apply Kd.R_alloc | apply Kd.R_drewN | apply Kd.R_drew)); exact (Q_HO316_p1_10 h0_ h1_)) (Kd.R_base ho0) hb) | exact Kd.R_mono (Kd.R_elder' (by (with_reducible repeat (first | apply Kd.R_alloc | apply Kd.R_drewN | apply Kd.R_drew)); exact (Q_HO316_p1_10 h0_ h1_)) (Kd.R_base ho0) hb) (fun _ hk => GS.cj hk))
         have z_HO321_p4_10 := fun (h0_ : up b 4 4 = true) (h1_ : up b 4 10 = true) => (show Kd.R k33 33 w100 w.heap.size (fun k_ => k_ ≠ gb334 ∧ some k_ ≠ (.slice Ao99 t314.length co99 : Value).ownBlock) v320 t319 from (Kd.R_mono (Kd.R_lower (Kd.R_newB (Kd.R_new' ho0 (Kd.R_lt (by (with_reducible repeat (first | apply Kd.R_alloc | apply Kd.R_drewN | apply Kd.R_drew)); exact HO316.out))) (GS.bqX (Q_BK334 h1_ (hoff 12 (by kernel_rfl))))) (lqZ (by repeat (first | (with_reducible first | exact HB.out | apply lqA | apply lqN | apply lqD | refine lqS ?_ GE309.out | refine lqS ?_ GE310.out | refine lqS ?_ (Q_GE334 h1_)) | exact HB.out)))) (fun _ hk => GS.cj hk)))
         clear HO316
         clear BK309
         clear BK310
         clear HB
         have HO316 := n0_
         have HO321 := n1_
         have BK309 := n2_
         have BK310 := n3_
         have HB := n4_
         clear n0_ n1_ n2_ n3_ n4_
         (try clear hb)
         (try clear hb2)
         (try clear hk)
         (try clear hi)
         (try clear ho0)
         refine hK.out _ _ ⟨.slice Ao99 t314.length co99, v320, gb333, gb334, m1_, (.tuple #[.agg #[.int .i64 t317, .int .i64 t318, v320], .agg #[.int .i64 t322, .int .i64 t323, .int .i64 t324, .int .i64 t325, .int .i64 t326, .int .i64 t327, .int .i64 t328, .int .i64 t329, .int .i64 t330, .int .i64 t331], .int .i64 t332]), m5_, m6_, m9_, m10_, (by rw [ha.out]; exact putSel_upk 3 hb_ rfl rfl rfl), (GS.bqX BK309.out), (GS.bqX BK310.out), (by repeat (first | (with_reducible first | exact HB.out | apply lqA | apply lqN | apply lqD | refine lqS ?_ GE309.out | refine lqS ?_ GE310.out) | exact HB.out)), Q_NB334_333, Q_NB333_334, fun _ => (by (with_reducible repeat (first | apply Kd.R_alloc | apply Kd.R_drewN | apply Kd.R_drew)); exact Kd.R_mono HO316.out (fun _ hk => GS.cj hk)), fun _ => (by (with_reducible repeat (first | apply Kd.R_alloc | apply Kd.R_drewN | apply Kd.R_drew)); exact Kd.R_mono HO321.out (fun _ hk => GS.cj hk)), z_BK333, Q_GW333, Q_GE333, Q_NB309_333, Q_NB333_309, Q_NB310_333, Q_NB333_310, z_BK334, Q_GW334, Q_GE334, Q_NB309_334, Q_NB334_309, Q_NB310_334, Q_NB334_310, fun h0_ => absurd ((hoff 11 (by kernel_rfl)).symm.trans h0_) (by decide), fun h0_ => absurd ((hoff 12 (by kernel_rfl)).symm.trans h0_) (by decide), z_HO316_p1_10, z_HO321_p4_10, Q_X1_, fun _ => rfl, fun h0_ => absurd ((hoff 5 (by kernel_rfl)).symm.trans h0_) (by decide), fun h0_ => absurd ((hoff 6 (by kernel_rfl)).symm.trans h0_) (by decide), Q_X9_, Q_X10_⟩
        refine steps_cons ?_ ?_
        ·rintro b a w' ⟨v315, v320, gb333, gb334, m1_, m4_, m5_, m6_, m9_, m10_, ha, Q_BK309, Q_BK310, Q_HB, Q_NB334_333, Q_NB333_334, Q_HO316_e1, Q_HO321_e4, Q_BK333, Q_GW333, Q_GE333, Q_NB309_333, Q_NB333_309, Q_NB310_333, Q_NB333_310, Q_BK334, Q_GW334, Q_GE334, Q_NB309_334, Q_NB334_309, Q_NB310_334, Q_NB334_310, Q_BK333_e11, Q_BK334_e12, Q_HO316_p1_10, Q_HO321_p4_10, Q_X1_, Q_X4_, Q_X5_, Q_X6_, Q_X9_, Q_X10_⟩ hb_ hon hoff
         refine ⟨_, rfl, fun K hK => ?_⟩
         have e23 : a.tmps[23]? = some (m4_) := by rw [ha]; exact putSel_on (e := (4, 23, m4_)) 3 rfl rfl (hon 4 (by kernel_rfl)) rfl
         rw [Q_X4_ (hon 4 (by kernel_rfl))] at e23
         replace ha := Aside0.mk ha
         have BK309 := Aside0.mk Q_BK309
         have BK310 := Aside0.mk Q_BK310
         have HB := Aside0.mk Q_HB
         have HO316 := Aside0.mk (Q_HO316_e1 (hon 1 (by kernel_rfl)))
         have HO321 := Aside0.mk (Q_HO321_e4 (hon 4 (by kernel_rfl)))
         refine value_ (w1 := w') (v := .tuple #[.agg #[.int .i64 t317, .int .i64 t318, v320], .agg #[.int .i64 t322, .int .i64 t323, .int .i64 t324, .int .i64 t325, .int .i64 t326, .int .i64 t327, .int .i64 t328, .int .i64 t329, .int .i64 t330, .int .i64 t331], .int .i64 t332]) (by rfl) rfl ?_ ?_
         ·go_simp
          (try simp only [i64_w])
          try rfl
         refine hK.out _ _ ⟨v315, v320, gb333, gb334, m1_, m4_, (.tuple #[.agg #[.int .i64 t317, .int .i64 t318, v320], .agg #[.int .i64 t322, .int .i64 t323, .int .i64 t324, .int .i64 t325, .int .i64 t326, .int .i64 t327, .int .i64 t328, .int .i64 t329, .int .i64 t330, .int .i64 t331], .int .i64 t332]), m6_, m9_, m10_, (by rw [ha.out]; exact putSel_upk 4 hb_ rfl rfl rfl), Q_BK309, Q_BK310, Q_HB, Q_NB334_333, Q_NB333_334, Q_HO316_e1, Q_HO321_e4, Q_BK333, Q_GW333, Q_GE333, Q_NB309_333, Q_NB333_309, Q_NB310_333, Q_NB333_310, Q_BK334, Q_GW334, Q_GE334, Q_NB309_334, Q_NB334_309, Q_NB310_334, Q_NB334_310, fun h0_ => absurd ((hoff 11 (by kernel_rfl)).symm.trans h0_) (by decide), fun h0_ => absurd ((hoff 12 (by kernel_rfl)).symm.trans h0_) (by decide), Q_HO316_p1_10, Q_HO321_p4_10, Q_X1_, Q_X4_, fun _ => rfl, fun h0_ => absurd ((hoff 6 (by kernel_rfl)).symm.trans h0_) (by decide), Q_X9_, Q_X10_⟩
        refine steps_cons ?_ ?_
        ·rintro b a w' ⟨v315, v320, gb333, gb334, m1_, m4_, m5_, m6_, m9_, m10_, ha, Q_BK309, Q_BK310, Q_HB, Q_NB334_333, Q_NB333_334, Q_HO316_e1, Q_HO321_e4, Q_BK333, Q_GW333, Q_GE333, Q_NB309_333, Q_NB333_309, Q_NB310_333, Q_NB333_310, Q_BK334, Q_GW334, Q_GE334, Q_NB309_334, Q_NB334_309, Q_NB310_334, Q_NB334_310, Q_BK333_e11, Q_BK334_e12, Q_HO316_p1_10, Q_HO321_p4_10, Q_X1_, Q_X4_, Q_X5_, Q_X6_, Q_X9_, Q_X10_⟩ hb_ hon hoff
         refine ⟨_, rfl, fun K hK => ?_⟩
         have e18 : a.tmps[18]? = some (m5_) := by rw [ha]; exact putSel_on (e := (5, 18, m5_)) 4 rfl rfl (hon 5 (by kernel_rfl)) rfl
         rw [Q_X5_ (hon 5 (by kernel_rfl))] at e18
         replace ha := Aside0.mk ha
         have BK309 := Aside0.mk Q_BK309
         have BK310 := Aside0.mk Q_BK310
         have HB := Aside0.mk Q_HB
         have HO316 := Aside0.mk (Q_HO316_e1 (hon 1 (by kernel_rfl)))
         have HO321 := Aside0.mk (Q_HO321_e4 (hon 4 (by kernel_rfl)))
         refine value_ (w1 := w') (v := .agg #[.int .i64 t317, .int .i64 t318, v320]) (by rfl) rfl ?_ ?_
         ·go_simp
          (try simp only [i64_w])
          try rfl
         refine hK.out _ _ ⟨v315, v320, gb333, gb334, m1_, m4_, m5_, (.agg #[.int .i64 t317, .int .i64 t318, v320]), m9_, m10_, (by rw [ha.out]; exact putSel_upk 5 hb_ rfl rfl rfl), Q_BK309, Q_BK310, Q_HB, Q_NB334_333, Q_NB333_334, Q_HO316_e1, Q_HO321_e4, Q_BK333, Q_GW333, Q_GE333, Q_NB309_333, Q_NB333_309, Q_NB310_333, Q_NB333_310, Q_BK334, Q_GW334, Q_GE334, Q_NB309_334, Q_NB334_309, Q_NB310_334, Q_NB334_310, fun h0_ => absurd ((hoff 11 (by kernel_rfl)).symm.trans h0_) (by decide), fun h0_ => absurd ((hoff 12 (by kernel_rfl)).symm.trans h0_) (by decide), Q_HO316_p1_10, Q_HO321_p4_10, Q_X1_, Q_X4_, Q_X5_, fun _ => rfl, Q_X9_, Q_X10_⟩
        refine steps_cons ?_ ?_
        ·rintro b a w' ⟨v315, v320, gb333, gb334, m1_, m4_, m5_, m6_, m9_, m10_, ha, Q_BK309, Q_BK310, Q_HB, Q_NB334_333, Q_NB333_334, Q_HO316_e1, Q_HO321_e4, Q_BK333, Q_GW333, Q_GE333, Q_NB309_333, Q_NB333_309, Q_NB310_333, Q_NB333_310, Q_BK334, Q_GW334, Q_GE334, Q_NB309_334, Q_NB334_309, Q_NB310_334, Q_NB334_310, Q_BK333_e11, Q_BK334_e12, Q_HO316_p1_10, Q_HO321_p4_10, Q_X1_, Q_X4_, Q_X5_, Q_X6_, Q_X9_, Q_X10_⟩ hb_ hon hoff
         refine ⟨_, rfl, fun K hK => ?_⟩
         have e18 : a.tmps[18]? = some (m5_) := by rw [ha]; exact putSel_on (e := (5, 18, m5_)) 4 rfl rfl (hon 5 (by kernel_rfl)) rfl
         rw [Q_X5_ (hon 5 (by kernel_rfl))] at e18
         replace ha := Aside0.mk ha
         have BK309 := Aside0.mk Q_BK309
         have BK310 := Aside0.mk Q_BK310
         have HB := Aside0.mk Q_HB
         have HO316 := Aside0.mk (Q_HO316_e1 (hon 1 (by kernel_rfl)))
         have HO321 := Aside0.mk (Q_HO321_e4 (hon 4 (by kernel_rfl)))
         refine value_ (w1 := w') (v := .agg #[.int .i64 t322, .int .i64 t323, .int .i64 t324, .int .i64 t325, .int .i64 t326, .int .i64 t327, .int .i64 t328, .int .i64 t329, .int .i64 t330, .int .i64 t331]) (by rfl) rfl ?_ ?_
         ·go_simp
          (try simp only [i64_w])
          try rfl
         refine hK.out _ _ ⟨v315, v320, gb333, gb334, m1_, m4_, m5_, m6_, m9_, m10_, (by rw [ha.out]; exact putSel_upk 6 hb_ rfl rfl rfl), Q_BK309, Q_BK310, Q_HB, Q_NB334_333, Q_NB333_334, Q_HO316_e1, Q_HO321_e4, Q_BK333, Q_GW333, Q_GE333, Q_NB309_333, Q_NB333_309, Q_NB310_333, Q_NB333_310, Q_BK334, Q_GW334, Q_GE334, Q_NB309_334, Q_NB334_309, Q_NB310_334, Q_NB334_310, Q_BK333_e11, fun h0_ => absurd ((hoff 12 (by kernel_rfl)).symm.trans h0_) (by decide), Q_HO316_p1_10, Q_HO321_p4_10, Q_X1_, Q_X4_, Q_X5_, Q_X6_, Q_X9_, Q_X10_⟩
        refine steps_cons ?_ ?_
        ·rintro b a w' ⟨v315, v320, gb333, gb334, m1_, m4_, m5_, m6_, m9_, m10_, ha, Q_BK309, Q_BK310, Q_HB, Q_NB334_333, Q_NB333_334, Q_HO316_e1, Q_HO321_e4, Q_BK333, Q_GW333, Q_GE333, Q_NB309_333, Q_NB333_309, Q_NB310_333, Q_NB333_310, Q_BK334, Q_GW334, Q_GE334, Q_NB309_334, Q_NB334_309, Q_NB310_334, Q_NB334_310, Q_BK333_e11, Q_BK334_e12, Q_HO316_p1_10, Q_HO321_p4_10, Q_X1_, Q_X4_, Q_X5_, Q_X6_, Q_X9_, Q_X10_⟩ hb_ hon hoff
         refine ⟨_, rfl, fun K hK => ?_⟩
         have e18 : a.tmps[18]? = some (m5_) := by rw [ha]; exact putSel_on (e := (5, 18, m5_)) 4 rfl rfl (hon 5 (by kernel_rfl)) rfl
         rw [Q_X5_ (hon 5 (by kernel_rfl))] at e18
         replace ha := Aside0.mk ha
         have BK309 := Aside0.mk Q_BK309
         have BK310 := Aside0.mk Q_BK310
         have HB := Aside0.mk Q_HB
         have HO316 := Aside0.mk (Q_HO316_e1 (hon 1 (by kernel_rfl)))
         have HO321 := Aside0.mk (Q_HO321_e4 (hon 4 (by kernel_rfl)))
         refine value_ (w1 := w') (v := .int .i64 t332) (by rfl) rfl ?_ ?_
         ·go_simp
          (try simp only [i64_w])
          try rfl
         refine hK.out _ _ ⟨v315, v320, gb333, gb334, m1_, m4_, m5_, m6_, m9_, m10_, (by rw [ha.out]; exact putSel_upk 7 hb_ rfl rfl rfl), Q_BK309, Q_BK310, Q_HB, Q_NB334_333, Q_NB333_334, Q_HO316_e1, Q_HO321_e4, Q_BK333, Q_GW333, Q_GE333, Q_NB309_333, Q_NB333_309, Q_NB310_333, Q_NB333_310, Q_BK334, Q_GW334, Q_GE334, Q_NB309_334, Q_NB334_309, Q_NB310_334, Q_NB334_310, Q_BK333_e11, Q_BK334_e12, Q_HO316_p1_10, Q_HO321_p4_10, Q_X1_, Q_X4_, Q_X5_, Q_X6_, Q_X9_, Q_X10_⟩
        refine steps_cons ?_ ?_
        ·rintro b a w' ⟨v315, v320, gb333, gb334, m1_, m4_, m5_, m6_, m9_, m10_, ha, Q_BK309, Q_BK310, Q_HB, Q_NB334_333, Q_NB333_334, Q_HO316_e1, Q_HO321_e4, Q_BK333, Q_GW333, Q_GE333, Q_NB309_333, Q_NB333_309, Q_NB310_333, Q_NB333_310, Q_BK334, Q_GW334, Q_GE334, Q_NB309_334, Q_NB334_309, Q_NB310_334, Q_NB334_310, Q_BK333_e11, Q_BK334_e12, Q_HO316_p1_10, Q_HO321_p4_10, Q_X1_, Q_X4_, Q_X5_, Q_X6_, Q_X9_, Q_X10_⟩ hb_ hon hoff
         refine ⟨_, rfl, fun K hK => ?_⟩
         replace ha := Aside0.mk ha
         have BK309 := Aside0.mk Q_BK309
         have BK310 := Aside0.mk Q_BK310
         have HB := Aside0.mk Q_HB
         refine box_step ?hg (N := 7) ?hd (cs := #[.int .i64 0, .int .i64 0, .slice none 0 0]) (t := 24) ?hr ?_; (case hd => rfl); (case hg => rfl); (case hr => first | (go_simp; done) | (go_simp; rfl))
         intro gb333 hg w97 hbox hb
         have n0_ := Aside0.mk (bqB (GS.bqX BK309.out) hb)
         have n1_ := Aside0.mk (bqB (GS.bqX BK310.out) hb)
         have n2_ := Aside0.mk (lqT (by repeat (first | (with_reducible first | exact HB.out | apply lqA | apply lqN | apply lqD | refine lqS ?_ GE309.out | refine lqS ?_ GE310.out) | exact HB.out)) hb)
         have n3_ := Aside0.mk (hbox)
         have n4_ := Aside0.mk ((by rw [hg]; exact (lqZ (by repeat (first | (with_reducible first | exact HB.out | apply lqA | apply lqN | apply lqD | refine lqS ?_ GE309.out | refine lqS ?_ GE310.out) | exact HB.out))) : w.heap.size ≤ gb333))
         have n5_ := Aside0.mk ((by rw [hg]; exact (lqZ (by repeat (first | (with_reducible first | exact HB.out | apply lqA | apply lqN | apply lqD | refine lqS ?_ GE309.out | refine lqS ?_ GE310.out) | exact HB.out))) : w.heap.size ≤ gb333))
         have n6_ := Aside0.mk ((by rw [hg]; exact Nat.ne_of_lt (blk_lt (GS.bqX BK309.out)) : gb309 ≠ gb333))
         have n7_ := Aside0.mk ((by rw [hg]; exact Nat.ne_of_gt (blk_lt (GS.bqX BK309.out)) : gb333 ≠ gb309))
         have n8_ := Aside0.mk ((by rw [hg]; exact Nat.ne_of_lt (blk_lt (GS.bqX BK310.out)) : gb310 ≠ gb333))
         have n9_ := Aside0.mk ((by rw [hg]; exact Nat.ne_of_gt (blk_lt (GS.bqX BK310.out)) : gb333 ≠ gb310))
         have z_NB334_333 := fun (h0_ : up b 9 9 = true) (h1_ : up b 9 10 = true) => (show gb334 ≠ gb333 from ((by rw [hg]; exact Nat.ne_of_lt (blk_lt (GS.bqX (Q_BK334 h1_ (hoff 12 (by kernel_rfl))))) : gb334 ≠ gb333)))
         have z_NB333_334 := fun (h0_ : up b 9 9 = true) (h1_ : up b 9 10 = true) => (show gb333 ≠ gb334 from ((by rw [hg]; exact Nat.ne_of_gt (blk_lt (GS.bqX (Q_BK334 h1_ (hoff 12 (by kernel_rfl))))) : gb333 ≠ gb334)))
         have z_HO316_e1 := fun (h0_ : b 1 = true) => (show Kd.R k33 33 w97 w.heap.size (fun _ => True) v315 t314 from by first | exact (Kd.R_below (by (with_reducible repeat (first | apply Kd.R_alloc | apply Kd.R_drewN | apply Kd.R_drew)); exact (Q_HO316_e1 h0_)) hb) | exact Kd.R_mono (Kd.R_below (by (with_reducible repeat (first | apply Kd.R_alloc | apply Kd.R_drewN | apply Kd.R_drew)); exact (Q_HO316_e1 h0_)) hb) (fun _ hk => GS.cj hk))
         have z_HO321_e4 := fun (h0_ : b 4 = true) => (show Kd.R k33 33 w97 w.heap.size (fun k_ => some k_ ≠ (v315 : Value).ownBlock) v320 t319 from by first | exact (Kd.R_below (by (with_reducible repeat (first | apply Kd.R_alloc | apply Kd.R_drewN | apply Kd.R_drew)); exact (Q_HO321_e4 h0_)) hb) | exact Kd.R_mono (Kd.R_below (by (with_reducible repeat (first | apply Kd.R_alloc | apply Kd.R_drewN | apply Kd.R_drew)); exact (Q_HO321_e4 h0_)) hb) (fun _ hk => GS.cj hk))
         have z_BK334 := fun (h0_ : b 10 = true) (h1_ : b 12 = false) => (show w97.heap[gb334]? = some (.cells #[.int .i64 0, .int .i64 0, .int .i64 0, .int .i64 0, .int .i64 0, .int .i64 0, .int .i64 0, .int .i64 0, .int .i64 0, .int .i64 0] 33 (0, 0)) from by first | exact (bqB (GS.bqX (Q_BK334 h0_ h1_)) hb))
         have z_HO316_p1_10 := fun (h0_ : b 1 = true) (h1_ : b 10 = true) => (show Kd.R k33 33 w97 w.heap.size (fun k_ => k_ ≠ gb334) v315 t314 from by first | exact (Kd.R_below (by (with_reducible repeat (first | apply Kd.R_alloc | apply Kd.R_drewN | apply Kd.R_drew)); exact (Q_HO316_p1_10 h0_ h1_)) hb) | exact Kd.R_mono (Kd.R_below (by (with_reducible repeat (first | apply Kd.R_alloc | apply Kd.R_drewN | apply Kd.R_drew)); exact (Q_HO316_p1_10 h0_ h1_)) hb) (fun _ hk => GS.cj hk))
         have z_HO321_p4_10 := fun (h0_ : b 4 = true) (h1_ : b 10 = true) => (show Kd.R k33 33 w97 w.heap.size (fun k_ => k_ ≠ gb334 ∧ some k_ ≠ (v315 : Value).ownBlock) v320 t319 from by first | exact (Kd.R_below (by (with_reducible repeat (first | apply Kd.R_alloc | apply Kd.R_drewN | apply Kd.R_drew)); exact (Q_HO321_p4_10 h0_ h1_)) hb) | exact Kd.R_mono (Kd.R_below (by (with_reducible repeat (first | apply Kd.R_alloc | apply Kd.R_drewN | apply Kd.R_drew)); exact (Q_HO321_p4_10 h0_ h1_)) hb) (fun _ hk => GS.cj hk))
         clear BK309
         clear BK310
         clear HB
         have BK309 := n0_
         have BK310 := n1_
         have HB := n2_
         have BK333 := n3_
         have GW333 := n4_
         have GE333 := n5_
         have NB309_333 := n6_
         have NB333_309 := n7_
         have NB310_333 := n8_
         have NB333_310 := n9_
         clear n0_ n1_ n2_ n3_ n4_ n5_ n6_ n7_ n8_ n9_
         clear hb hbox hg
         refine hK.out _ _ ⟨v315, v320, gb333, gb334, m1_, m4_, m5_, m6_, (.pointer (some ⟨gb333, 0, none⟩)), m10_, (by rw [ha.out]; exact putSel_upk 8 hb_ rfl rfl rfl), (GS.bqX BK309.out), (GS.bqX BK310.out), (by repeat (first | (with_reducible first | exact HB.out | apply lqA | apply lqN | apply lqD | refine lqS ?_ GE309.out | refine lqS ?_ GE310.out | refine lqS ?_ GE333.out) | exact HB.out)), z_NB334_333, z_NB333_334, z_HO316_e1, z_HO321_e4, fun _ _ => (GS.bqX BK333.out), fun _ => GW333.out, fun _ => GE333.out, fun _ => NB309_333.out, fun _ => NB333_309.out, fun _ => NB310_333.out, fun _ => NB333_310.out, z_BK334, Q_GW334, Q_GE334, Q_NB309_334, Q_NB334_309, Q_NB310_334, Q_NB334_310, fun h0_ => absurd ((hoff 11 (by kernel_rfl)).symm.trans h0_) (by decide), fun h0_ => absurd ((hoff 12 (by kernel_rfl)).symm.trans h0_) (by decide), z_HO316_p1_10, z_HO321_p4_10, Q_X1_, Q_X4_, Q_X5_, Q_X6_, fun _ => rfl, Q_X10_⟩
        refine steps_cons ?_ ?_
        ·rintro b a w' ⟨v315, v320, gb333, gb334, m1_, m4_, m5_, m6_, m9_, m10_, ha, Q_BK309, Q_BK310, Q_HB, Q_NB334_333, Q_NB333_334, Q_HO316_e1, Q_HO321_e4, Q_BK333, Q_GW333, Q_GE333, Q_NB309_333, Q_NB333_309, Q_NB310_333, Q_NB333_310, Q_BK334, Q_GW334, Q_GE334, Q_NB309_334, Q_NB334_309, Q_NB310_334, Q_NB334_310, Q_BK333_e11, Q_BK334_e12, Q_HO316_p1_10, Q_HO321_p4_10, Q_X1_, Q_X4_, Q_X5_, Q_X6_, Q_X9_, Q_X10_⟩ hb_ hon hoff
         refine ⟨_, rfl, fun K hK => ?_⟩
         replace ha := Aside0.mk ha
         have BK309 := Aside0.mk Q_BK309
         have BK310 := Aside0.mk Q_BK310
         have HB := Aside0.mk Q_HB
         refine box_step ?hg (N := 8) ?hd (cs := #[.int .i64 0, .int .i64 0, .int .i64 0, .int .i64 0, .int .i64 0, .int .i64 0, .int .i64 0, .int .i64 0, .int .i64 0, .int .i64 0]) (t := 33) ?hr ?_; (case hd => rfl); (case hg => rfl); (case hr => first | (go_simp; done) | (go_simp; rfl))
         intro gb334 hg w97 hbox hb
         have n0_ := Aside0.mk (bqB (GS.bqX BK309.out) hb)
         have n1_ := Aside0.mk (bqB (GS.bqX BK310.out) hb)
         have n2_ := Aside0.mk (lqT (by repeat (first | (with_reducible first | exact HB.out | apply lqA | apply lqN | apply lqD | refine lqS ?_ GE309.out | refine lqS ?_ GE310.out) | exact HB.out)) hb)
         have n3_ := Aside0.mk (hbox)
         have n4_ := Aside0.mk ((by rw [hg]; exact (lqZ (by repeat (first | (with_reducible first | exact HB.out | apply lqA | apply lqN | apply lqD | refine lqS ?_ GE309.out | refine lqS ?_ GE310.out) | exact HB.out))) : w.heap.size ≤ gb334))
         have n5_ := Aside0.mk ((by rw [hg]; exact (lqZ (by repeat (first | (with_reducible first | exact HB.out | apply lqA | apply lqN | apply lqD | refine lqS ?_ GE309.out | refine lqS ?_ GE310.out) | exact HB.out))) : w.heap.size ≤ gb334))
         have n6_ := Aside0.mk ((by rw [hg]; exact Nat.ne_of_lt (blk_lt (GS.bqX BK309.out)) : gb309 ≠ gb334))
         have n7_ := Aside0.mk ((by rw [hg]; exact Nat.ne_of_gt (blk_lt (GS.bqX BK309.out)) : gb334 ≠ gb309))
         have n8_ := Aside0.mk ((by rw [hg]; exact Nat.ne_of_lt (blk_lt (GS.bqX BK310.out)) : gb310 ≠ gb334))
         have n9_ := Aside0.mk ((by rw [hg]; exact Nat.ne_of_gt (blk_lt (GS.bqX BK310.out)) : gb334 ≠ gb310))
         have z_NB334_333 := fun (h0_ : up b 10 9 = true) (h1_ : up b 10 10 = true) => (show gb334 ≠ gb333 from ((by rw [hg]; exact Nat.ne_of_gt (blk_lt (GS.bqX (Q_BK333 h0_ (hoff 11 (by kernel_rfl))))) : gb334 ≠ gb333)))
         have z_NB333_334 := fun (h0_ : up b 10 9 = true) (h1_ : up b 10 10 = true) => (show gb333 ≠ gb334 from ((by rw [hg]; exact Nat.ne_of_lt (blk_lt (GS.bqX (Q_BK333 h0_ (hoff 11 (by kernel_rfl))))) : gb333 ≠ gb334)))
         have z_HO316_e1 := fun (h0_ : b 1 = true) => (show Kd.R k33 33 w97 w.heap.size (fun _ => True) v315 t314 from by first | exact (Kd.R_below (Kd.R_elderB (by (with_reducible repeat (first | apply Kd.R_alloc | apply Kd.R_drewN | apply Kd.R_drew)); exact (Q_HO316_e1 h0_)) gb334 (Nat.le_of_eq hg.symm)) hb) | exact Kd.R_mono (Kd.R_below (Kd.R_elderB (by (with_reducible repeat (first | apply Kd.R_alloc | apply Kd.R_drewN | apply Kd.R_drew)); exact (Q_HO316_e1 h0_)) gb334 (Nat.le_of_eq hg.symm)) hb) (fun _ hk => GS.cj hk))
         have z_HO321_e4 := fun (h0_ : b 4 = true) => (show Kd.R k33 33 w97 w.heap.size (fun k_ => some k_ ≠ (v315 : Value).ownBlock) v320 t319 from by first | exact (Kd.R_below (Kd.R_elderB (by (with_reducible repeat (first | apply Kd.R_alloc | apply Kd.R_drewN | apply Kd.R_drew)); exact (Q_HO321_e4 h0_)) gb334 (Nat.le_of_eq hg.symm)) hb) | exact Kd.R_mono (Kd.R_below (Kd.R_elderB (by (with_reducible repeat (first | apply Kd.R_alloc | apply Kd.R_drewN | apply Kd.R_drew)); exact (Q_HO321_e4 h0_)) gb334 (Nat.le_of_eq hg.symm)) hb) (fun _ hk => GS.cj hk))
         have z_BK333 := fun (h0_ : b 9 = true) (h1_ : b 11 = false) => (show w97.heap[gb333]? = some (.cells #[.int .i64 0, .int .i64 0, .slice none 0 0] 24 (0, 0)) from by first | exact (bqB (GS.bqX (Q_BK333 h0_ h1_)) hb))
         have z_HO316_p1_10 := fun (h0_ : up b 10 1 = true) (h1_ : up b 10 10 = true) => (show Kd.R k33 33 w97 w.heap.size (fun k_ => k_ ≠ gb334) v315 t314 from (Kd.R_mono (Kd.R_below (Kd.R_elderB (by (with_reducible repeat (first | apply Kd.R_alloc | apply Kd.R_drewN | apply Kd.R_drew)); exact (Q_HO316_e1 h0_)) gb334 (Nat.le_of_eq hg.symm)) hb) (fun _ hk => GS.cj hk)))
         have z_HO321_p4_10 := fun (h0_ : up b 10 4 = true) (h1_ : up b 10 10 = true) => (show Kd.R k33 33 w97 w.heap.size (fun k_ => k_ ≠ gb334 ∧ some k_ ≠ (v315 : Value).ownBlock) v320 t319 from (Kd.R_mono (Kd.R_below (Kd.R_elderB (by (with_reducible repeat (first | apply Kd.R_alloc | apply Kd.R_drewN | apply Kd.R_drew)); exact (Q_HO321_e4 h0_)) gb334 (Nat.le_of_eq hg.symm)) hb) (fun _ hk => GS.cj hk)))
         clear BK309
         clear BK310
         clear HB
         have BK309 := n0_
         have BK310 := n1_
         have HB := n2_
         have BK334 := n3_
         have GW334 := n4_
         have GE334 := n5_
         have NB309_334 := n6_
         have NB334_309 := n7_
         have NB310_334 := n8_
         have NB334_310 := n9_
         clear n0_ n1_ n2_ n3_ n4_ n5_ n6_ n7_ n8_ n9_
         clear hb hbox hg
         refine hK.out _ _ ⟨v315, v320, gb333, gb334, m1_, m4_, m5_, m6_, m9_, (.pointer (some ⟨gb334, 0, none⟩)), (by rw [ha.out]; exact putSel_upk 9 hb_ rfl rfl rfl), (GS.bqX BK309.out), (GS.bqX BK310.out), (by repeat (first | (with_reducible first | exact HB.out | apply lqA | apply lqN | apply lqD | refine lqS ?_ GE309.out | refine lqS ?_ GE310.out | refine lqS ?_ GE334.out) | exact HB.out)), z_NB334_333, z_NB333_334, z_HO316_e1, z_HO321_e4, z_BK333, Q_GW333, Q_GE333, Q_NB309_333, Q_NB333_309, Q_NB310_333, Q_NB333_310, fun _ _ => (GS.bqX BK334.out), fun _ => GW334.out, fun _ => GE334.out, fun _ => NB309_334.out, fun _ => NB334_309.out, fun _ => NB310_334.out, fun _ => NB334_310.out, fun h0_ => absurd ((hoff 11 (by kernel_rfl)).symm.trans h0_) (by decide), fun h0_ => absurd ((hoff 12 (by kernel_rfl)).symm.trans h0_) (by decide), z_HO316_p1_10, z_HO321_p4_10, Q_X1_, Q_X4_, Q_X5_, Q_X6_, Q_X9_, fun _ => rfl⟩
        refine steps_cons ?_ ?_
        ·rintro b a w' ⟨v315, v320, gb333, gb334, m1_, m4_, m5_, m6_, m9_, m10_, ha, Q_BK309, Q_BK310, Q_HB, Q_NB334_333, Q_NB333_334, Q_HO316_e1, Q_HO321_e4, Q_BK333, Q_GW333, Q_GE333, Q_NB309_333, Q_NB333_309, Q_NB310_333, Q_NB333_310, Q_BK334, Q_GW334, Q_GE334, Q_NB309_334, Q_NB334_309, Q_NB310_334, Q_NB334_310, Q_BK333_e11, Q_BK334_e12, Q_HO316_p1_10, Q_HO321_p4_10, Q_X1_, Q_X4_, Q_X5_, Q_X6_, Q_X9_, Q_X10_⟩ hb_ hon hoff
         refine ⟨_, rfl, fun K hK => ?_⟩
         have e7 : a.tmps[7]? = some (m9_) := by rw [ha]; exact putSel_on (e := (9, 7, m9_)) 8 rfl rfl (hon 9 (by kernel_rfl)) rfl
         rw [Q_X9_ (hon 9 (by kernel_rfl))] at e7
         have e24 : a.tmps[24]? = some (m6_) := by rw [ha]; exact putSel_on (e := (6, 24, m6_)) 5 rfl rfl (hon 6 (by kernel_rfl)) rfl
         rw [Q_X6_ (hon 6 (by kernel_rfl))] at e24
         replace ha := Aside0.mk ha
         have BK309 := Aside0.mk Q_BK309
         have BK310 := Aside0.mk Q_BK310
         have HB := Aside0.mk Q_HB
         have NB334_333 := Aside0.mk (Q_NB334_333 (hon 9 (by kernel_rfl)) (hon 10 (by kernel_rfl)))
         have NB333_334 := Aside0.mk (Q_NB333_334 (hon 9 (by kernel_rfl)) (hon 10 (by kernel_rfl)))
         have HO316 := Aside0.mk (Q_HO316_e1 (hon 1 (by kernel_rfl)))
         have HO321 := Aside0.mk (Q_HO321_e4 (hon 4 (by kernel_rfl)))
         have BK333 := Aside0.mk (Q_BK333 (hon 9 (by kernel_rfl)) hb_)
         have GW333 := Aside0.mk (Q_GW333 (hon 9 (by kernel_rfl)))
         have GE333 := Aside0.mk (Q_GE333 (hon 9 (by kernel_rfl)))
         have NB309_333 := Aside0.mk (Q_NB309_333 (hon 9 (by kernel_rfl)))
         have NB333_309 := Aside0.mk (Q_NB333_309 (hon 9 (by kernel_rfl)))
         have NB310_333 := Aside0.mk (Q_NB310_333 (hon 9 (by kernel_rfl)))
         have NB333_310 := Aside0.mk (Q_NB333_310 (hon 9 (by kernel_rfl)))
         have BK334 := Aside0.mk (Q_BK334 (hon 10 (by kernel_rfl)) (hoff 12 (by kernel_rfl)))
         have GW334 := Aside0.mk (Q_GW334 (hon 10 (by kernel_rfl)))
         have GE334 := Aside0.mk (Q_GE334 (hon 10 (by kernel_rfl)))
         have NB309_334 := Aside0.mk (Q_NB309_334 (hon 10 (by kernel_rfl)))
         have NB334_309 := Aside0.mk (Q_NB334_309 (hon 10 (by kernel_rfl)))
         have NB310_334 := Aside0.mk (Q_NB310_334 (hon 10 (by kernel_rfl)))
         have NB334_310 := Aside0.mk (Q_NB334_310 (hon 10 (by kernel_rfl)))
         have HO316 := Aside0.mk (Q_HO316_p1_10 (hon 1 (by kernel_rfl)) (hon 10 (by kernel_rfl)))
         have HO321 := Aside0.mk (Q_HO321_p4_10 (hon 4 (by kernel_rfl)) (hon 10 (by kernel_rfl)))
         obtain ⟨Ao105, co105, eo105⟩ := Kd.R_slice HO321.out
         (first | subst eo105 | (injection eo105 with f1_ f2_ f3_; have f4_ := f1_.symm; have f5_ := f3_.symm; clear f1_ f2_ f3_; subst f4_; subst f5_))
         have hs103 : w'.cell? ⟨gb333, 0, none⟩ = some (.int .i64 0) := (bqC BK333.out 0).trans rfl
         have hfs103 := bqF BK333.out 0
         have hns103_0 := NB309_333.out
         have hns103_1 := NB310_333.out
         have hns103_3 := NB334_333.out
         have hms103_0 := NB333_309.out
         have hms103_1 := NB333_310.out
         have hms103_3 := NB333_334.out
         have hs104 : w'.cell? ⟨gb333, 1, none⟩ = some (.int .i64 0) := (bqC BK333.out 1).trans rfl
         have hfs104 := bqF BK333.out 1
         have hns104_0 := NB309_333.out
         have hns104_1 := NB310_333.out
         have hns104_3 := NB334_333.out
         have hms104_0 := NB333_309.out
         have hms104_1 := NB333_310.out
         have hms104_3 := NB333_334.out
         have hs106 : w'.cell? ⟨gb333, 2, none⟩ = some (.slice none 0 0) := (bqC BK333.out 2).trans rfl
         have hfs106 := bqF BK333.out 2
         have hns106_0 := NB309_333.out
         have hns106_1 := NB310_333.out
         have hns106_3 := NB334_333.out
         have hms106_0 := NB333_309.out
         have hms106_1 := NB333_310.out
         have hms106_3 := NB333_334.out
         refine skip_ (w1 := ?_) (by rfl) rfl ?_ ?_
         rotate_left
         ·go_simp
          rfl
         refine hK.out _ _ ⟨v315, .slice Ao105 t319.length co105, gb333, gb334, m1_, m4_, m5_, m6_, m9_, m10_, (by rw [ha.out]; exact putSel_none (v := undef) rfl), (GS.bqX BK309.out), (GS.bqX BK310.out), (by repeat (first | (with_reducible first | exact HB.out | apply lqA | apply lqN | apply lqD | refine lqS ?_ GE309.out | refine lqS ?_ GE310.out | refine lqS ?_ GE333.out | refine lqS ?_ GE334.out) | exact HB.out)), fun _ _ => NB334_333.out, fun _ _ => NB333_334.out, fun _ => Kd.R_mono ((by (with_reducible repeat (first | apply Kd.R_alloc | apply Kd.R_drewN | apply Kd.R_drew)); exact Kd.R_mono (Kd.R_far (p := ⟨gb333, 2, none⟩) (Kd.R_far (p := ⟨gb333, 1, none⟩) (Kd.R_far (p := ⟨gb333, 0, none⟩) (Kd.R_types HO316.out BK333.out (by decide)) (fun _ hk => hk.2) (.int .i64 t317)) (fun _ hk => hk.2) (.int .i64 t318)) (fun _ hk => hk.2) (.slice Ao105 t319.length co105)) (fun _ hk => hk))) (fun _ hk => GS.cj hk), fun _ => Kd.R_mono ((by (with_reducible repeat (first | apply Kd.R_alloc | apply Kd.R_drewN | apply Kd.R_drew)); exact Kd.R_mono (Kd.R_far (p := ⟨gb333, 2, none⟩) (Kd.R_far (p := ⟨gb333, 1, none⟩) (Kd.R_far (p := ⟨gb333, 0, none⟩) (Kd.R_types HO321.out BK333.out (by decide)) (fun _ hk => hk.2) (.int .i64 t317)) (fun _ hk => hk.2) (.int .i64 t318)) (fun _ hk => hk.2) (.slice Ao105 t319.length co105)) (fun _ hk => hk))) (fun _ hk => GS.cj hk), fun _ h1_ => absurd ((up_self b 11).symm.trans h1_) (by decide), fun _ => GW333.out, fun _ => GE333.out, fun _ => NB309_333.out, fun _ => NB333_309.out, fun _ => NB310_333.out, fun _ => NB333_310.out, fun _ _ => (GS.bqX BK334.out), fun _ => GW334.out, fun _ => GE334.out, fun _ => NB309_334.out, fun _ => NB334_309.out, fun _ => NB310_334.out, fun _ => NB334_310.out, fun _ => (GS.bqZ BK333.out), fun h0_ => absurd ((hoff 12 (by kernel_rfl)).symm.trans h0_) (by decide), fun _ _ => (by (with_reducible repeat (first | apply Kd.R_alloc | apply Kd.R_drewN | apply Kd.R_drew)); exact Kd.R_mono (Kd.R_far (p := ⟨gb333, 2, none⟩) (Kd.R_far (p := ⟨gb333, 1, none⟩) (Kd.R_far (p := ⟨gb333, 0, none⟩) (Kd.R_types HO316.out BK333.out (by decide)) (fun _ hk => hk.2) (.int .i64 t317)) (fun _ hk => hk.2) (.int .i64 t318)) (fun _ hk => hk.2) (.slice Ao105 t319.length co105)) (fun _ hk => GS.cj hk)), fun _ _ => (by (with_reducible repeat (first | apply Kd.R_alloc | apply Kd.R_drewN | apply Kd.R_drew)); exact Kd.R_mono (Kd.R_far (p := ⟨gb333, 2, none⟩) (Kd.R_far (p := ⟨gb333, 1, none⟩) (Kd.R_far (p := ⟨gb333, 0, none⟩) (Kd.R_types HO321.out BK333.out (by decide)) (fun _ hk => hk.2) (.int .i64 t317)) (fun _ hk => hk.2) (.int .i64 t318)) (fun _ hk => hk.2) (.slice Ao105 t319.length co105)) (fun _ hk => GS.cj hk)), Q_X1_, Q_X4_, Q_X5_, Q_X6_, Q_X9_, Q_X10_⟩
        refine steps_cons ?_ ?_
        ·rintro b a w' ⟨v315, v320, gb333, gb334, m1_, m4_, m5_, m6_, m9_, m10_, ha, Q_BK309, Q_BK310, Q_HB, Q_NB334_333, Q_NB333_334, Q_HO316_e1, Q_HO321_e4, Q_BK333, Q_GW333, Q_GE333, Q_NB309_333, Q_NB333_309, Q_NB310_333, Q_NB333_310, Q_BK334, Q_GW334, Q_GE334, Q_NB309_334, Q_NB334_309, Q_NB310_334, Q_NB334_310, Q_BK333_e11, Q_BK334_e12, Q_HO316_p1_10, Q_HO321_p4_10, Q_X1_, Q_X4_, Q_X5_, Q_X6_, Q_X9_, Q_X10_⟩ hb_ hon hoff
         refine ⟨_, rfl, fun K hK => ?_⟩
         have e8 : a.tmps[8]? = some (m10_) := by rw [ha]; exact putSel_on (e := (10, 8, m10_)) 9 rfl rfl (hon 10 (by kernel_rfl)) rfl
         rw [Q_X10_ (hon 10 (by kernel_rfl))] at e8
         have e25 : a.tmps[25]? = some (.agg #[.int .i64 t322, .int .i64 t323, .int .i64 t324, .int .i64 t325, .int .i64 t326, .int .i64 t327, .int .i64 t328, .int .i64 t329, .int .i64 t330, .int .i64 t331]) := by rw [ha]; exact putSel_on (e := (7, 25, .agg #[.int .i64 t322, .int .i64 t323, .int .i64 t324, .int .i64 t325, .int .i64 t326, .int .i64 t327, .int .i64 t328, .int .i64 t329, .int .i64 t330, .int .i64 t331])) 6 rfl rfl (hon 7 (by kernel_rfl)) rfl
         replace ha := Aside0.mk ha
         have BK309 := Aside0.mk Q_BK309
         have BK310 := Aside0.mk Q_BK310
         have HB := Aside0.mk Q_HB
         have NB334_333 := Aside0.mk (Q_NB334_333 (hon 9 (by kernel_rfl)) (hon 10 (by kernel_rfl)))
         have NB333_334 := Aside0.mk (Q_NB333_334 (hon 9 (by kernel_rfl)) (hon 10 (by kernel_rfl)))
         have HO316 := Aside0.mk (Q_HO316_e1 (hon 1 (by kernel_rfl)))
         have HO321 := Aside0.mk (Q_HO321_e4 (hon 4 (by kernel_rfl)))
         have GW333 := Aside0.mk (Q_GW333 (hon 9 (by kernel_rfl)))
         have GE333 := Aside0.mk (Q_GE333 (hon 9 (by kernel_rfl)))
         have NB309_333 := Aside0.mk (Q_NB309_333 (hon 9 (by kernel_rfl)))
         have NB333_309 := Aside0.mk (Q_NB333_309 (hon 9 (by kernel_rfl)))
         have NB310_333 := Aside0.mk (Q_NB310_333 (hon 9 (by kernel_rfl)))
         have NB333_310 := Aside0.mk (Q_NB333_310 (hon 9 (by kernel_rfl)))
         have BK334 := Aside0.mk (Q_BK334 (hon 10 (by kernel_rfl)) hb_)
         have GW334 := Aside0.mk (Q_GW334 (hon 10 (by kernel_rfl)))
         have GE334 := Aside0.mk (Q_GE334 (hon 10 (by kernel_rfl)))
         have NB309_334 := Aside0.mk (Q_NB309_334 (hon 10 (by kernel_rfl)))
         have NB334_309 := Aside0.mk (Q_NB334_309 (hon 10 (by kernel_rfl)))
         have NB310_334 := Aside0.mk (Q_NB310_334 (hon 10 (by kernel_rfl)))
         have NB334_310 := Aside0.mk (Q_NB334_310 (hon 10 (by kernel_rfl)))
         have BK333 := Aside0.mk (Q_BK333_e11 (hon 11 (by kernel_rfl)))
         have HO316 := Aside0.mk (Q_HO316_p1_10 (hon 1 (by kernel_rfl)) (hon 10 (by kernel_rfl)))
         have HO321 := Aside0.mk (Q_HO321_p4_10 (hon 4 (by kernel_rfl)) (hon 10 (by kernel_rfl)))
         have hs107 : w'.cell? ⟨gb334, 0, none⟩ = some (.int .i64 0) := (bqC BK334.out 0).trans rfl
         have hfs107 := bqF BK334.out 0
         have hns107_0 := NB309_334.out
         have hns107_1 := NB310_334.out
         have hns107_2 := NB333_334.out
         have hms107_0 := NB334_309.out
         have hms107_1 := NB334_310.out
         have hms107_2 := NB334_333.out
         have hs108 : w'.cell? ⟨gb334, 1, none⟩ = some (.int .i64 0) := (bqC BK334.out 1).trans rfl
         have hfs108 := bqF BK334.out 1
         have hns108_0 := NB309_334.out
         have hns108_1 := NB310_334.out
         have hns108_2 := NB333_334.out
         have hms108_0 := NB334_309.out
         have hms108_1 := NB334_310.out
         have hms108_2 := NB334_333.out
         have hs109 : w'.cell? ⟨gb334, 2, none⟩ = some (.int .i64 0) := (bqC BK334.out 2).trans rfl
         have hfs109 := bqF BK334.out 2
         have hns109_0 := NB309_334.out
         have hns109_1 := NB310_334.out
         have hns109_2 := NB333_334.out
         have hms109_0 := NB334_309.out
         have hms109_1 := NB334_310.out
         have hms109_2 := NB334_333.out
         have hs110 : w'.cell? ⟨gb334, 3, none⟩ = some (.int .i64 0) := (bqC BK334.out 3).trans rfl
         have hfs110 := bqF BK334.out 3
         have hns110_0 := NB309_334.out
         have hns110_1 := NB310_334.out
         have hns110_2 := NB333_334.out
         have hms110_0 := NB334_309.out
         have hms110_1 := NB334_310.out
         have hms110_2 := NB334_333.out
         have hs111 : w'.cell? ⟨gb334, 4, none⟩ = some (.int .i64 0) := (bqC BK334.out 4).trans rfl
         have hfs111 := bqF BK334.out 4
         have hns111_0 := NB309_334.out
         have hns111_1 := NB310_334.out
         have hns111_2 := NB333_334.out
         have hms111_0 := NB334_309.out
         have hms111_1 := NB334_310.out
         have hms111_2 := NB334_333.out
         have hs112 : w'.cell? ⟨gb334, 5, none⟩ = some (.int .i64 0) := (bqC BK334.out 5).trans rfl
         have hfs112 := bqF BK334.out 5
         have hns112_0 := NB309_334.out
         have hns112_1 := NB310_334.out
         have hns112_2 := NB333_334.out
         have hms112_0 := NB334_309.out
         have hms112_1 := NB334_310.out
         have hms112_2 := NB334_333.out
         have hs113 : w'.cell? ⟨gb334, 6, none⟩ = some (.int .i64 0) := (bqC BK334.out 6).trans rfl
         have hfs113 := bqF BK334.out 6
         have hns113_0 := NB309_334.out
         have hns113_1 := NB310_334.out
         have hns113_2 := NB333_334.out
         have hms113_0 := NB334_309.out
         have hms113_1 := NB334_310.out
         have hms113_2 := NB334_333.out
         have hs114 : w'.cell? ⟨gb334, 7, none⟩ = some (.int .i64 0) := (bqC BK334.out 7).trans rfl
         have hfs114 := bqF BK334.out 7
         have hns114_0 := NB309_334.out
         have hns114_1 := NB310_334.out
         have hns114_2 := NB333_334.out
         have hms114_0 := NB334_309.out
         have hms114_1 := NB334_310.out
         have hms114_2 := NB334_333.out
         have hs115 : w'.cell? ⟨gb334, 8, none⟩ = some (.int .i64 0) := (bqC BK334.out 8).trans rfl
         have hfs115 := bqF BK334.out 8
         have hns115_0 := NB309_334.out
         have hns115_1 := NB310_334.out
         have hns115_2 := NB333_334.out
         have hms115_0 := NB334_309.out
         have hms115_1 := NB334_310.out
         have hms115_2 := NB334_333.out
         have hs116 : w'.cell? ⟨gb334, 9, none⟩ = some (.int .i64 0) := (bqC BK334.out 9).trans rfl
         have hfs116 := bqF BK334.out 9
         have hns116_0 := NB309_334.out
         have hns116_1 := NB310_334.out
         have hns116_2 := NB333_334.out
         have hms116_0 := NB334_309.out
         have hms116_1 := NB334_310.out
         have hms116_2 := NB334_333.out
         refine skip_ (w1 := ?_) (by rfl) rfl ?_ ?_
         rotate_left
         ·go_simp
          rfl
         refine hK.out _ _ ⟨v315, v320, gb333, gb334, m1_, m4_, m5_, m6_, m9_, m10_, (by rw [ha.out]; exact putSel_none (v := undef) rfl), (GS.bqX BK309.out), (GS.bqX BK310.out), (by repeat (first | (with_reducible first | exact HB.out | apply lqA | apply lqN | apply lqD | refine lqS ?_ GE309.out | refine lqS ?_ GE310.out | refine lqS ?_ GE333.out | refine lqS ?_ GE334.out) | exact HB.out)), fun _ _ => NB334_333.out, fun _ _ => NB333_334.out, fun _ => Kd.R_mono ((by (with_reducible repeat (first | apply Kd.R_alloc | apply Kd.R_drewN | apply Kd.R_drew)); exact Kd.R_mono (Kd.R_far (p := ⟨gb334, 9, none⟩) (Kd.R_far (p := ⟨gb334, 8, none⟩) (Kd.R_far (p := ⟨gb334, 7, none⟩) (Kd.R_far (p := ⟨gb334, 6, none⟩) (Kd.R_far (p := ⟨gb334, 5, none⟩) (Kd.R_far (p := ⟨gb334, 4, none⟩) (Kd.R_far (p := ⟨gb334, 3, none⟩) (Kd.R_far (p := ⟨gb334, 2, none⟩) (Kd.R_far (p := ⟨gb334, 1, none⟩) (Kd.R_far (p := ⟨gb334, 0, none⟩) (Kd.R_mono HO316.out (fun k_ hk => (⟨hk, GS.cj hk⟩ : _ ∧ k_ ≠ gb334))) (fun _ hk => hk.2) (.int .i64 t322)) (fun _ hk => hk.2) (.int .i64 t323)) (fun _ hk => hk.2) (.int .i64 t324)) (fun _ hk => hk.2) (.int .i64 t325)) (fun _ hk => hk.2) (.int .i64 t326)) (fun _ hk => hk.2) (.int .i64 t327)) (fun _ hk => hk.2) (.int .i64 t328)) (fun _ hk => hk.2) (.int .i64 t329)) (fun _ hk => hk.2) (.int .i64 t330)) (fun _ hk => hk.2) (.int .i64 t331)) (fun _ hk => hk))) (fun _ hk => GS.cj hk), fun _ => Kd.R_mono ((by (with_reducible repeat (first | apply Kd.R_alloc | apply Kd.R_drewN | apply Kd.R_drew)); exact Kd.R_mono (Kd.R_far (p := ⟨gb334, 9, none⟩) (Kd.R_far (p := ⟨gb334, 8, none⟩) (Kd.R_far (p := ⟨gb334, 7, none⟩) (Kd.R_far (p := ⟨gb334, 6, none⟩) (Kd.R_far (p := ⟨gb334, 5, none⟩) (Kd.R_far (p := ⟨gb334, 4, none⟩) (Kd.R_far (p := ⟨gb334, 3, none⟩) (Kd.R_far (p := ⟨gb334, 2, none⟩) (Kd.R_far (p := ⟨gb334, 1, none⟩) (Kd.R_far (p := ⟨gb334, 0, none⟩) (Kd.R_mono HO321.out (fun k_ hk => (⟨hk, GS.cj hk⟩ : _ ∧ k_ ≠ gb334))) (fun _ hk => hk.2) (.int .i64 t322)) (fun _ hk => hk.2) (.int .i64 t323)) (fun _ hk => hk.2) (.int .i64 t324)) (fun _ hk => hk.2) (.int .i64 t325)) (fun _ hk => hk.2) (.int .i64 t326)) (fun _ hk => hk.2) (.int .i64 t327)) (fun _ hk => hk.2) (.int .i64 t328)) (fun _ hk => hk.2) (.int .i64 t329)) (fun _ hk => hk.2) (.int .i64 t330)) (fun _ hk => hk.2) (.int .i64 t331)) (fun _ hk => hk))) (fun _ hk => GS.cj hk), fun _ h1_ => absurd ((hon 11 (by kernel_rfl)).symm.trans h1_) (by decide), fun _ => GW333.out, fun _ => GE333.out, fun _ => NB309_333.out, fun _ => NB333_309.out, fun _ => NB310_333.out, fun _ => NB333_310.out, fun _ h1_ => absurd ((up_self b 12).symm.trans h1_) (by decide), fun _ => GW334.out, fun _ => GE334.out, fun _ => NB309_334.out, fun _ => NB334_309.out, fun _ => NB310_334.out, fun _ => NB334_310.out, fun _ => (GS.bqX BK333.out), fun _ => (GS.bqZ BK334.out), fun _ _ => (by (with_reducible repeat (first | apply Kd.R_alloc | apply Kd.R_drewN | apply Kd.R_drew)); exact Kd.R_mono (Kd.R_far (p := ⟨gb334, 9, none⟩) (Kd.R_far (p := ⟨gb334, 8, none⟩) (Kd.R_far (p := ⟨gb334, 7, none⟩) (Kd.R_far (p := ⟨gb334, 6, none⟩) (Kd.R_far (p := ⟨gb334, 5, none⟩) (Kd.R_far (p := ⟨gb334, 4, none⟩) (Kd.R_far (p := ⟨gb334, 3, none⟩) (Kd.R_far (p := ⟨gb334, 2, none⟩) (Kd.R_far (p := ⟨gb334, 1, none⟩) (Kd.R_far (p := ⟨gb334, 0, none⟩) (Kd.R_mono HO316.out (fun k_ hk => (⟨hk, GS.cj hk⟩ : _ ∧ k_ ≠ gb334))) (fun _ hk => hk.2) (.int .i64 t322)) (fun _ hk => hk.2) (.int .i64 t323)) (fun _ hk => hk.2) (.int .i64 t324)) (fun _ hk => hk.2) (.int .i64 t325)) (fun _ hk => hk.2) (.int .i64 t326)) (fun _ hk => hk.2) (.int .i64 t327)) (fun _ hk => hk.2) (.int .i64 t328)) (fun _ hk => hk.2) (.int .i64 t329)) (fun _ hk => hk.2) (.int .i64 t330)) (fun _ hk => hk.2) (.int .i64 t331)) (fun _ hk => GS.cj hk)), fun _ _ => (by (with_reducible repeat (first | apply Kd.R_alloc | apply Kd.R_drewN | apply Kd.R_drew)); exact Kd.R_mono (Kd.R_far (p := ⟨gb334, 9, none⟩) (Kd.R_far (p := ⟨gb334, 8, none⟩) (Kd.R_far (p := ⟨gb334, 7, none⟩) (Kd.R_far (p := ⟨gb334, 6, none⟩) (Kd.R_far (p := ⟨gb334, 5, none⟩) (Kd.R_far (p := ⟨gb334, 4, none⟩) (Kd.R_far (p := ⟨gb334, 3, none⟩) (Kd.R_far (p := ⟨gb334, 2, none⟩) (Kd.R_far (p := ⟨gb334, 1, none⟩) (Kd.R_far (p := ⟨gb334, 0, none⟩) (Kd.R_mono HO321.out (fun k_ hk => (⟨hk, GS.cj hk⟩ : _ ∧ k_ ≠ gb334))) (fun _ hk => hk.2) (.int .i64 t322)) (fun _ hk => hk.2) (.int .i64 t323)) (fun _ hk => hk.2) (.int .i64 t324)) (fun _ hk => hk.2) (.int .i64 t325)) (fun _ hk => hk.2) (.int .i64 t326)) (fun _ hk => hk.2) (.int .i64 t327)) (fun _ hk => hk.2) (.int .i64 t328)) (fun _ hk => hk.2) (.int .i64 t329)) (fun _ hk => hk.2) (.int .i64 t330)) (fun _ hk => hk.2) (.int .i64 t331)) (fun _ hk => GS.cj hk)), Q_X1_, Q_X4_, Q_X5_, Q_X6_, Q_X9_, Q_X10_⟩
        refine steps_cons ?_ ?_
        ·rintro b a w' ⟨v315, v320, gb333, gb334, m1_, m4_, m5_, m6_, m9_, m10_, ha, Q_BK309, Q_BK310, Q_HB, Q_NB334_333, Q_NB333_334, Q_HO316_e1, Q_HO321_e4, Q_BK333, Q_GW333, Q_GE333, Q_NB309_333, Q_NB333_309, Q_NB310_333, Q_NB333_310, Q_BK334, Q_GW334, Q_GE334, Q_NB309_334, Q_NB334_309, Q_NB310_334, Q_NB334_310, Q_BK333_e11, Q_BK334_e12, Q_HO316_p1_10, Q_HO321_p4_10, Q_X1_, Q_X4_, Q_X5_, Q_X6_, Q_X9_, Q_X10_⟩ hb_ hon hoff
         refine ⟨_, rfl, fun K hK => ?_⟩
         have e26 : a.tmps[26]? = some (.int .i64 t332) := by rw [ha]; exact putSel_on (e := (8, 26, .int .i64 t332)) 7 rfl rfl (hon 8 (by kernel_rfl)) rfl
         replace ha := Aside0.mk ha
         have BK309 := Aside0.mk Q_BK309
         have BK310 := Aside0.mk Q_BK310
         have HB := Aside0.mk Q_HB
         have NB334_333 := Aside0.mk (Q_NB334_333 (hon 9 (by kernel_rfl)) (hon 10 (by kernel_rfl)))
         have NB333_334 := Aside0.mk (Q_NB333_334 (hon 9 (by kernel_rfl)) (hon 10 (by kernel_rfl)))
         have HO316 := Aside0.mk (Q_HO316_e1 (hon 1 (by kernel_rfl)))
         have HO321 := Aside0.mk (Q_HO321_e4 (hon 4 (by kernel_rfl)))
         have GW333 := Aside0.mk (Q_GW333 (hon 9 (by kernel_rfl)))
         have GE333 := Aside0.mk (Q_GE333 (hon 9 (by kernel_rfl)))
         have NB309_333 := Aside0.mk (Q_NB309_333 (hon 9 (by kernel_rfl)))
         have NB333_309 := Aside0.mk (Q_NB333_309 (hon 9 (by kernel_rfl)))
         have NB310_333 := Aside0.mk (Q_NB310_333 (hon 9 (by kernel_rfl)))
         have NB333_310 := Aside0.mk (Q_NB333_310 (hon 9 (by kernel_rfl)))
         have GW334 := Aside0.mk (Q_GW334 (hon 10 (by kernel_rfl)))
         have GE334 := Aside0.mk (Q_GE334 (hon 10 (by kernel_rfl)))
         have NB309_334 := Aside0.mk (Q_NB309_334 (hon 10 (by kernel_rfl)))
         have NB334_309 := Aside0.mk (Q_NB334_309 (hon 10 (by kernel_rfl)))
         have NB310_334 := Aside0.mk (Q_NB310_334 (hon 10 (by kernel_rfl)))
         have NB334_310 := Aside0.mk (Q_NB334_310 (hon 10 (by kernel_rfl)))
         have BK333 := Aside0.mk (Q_BK333_e11 (hon 11 (by kernel_rfl)))
         have BK334 := Aside0.mk (Q_BK334_e12 (hon 12 (by kernel_rfl)))
         have HO316 := Aside0.mk (Q_HO316_p1_10 (hon 1 (by kernel_rfl)) (hon 10 (by kernel_rfl)))
         have HO321 := Aside0.mk (Q_HO321_p4_10 (hon 4 (by kernel_rfl)) (hon 10 (by kernel_rfl)))
         refine value_ (w1 := w') (v := .int .i64 t332) (by rfl) rfl ?_ ?_
         ·go_simp
          (try simp only [i64_w])
          try rfl
         refine hK.out _ _ ⟨v315, v320, gb333, gb334, m1_, m4_, m5_, m6_, m9_, m10_, (by rw [ha.out]; exact putSel_upk 10 hb_ rfl rfl rfl), Q_BK309, Q_BK310, Q_HB, Q_NB334_333, Q_NB333_334, Q_HO316_e1, Q_HO321_e4, fun _ h1_ => absurd ((hon 11 (by kernel_rfl)).symm.trans h1_) (by decide), Q_GW333, Q_GE333, Q_NB309_333, Q_NB333_309, Q_NB310_333, Q_NB333_310, fun _ h1_ => absurd ((hon 12 (by kernel_rfl)).symm.trans h1_) (by decide), Q_GW334, Q_GE334, Q_NB309_334, Q_NB334_309, Q_NB310_334, Q_NB334_310, Q_BK333_e11, Q_BK334_e12, Q_HO316_p1_10, Q_HO321_p4_10, Q_X1_, Q_X4_, Q_X5_, Q_X6_, Q_X9_, Q_X10_⟩
        exact steps_nil
       rintro b a w116 hall ⟨v315, v320, gb333, gb334, m1_, m4_, m5_, m6_, m9_, m10_, ha, Q_BK309, Q_BK310, Q_HB, Q_NB334_333, Q_NB333_334, Q_HO316_e1, Q_HO321_e4, Q_BK333, Q_GW333, Q_GE333, Q_NB309_333, Q_NB333_309, Q_NB310_333, Q_NB333_310, Q_BK334, Q_GW334, Q_GE334, Q_NB309_334, Q_NB334_309, Q_NB310_334, Q_NB334_310, Q_BK333_e11, Q_BK334_e12, Q_HO316_p1_10, Q_HO321_p4_10, Q_X1_, Q_X4_, Q_X5_, Q_X6_, Q_X9_, Q_X10_⟩
       clear BK309 BK310 HB
       have hb0_ := hall 0 (by kernel_rfl)
       have hb1_ := hall 1 (by kernel_rfl)
       have hb3_ := hall 3 (by kernel_rfl)
       have hb4_ := hall 4 (by kernel_rfl)
       have hb5_ := hall 5 (by kernel_rfl)
       have hb6_ := hall 6 (by kernel_rfl)
       have hb7_ := hall 7 (by kernel_rfl)
       have hb8_ := hall 8 (by kernel_rfl)
       have hb9_ := hall 9 (by kernel_rfl)
       have hb10_ := hall 10 (by kernel_rfl)
       have hb11_ := hall 11 (by kernel_rfl)
       have hb12_ := hall 12 (by kernel_rfl)
       have hb13_ := hall 13 (by kernel_rfl)
       subst ha
       obtain rfl := Q_X1_ hb1_
       obtain rfl := Q_X4_ hb4_
       obtain rfl := Q_X5_ hb5_
       obtain rfl := Q_X6_ hb6_
       obtain rfl := Q_X9_ hb9_
       obtain rfl := Q_X10_ hb10_
       simp only [putSel, hb0_, hb1_, hb3_, hb4_, hb5_, hb6_, hb7_, hb8_, hb9_, hb10_, hb11_, hb12_, hb13_, if_true, Act.put, List.setIfInBounds_toArray, List.set_cons_zero, List.set_cons_succ]
       have BK309 := Aside0.mk Q_BK309
       clear Q_BK309
       have BK310 := Aside0.mk Q_BK310
       clear Q_BK310
       have HB := Aside0.mk Q_HB
       clear Q_HB
       have NB334_333 := Aside0.mk (Q_NB334_333 hb9_ hb10_)
       clear Q_NB334_333
       have NB333_334 := Aside0.mk (Q_NB333_334 hb9_ hb10_)
       clear Q_NB333_334
       have HO316 := Aside0.mk (Q_HO316_e1 hb1_)
       clear Q_HO316_e1
       have HO321 := Aside0.mk (Q_HO321_e4 hb4_)
       clear Q_HO321_e4
       clear Q_BK333
       have GW333 := Aside0.mk (Q_GW333 hb9_)
       clear Q_GW333
       have GE333 := Aside0.mk (Q_GE333 hb9_)
       clear Q_GE333
       have NB309_333 := Aside0.mk (Q_NB309_333 hb9_)
       clear Q_NB309_333
       have NB333_309 := Aside0.mk (Q_NB333_309 hb9_)
       clear Q_NB333_309
       have NB310_333 := Aside0.mk (Q_NB310_333 hb9_)
       clear Q_NB310_333
       have NB333_310 := Aside0.mk (Q_NB333_310 hb9_)
       clear Q_NB333_310
       clear Q_BK334
       have GW334 := Aside0.mk (Q_GW334 hb10_)
       clear Q_GW334
       have GE334 := Aside0.mk (Q_GE334 hb10_)
       clear Q_GE334
       have NB309_334 := Aside0.mk (Q_NB309_334 hb10_)
       clear Q_NB309_334
       have NB334_309 := Aside0.mk (Q_NB334_309 hb10_)
       clear Q_NB334_309
       have NB310_334 := Aside0.mk (Q_NB310_334 hb10_)
       clear Q_NB310_334
       have NB334_310 := Aside0.mk (Q_NB334_310 hb10_)
       clear Q_NB334_310
       have BK333 := Aside0.mk (Q_BK333_e11 hb11_)
       clear Q_BK333_e11
       have BK334 := Aside0.mk (Q_BK334_e12 hb12_)
       clear Q_BK334_e12
       have HO316 := Aside0.mk (Q_HO316_p1_10 hb1_ hb10_)
       clear Q_HO316_p1_10
       have HO321 := Aside0.mk (Q_HO321_p4_10 hb4_ hb10_)
       have n_ := Aside0.mk (GW.R_sym (v' := v320) rfl HO316.out (fun k hk => (HO321.out.1 k hk).2)); clear HO316; have HO316 := n_; clear n_
       clear Q_HO321_p4_10
       clear hall hb0_ hb1_ hb3_ hb4_ hb5_ hb6_ hb7_ hb8_ hb9_ hb10_ hb11_ hb12_ hb13_
       have hnb117 := NB333_309.out
       have hnc117 := NB309_333.out
       have hnb118 := NB333_310.out
       have hnc118 := NB310_333.out
       have hnb119 := NB333_334.out
       have hnc119 := NB334_333.out
       have hcz120_0 : w116.cell? ⟨gb333, 0, none⟩ = some (.int .i64 t317) := (bqC BK333.out 0).trans rfl
       have hcz120_1 : w116.cell? ⟨gb333, 1, none⟩ = some (.int .i64 t318) := (bqC BK333.out 1).trans rfl
       have hcz120_2 : w116.cell? ⟨gb333, 2, none⟩ = some (v320) := (bqC BK333.out 2).trans rfl
       have hfz120_0 := bqF BK333.out 0
       have hfz120_1 := bqF BK333.out 1
       have hfz120_2 := bqF BK333.out 2
       obtain ⟨Ao121, co121, eo121⟩ := Kd.R_slice HO321.out
       subst eo121
       have hnb122 := NB334_309.out
       have hnc122 := NB309_334.out
       have hnb123 := NB334_310.out
       have hnc123 := NB310_334.out
       have hcz124_0 : w116.cell? ⟨gb334, 0, none⟩ = some (.int .i64 t322) := (bqC BK334.out 0).trans rfl
       have hcz124_1 : w116.cell? ⟨gb334, 1, none⟩ = some (.int .i64 t323) := (bqC BK334.out 1).trans rfl
       have hcz124_2 : w116.cell? ⟨gb334, 2, none⟩ = some (.int .i64 t324) := (bqC BK334.out 2).trans rfl
       have hcz124_3 : w116.cell? ⟨gb334, 3, none⟩ = some (.int .i64 t325) := (bqC BK334.out 3).trans rfl
       have hcz124_4 : w116.cell? ⟨gb334, 4, none⟩ = some (.int .i64 t326) := (bqC BK334.out 4).trans rfl
       have hcz124_5 : w116.cell? ⟨gb334, 5, none⟩ = some (.int .i64 t327) := (bqC BK334.out 5).trans rfl
       have hcz124_6 : w116.cell? ⟨gb334, 6, none⟩ = some (.int .i64 t328) := (bqC BK334.out 6).trans rfl
       have hcz124_7 : w116.cell? ⟨gb334, 7, none⟩ = some (.int .i64 t329) := (bqC BK334.out 7).trans rfl
       have hcz124_8 : w116.cell? ⟨gb334, 8, none⟩ = some (.int .i64 t330) := (bqC BK334.out 8).trans rfl
       have hcz124_9 : w116.cell? ⟨gb334, 9, none⟩ = some (.int .i64 t331) := (bqC BK334.out 9).trans rfl
       have hfz124_0 := bqF BK334.out 0
       have hfz124_1 := bqF BK334.out 1
       have hfz124_2 := bqF BK334.out 2
       have hfz124_3 := bqF BK334.out 3
       have hfz124_4 := bqF BK334.out 4
       have hfz124_5 := bqF BK334.out 5
       have hfz124_6 := bqF BK334.out 6
       have hfz124_7 := bqF BK334.out 7
       have hfz124_8 := bqF BK334.out 8
       have hfz124_9 := bqF BK334.out 9
       try go_wp2
       go_ret
       exact ⟨by first | rfl | (simp [errW_none, errW_some] <;> rfl) | (simp [*, errW_none, errW_some] <;> rfl), by repeat (first | (with_reducible first | exact HB.out | apply lqA | apply lqN | apply lqD | refine lqS ?_ GE309.out | refine lqS ?_ GE310.out | refine lqS ?_ GE333.out | refine lqS ?_ GE334.out) | exact HB.out)⟩
      ·rw [if_neg c90] at H
       exact absurd H (by simp)
     ·rw [if_neg c89] at H
      exact absurd H (by simp)
    ·rw [if_neg c88] at H
     exact absurd H (by simp)
 ·replace c5 := Bool.eq_false_iff.mpr c5
  subst c5
  have H1 : (none) = some r := by rw [if_neg (show ¬ (false = true) by decide)] at H; exact H
  clear H
  have H := H1
  clear H1
  exact absurd H (by simp)

end Go.Proofs.Ytfafeeobjlkjnaa.K
