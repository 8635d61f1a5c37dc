-- PRINTED by print.py (a twelfth state) out of the translation. Not trusted: Lean checks it.
import Derived.Test.YtfafeeobjlkjnaaK0
import Derived.Test.YtfafeeobjlkjnaaGShort
import Derived.Test.YtfafeeobjlkjnaaGSym
import Derived.Test.YtfafeeobjlkjnaaK3
import Derived.Test.YtfafeeobjlkjnaaK5
import Derived.Test.YtfafeeobjlkjnaaK6
import Derived.Test.YtfafeeobjlkjnaaK7
import Derived.Test.YtfafeeobjlkjnaaGAgain
import Derived.Test.YtfafeeobjlkjnaaGHeard
namespace Go.Proofs.Ytfafeeobjlkjnaa.K
open Go.RowKit Go.Proofs.YtfafeeobjlkjnaaW.PrintWords Go.Proofs.YtfafeeobjlkjnaaW.PrintLast Go.Proofs.YtfafeeobjlkjnaaW.PrintMore
attribute [local go_sem] max2_int min2_int max_two min_two max_three min_three max_four min_four   -- for this text's walks alone
set_option linter.unusedVariables false
set_option linter.unusedSimpArgs false

/-! ### spilelaw42_awake: function 10 -/
def spilelaw42_awake.j0 : Nat → Bool → Int → Int → List (S33) → Int → Int → Int → Int → Int → Int → Int → Int → Int → Int → Option (Bool)
 | 0, _, _, _, _, _, _, _, _, _, _, _, _, _, _ => none
 | k + 1, x51, x150000, x150001, x150002, x198000, x198001, x198002, x198003, x198004, x198005, x198006, x198007, x198008, x198009 => if x51 = true then (none) else ((sender_Heard.f k x150000 x150001 x150002 1 1).bind fun bt198 => ((sender_Again.f k bt198.1 bt198.2.1 bt198.2.2.1 2).bind fun bt205 => ((sender_Heard.f k x150000 x150001 x150002 1 3).bind fun bt209 => ((api_Envelope_20.f k bt205.1 (([(⟨x198000, x198001, x198002, (⟨x198003, x198004, x198005, x198006, x198007, x198008, x198009⟩ : S26)⟩ : S33)] : List (S33)))).bind fun t219 => (if t219 = true then (if bt209.2.2.2 = 2 then ((sender_Check.f k bt198.1 bt198.2.1 bt198.2.2.1).bind fun t220 => (if t220 = 0 then (some ((wrap64 (bt198.2.2.2 + bt205.2)) == 0)) else (none))) else (none)) else (none))))))
def spilelaw42_awake.f (k : Nat)  : Option (Bool) := (sender_New.f 1).bind fun bt143 => ((spilelaw42_message.f 1).bind fun bt150 => ((sender_Send.f k bt143.1 bt143.2.1 bt143.2.2.1 2 bt150.1 bt150.2.1 bt150.2.2.1 bt150.2.2.2.1 bt150.2.2.2.2.1 bt150.2.2.2.2.2.1 bt150.2.2.2.2.2.2).bind fun bt157 => ((spilelaw42_message.f 2).bind fun bt174 => ((sender_Send.f k bt157.1 bt157.2.1 bt157.2.2.1 2 bt174.1 bt174.2.1 bt174.2.2.1 bt174.2.2.2.1 bt174.2.2.2.2.1 bt174.2.2.2.2.2.1 bt174.2.2.2.2.2.2).bind fun bt181 => (if (wrap64 ((wrap64 (bt143.2.2.2 + bt157.2.2.2.2.2.2.2.2.2.2.2.2.2)) + bt181.2.2.2.2.2.2.2.2.2.2.2.2.2)) = 0 then (if bt181.2.1 = 3 then (if bt157.2.2.2.2.2.1 = 1 then (spilelaw42_awake.j0 k (bt181.2.2.2.2.2.1 != 2) bt181.1 bt181.2.1 bt181.2.2.1 bt181.2.2.2.1 bt181.2.2.2.2.1 bt181.2.2.2.2.2.1 bt181.2.2.2.2.2.2.1 bt181.2.2.2.2.2.2.2.1 bt181.2.2.2.2.2.2.2.2.1 bt181.2.2.2.2.2.2.2.2.2.1 bt181.2.2.2.2.2.2.2.2.2.2.1 bt181.2.2.2.2.2.2.2.2.2.2.2.1 bt181.2.2.2.2.2.2.2.2.2.2.2.2.1) else (none)) else (none)) else (none))))))
theorem spilelaw42_awake.mono_l : ∀ k, (∀ y0 y1 y2 y3 y4 y5 y6 y7 y8 y9 y10 y11 y12 y13, LeO (spilelaw42_awake.j0 k y0 y1 y2 y3 y4 y5 y6 y7 y8 y9 y10 y11 y12 y13) (spilelaw42_awake.j0 (k + 1) y0 y1 y2 y3 y4 y5 y6 y7 y8 y9 y10 y11 y12 y13))
 | 0 => fun _ _ _ _ _ _ _ _ _ _ _ _ _ _ r h => by simp [spilelaw42_awake.j0] at h
 | k + 1 => by
  have ih0 := spilelaw42_awake.mono_l k
  ·intro y0 y1 y2 y3 y4 y5 y6 y7 y8 y9 y10 y11 y12 y13
   unfold spilelaw42_awake.j0
   repeat' first
   | (with_reducible exact ih0 _ _ _ _ _ _ _ _ _ _ _ _ _ _)
   | (with_reducible exact api_Envelope_20.mono _ _ _)
   | (with_reducible exact sender_Again.mono _ _ _ _ _)
   | (with_reducible exact sender_Check.mono _ _ _ _)
   | (with_reducible exact sender_Heard.mono _ _ _ _ _ _)
   | (with_reducible exact sender_Send.mono _ _ _ _ _ _ _ _ _ _ _ _)
   | (with_reducible exact LeO.refl _)
   | (with_reducible exact LeO.none _)
   | (with_reducible refine LeO.ite ?_ ?_)
   | (with_reducible refine LeO.bind ?_ (fun _ => ?_))
   | exact ih0 _ _ _ _ _ _ _ _ _ _ _ _ _ _
   | exact api_Envelope_20.mono _ _ _
   | exact sender_Again.mono _ _ _ _ _
   | exact sender_Check.mono _ _ _ _
   | exact sender_Heard.mono _ _ _ _ _ _
   | exact sender_Send.mono _ _ _ _ _ _ _ _ _ _ _ _
   | exact LeO.none _
   | refine LeO.ite ?_ ?_
   | refine LeO.bind ?_ (fun _ => ?_)
theorem spilelaw42_awake.mono : ∀ k, LeO (spilelaw42_awake.f k ) (spilelaw42_awake.f (k + 1) ) := by
 intro  k
 have ih0 := spilelaw42_awake.mono_l k
 unfold spilelaw42_awake.f
 repeat' first
   | (with_reducible exact ih0 _ _ _ _ _ _ _ _ _ _ _ _ _ _)
   | (with_reducible exact api_Envelope_20.mono _ _ _)
   | (with_reducible exact sender_Again.mono _ _ _ _ _)
   | (with_reducible exact sender_Check.mono _ _ _ _)
   | (with_reducible exact sender_Heard.mono _ _ _ _ _ _)
   | (with_reducible exact sender_Send.mono _ _ _ _ _ _ _ _ _ _ _ _)
   | (with_reducible exact LeO.refl _)
   | (with_reducible exact LeO.none _)
   | (with_reducible refine LeO.ite ?_ ?_)
   | (with_reducible refine LeO.bind ?_ (fun _ => ?_))
   | exact ih0 _ _ _ _ _ _ _ _ _ _ _ _ _ _
   | exact api_Envelope_20.mono _ _ _
   | exact sender_Again.mono _ _ _ _ _
   | exact sender_Check.mono _ _ _ _
   | exact sender_Heard.mono _ _ _ _ _ _
   | exact sender_Send.mono _ _ _ _ _ _ _ _ _ _ _ _
   | exact LeO.none _
   | refine LeO.ite ?_ ?_
   | refine LeO.bind ?_ (fun _ => ?_)
def spilelaw42_awake.T2 : Bool × List (List Nat × List Nat) := (true, [([], []), ([], []), ([0, 1, 1], [0, 1]), ([2], [2]), ([3], [3]), ([3], [3]), ([3], [3]), ([], []), ([4, 2, 0, 1, 2, 3, 4, 7], [4]), ([7, 5, 8, 0, 1, 2, 3, 4, 5, 7, 8], [5, 7]), ([6, 9, 0, 1, 2, 3, 4, 5, 6, 7, 8, 9], [6])])
def spilelaw42_awake.B2 : List Nat := [0, 0, 3, 7, 15, 15, 15, 0, 159, 447, 1023]
theorem spilelaw42_awake.tab2 : rtab .any (opsOf Try.f10 2) = spilelaw42_awake.T2 := by kernel_rfl
theorem spilelaw42_awake.bits2 : waitsOk spilelaw42_awake.T2.2 spilelaw42_awake.B2 = true := by kernel_rfl
def spilelaw42_awake.T3 : Bool × List (List Nat × List Nat) := (true, [([], []), ([], []), ([0, 1, 1], [0, 1]), ([2], [2]), ([3], [3]), ([3], [3]), ([3], [3]), ([], []), ([4, 2, 0, 1, 2, 3, 4, 7], [4]), ([7, 5, 8, 0, 1, 2, 3, 4, 5, 7, 8], [5, 7]), ([6, 9, 0, 1, 2, 3, 4, 5, 6, 7, 8, 9], [6])])
def spilelaw42_awake.B3 : List Nat := [0, 0, 3, 7, 15, 15, 15, 0, 159, 447, 1023]
theorem spilelaw42_awake.tab3 : rtab .any (opsOf Try.f10 3) = spilelaw42_awake.T3 := by kernel_rfl
theorem spilelaw42_awake.bits3 : waitsOk spilelaw42_awake.T3.2 spilelaw42_awake.B3 = true := by kernel_rfl
set_option maxHeartbeats 8000000 in
set_option maxRecDepth 100000 in
theorem spilelaw42_awake.calls (k : Nat)  (r : Bool) (w : World) (h : spilelaw42_awake.f k  = some r) :
  Calls Try.prog 10 #[] w fun e w' => e = .returned (.bool r) ∧ Below w.heap.size w w' := by
 have hu24 := Try.underlying24
 have hu33 := Try.underlying33
 have hu44 := Try.underlying44
 have HB := Aside0.mk (Below.refl w.heap.size w)
 have H : ((sender_New.f 1).bind fun bt143 => ((spilelaw42_message.f 1).bind fun bt150 => ((sender_Send.f k bt143.1 bt143.2.1 bt143.2.2.1 2 bt150.1 bt150.2.1 bt150.2.2.1 bt150.2.2.2.1 bt150.2.2.2.2.1 bt150.2.2.2.2.2.1 bt150.2.2.2.2.2.2).bind fun bt157 => ((spilelaw42_message.f 2).bind fun bt174 => ((sender_Send.f k bt157.1 bt157.2.1 bt157.2.2.1 2 bt174.1 bt174.2.1 bt174.2.2.1 bt174.2.2.2.1 bt174.2.2.2.2.1 bt174.2.2.2.2.2.1 bt174.2.2.2.2.2.2).bind fun bt181 => (if (wrap64 ((wrap64 (bt143.2.2.2 + bt157.2.2.2.2.2.2.2.2.2.2.2.2.2)) + bt181.2.2.2.2.2.2.2.2.2.2.2.2.2)) = 0 then (if bt181.2.1 = 3 then (if bt157.2.2.2.2.2.1 = 1 then (spilelaw42_awake.j0 k (bt181.2.2.2.2.2.1 != 2) bt181.1 bt181.2.1 bt181.2.2.1 bt181.2.2.2.1 bt181.2.2.2.2.1 bt181.2.2.2.2.2.1 bt181.2.2.2.2.2.2.1 bt181.2.2.2.2.2.2.2.1 bt181.2.2.2.2.2.2.2.2.1 bt181.2.2.2.2.2.2.2.2.2.1 bt181.2.2.2.2.2.2.2.2.2.2.1 bt181.2.2.2.2.2.2.2.2.2.2.2.1 bt181.2.2.2.2.2.2.2.2.2.2.2.2.1) else (none)) else (none)) else (none))))))) = some r := h
 clear h
 replace H := Option.bind_eq_some_iff.mp H
 obtain ⟨⟨t143, t144, t145, t148⟩, A10, H⟩ := H
 replace H : ((spilelaw42_message.f 1).bind fun bt150 => ((sender_Send.f k t143 t144 t145 2 bt150.1 bt150.2.1 bt150.2.2.1 bt150.2.2.2.1 bt150.2.2.2.2.1 bt150.2.2.2.2.2.1 bt150.2.2.2.2.2.2).bind fun bt157 => ((spilelaw42_message.f 2).bind fun bt174 => ((sender_Send.f k bt157.1 bt157.2.1 bt157.2.2.1 2 bt174.1 bt174.2.1 bt174.2.2.1 bt174.2.2.2.1 bt174.2.2.2.2.1 bt174.2.2.2.2.2.1 bt174.2.2.2.2.2.2).bind fun bt181 => (if (wrap64 ((wrap64 (t148 + bt157.2.2.2.2.2.2.2.2.2.2.2.2.2)) + bt181.2.2.2.2.2.2.2.2.2.2.2.2.2)) = 0 then (if bt181.2.1 = 3 then (if bt157.2.2.2.2.2.1 = 1 then (spilelaw42_awake.j0 k (bt181.2.2.2.2.2.1 != 2) bt181.1 bt181.2.1 bt181.2.2.1 bt181.2.2.2.1 bt181.2.2.2.2.1 bt181.2.2.2.2.2.1 bt181.2.2.2.2.2.2.1 bt181.2.2.2.2.2.2.2.1 bt181.2.2.2.2.2.2.2.2.1 bt181.2.2.2.2.2.2.2.2.2.1 bt181.2.2.2.2.2.2.2.2.2.2.1 bt181.2.2.2.2.2.2.2.2.2.2.2.1 bt181.2.2.2.2.2.2.2.2.2.2.2.2.1) else (none)) else (none)) else (none)))))) = some r := H
 have A1 := Aside0.mk A10
 clear A10
 replace H := Option.bind_eq_some_iff.mp H
 obtain ⟨⟨t150, t151, t152, t153, t154, t155, t156⟩, A20, H⟩ := H
 replace H : ((sender_Send.f k t143 t144 t145 2 t150 t151 t152 t153 t154 t155 t156).bind fun bt157 => ((spilelaw42_message.f 2).bind fun bt174 => ((sender_Send.f k bt157.1 bt157.2.1 bt157.2.2.1 2 bt174.1 bt174.2.1 bt174.2.2.1 bt174.2.2.2.1 bt174.2.2.2.2.1 bt174.2.2.2.2.2.1 bt174.2.2.2.2.2.2).bind fun bt181 => (if (wrap64 ((wrap64 (t148 + bt157.2.2.2.2.2.2.2.2.2.2.2.2.2)) + bt181.2.2.2.2.2.2.2.2.2.2.2.2.2)) = 0 then (if bt181.2.1 = 3 then (if bt157.2.2.2.2.2.1 = 1 then (spilelaw42_awake.j0 k (bt181.2.2.2.2.2.1 != 2) bt181.1 bt181.2.1 bt181.2.2.1 bt181.2.2.2.1 bt181.2.2.2.2.1 bt181.2.2.2.2.2.1 bt181.2.2.2.2.2.2.1 bt181.2.2.2.2.2.2.2.1 bt181.2.2.2.2.2.2.2.2.1 bt181.2.2.2.2.2.2.2.2.2.1 bt181.2.2.2.2.2.2.2.2.2.2.1 bt181.2.2.2.2.2.2.2.2.2.2.2.1 bt181.2.2.2.2.2.2.2.2.2.2.2.2.1) else (none)) else (none)) else (none))))) = some r := H
 have A2 := Aside0.mk A20
 clear A20
 replace H := Option.bind_eq_some_iff.mp H
 obtain ⟨⟨t157, t158, t159, t162, t163, t164, t165, t166, t167, t168, t169, t170, t171, t172⟩, A30, H⟩ := H
 replace H : ((spilelaw42_message.f 2).bind fun bt174 => ((sender_Send.f k t157 t158 t159 2 bt174.1 bt174.2.1 bt174.2.2.1 bt174.2.2.2.1 bt174.2.2.2.2.1 bt174.2.2.2.2.2.1 bt174.2.2.2.2.2.2).bind fun bt181 => (if (wrap64 ((wrap64 (t148 + t172)) + bt181.2.2.2.2.2.2.2.2.2.2.2.2.2)) = 0 then (if bt181.2.1 = 3 then (if t164 = 1 then (spilelaw42_awake.j0 k (bt181.2.2.2.2.2.1 != 2) bt181.1 bt181.2.1 bt181.2.2.1 bt181.2.2.2.1 bt181.2.2.2.2.1 bt181.2.2.2.2.2.1 bt181.2.2.2.2.2.2.1 bt181.2.2.2.2.2.2.2.1 bt181.2.2.2.2.2.2.2.2.1 bt181.2.2.2.2.2.2.2.2.2.1 bt181.2.2.2.2.2.2.2.2.2.2.1 bt181.2.2.2.2.2.2.2.2.2.2.2.1 bt181.2.2.2.2.2.2.2.2.2.2.2.2.1) else (none)) else (none)) else (none)))) = some r := H
 have A3 := Aside0.mk A30
 clear A30
 replace H := Option.bind_eq_some_iff.mp H
 obtain ⟨⟨t174, t175, t176, t177, t178, t179, t180⟩, A40, H⟩ := H
 replace H : ((sender_Send.f k t157 t158 t159 2 t174 t175 t176 t177 t178 t179 t180).bind fun bt181 => (if (wrap64 ((wrap64 (t148 + t172)) + bt181.2.2.2.2.2.2.2.2.2.2.2.2.2)) = 0 then (if bt181.2.1 = 3 then (if t164 = 1 then (spilelaw42_awake.j0 k (bt181.2.2.2.2.2.1 != 2) bt181.1 bt181.2.1 bt181.2.2.1 bt181.2.2.2.1 bt181.2.2.2.2.1 bt181.2.2.2.2.2.1 bt181.2.2.2.2.2.2.1 bt181.2.2.2.2.2.2.2.1 bt181.2.2.2.2.2.2.2.2.1 bt181.2.2.2.2.2.2.2.2.2.1 bt181.2.2.2.2.2.2.2.2.2.2.1 bt181.2.2.2.2.2.2.2.2.2.2.2.1 bt181.2.2.2.2.2.2.2.2.2.2.2.2.1) else (none)) else (none)) else (none))) = some r := H
 have A4 := Aside0.mk A40
 clear A40
 replace H := Option.bind_eq_some_iff.mp H
 obtain ⟨⟨t181, t182, t183, t186, t187, t188, t189, t190, t191, t192, t193, t194, t195, t196⟩, A50, H⟩ := H
 replace H : (if (wrap64 ((wrap64 (t148 + t172)) + t196)) = 0 then (if t182 = 3 then (if t164 = 1 then (spilelaw42_awake.j0 k (t188 != 2) t181 t182 t183 t186 t187 t188 t189 t190 t191 t192 t193 t194 t195) else (none)) else (none)) else (none)) = some r := H
 have A5 := Aside0.mk A50
 clear A50
 have HC6 := Aside0.mk H
 clear H
 go_enter Try.func10, Try.ntmps10
 try go_wp2_with (first | ((with_reducible refine gqC (f := 12) rfl ?_); refine GS.gL (some 14) Try.func12 #[.int .i64 1] ?_; (with_reducible refine (sender_New.calls 1 t143 t144 t145 t148 _ A1.out).mono ?_); rintro e w7 ⟨v146, rfl, ho0, hb⟩; refine ⟨_, rfl, ?_⟩; have n0_ := Aside0.mk (Kd.R_lower ho0 (lqZ (GS.lB HB.out))); have n1_ := Aside0.mk (lqT (GS.lB HB.out) hb); clear HB; have HO147 := n0_; have HB := n1_; clear n0_ n1_; (try clear hb); (try clear hb2); (try clear hk); (try clear hi); (try clear ho0)) | ((with_reducible refine gqD (N := 1) rfl ?_); refine GS.bx (N := 1) (cs := #[.int .i64 0, .int .i64 0, .slice none 0 0]) (t := 24) ?_; intro gb149 hg w8 hbox hb; have n0_ := Aside0.mk (Kd.R_below (GS.rR HO147.out) hb); have n1_ := Aside0.mk (lqT (GS.lB HB.out) hb); have n2_ := Aside0.mk (hbox); have n3_ := Aside0.mk ((by rw [hg]; exact (lqZ (GS.lB HB.out)) : w.heap.size ≤ gb149)); have n4_ := Aside0.mk ((by rw [hg]; exact (lqZ (GS.lB HB.out)) : w.heap.size ≤ gb149)); clear HO147; clear HB; have HO147 := n0_; have HB := n1_; have BK149 := n2_; have GW149 := n3_; have GE149 := n4_; clear n0_ n1_ n2_ n3_ n4_; clear hb hbox hg; obtain ⟨hcz9_0, hcz9_1, hcz9_2, hfz9_0, hfz9_1, hfz9_2⟩ := GS.c3 BK149.out; obtain ⟨Ao10, co10, eo10⟩ := Kd.R_slice HO147.out; subst eo10))
 have n0_ : Aside0 (Kd.R k33 33 (((w8.setCell ⟨gb149, 0, none⟩ (.int .i64 t143)).setCell ⟨gb149, 1, none⟩ (.int .i64 t144)).setCell ⟨gb149, 2, none⟩ (.slice Ao10 t145.length co10)) w.heap.size (fun _ => True) (.slice Ao10 t145.length co10) t145) := ⟨by (with_reducible repeat (first | apply Kd.R_alloc | apply Kd.R_drewN | apply Kd.R_drew)); exact Kd.R_mono (Kd.R_far (p := ⟨gb149, 2, none⟩) (Kd.R_far (p := ⟨gb149, 1, none⟩) (Kd.R_far (p := ⟨gb149, 0, none⟩) (Kd.R_types HO147.out BK149.out (by decide)) (fun _ hk => hk.2) (.int .i64 t143)) (fun _ hk => hk.2) (.int .i64 t144)) (fun _ hk => hk.2) (.slice Ao10 t145.length co10)) (fun _ hk => trivial)⟩
 have n1_ : Aside0 ((((w8.setCell ⟨gb149, 0, none⟩ (.int .i64 t143)).setCell ⟨gb149, 1, none⟩ (.int .i64 t144)).setCell ⟨gb149, 2, none⟩ (.slice Ao10 t145.length co10)).heap[gb149]? = some (.cells #[.int .i64 t143, .int .i64 t144, .slice Ao10 t145.length co10] 24 (0, 0))) := ⟨GS.bqZ BK149.out⟩
 have n2_ : Aside0 (Below w.heap.size w (((w8.setCell ⟨gb149, 0, none⟩ (.int .i64 t143)).setCell ⟨gb149, 1, none⟩ (.int .i64 t144)).setCell ⟨gb149, 2, none⟩ (.slice Ao10 t145.length co10))) := ⟨GS.lB HB.out⟩
 (try clear HO147)
 (try clear BK149)
 (try clear HB)
 generalize (((w8.setCell ⟨gb149, 0, none⟩ (.int .i64 t143)).setCell ⟨gb149, 1, none⟩ (.int .i64 t144)).setCell ⟨gb149, 2, none⟩ (.slice Ao10 t145.length co10)) = w11 at n0_ n1_ n2_ ⊢
 have HO147 := n0_
 have BK149 := n1_
 have HB := n2_
 clear n0_ n1_ n2_
 have n0_ := Aside0.mk (Kd.R_drew HO147.out)
 have n1_ := Aside0.mk (bqD BK149.out)
 have n2_ := Aside0.mk (lqD HB.out)
 clear HO147
 clear BK149
 clear HB
 have HO147 := n0_
 have BK149 := n1_
 have HB := n2_
 clear n0_ n1_ n2_
 refine start_ (n := 11) (S := fun w' => True) (ds := []) #[false, false, false, false, false, false, false, false, false, false, false] (by kernel_rfl) rfl rfl trivial (fun hHeld => ?_); refine with_tabW spilelaw42_awake.tab2 spilelaw42_awake.bits2 (fun HT_ HW_ => ?_)
 generalize w11.drew = w12 at HO147 BK149 HB hHeld ⊢
 refine inv_at [0, 1, 2, 3, 4, 5, 6, 7, 8, 9, 10] (fun a0_ b a w' => ∃ (v160 : Value) (gb173 : Nat) (m2_ : Value) (m3_ : Value) (m4_ : Value) (m7_ : Value), a = putSel a0_ b [(0, 18, .agg #[.int .i64 t143, .int .i64 t144, .slice Ao10 t145.length co10]), (1, 19, .agg #[.int .i64 t150, .int .i64 t151, .int .i64 t152, .int .i64 t153, .int .i64 t154, .int .i64 t155, .int .i64 t156]), (2, 20, m2_), (3, 17, m3_), (4, 21, m4_), (5, 22, .agg #[.int .i64 t162, .int .i64 t163, .int .i64 t164, .int .i64 t165, .int .i64 t166, .int .i64 t167, .int .i64 t168, .int .i64 t169, .int .i64 t170, .int .i64 t171]), (6, 23, .int .i64 t172), (7, 3, m7_), (10, 4, .int .i64 t172)] ∧ (Kd.R k33 33 w' w.heap.size (fun _ => True) (.slice Ao10 t145.length co10) t145) ∧ (b 8 = false → w'.heap[gb149]? = some (.cells #[.int .i64 t143, .int .i64 t144, .slice Ao10 t145.length co10] 24 (0, 0))) ∧ (Below w.heap.size w w') ∧ (b 7 = true → b 9 = false → w'.heap[gb173]? = some (.cells #[.int .i64 0, .int .i64 0, .int .i64 0, .int .i64 0, .int .i64 0, .int .i64 0, .int .i64 0, .int .i64 0, .int .i64 0, .int .i64 0] 33 (0, 0))) ∧ (b 7 = true → w.heap.size ≤ gb173) ∧ (b 7 = true → w.heap.size ≤ gb173) ∧ (b 7 = true → gb149 ≠ gb173) ∧ (b 7 = true → gb173 ≠ gb149) ∧ (b 8 = true → w'.heap[gb149]? = some (.cells #[.int .i64 t157, .int .i64 t158, v160] 24 (0, 0))) ∧ (b 9 = true → w'.heap[gb173]? = some (.cells #[.int .i64 t162, .int .i64 t163, .int .i64 t164, .int .i64 t165, .int .i64 t166, .int .i64 t167, .int .i64 t168, .int .i64 t169, .int .i64 t170, .int .i64 t171] 33 (0, 0))) ∧ (b 2 = true → Kd.R k33 33 w' w.heap.size (fun k_ => some k_ ≠ (.slice Ao10 t145.length co10 : Value).ownBlock) v160 t159) ∧ (b 7 = true → Kd.R k33 33 w' w.heap.size (fun k_ => k_ ≠ gb173) (.slice Ao10 t145.length co10) t145) ∧ (b 2 = true → b 7 = true → Kd.R k33 33 w' w.heap.size (fun k_ => some k_ ≠ (.slice Ao10 t145.length co10 : Value).ownBlock ∧ k_ ≠ gb173) v160 t159) ∧ (b 2 = true → (m2_ : Value) = .tuple #[.agg #[.int .i64 t157, .int .i64 t158, v160], .agg #[.int .i64 t162, .int .i64 t163, .int .i64 t164, .int .i64 t165, .int .i64 t166, .int .i64 t167, .int .i64 t168, .int .i64 t169, .int .i64 t170, .int .i64 t171], .int .i64 t172]) ∧ (b 3 = true → (m3_ : Value) = .tuple #[.agg #[.int .i64 t157, .int .i64 t158, v160], .agg #[.int .i64 t162, .int .i64 t163, .int .i64 t164, .int .i64 t165, .int .i64 t166, .int .i64 t167, .int .i64 t168, .int .i64 t169, .int .i64 t170, .int .i64 t171], .int .i64 t172]) ∧ (b 4 = true → (m4_ : Value) = .agg #[.int .i64 t157, .int .i64 t158, v160]) ∧ (b 7 = true → (m7_ : Value) = .pointer (some ⟨gb173, 0, none⟩))) HT_.out HW_.out (by kernel_rfl) (by kernel_rfl) ?_ ?_ ?_
 ·exact ⟨.bool false, 0, .bool false, .bool false, .bool false, .bool false, by simp only [putSel, Bool.false_eq_true, if_false], HO147.out, fun _ => BK149.out, HB.out, fun h_ => absurd h_ (by decide), fun h_ => absurd h_ (by decide), fun h_ => absurd h_ (by decide), fun h_ => absurd h_ (by decide), fun h_ => absurd h_ (by decide), fun h_ => absurd h_ (by decide), fun h_ => absurd h_ (by decide), fun h_ => absurd h_ (by decide), fun h_ => absurd h_ (by decide), fun h_ => absurd h_ (by decide), fun h_ => absurd h_ (by decide), fun h_ => absurd h_ (by decide), fun h_ => absurd h_ (by decide), fun h_ => absurd h_ (by decide)⟩
 ·skip
  clear BK149 HB HO147
  refine steps_cons ?_ ?_
  ·rintro b a w' ⟨v160, gb173, m2_, m3_, m4_, m7_, ha, Q_HO147, Q_BK149, Q_HB, Q_BK173, Q_GW173, Q_GE173, Q_NB149_173, Q_NB173_149, Q_BK149_e8, Q_BK173_e9, Q_HO161_e2, Q_HO147_e7, Q_HO161_p2_7, Q_X2_, Q_X3_, Q_X4_, Q_X7_⟩ hb_ hon hoff
   refine ⟨_, rfl, fun K hK => ?_⟩
   have e1 : a.tmps[1]? = some (.pointer (some ⟨gb149, 0, none⟩)) := by rw [ha]; exact (putSel_off rfl).trans rfl
   replace ha := Aside0.mk ha
   have HO147 := Aside0.mk Q_HO147
   have BK149 := Aside0.mk (Q_BK149 (hoff 8 (by kernel_rfl)))
   have HB := Aside0.mk Q_HB
   have hc0_ : w'.cell? ⟨gb149, 0, none⟩ = some (.int .i64 t143) := (bqC BK149.out 0).trans rfl
   have hc1_ : w'.cell? ⟨gb149, 1, none⟩ = some (.int .i64 t144) := (bqC BK149.out 1).trans rfl
   have hc2_ : w'.cell? ⟨gb149, 2, none⟩ = some (.slice Ao10 t145.length co10) := (bqC BK149.out 2).trans rfl
   refine value_ (w1 := w') (v := .agg #[.int .i64 t143, .int .i64 t144, .slice Ao10 t145.length co10]) (by rfl) rfl ?_ ?_
   ·go_simp
    (try simp only [i64_w])
    try rfl
   refine hK.out _ _ ⟨v160, gb173, m2_, m3_, m4_, m7_, (by rw [ha.out]; exact putSel_upk 0 hb_ rfl rfl rfl), Q_HO147, Q_BK149, Q_HB, Q_BK173, Q_GW173, Q_GE173, Q_NB149_173, Q_NB173_149, fun h0_ => absurd ((hoff 8 (by kernel_rfl)).symm.trans h0_) (by decide), fun h0_ => absurd ((hoff 9 (by kernel_rfl)).symm.trans h0_) (by decide), fun h0_ => absurd ((hoff 2 (by kernel_rfl)).symm.trans h0_) (by decide), Q_HO147_e7, fun h0_ _ => absurd ((hoff 2 (by kernel_rfl)).symm.trans h0_) (by decide), fun h0_ => absurd ((hoff 2 (by kernel_rfl)).symm.trans h0_) (by decide), fun h0_ => absurd ((hoff 3 (by kernel_rfl)).symm.trans h0_) (by decide), fun h0_ => absurd ((hoff 4 (by kernel_rfl)).symm.trans h0_) (by decide), Q_X7_⟩
  refine steps_cons ?_ ?_
  ·rintro b a w' ⟨v160, gb173, m2_, m3_, m4_, m7_, ha, Q_HO147, Q_BK149, Q_HB, Q_BK173, Q_GW173, Q_GE173, Q_NB149_173, Q_NB173_149, Q_BK149_e8, Q_BK173_e9, Q_HO161_e2, Q_HO147_e7, Q_HO161_p2_7, Q_X2_, Q_X3_, Q_X4_, Q_X7_⟩ hb_ hon hoff
   refine ⟨_, rfl, fun K hK => ?_⟩
   replace ha := Aside0.mk ha
   have HO147 := Aside0.mk Q_HO147
   have BK149 := Aside0.mk (Q_BK149 (hoff 8 (by kernel_rfl)))
   have HB := Aside0.mk Q_HB
   refine goes_ Try.func25 (by kernel_rfl) rfl #[.int .i64 1] (by rfl) rfl rfl (by first | (simp only [List.map_toArray, List.map_cons, List.map_nil, Act.eval, Array.getD_eq_getD_getElem?, Option.getD_some]; done) | (simp only [List.map_toArray, List.map_cons, List.map_nil, Act.eval, Array.getD_eq_getD_getElem?, Option.getD_some]; rfl)) ?_
   with_reducible refine (spilelaw42_message.calls 1 t150 t151 t152 t153 t154 t155 t156 _ A2.out).mono ?_
   rintro e w13 ⟨rfl, hb⟩
   refine ⟨_, rfl, ?_⟩
   have n0_ := Aside0.mk (Kd.R_below (GS.rR HO147.out) hb)
   have n1_ := Aside0.mk (bqB (GS.bqX BK149.out) hb)
   have n2_ := Aside0.mk (lqT (GS.lB HB.out) hb)
   have z_BK173 := fun (h0_ : b 7 = true) (h1_ : b 9 = false) => (show w13.heap[gb173]? = some (.cells #[.int .i64 0, .int .i64 0, .int .i64 0, .int .i64 0, .int .i64 0, .int .i64 0, .int .i64 0, .int .i64 0, .int .i64 0, .int .i64 0] 33 (0, 0)) from by first | exact (bqB (GS.bqX (Q_BK173 h0_ h1_)) hb))
   have z_HO147_e7 := fun (h0_ : b 7 = true) => (show Kd.R k33 33 w13 w.heap.size (fun k_ => k_ ≠ gb173) (.slice Ao10 t145.length co10) t145 from by first | exact (Kd.R_below (GS.rR (Q_HO147_e7 h0_)) hb) | exact Kd.R_mono (Kd.R_below (GS.rR (Q_HO147_e7 h0_)) hb) (fun _ hk => GS.cj hk))
   clear HO147
   clear BK149
   clear HB
   have HO147 := n0_
   have BK149 := n1_
   have HB := n2_
   clear n0_ n1_ n2_
   (try clear hb)
   (try clear hb2)
   (try clear hk)
   (try clear hi)
   refine hK.out _ _ ⟨v160, gb173, m2_, m3_, m4_, m7_, (by rw [ha.out]; exact putSel_upk 1 hb_ rfl rfl rfl), (GS.rR HO147.out), fun _ => (GS.bqX BK149.out), (GS.lB HB.out), z_BK173, Q_GW173, Q_GE173, Q_NB149_173, Q_NB173_149, fun h0_ => absurd ((hoff 8 (by kernel_rfl)).symm.trans h0_) (by decide), fun h0_ => absurd ((hoff 9 (by kernel_rfl)).symm.trans h0_) (by decide), fun h0_ => absurd ((hoff 2 (by kernel_rfl)).symm.trans h0_) (by decide), z_HO147_e7, fun h0_ _ => absurd ((hoff 2 (by kernel_rfl)).symm.trans h0_) (by decide), fun h0_ => absurd ((hoff 2 (by kernel_rfl)).symm.trans h0_) (by decide), fun h0_ => absurd ((hoff 3 (by kernel_rfl)).symm.trans h0_) (by decide), fun h0_ => absurd ((hoff 4 (by kernel_rfl)).symm.trans h0_) (by decide), Q_X7_⟩
  refine steps_cons ?_ ?_
  ·rintro b a w' ⟨v160, gb173, m2_, m3_, m4_, m7_, ha, Q_HO147, Q_BK149, Q_HB, Q_BK173, Q_GW173, Q_GE173, Q_NB149_173, Q_NB173_149, Q_BK149_e8, Q_BK173_e9, Q_HO161_e2, Q_HO147_e7, Q_HO161_p2_7, Q_X2_, Q_X3_, Q_X4_, Q_X7_⟩ hb_ hon hoff
   refine ⟨_, rfl, fun K hK => ?_⟩
   have e18 : a.tmps[18]? = some (.agg #[.int .i64 t143, .int .i64 t144, .slice Ao10 t145.length co10]) := by rw [ha]; exact putSel_on (e := (0, 18, .agg #[.int .i64 t143, .int .i64 t144, .slice Ao10 t145.length co10])) 0 rfl rfl (hon 0 (by kernel_rfl)) rfl
   have e19 : a.tmps[19]? = some (.agg #[.int .i64 t150, .int .i64 t151, .int .i64 t152, .int .i64 t153, .int .i64 t154, .int .i64 t155, .int .i64 t156]) := by rw [ha]; exact putSel_on (e := (1, 19, .agg #[.int .i64 t150, .int .i64 t151, .int .i64 t152, .int .i64 t153, .int .i64 t154, .int .i64 t155, .int .i64 t156])) 1 rfl rfl (hon 1 (by kernel_rfl)) rfl
   replace ha := Aside0.mk ha
   have HO147 := Aside0.mk Q_HO147
   have BK149 := Aside0.mk (Q_BK149 (hoff 8 (by kernel_rfl)))
   have HB := Aside0.mk Q_HB
   refine goes_ Try.func14 (by kernel_rfl) rfl #[.agg #[.int .i64 t143, .int .i64 t144, .slice Ao10 t145.length co10], .int .i64 2, .agg #[.int .i64 t150, .int .i64 t151, .int .i64 t152, .int .i64 t153, .int .i64 t154, .int .i64 t155, .int .i64 t156]] (by rfl) rfl rfl (by first | (simp only [List.map_toArray, List.map_cons, List.map_nil, Act.eval, Array.getD_eq_getD_getElem?, Option.getD_some, e18, e19]; done) | (simp only [List.map_toArray, List.map_cons, List.map_nil, Act.eval, Array.getD_eq_getD_getElem?, Option.getD_some, e18, e19]; rfl)) ?_
   with_reducible refine (sender_Send.calls k t143 t144 _ _ t145 2 t150 t151 t152 t153 t154 t155 t156 t157 t158 t159 t162 t163 t164 t165 t166 t167 t168 t169 t170 t171 t172 _ ?side1 ?side2 A3.out).mono ?_
   (case side1 => repeat (first | exact (Kd.R_reads' HO147.out).2.2 | (with_reducible refine Kd.C_alloc ?_ _) | (with_reducible refine Kd.C_drewN ?_ _) | (with_reducible refine Kd.C_drew ?_)))
   (case side2 => exact (Kd.R_reads' HO147.out).2.1)
   rintro e w15 ⟨v160, rfl, ho0, hb⟩
   refine ⟨_, rfl, ?_⟩
   have n0_ := Aside0.mk (Kd.R_elder' (GS.rR HO147.out) (Kd.R_base ho0) hb)
   have n1_ := Aside0.mk (Kd.R_lower (Kd.R_new' ho0 (Kd.R_lt (GS.rR HO147.out))) (lqZ (GS.lB HB.out)))
   have n2_ := Aside0.mk (bqB (GS.bqX BK149.out) hb)
   have n3_ := Aside0.mk (lqT (GS.lB HB.out) hb)
   have z_BK173 := fun (h0_ : b 7 = true) (h1_ : b 9 = false) => (show w15.heap[gb173]? = some (.cells #[.int .i64 0, .int .i64 0, .int .i64 0, .int .i64 0, .int .i64 0, .int .i64 0, .int .i64 0, .int .i64 0, .int .i64 0, .int .i64 0] 33 (0, 0)) from by first | exact (bqB (GS.bqX (Q_BK173 h0_ h1_)) hb))
   have z_HO147_e7 := fun (h0_ : b 7 = true) => (show Kd.R k33 33 w15 w.heap.size (fun k_ => k_ ≠ gb173) (.slice Ao10 t145.length co10) t145 from by first | exact (Kd.R_elder' (GS.rR (Q_HO147_e7 h0_)) (Kd.R_base ho0) hb) | exact Kd.R_mono (Kd.R_elder' (GS.rR (Q_HO147_e7 h0_)) (Kd.R_base ho0) hb) (fun _ hk => GS.cj hk))
   have z_HO161_p2_7 := fun (h0_ : up b 2 2 = true) (h1_ : up b 2 7 = true) => (show Kd.R k33 33 w15 w.heap.size (fun k_ => some k_ ≠ (.slice Ao10 t145.length co10 : Value).ownBlock ∧ k_ ≠ gb173) v160 t159 from (Kd.R_mono (Kd.R_lower (Kd.R_newB (Kd.R_new' ho0 (Kd.R_lt (GS.rR (Q_HO147_e7 h1_)))) (GS.bqX (Q_BK173 h1_ (hoff 9 (by kernel_rfl))))) (lqZ (by repeat (first | (with_reducible first | exact HB.out | apply lqA | apply lqN | apply lqD | refine lqS ?_ GE149.out | refine lqS ?_ (Q_GE173 h1_)) | exact HB.out)))) (fun _ hk => GS.cj hk)))
   clear HO147
   clear BK149
   clear HB
   have HO147 := n0_
   have HO161 := n1_
   have BK149 := n2_
   have HB := n3_
   clear n0_ n1_ n2_ n3_
   (try clear hb)
   (try clear hb2)
   (try clear hk)
   (try clear hi)
   (try clear ho0)
   refine hK.out _ _ ⟨v160, gb173, (.tuple #[.agg #[.int .i64 t157, .int .i64 t158, v160], .agg #[.int .i64 t162, .int .i64 t163, .int .i64 t164, .int .i64 t165, .int .i64 t166, .int .i64 t167, .int .i64 t168, .int .i64 t169, .int .i64 t170, .int .i64 t171], .int .i64 t172]), m3_, m4_, m7_, (by rw [ha.out]; exact putSel_upk 2 hb_ rfl rfl rfl), (GS.rR (Kd.R_mono HO147.out (fun _ hk => GS.cj hk))), fun _ => (GS.bqX BK149.out), (GS.lB HB.out), z_BK173, Q_GW173, Q_GE173, Q_NB149_173, Q_NB173_149, fun h0_ => absurd ((hoff 8 (by kernel_rfl)).symm.trans h0_) (by decide), fun h0_ => absurd ((hoff 9 (by kernel_rfl)).symm.trans h0_) (by decide), fun _ => (GS.rR (Kd.R_mono HO161.out (fun _ hk => GS.cj hk))), z_HO147_e7, z_HO161_p2_7, fun _ => rfl, fun h0_ => absurd ((hoff 3 (by kernel_rfl)).symm.trans h0_) (by decide), fun h0_ => absurd ((hoff 4 (by kernel_rfl)).symm.trans h0_) (by decide), Q_X7_⟩
  refine steps_cons ?_ ?_
  ·rintro b a w' ⟨v160, gb173, m2_, m3_, m4_, m7_, ha, Q_HO147, Q_BK149, Q_HB, Q_BK173, Q_GW173, Q_GE173, Q_NB149_173, Q_NB173_149, Q_BK149_e8, Q_BK173_e9, Q_HO161_e2, Q_HO147_e7, Q_HO161_p2_7, Q_X2_, Q_X3_, Q_X4_, Q_X7_⟩ hb_ hon hoff
   refine ⟨_, rfl, fun K hK => ?_⟩
   have e20 : a.tmps[20]? = some (m2_) := by rw [ha]; exact putSel_on (e := (2, 20, m2_)) 2 rfl rfl (hon 2 (by kernel_rfl)) rfl
   rw [Q_X2_ (hon 2 (by kernel_rfl))] at e20
   replace ha := Aside0.mk ha
   have HO147 := Aside0.mk Q_HO147
   have BK149 := Aside0.mk (Q_BK149 (hoff 8 (by kernel_rfl)))
   have HB := Aside0.mk Q_HB
   have HO161 := Aside0.mk (Q_HO161_e2 (hon 2 (by kernel_rfl)))
   refine value_ (w1 := w') (v := .tuple #[.agg #[.int .i64 t157, .int .i64 t158, v160], .agg #[.int .i64 t162, .int .i64 t163, .int .i64 t164, .int .i64 t165, .int .i64 t166, .int .i64 t167, .int .i64 t168, .int .i64 t169, .int .i64 t170, .int .i64 t171], .int .i64 t172]) (by rfl) rfl ?_ ?_
   ·go_simp
    (try simp only [i64_w])
    try rfl
   refine hK.out _ _ ⟨v160, gb173, m2_, (.tuple #[.agg #[.int .i64 t157, .int .i64 t158, v160], .agg #[.int .i64 t162, .int .i64 t163, .int .i64 t164, .int .i64 t165, .int .i64 t166, .int .i64 t167, .int .i64 t168, .int .i64 t169, .int .i64 t170, .int .i64 t171], .int .i64 t172]), m4_, m7_, (by rw [ha.out]; exact putSel_upk 3 hb_ rfl rfl rfl), Q_HO147, Q_BK149, Q_HB, Q_BK173, Q_GW173, Q_GE173, Q_NB149_173, Q_NB173_149, fun h0_ => absurd ((hoff 8 (by kernel_rfl)).symm.trans h0_) (by decide), fun h0_ => absurd ((hoff 9 (by kernel_rfl)).symm.trans h0_) (by decide), Q_HO161_e2, Q_HO147_e7, Q_HO161_p2_7, Q_X2_, fun _ => rfl, fun h0_ => absurd ((hoff 4 (by kernel_rfl)).symm.trans h0_) (by decide), Q_X7_⟩
  refine steps_cons ?_ ?_
  ·rintro b a w' ⟨v160, gb173, m2_, m3_, m4_, m7_, ha, Q_HO147, Q_BK149, Q_HB, Q_BK173, Q_GW173, Q_GE173, Q_NB149_173, Q_NB173_149, Q_BK149_e8, Q_BK173_e9, Q_HO161_e2, Q_HO147_e7, Q_HO161_p2_7, Q_X2_, Q_X3_, Q_X4_, Q_X7_⟩ hb_ hon hoff
   refine ⟨_, rfl, fun K hK => ?_⟩
   have e17 : a.tmps[17]? = some (m3_) := by rw [ha]; exact putSel_on (e := (3, 17, m3_)) 3 rfl rfl (hon 3 (by kernel_rfl)) rfl
   rw [Q_X3_ (hon 3 (by kernel_rfl))] at e17
   replace ha := Aside0.mk ha
   have HO147 := Aside0.mk Q_HO147
   have BK149 := Aside0.mk (Q_BK149 (hoff 8 (by kernel_rfl)))
   have HB := Aside0.mk Q_HB
   have HO161 := Aside0.mk (Q_HO161_e2 (hon 2 (by kernel_rfl)))
   refine value_ (w1 := w') (v := .agg #[.int .i64 t157, .int .i64 t158, v160]) (by rfl) rfl ?_ ?_
   ·go_simp
    (try simp only [i64_w])
    try rfl
   refine hK.out _ _ ⟨v160, gb173, m2_, m3_, (.agg #[.int .i64 t157, .int .i64 t158, v160]), m7_, (by rw [ha.out]; exact putSel_upk 4 hb_ rfl rfl rfl), Q_HO147, Q_BK149, Q_HB, Q_BK173, Q_GW173, Q_GE173, Q_NB149_173, Q_NB173_149, fun h0_ => absurd ((hoff 8 (by kernel_rfl)).symm.trans h0_) (by decide), fun h0_ => absurd ((hoff 9 (by kernel_rfl)).symm.trans h0_) (by decide), Q_HO161_e2, Q_HO147_e7, Q_HO161_p2_7, Q_X2_, Q_X3_, fun _ => rfl, Q_X7_⟩
  refine steps_cons ?_ ?_
  ·rintro b a w' ⟨v160, gb173, m2_, m3_, m4_, m7_, ha, Q_HO147, Q_BK149, Q_HB, Q_BK173, Q_GW173, Q_GE173, Q_NB149_173, Q_NB173_149, Q_BK149_e8, Q_BK173_e9, Q_HO161_e2, Q_HO147_e7, Q_HO161_p2_7, Q_X2_, Q_X3_, Q_X4_, Q_X7_⟩ hb_ hon hoff
   refine ⟨_, rfl, fun K hK => ?_⟩
   have e17 : a.tmps[17]? = some (m3_) := by rw [ha]; exact putSel_on (e := (3, 17, m3_)) 3 rfl rfl (hon 3 (by kernel_rfl)) rfl
   rw [Q_X3_ (hon 3 (by kernel_rfl))] at e17
   replace ha := Aside0.mk ha
   have HO147 := Aside0.mk Q_HO147
   have HB := Aside0.mk Q_HB
   have HO161 := Aside0.mk (Q_HO161_e2 (hon 2 (by kernel_rfl)))
   refine value_ (w1 := w') (v := .agg #[.int .i64 t162, .int .i64 t163, .int .i64 t164, .int .i64 t165, .int .i64 t166, .int .i64 t167, .int .i64 t168, .int .i64 t169, .int .i64 t170, .int .i64 t171]) (by rfl) rfl ?_ ?_
   ·go_simp
    (try simp only [i64_w])
    try rfl
   refine hK.out _ _ ⟨v160, gb173, m2_, m3_, m4_, m7_, (by rw [ha.out]; exact putSel_upk 5 hb_ rfl rfl rfl), Q_HO147, Q_BK149, Q_HB, Q_BK173, Q_GW173, Q_GE173, Q_NB149_173, Q_NB173_149, Q_BK149_e8, fun h0_ => absurd ((hoff 9 (by kernel_rfl)).symm.trans h0_) (by decide), Q_HO161_e2, Q_HO147_e7, Q_HO161_p2_7, Q_X2_, Q_X3_, Q_X4_, Q_X7_⟩
  refine steps_cons ?_ ?_
  ·rintro b a w' ⟨v160, gb173, m2_, m3_, m4_, m7_, ha, Q_HO147, Q_BK149, Q_HB, Q_BK173, Q_GW173, Q_GE173, Q_NB149_173, Q_NB173_149, Q_BK149_e8, Q_BK173_e9, Q_HO161_e2, Q_HO147_e7, Q_HO161_p2_7, Q_X2_, Q_X3_, Q_X4_, Q_X7_⟩ hb_ hon hoff
   refine ⟨_, rfl, fun K hK => ?_⟩
   have e17 : a.tmps[17]? = some (m3_) := by rw [ha]; exact putSel_on (e := (3, 17, m3_)) 3 rfl rfl (hon 3 (by kernel_rfl)) rfl
   rw [Q_X3_ (hon 3 (by kernel_rfl))] at e17
   replace ha := Aside0.mk ha
   have HO147 := Aside0.mk Q_HO147
   have HB := Aside0.mk Q_HB
   have HO161 := Aside0.mk (Q_HO161_e2 (hon 2 (by kernel_rfl)))
   refine value_ (w1 := w') (v := .int .i64 t172) (by rfl) rfl ?_ ?_
   ·go_simp
    (try simp only [i64_w])
    try rfl
   refine hK.out _ _ ⟨v160, gb173, m2_, m3_, m4_, m7_, (by rw [ha.out]; exact putSel_upk 6 hb_ rfl rfl rfl), Q_HO147, Q_BK149, Q_HB, Q_BK173, Q_GW173, Q_GE173, Q_NB149_173, Q_NB173_149, Q_BK149_e8, Q_BK173_e9, Q_HO161_e2, Q_HO147_e7, Q_HO161_p2_7, Q_X2_, Q_X3_, Q_X4_, Q_X7_⟩
  refine steps_cons ?_ ?_
  ·rintro b a w' ⟨v160, gb173, m2_, m3_, m4_, m7_, ha, Q_HO147, Q_BK149, Q_HB, Q_BK173, Q_GW173, Q_GE173, Q_NB149_173, Q_NB173_149, Q_BK149_e8, Q_BK173_e9, Q_HO161_e2, Q_HO147_e7, Q_HO161_p2_7, Q_X2_, Q_X3_, Q_X4_, Q_X7_⟩ hb_ hon hoff
   refine ⟨_, rfl, fun K hK => ?_⟩
   replace ha := Aside0.mk ha
   have HO147 := Aside0.mk Q_HO147
   have BK149 := Aside0.mk (Q_BK149 (hoff 8 (by kernel_rfl)))
   have HB := Aside0.mk Q_HB
   refine box_step ?hg (N := 3) ?hd (cs := #[.int .i64 0, .int .i64 0, .int .i64 0, .int .i64 0, .int .i64 0, .int .i64 0, .int .i64 0, .int .i64 0, .int .i64 0, .int .i64 0]) (t := 33) ?hr ?_; (case hd => rfl); (case hg => rfl); (case hr => first | (go_simp; done) | (go_simp; rfl))
   intro gb173 hg w13 hbox hb
   have n0_ := Aside0.mk (Kd.R_below (Kd.R_elderB (GS.rR HO147.out) gb173 (Nat.le_of_eq hg.symm)) hb)
   have n1_ := Aside0.mk (bqB (GS.bqX BK149.out) hb)
   have n2_ := Aside0.mk (lqT (GS.lB HB.out) hb)
   have n3_ := Aside0.mk (hbox)
   have n4_ := Aside0.mk ((by rw [hg]; exact (lqZ (GS.lB HB.out)) : w.heap.size ≤ gb173))
   have n5_ := Aside0.mk ((by rw [hg]; exact (lqZ (GS.lB HB.out)) : w.heap.size ≤ gb173))
   have n6_ := Aside0.mk ((by rw [hg]; exact Nat.ne_of_lt (blk_lt (GS.bqX BK149.out)) : gb149 ≠ gb173))
   have n7_ := Aside0.mk ((by rw [hg]; exact Nat.ne_of_gt (blk_lt (GS.bqX BK149.out)) : gb173 ≠ gb149))
   have z_HO161_e2 := fun (h0_ : b 2 = true) => (show Kd.R k33 33 w13 w.heap.size (fun k_ => some k_ ≠ (.slice Ao10 t145.length co10 : Value).ownBlock) v160 t159 from by first | exact (Kd.R_below (Kd.R_elderB (GS.rR (Q_HO161_e2 h0_)) gb173 (Nat.le_of_eq hg.symm)) hb) | exact Kd.R_mono (Kd.R_below (Kd.R_elderB (GS.rR (Q_HO161_e2 h0_)) gb173 (Nat.le_of_eq hg.symm)) hb) (fun _ hk => GS.cj hk))
   have z_HO161_p2_7 := fun (h0_ : up b 7 2 = true) (h1_ : up b 7 7 = true) => (show Kd.R k33 33 w13 w.heap.size (fun k_ => some k_ ≠ (.slice Ao10 t145.length co10 : Value).ownBlock ∧ k_ ≠ gb173) v160 t159 from (Kd.R_mono (Kd.R_below (Kd.R_elderB (GS.rR (Q_HO161_e2 h0_)) gb173 (Nat.le_of_eq hg.symm)) hb) (fun _ hk => GS.cj hk)))
   clear HO147
   clear BK149
   clear HB
   have HO147 := n0_
   have BK149 := n1_
   have HB := n2_
   have BK173 := n3_
   have GW173 := n4_
   have GE173 := n5_
   have NB149_173 := n6_
   have NB173_149 := n7_
   clear n0_ n1_ n2_ n3_ n4_ n5_ n6_ n7_
   clear hb hbox hg
   refine hK.out _ _ ⟨v160, gb173, m2_, m3_, m4_, (.pointer (some ⟨gb173, 0, none⟩)), (by rw [ha.out]; exact putSel_upk 7 hb_ rfl rfl rfl), Kd.R_mono ((by (with_reducible repeat (first | apply Kd.R_alloc | apply Kd.R_drewN | apply Kd.R_drew)); exact Kd.R_mono HO147.out (fun _ hk => hk))) (fun _ hk => GS.cj hk), fun _ => (GS.bqX BK149.out), (GS.lB HB.out), fun _ _ => (GS.bqX BK173.out), fun _ => GW173.out, fun _ => GE173.out, fun _ => NB149_173.out, fun _ => NB173_149.out, fun h0_ => absurd ((hoff 8 (by kernel_rfl)).symm.trans h0_) (by decide), fun h0_ => absurd ((hoff 9 (by kernel_rfl)).symm.trans h0_) (by decide), z_HO161_e2, fun _ => (GS.rR (Kd.R_mono HO147.out (fun _ hk => GS.cj hk))), z_HO161_p2_7, Q_X2_, Q_X3_, Q_X4_, fun _ => rfl⟩
  refine steps_cons ?_ ?_
  ·rintro b a w' ⟨v160, gb173, m2_, m3_, m4_, m7_, ha, Q_HO147, Q_BK149, Q_HB, Q_BK173, Q_GW173, Q_GE173, Q_NB149_173, Q_NB173_149, Q_BK149_e8, Q_BK173_e9, Q_HO161_e2, Q_HO147_e7, Q_HO161_p2_7, Q_X2_, Q_X3_, Q_X4_, Q_X7_⟩ hb_ hon hoff
   refine ⟨_, rfl, fun K hK => ?_⟩
   have e1 : a.tmps[1]? = some (.pointer (some ⟨gb149, 0, none⟩)) := by rw [ha]; exact (putSel_off rfl).trans rfl
   have e21 : a.tmps[21]? = some (m4_) := by rw [ha]; exact putSel_on (e := (4, 21, m4_)) 4 rfl rfl (hon 4 (by kernel_rfl)) rfl
   rw [Q_X4_ (hon 4 (by kernel_rfl))] at e21
   replace ha := Aside0.mk ha
   have HO147 := Aside0.mk Q_HO147
   have BK149 := Aside0.mk (Q_BK149 hb_)
   have HB := Aside0.mk Q_HB
   have BK173 := Aside0.mk (Q_BK173 (hon 7 (by kernel_rfl)) (hoff 9 (by kernel_rfl)))
   have GW173 := Aside0.mk (Q_GW173 (hon 7 (by kernel_rfl)))
   have GE173 := Aside0.mk (Q_GE173 (hon 7 (by kernel_rfl)))
   have NB149_173 := Aside0.mk (Q_NB149_173 (hon 7 (by kernel_rfl)))
   have NB173_149 := Aside0.mk (Q_NB173_149 (hon 7 (by kernel_rfl)))
   have HO161 := Aside0.mk (Q_HO161_e2 (hon 2 (by kernel_rfl)))
   have HO147 := Aside0.mk (Q_HO147_e7 (hon 7 (by kernel_rfl)))
   have HO161 := Aside0.mk (Q_HO161_p2_7 (hon 2 (by kernel_rfl)) (hon 7 (by kernel_rfl)))
   obtain ⟨Ao19, co19, eo19⟩ := Kd.R_slice HO161.out
   (first | subst eo19 | (injection eo19 with f1_ f2_ f3_; have f4_ := f1_.symm; have f5_ := f3_.symm; clear f1_ f2_ f3_; subst f4_; subst f5_))
   have hs17 : w'.cell? ⟨gb149, 0, none⟩ = some (.int .i64 t143) := (bqC BK149.out 0).trans rfl
   have hfs17 := bqF BK149.out 0
   have hns17_1 := NB173_149.out
   have hms17_1 := NB149_173.out
   have hs18 : w'.cell? ⟨gb149, 1, none⟩ = some (.int .i64 t144) := (bqC BK149.out 1).trans rfl
   have hfs18 := bqF BK149.out 1
   have hns18_1 := NB173_149.out
   have hms18_1 := NB149_173.out
   have hs20 : w'.cell? ⟨gb149, 2, none⟩ = some (.slice Ao10 t145.length co10) := (bqC BK149.out 2).trans rfl
   have hfs20 := bqF BK149.out 2
   have hns20_1 := NB173_149.out
   have hms20_1 := NB149_173.out
   refine skip_ (w1 := ?_) (by rfl) rfl ?_ ?_
   rotate_left
   ·go_simp
    rfl
   refine hK.out _ _ ⟨.slice Ao19 t159.length co19, gb173, m2_, m3_, m4_, m7_, (by rw [ha.out]; exact putSel_none (v := undef) rfl), Kd.R_mono ((by (with_reducible repeat (first | apply Kd.R_alloc | apply Kd.R_drewN | apply Kd.R_drew)); exact Kd.R_mono (Kd.R_far (p := ⟨gb149, 2, none⟩) (Kd.R_far (p := ⟨gb149, 1, none⟩) (Kd.R_far (p := ⟨gb149, 0, none⟩) (Kd.R_types HO147.out BK149.out (by decide)) (fun _ hk => hk.2) (.int .i64 t157)) (fun _ hk => hk.2) (.int .i64 t158)) (fun _ hk => hk.2) (.slice Ao19 t159.length co19)) (fun _ hk => hk))) (fun _ hk => GS.cj hk), fun h0_ => absurd ((up_self b 8).symm.trans h0_) (by decide), (GS.lB HB.out), fun _ _ => (GS.bqX BK173.out), fun _ => GW173.out, fun _ => GE173.out, fun _ => NB149_173.out, fun _ => NB173_149.out, fun _ => (GS.bqZ BK149.out), fun h0_ => absurd ((hoff 9 (by kernel_rfl)).symm.trans h0_) (by decide), fun _ => Kd.R_mono ((by (with_reducible repeat (first | apply Kd.R_alloc | apply Kd.R_drewN | apply Kd.R_drew)); exact Kd.R_mono (Kd.R_far (p := ⟨gb149, 2, none⟩) (Kd.R_far (p := ⟨gb149, 1, none⟩) (Kd.R_far (p := ⟨gb149, 0, none⟩) (Kd.R_types HO161.out BK149.out (by decide)) (fun _ hk => hk.2) (.int .i64 t157)) (fun _ hk => hk.2) (.int .i64 t158)) (fun _ hk => hk.2) (.slice Ao19 t159.length co19)) (fun _ hk => hk))) (fun _ hk => GS.cj hk), fun _ => (by (with_reducible repeat (first | apply Kd.R_alloc | apply Kd.R_drewN | apply Kd.R_drew)); exact Kd.R_mono (Kd.R_far (p := ⟨gb149, 2, none⟩) (Kd.R_far (p := ⟨gb149, 1, none⟩) (Kd.R_far (p := ⟨gb149, 0, none⟩) (Kd.R_types HO147.out BK149.out (by decide)) (fun _ hk => hk.2) (.int .i64 t157)) (fun _ hk => hk.2) (.int .i64 t158)) (fun _ hk => hk.2) (.slice Ao19 t159.length co19)) (fun _ hk => GS.cj hk)), fun _ _ => (by (with_reducible repeat (first | apply Kd.R_alloc | apply Kd.R_drewN | apply Kd.R_drew)); exact Kd.R_mono (Kd.R_far (p := ⟨gb149, 2, none⟩) (Kd.R_far (p := ⟨gb149, 1, none⟩) (Kd.R_far (p := ⟨gb149, 0, none⟩) (Kd.R_types HO161.out BK149.out (by decide)) (fun _ hk => hk.2) (.int .i64 t157)) (fun _ hk => hk.2) (.int .i64 t158)) (fun _ hk => hk.2) (.slice Ao19 t159.length co19)) (fun _ hk => GS.cj hk)), Q_X2_, Q_X3_, Q_X4_, Q_X7_⟩
  refine steps_cons ?_ ?_
  ·rintro b a w' ⟨v160, gb173, m2_, m3_, m4_, m7_, ha, Q_HO147, Q_BK149, Q_HB, Q_BK173, Q_GW173, Q_GE173, Q_NB149_173, Q_NB173_149, Q_BK149_e8, Q_BK173_e9, Q_HO161_e2, Q_HO147_e7, Q_HO161_p2_7, Q_X2_, Q_X3_, Q_X4_, Q_X7_⟩ hb_ hon hoff
   refine ⟨_, rfl, fun K hK => ?_⟩
   have e3 : a.tmps[3]? = some (m7_) := by rw [ha]; exact putSel_on (e := (7, 3, m7_)) 7 rfl rfl (hon 7 (by kernel_rfl)) rfl
   rw [Q_X7_ (hon 7 (by kernel_rfl))] at e3
   have e22 : a.tmps[22]? = some (.agg #[.int .i64 t162, .int .i64 t163, .int .i64 t164, .int .i64 t165, .int .i64 t166, .int .i64 t167, .int .i64 t168, .int .i64 t169, .int .i64 t170, .int .i64 t171]) := by rw [ha]; exact putSel_on (e := (5, 22, .agg #[.int .i64 t162, .int .i64 t163, .int .i64 t164, .int .i64 t165, .int .i64 t166, .int .i64 t167, .int .i64 t168, .int .i64 t169, .int .i64 t170, .int .i64 t171])) 5 rfl rfl (hon 5 (by kernel_rfl)) rfl
   replace ha := Aside0.mk ha
   have HO147 := Aside0.mk Q_HO147
   have HB := Aside0.mk Q_HB
   have BK173 := Aside0.mk (Q_BK173 (hon 7 (by kernel_rfl)) hb_)
   have GW173 := Aside0.mk (Q_GW173 (hon 7 (by kernel_rfl)))
   have GE173 := Aside0.mk (Q_GE173 (hon 7 (by kernel_rfl)))
   have NB149_173 := Aside0.mk (Q_NB149_173 (hon 7 (by kernel_rfl)))
   have NB173_149 := Aside0.mk (Q_NB173_149 (hon 7 (by kernel_rfl)))
   have BK149 := Aside0.mk (Q_BK149_e8 (hon 8 (by kernel_rfl)))
   have HO161 := Aside0.mk (Q_HO161_e2 (hon 2 (by kernel_rfl)))
   have HO147 := Aside0.mk (Q_HO147_e7 (hon 7 (by kernel_rfl)))
   have HO161 := Aside0.mk (Q_HO161_p2_7 (hon 2 (by kernel_rfl)) (hon 7 (by kernel_rfl)))
   have hs21 : w'.cell? ⟨gb173, 0, none⟩ = some (.int .i64 0) := (bqC BK173.out 0).trans rfl
   have hfs21 := bqF BK173.out 0
   have hns21_0 := NB149_173.out
   have hms21_0 := NB173_149.out
   have hs22 : w'.cell? ⟨gb173, 1, none⟩ = some (.int .i64 0) := (bqC BK173.out 1).trans rfl
   have hfs22 := bqF BK173.out 1
   have hns22_0 := NB149_173.out
   have hms22_0 := NB173_149.out
   have hs23 : w'.cell? ⟨gb173, 2, none⟩ = some (.int .i64 0) := (bqC BK173.out 2).trans rfl
   have hfs23 := bqF BK173.out 2
   have hns23_0 := NB149_173.out
   have hms23_0 := NB173_149.out
   have hs24 : w'.cell? ⟨gb173, 3, none⟩ = some (.int .i64 0) := (bqC BK173.out 3).trans rfl
   have hfs24 := bqF BK173.out 3
   have hns24_0 := NB149_173.out
   have hms24_0 := NB173_149.out
   have hs25 : w'.cell? ⟨gb173, 4, none⟩ = some (.int .i64 0) := (bqC BK173.out 4).trans rfl
   have hfs25 := bqF BK173.out 4
   have hns25_0 := NB149_173.out
   have hms25_0 := NB173_149.out
   have hs26 : w'.cell? ⟨gb173, 5, none⟩ = some (.int .i64 0) := (bqC BK173.out 5).trans rfl
   have hfs26 := bqF BK173.out 5
   have hns26_0 := NB149_173.out
   have hms26_0 := NB173_149.out
   have hs27 : w'.cell? ⟨gb173, 6, none⟩ = some (.int .i64 0) := (bqC BK173.out 6).trans rfl
   have hfs27 := bqF BK173.out 6
   have hns27_0 := NB149_173.out
   have hms27_0 := NB173_149.out
   have hs28 : w'.cell? ⟨gb173, 7, none⟩ = some (.int .i64 0) := (bqC BK173.out 7).trans rfl
   have hfs28 := bqF BK173.out 7
   have hns28_0 := NB149_173.out
   have hms28_0 := NB173_149.out
   have hs29 : w'.cell? ⟨gb173, 8, none⟩ = some (.int .i64 0) := (bqC BK173.out 8).trans rfl
   have hfs29 := bqF BK173.out 8
   have hns29_0 := NB149_173.out
   have hms29_0 := NB173_149.out
   have hs30 : w'.cell? ⟨gb173, 9, none⟩ = some (.int .i64 0) := (bqC BK173.out 9).trans rfl
   have hfs30 := bqF BK173.out 9
   have hns30_0 := NB149_173.out
   have hms30_0 := NB173_149.out
   refine skip_ (w1 := ?_) (by rfl) rfl ?_ ?_
   rotate_left
   ·go_simp
    rfl
   refine hK.out _ _ ⟨v160, gb173, m2_, m3_, m4_, m7_, (by rw [ha.out]; exact putSel_none (v := undef) rfl), Kd.R_mono ((by (with_reducible repeat (first | apply Kd.R_alloc | apply Kd.R_drewN | apply Kd.R_drew)); exact Kd.R_mono (Kd.R_far (p := ⟨gb173, 9, none⟩) (Kd.R_far (p := ⟨gb173, 8, none⟩) (Kd.R_far (p := ⟨gb173, 7, none⟩) (Kd.R_far (p := ⟨gb173, 6, none⟩) (Kd.R_far (p := ⟨gb173, 5, none⟩) (Kd.R_far (p := ⟨gb173, 4, none⟩) (Kd.R_far (p := ⟨gb173, 3, none⟩) (Kd.R_far (p := ⟨gb173, 2, none⟩) (Kd.R_far (p := ⟨gb173, 1, none⟩) (Kd.R_far (p := ⟨gb173, 0, none⟩) (Kd.R_mono HO147.out (fun k_ hk => (⟨hk, GS.cj hk⟩ : _ ∧ k_ ≠ gb173))) (fun _ hk => hk.2) (.int .i64 t162)) (fun _ hk => hk.2) (.int .i64 t163)) (fun _ hk => hk.2) (.int .i64 t164)) (fun _ hk => hk.2) (.int .i64 t165)) (fun _ hk => hk.2) (.int .i64 t166)) (fun _ hk => hk.2) (.int .i64 t167)) (fun _ hk => hk.2) (.int .i64 t168)) (fun _ hk => hk.2) (.int .i64 t169)) (fun _ hk => hk.2) (.int .i64 t170)) (fun _ hk => hk.2) (.int .i64 t171)) (fun _ hk => hk))) (fun _ hk => GS.cj hk), fun h0_ => absurd ((hon 8 (by kernel_rfl)).symm.trans h0_) (by decide), (GS.lB HB.out), fun _ h1_ => absurd ((up_self b 9).symm.trans h1_) (by decide), fun _ => GW173.out, fun _ => GE173.out, fun _ => NB149_173.out, fun _ => NB173_149.out, fun _ => (GS.bqX BK149.out), fun _ => (GS.bqZ BK173.out), fun _ => Kd.R_mono ((by (with_reducible repeat (first | apply Kd.R_alloc | apply Kd.R_drewN | apply Kd.R_drew)); exact Kd.R_mono (Kd.R_far (p := ⟨gb173, 9, none⟩) (Kd.R_far (p := ⟨gb173, 8, none⟩) (Kd.R_far (p := ⟨gb173, 7, none⟩) (Kd.R_far (p := ⟨gb173, 6, none⟩) (Kd.R_far (p := ⟨gb173, 5, none⟩) (Kd.R_far (p := ⟨gb173, 4, none⟩) (Kd.R_far (p := ⟨gb173, 3, none⟩) (Kd.R_far (p := ⟨gb173, 2, none⟩) (Kd.R_far (p := ⟨gb173, 1, none⟩) (Kd.R_far (p := ⟨gb173, 0, none⟩) (Kd.R_mono HO161.out (fun k_ hk => (⟨hk, GS.cj hk⟩ : _ ∧ k_ ≠ gb173))) (fun _ hk => hk.2) (.int .i64 t162)) (fun _ hk => hk.2) (.int .i64 t163)) (fun _ hk => hk.2) (.int .i64 t164)) (fun _ hk => hk.2) (.int .i64 t165)) (fun _ hk => hk.2) (.int .i64 t166)) (fun _ hk => hk.2) (.int .i64 t167)) (fun _ hk => hk.2) (.int .i64 t168)) (fun _ hk => hk.2) (.int .i64 t169)) (fun _ hk => hk.2) (.int .i64 t170)) (fun _ hk => hk.2) (.int .i64 t171)) (fun _ hk => hk))) (fun _ hk => GS.cj hk), fun _ => (by (with_reducible repeat (first | apply Kd.R_alloc | apply Kd.R_drewN | apply Kd.R_drew)); exact Kd.R_mono (Kd.R_far (p := ⟨gb173, 9, none⟩) (Kd.R_far (p := ⟨gb173, 8, none⟩) (Kd.R_far (p := ⟨gb173, 7, none⟩) (Kd.R_far (p := ⟨gb173, 6, none⟩) (Kd.R_far (p := ⟨gb173, 5, none⟩) (Kd.R_far (p := ⟨gb173, 4, none⟩) (Kd.R_far (p := ⟨gb173, 3, none⟩) (Kd.R_far (p := ⟨gb173, 2, none⟩) (Kd.R_far (p := ⟨gb173, 1, none⟩) (Kd.R_far (p := ⟨gb173, 0, none⟩) (Kd.R_mono HO147.out (fun k_ hk => (⟨hk, GS.cj hk⟩ : _ ∧ k_ ≠ gb173))) (fun _ hk => hk.2) (.int .i64 t162)) (fun _ hk => hk.2) (.int .i64 t163)) (fun _ hk => hk.2) (.int .i64 t164)) (fun _ hk => hk.2) (.int .i64 t165)) (fun _ hk => hk.2) (.int .i64 t166)) (fun _ hk => hk.2) (.int .i64 t167)) (fun _ hk => hk.2) (.int .i64 t168)) (fun _ hk => hk.2) (.int .i64 t169)) (fun _ hk => hk.2) (.int .i64 t170)) (fun _ hk => hk.2) (.int .i64 t171)) (fun _ hk => GS.cj hk)), fun _ _ => (by (with_reducible repeat (first | apply Kd.R_alloc | apply Kd.R_drewN | apply Kd.R_drew)); exact Kd.R_mono (Kd.R_far (p := ⟨gb173, 9, none⟩) (Kd.R_far (p := ⟨gb173, 8, none⟩) (Kd.R_far (p := ⟨gb173, 7, none⟩) (Kd.R_far (p := ⟨gb173, 6, none⟩) (Kd.R_far (p := ⟨gb173, 5, none⟩) (Kd.R_far (p := ⟨gb173, 4, none⟩) (Kd.R_far (p := ⟨gb173, 3, none⟩) (Kd.R_far (p := ⟨gb173, 2, none⟩) (Kd.R_far (p := ⟨gb173, 1, none⟩) (Kd.R_far (p := ⟨gb173, 0, none⟩) (Kd.R_mono HO161.out (fun k_ hk => (⟨hk, GS.cj hk⟩ : _ ∧ k_ ≠ gb173))) (fun _ hk => hk.2) (.int .i64 t162)) (fun _ hk => hk.2) (.int .i64 t163)) (fun _ hk => hk.2) (.int .i64 t164)) (fun _ hk => hk.2) (.int .i64 t165)) (fun _ hk => hk.2) (.int .i64 t166)) (fun _ hk => hk.2) (.int .i64 t167)) (fun _ hk => hk.2) (.int .i64 t168)) (fun _ hk => hk.2) (.int .i64 t169)) (fun _ hk => hk.2) (.int .i64 t170)) (fun _ hk => hk.2) (.int .i64 t171)) (fun _ hk => GS.cj hk)), Q_X2_, Q_X3_, Q_X4_, Q_X7_⟩
  refine steps_cons ?_ ?_
  ·rintro b a w' ⟨v160, gb173, m2_, m3_, m4_, m7_, ha, Q_HO147, Q_BK149, Q_HB, Q_BK173, Q_GW173, Q_GE173, Q_NB149_173, Q_NB173_149, Q_BK149_e8, Q_BK173_e9, Q_HO161_e2, Q_HO147_e7, Q_HO161_p2_7, Q_X2_, Q_X3_, Q_X4_, Q_X7_⟩ hb_ hon hoff
   refine ⟨_, rfl, fun K hK => ?_⟩
   have e23 : a.tmps[23]? = some (.int .i64 t172) := by rw [ha]; exact putSel_on (e := (6, 23, .int .i64 t172)) 6 rfl rfl (hon 6 (by kernel_rfl)) rfl
   replace ha := Aside0.mk ha
   have HO147 := Aside0.mk Q_HO147
   have HB := Aside0.mk Q_HB
   have GW173 := Aside0.mk (Q_GW173 (hon 7 (by kernel_rfl)))
   have GE173 := Aside0.mk (Q_GE173 (hon 7 (by kernel_rfl)))
   have NB149_173 := Aside0.mk (Q_NB149_173 (hon 7 (by kernel_rfl)))
   have NB173_149 := Aside0.mk (Q_NB173_149 (hon 7 (by kernel_rfl)))
   have BK149 := Aside0.mk (Q_BK149_e8 (hon 8 (by kernel_rfl)))
   have BK173 := Aside0.mk (Q_BK173_e9 (hon 9 (by kernel_rfl)))
   have HO161 := Aside0.mk (Q_HO161_e2 (hon 2 (by kernel_rfl)))
   have HO147 := Aside0.mk (Q_HO147_e7 (hon 7 (by kernel_rfl)))
   have HO161 := Aside0.mk (Q_HO161_p2_7 (hon 2 (by kernel_rfl)) (hon 7 (by kernel_rfl)))
   refine value_ (w1 := w') (v := .int .i64 t172) (by rfl) rfl ?_ ?_
   ·go_simp
    (try simp only [i64_w])
    try rfl
   refine hK.out _ _ ⟨v160, gb173, m2_, m3_, m4_, m7_, (by rw [ha.out]; exact putSel_upk 8 hb_ rfl rfl rfl), Q_HO147, fun h0_ => absurd ((hon 8 (by kernel_rfl)).symm.trans h0_) (by decide), Q_HB, fun _ h1_ => absurd ((hon 9 (by kernel_rfl)).symm.trans h1_) (by decide), Q_GW173, Q_GE173, Q_NB149_173, Q_NB173_149, Q_BK149_e8, Q_BK173_e9, Q_HO161_e2, Q_HO147_e7, Q_HO161_p2_7, Q_X2_, Q_X3_, Q_X4_, Q_X7_⟩
  exact steps_nil
 rintro b a w30 hall ⟨v160, gb173, m2_, m3_, m4_, m7_, ha, Q_HO147, Q_BK149, Q_HB, Q_BK173, Q_GW173, Q_GE173, Q_NB149_173, Q_NB173_149, Q_BK149_e8, Q_BK173_e9, Q_HO161_e2, Q_HO147_e7, Q_HO161_p2_7, Q_X2_, Q_X3_, Q_X4_, Q_X7_⟩
 clear BK149 HB HO147
 have hb0_ := hall 0 (by kernel_rfl)
 have hb1_ := hall 1 (by kernel_rfl)
 have hb2_ := hall 2 (by kernel_rfl)
 have hb3_ := hall 3 (by kernel_rfl)
 have hb4_ := hall 4 (by kernel_rfl)
 have hb5_ := hall 5 (by kernel_rfl)
 have hb6_ := hall 6 (by kernel_rfl)
 have hb7_ := hall 7 (by kernel_rfl)
 have hb8_ := hall 8 (by kernel_rfl)
 have hb9_ := hall 9 (by kernel_rfl)
 have hb10_ := hall 10 (by kernel_rfl)
 subst ha
 obtain rfl := Q_X2_ hb2_
 obtain rfl := Q_X3_ hb3_
 obtain rfl := Q_X4_ hb4_
 obtain rfl := Q_X7_ hb7_
 simp only [putSel, hb0_, hb1_, hb2_, hb3_, hb4_, hb5_, hb6_, hb7_, hb8_, hb9_, hb10_, if_true, Act.put, List.setIfInBounds_toArray, List.set_cons_zero, List.set_cons_succ]
 have HO147 := Aside0.mk Q_HO147
 clear Q_HO147
 clear Q_BK149
 have HB := Aside0.mk Q_HB
 clear Q_HB
 clear Q_BK173
 have GW173 := Aside0.mk (Q_GW173 hb7_)
 clear Q_GW173
 have GE173 := Aside0.mk (Q_GE173 hb7_)
 clear Q_GE173
 have NB149_173 := Aside0.mk (Q_NB149_173 hb7_)
 clear Q_NB149_173
 have NB173_149 := Aside0.mk (Q_NB173_149 hb7_)
 clear Q_NB173_149
 have BK149 := Aside0.mk (Q_BK149_e8 hb8_)
 clear Q_BK149_e8
 have BK173 := Aside0.mk (Q_BK173_e9 hb9_)
 clear Q_BK173_e9
 have HO161 := Aside0.mk (Q_HO161_e2 hb2_)
 clear Q_HO161_e2
 have HO147 := Aside0.mk (Q_HO147_e7 hb7_)
 clear Q_HO147_e7
 have HO161 := Aside0.mk (Q_HO161_p2_7 hb2_ hb7_)
 have n_ := Aside0.mk (GW.R_sym (v' := v160) rfl HO147.out (fun k hk => (HO161.out.1 k hk).1)); clear HO147; have HO147 := n_; clear n_
 clear Q_HO161_p2_7
 clear hall hb0_ hb1_ hb2_ hb3_ hb4_ hb5_ hb6_ hb7_ hb8_ hb9_ hb10_
 obtain ⟨Ao31, co31, eo31⟩ := Kd.R_slice HO161.out
 subst eo31
 try go_wp2
 have n0_ := Aside0.mk (Kd.R_drew HO147.out)
 have n1_ := Aside0.mk (Kd.R_drew HO161.out)
 have n2_ := Aside0.mk (bqD BK149.out)
 have n3_ := Aside0.mk (bqD BK173.out)
 have n4_ := Aside0.mk (lqD HB.out)
 clear HO147
 clear HO161
 clear BK149
 clear BK173
 clear HB
 have HO147 := n0_
 have HO161 := n1_
 have BK149 := n2_
 have BK173 := n3_
 have HB := n4_
 clear n0_ n1_ n2_ n3_ n4_
 refine start_ (n := 11) (S := fun w' => True) (ds := []) #[false, false, false, false, false, false, false, false, false, false, false] (by kernel_rfl) rfl rfl trivial (fun hHeld => ?_); refine with_tabW spilelaw42_awake.tab3 spilelaw42_awake.bits3 (fun HT_ HW_ => ?_)
 generalize w30.drew = w32 at HO147 HO161 BK149 BK173 HB hHeld ⊢
 refine inv_at [0, 1, 2, 3, 4, 5, 6, 7, 8, 9, 10] (fun a0_ b a w' => ∃ (v184 : Value) (gb197 : Nat) (m2_ : Value) (m3_ : Value) (m4_ : Value) (m7_ : Value), a = putSel a0_ b [(0, 25, .agg #[.int .i64 t157, .int .i64 t158, .slice Ao31 t159.length co31]), (1, 26, .agg #[.int .i64 t174, .int .i64 t175, .int .i64 t176, .int .i64 t177, .int .i64 t178, .int .i64 t179, .int .i64 t180]), (2, 27, m2_), (3, 24, m3_), (4, 28, m4_), (5, 29, .agg #[.int .i64 t186, .int .i64 t187, .int .i64 t188, .int .i64 t189, .int .i64 t190, .int .i64 t191, .int .i64 t192, .int .i64 t193, .int .i64 t194, .int .i64 t195]), (6, 30, .int .i64 t196), (7, 5, m7_), (10, 6, .int .i64 t196)] ∧ (b 8 = false → w'.heap[gb149]? = some (.cells #[.int .i64 t157, .int .i64 t158, .slice Ao31 t159.length co31] 24 (0, 0))) ∧ (w'.heap[gb173]? = some (.cells #[.int .i64 t162, .int .i64 t163, .int .i64 t164, .int .i64 t165, .int .i64 t166, .int .i64 t167, .int .i64 t168, .int .i64 t169, .int .i64 t170, .int .i64 t171] 33 (0, 0))) ∧ (Below w.heap.size w w') ∧ (b 7 = true → b 9 = false → w'.heap[gb197]? = some (.cells #[.int .i64 0, .int .i64 0, .int .i64 0, .int .i64 0, .int .i64 0, .int .i64 0, .int .i64 0, .int .i64 0, .int .i64 0, .int .i64 0] 33 (0, 0))) ∧ (b 7 = true → w.heap.size ≤ gb197) ∧ (b 7 = true → w.heap.size ≤ gb197) ∧ (b 7 = true → gb149 ≠ gb197) ∧ (b 7 = true → gb197 ≠ gb149) ∧ (b 7 = true → gb173 ≠ gb197) ∧ (b 7 = true → gb197 ≠ gb173) ∧ (b 8 = true → w'.heap[gb149]? = some (.cells #[.int .i64 t181, .int .i64 t182, v184] 24 (0, 0))) ∧ (b 9 = true → w'.heap[gb197]? = some (.cells #[.int .i64 t186, .int .i64 t187, .int .i64 t188, .int .i64 t189, .int .i64 t190, .int .i64 t191, .int .i64 t192, .int .i64 t193, .int .i64 t194, .int .i64 t195] 33 (0, 0))) ∧ (Kd.R k33 33 w' w.heap.size (fun k_ => some k_ ≠ (.slice Ao31 t159.length co31 : Value).ownBlock ∧ k_ ≠ gb173) (.slice Ao10 t145.length co10) t145) ∧ (Kd.R k33 33 w' w.heap.size (fun k_ => some k_ ≠ (.slice Ao10 t145.length co10 : Value).ownBlock ∧ k_ ≠ gb173) (.slice Ao31 t159.length co31) t159) ∧ (b 2 = true → Kd.R k33 33 w' w.heap.size (fun k_ => some k_ ≠ (.slice Ao10 t145.length co10 : Value).ownBlock ∧ some k_ ≠ (.slice Ao31 t159.length co31 : Value).ownBlock ∧ k_ ≠ gb173) v184 t183) ∧ (b 7 = true → Kd.R k33 33 w' w.heap.size (fun k_ => some k_ ≠ (.slice Ao31 t159.length co31 : Value).ownBlock ∧ k_ ≠ gb173 ∧ k_ ≠ gb197) (.slice Ao10 t145.length co10) t145) ∧ (b 7 = true → Kd.R k33 33 w' w.heap.size (fun k_ => some k_ ≠ (.slice Ao10 t145.length co10 : Value).ownBlock ∧ k_ ≠ gb173 ∧ k_ ≠ gb197) (.slice Ao31 t159.length co31) t159) ∧ (b 2 = true → b 7 = true → Kd.R k33 33 w' w.heap.size (fun k_ => some k_ ≠ (.slice Ao10 t145.length co10 : Value).ownBlock ∧ some k_ ≠ (.slice Ao31 t159.length co31 : Value).ownBlock ∧ k_ ≠ gb173 ∧ k_ ≠ gb197) v184 t183) ∧ (b 2 = true → (m2_ : Value) = .tuple #[.agg #[.int .i64 t181, .int .i64 t182, v184], .agg #[.int .i64 t186, .int .i64 t187, .int .i64 t188, .int .i64 t189, .int .i64 t190, .int .i64 t191, .int .i64 t192, .int .i64 t193, .int .i64 t194, .int .i64 t195], .int .i64 t196]) ∧ (b 3 = true → (m3_ : Value) = .tuple #[.agg #[.int .i64 t181, .int .i64 t182, v184], .agg #[.int .i64 t186, .int .i64 t187, .int .i64 t188, .int .i64 t189, .int .i64 t190, .int .i64 t191, .int .i64 t192, .int .i64 t193, .int .i64 t194, .int .i64 t195], .int .i64 t196]) ∧ (b 4 = true → (m4_ : Value) = .agg #[.int .i64 t181, .int .i64 t182, v184]) ∧ (b 7 = true → (m7_ : Value) = .pointer (some ⟨gb197, 0, none⟩))) HT_.out HW_.out (by kernel_rfl) (by kernel_rfl) ?_ ?_ ?_
 ·exact ⟨.bool false, 0, .bool false, .bool false, .bool false, .bool false, by simp only [putSel, Bool.false_eq_true, if_false], fun _ => BK149.out, BK173.out, HB.out, fun h_ => absurd h_ (by decide), fun h_ => absurd h_ (by decide), fun h_ => absurd h_ (by decide), fun h_ => absurd h_ (by decide), fun h_ => absurd h_ (by decide), fun h_ => absurd h_ (by decide), fun h_ => absurd h_ (by decide), fun h_ => absurd h_ (by decide), fun h_ => absurd h_ (by decide), HO147.out, HO161.out, fun h_ => absurd h_ (by decide), fun h_ => absurd h_ (by decide), fun h_ => absurd h_ (by decide), fun h_ => absurd h_ (by decide), fun h_ => absurd h_ (by decide), fun h_ => absurd h_ (by decide), fun h_ => absurd h_ (by decide), fun h_ => absurd h_ (by decide)⟩
 ·skip
  clear BK149 BK173 HB HO147 HO161
  refine steps_cons ?_ ?_
  ·rintro b a w' ⟨v184, gb197, m2_, m3_, m4_, m7_, ha, Q_BK149, Q_BK173, Q_HB, Q_BK197, Q_GW197, Q_GE197, Q_NB149_197, Q_NB197_149, Q_NB173_197, Q_NB197_173, Q_BK149_e8, Q_BK197_e9, Q_HO147, Q_HO161, Q_HO185_e2, Q_HO147_e7, Q_HO161_e7, Q_HO185_p2_7, Q_X2_, Q_X3_, Q_X4_, Q_X7_⟩ hb_ hon hoff
   refine ⟨_, rfl, fun K hK => ?_⟩
   have e1 : a.tmps[1]? = some (.pointer (some ⟨gb149, 0, none⟩)) := by rw [ha]; exact (putSel_off rfl).trans rfl
   replace ha := Aside0.mk ha
   have BK149 := Aside0.mk (Q_BK149 (hoff 8 (by kernel_rfl)))
   have BK173 := Aside0.mk Q_BK173
   have HB := Aside0.mk Q_HB
   have HO147 := Aside0.mk Q_HO147
   have HO161 := Aside0.mk Q_HO161
   have hc0_ : w'.cell? ⟨gb149, 0, none⟩ = some (.int .i64 t157) := (bqC BK149.out 0).trans rfl
   have hc1_ : w'.cell? ⟨gb149, 1, none⟩ = some (.int .i64 t158) := (bqC BK149.out 1).trans rfl
   have hc2_ : w'.cell? ⟨gb149, 2, none⟩ = some (.slice Ao31 t159.length co31) := (bqC BK149.out 2).trans rfl
   refine value_ (w1 := w') (v := .agg #[.int .i64 t157, .int .i64 t158, .slice Ao31 t159.length co31]) (by rfl) rfl ?_ ?_
   ·go_simp
    (try simp only [i64_w])
    try rfl
   refine hK.out _ _ ⟨v184, gb197, m2_, m3_, m4_, m7_, (by rw [ha.out]; exact putSel_upk 0 hb_ rfl rfl rfl), Q_BK149, Q_BK173, Q_HB, Q_BK197, Q_GW197, Q_GE197, Q_NB149_197, Q_NB197_149, Q_NB173_197, Q_NB197_173, fun h0_ => absurd ((hoff 8 (by kernel_rfl)).symm.trans h0_) (by decide), fun h0_ => absurd ((hoff 9 (by kernel_rfl)).symm.trans h0_) (by decide), Q_HO147, Q_HO161, fun h0_ => absurd ((hoff 2 (by kernel_rfl)).symm.trans h0_) (by decide), Q_HO147_e7, Q_HO161_e7, fun h0_ _ => absurd ((hoff 2 (by kernel_rfl)).symm.trans h0_) (by decide), fun h0_ => absurd ((hoff 2 (by kernel_rfl)).symm.trans h0_) (by decide), fun h0_ => absurd ((hoff 3 (by kernel_rfl)).symm.trans h0_) (by decide), fun h0_ => absurd ((hoff 4 (by kernel_rfl)).symm.trans h0_) (by decide), Q_X7_⟩
  refine steps_cons ?_ ?_
  ·rintro b a w' ⟨v184, gb197, m2_, m3_, m4_, m7_, ha, Q_BK149, Q_BK173, Q_HB, Q_BK197, Q_GW197, Q_GE197, Q_NB149_197, Q_NB197_149, Q_NB173_197, Q_NB197_173, Q_BK149_e8, Q_BK197_e9, Q_HO147, Q_HO161, Q_HO185_e2, Q_HO147_e7, Q_HO161_e7, Q_HO185_p2_7, Q_X2_, Q_X3_, Q_X4_, Q_X7_⟩ hb_ hon hoff
   refine ⟨_, rfl, fun K hK => ?_⟩
   replace ha := Aside0.mk ha
   have BK149 := Aside0.mk (Q_BK149 (hoff 8 (by kernel_rfl)))
   have BK173 := Aside0.mk Q_BK173
   have HB := Aside0.mk Q_HB
   have HO147 := Aside0.mk Q_HO147
   have HO161 := Aside0.mk Q_HO161
   refine goes_ Try.func25 (by kernel_rfl) rfl #[.int .i64 2] (by rfl) rfl rfl (by first | (simp only [List.map_toArray, List.map_cons, List.map_nil, Act.eval, Array.getD_eq_getD_getElem?, Option.getD_some]; done) | (simp only [List.map_toArray, List.map_cons, List.map_nil, Act.eval, Array.getD_eq_getD_getElem?, Option.getD_some]; rfl)) ?_
   with_reducible refine (spilelaw42_message.calls 2 t174 t175 t176 t177 t178 t179 t180 _ A4.out).mono ?_
   rintro e w33 ⟨rfl, hb⟩
   refine ⟨_, rfl, ?_⟩
   have n0_ := Aside0.mk (Kd.R_below (GS.rR HO147.out) hb)
   have n1_ := Aside0.mk (Kd.R_below (GS.rR HO161.out) hb)
   have n2_ := Aside0.mk (bqB (GS.bqX BK149.out) hb)
   have n3_ := Aside0.mk (bqB (GS.bqX BK173.out) hb)
   have n4_ := Aside0.mk (lqT (GS.lB HB.out) hb)
   have z_BK197 := fun (h0_ : b 7 = true) (h1_ : b 9 = false) => (show w33.heap[gb197]? = some (.cells #[.int .i64 0, .int .i64 0, .int .i64 0, .int .i64 0, .int .i64 0, .int .i64 0, .int .i64 0, .int .i64 0, .int .i64 0, .int .i64 0] 33 (0, 0)) from by first | exact (bqB (GS.bqX (Q_BK197 h0_ h1_)) hb))
   have z_HO147_e7 := fun (h0_ : b 7 = true) => (show Kd.R k33 33 w33 w.heap.size (fun k_ => some k_ ≠ (.slice Ao31 t159.length co31 : Value).ownBlock ∧ k_ ≠ gb173 ∧ k_ ≠ gb197) (.slice Ao10 t145.length co10) t145 from by first | exact (Kd.R_below (GS.rR (Q_HO147_e7 h0_)) hb) | exact Kd.R_mono (Kd.R_below (GS.rR (Q_HO147_e7 h0_)) hb) (fun _ hk => GS.cj hk))
   have z_HO161_e7 := fun (h0_ : b 7 = true) => (show Kd.R k33 33 w33 w.heap.size (fun k_ => some k_ ≠ (.slice Ao10 t145.length co10 : Value).ownBlock ∧ k_ ≠ gb173 ∧ k_ ≠ gb197) (.slice Ao31 t159.length co31) t159 from by first | exact (Kd.R_below (GS.rR (Q_HO161_e7 h0_)) hb) | exact Kd.R_mono (Kd.R_below (GS.rR (Q_HO161_e7 h0_)) hb) (fun _ hk => GS.cj hk))
   clear HO147
   clear HO161
   clear BK149
   clear BK173
   clear HB
   have HO147 := n0_
   have HO161 := n1_
   have BK149 := n2_
   have BK173 := n3_
   have HB := n4_
   clear n0_ n1_ n2_ n3_ n4_
   (try clear hb)
   (try clear hb2)
   (try clear hk)
   (try clear hi)
   refine hK.out _ _ ⟨v184, gb197, m2_, m3_, m4_, m7_, (by rw [ha.out]; exact putSel_upk 1 hb_ rfl rfl rfl), fun _ => (GS.bqX BK149.out), (GS.bqX BK173.out), (GS.lB HB.out), z_BK197, Q_GW197, Q_GE197, Q_NB149_197, Q_NB197_149, Q_NB173_197, Q_NB197_173, fun h0_ => absurd ((hoff 8 (by kernel_rfl)).symm.trans h0_) (by decide), fun h0_ => absurd ((hoff 9 (by kernel_rfl)).symm.trans h0_) (by decide), (GS.rR HO147.out), (GS.rR HO161.out), fun h0_ => absurd ((hoff 2 (by kernel_rfl)).symm.trans h0_) (by decide), z_HO147_e7, z_HO161_e7, fun h0_ _ => absurd ((hoff 2 (by kernel_rfl)).symm.trans h0_) (by decide), fun h0_ => absurd ((hoff 2 (by kernel_rfl)).symm.trans h0_) (by decide), fun h0_ => absurd ((hoff 3 (by kernel_rfl)).symm.trans h0_) (by decide), fun h0_ => absurd ((hoff 4 (by kernel_rfl)).symm.trans h0_) (by decide), Q_X7_⟩
  refine steps_cons ?_ ?_
  ·rintro b a w' ⟨v184, gb197, m2_, m3_, m4_, m7_, ha, Q_BK149, Q_BK173, Q_HB, Q_BK197, Q_GW197, Q_GE197, Q_NB149_197, Q_NB197_149, Q_NB173_197, Q_NB197_173, Q_BK149_e8, Q_BK197_e9, Q_HO147, Q_HO161, Q_HO185_e2, Q_HO147_e7, Q_HO161_e7, Q_HO185_p2_7, Q_X2_, Q_X3_, Q_X4_, Q_X7_⟩ hb_ hon hoff
   refine ⟨_, rfl, fun K hK => ?_⟩
   have e25 : a.tmps[25]? = some (.agg #[.int .i64 t157, .int .i64 t158, .slice Ao31 t159.length co31]) := by rw [ha]; exact putSel_on (e := (0, 25, .agg #[.int .i64 t157, .int .i64 t158, .slice Ao31 t159.length co31])) 0 rfl rfl (hon 0 (by kernel_rfl)) rfl
   have e26 : a.tmps[26]? = some (.agg #[.int .i64 t174, .int .i64 t175, .int .i64 t176, .int .i64 t177, .int .i64 t178, .int .i64 t179, .int .i64 t180]) := by rw [ha]; exact putSel_on (e := (1, 26, .agg #[.int .i64 t174, .int .i64 t175, .int .i64 t176, .int .i64 t177, .int .i64 t178, .int .i64 t179, .int .i64 t180])) 1 rfl rfl (hon 1 (by kernel_rfl)) rfl
   replace ha := Aside0.mk ha
   have BK149 := Aside0.mk (Q_BK149 (hoff 8 (by kernel_rfl)))
   have BK173 := Aside0.mk Q_BK173
   have HB := Aside0.mk Q_HB
   have HO147 := Aside0.mk Q_HO147
   have HO161 := Aside0.mk Q_HO161
   refine goes_ Try.func14 (by kernel_rfl) rfl #[.agg #[.int .i64 t157, .int .i64 t158, .slice Ao31 t159.length co31], .int .i64 2, .agg #[.int .i64 t174, .int .i64 t175, .int .i64 t176, .int .i64 t177, .int .i64 t178, .int .i64 t179, .int .i64 t180]] (by rfl) rfl rfl (by first | (simp only [List.map_toArray, List.map_cons, List.map_nil, Act.eval, Array.getD_eq_getD_getElem?, Option.getD_some, e25, e26]; done) | (simp only [List.map_toArray, List.map_cons, List.map_nil, Act.eval, Array.getD_eq_getD_getElem?, Option.getD_some, e25, e26]; rfl)) ?_
   with_reducible refine (sender_Send.calls k t157 t158 _ _ t159 2 t174 t175 t176 t177 t178 t179 t180 t181 t182 t183 t186 t187 t188 t189 t190 t191 t192 t193 t194 t195 t196 _ ?side1 ?side2 A5.out).mono ?_
   (case side1 => repeat (first | exact (Kd.R_reads' HO161.out).2.2 | (with_reducible refine Kd.C_alloc ?_ _) | (with_reducible refine Kd.C_drewN ?_ _) | (with_reducible refine Kd.C_drew ?_)))
   (case side2 => exact (Kd.R_reads' HO161.out).2.1)
   rintro e w35 ⟨v184, rfl, ho0, hb⟩
   refine ⟨_, rfl, ?_⟩
   have n0_ := Aside0.mk (Kd.R_elder' (GS.rR HO147.out) (Kd.R_base ho0) hb)
   have n1_ := Aside0.mk (Kd.R_elder' (GS.rR HO161.out) (Kd.R_base ho0) hb)
   have n2_ := Aside0.mk (Kd.R_lower (Kd.R_newB (Kd.R_new' (Kd.R_new' ho0 (Kd.R_lt (GS.rR HO147.out))) (Kd.R_lt (GS.rR HO161.out))) (GS.bqX BK173.out)) (lqZ (GS.lB HB.out)))
   have n3_ := Aside0.mk (bqB (GS.bqX BK149.out) hb)
   have n4_ := Aside0.mk (bqB (GS.bqX BK173.out) hb)
   have n5_ := Aside0.mk (lqT (GS.lB HB.out) hb)
   have z_BK197 := fun (h0_ : b 7 = true) (h1_ : b 9 = false) => (show w35.heap[gb197]? = some (.cells #[.int .i64 0, .int .i64 0, .int .i64 0, .int .i64 0, .int .i64 0, .int .i64 0, .int .i64 0, .int .i64 0, .int .i64 0, .int .i64 0] 33 (0, 0)) from by first | exact (bqB (GS.bqX (Q_BK197 h0_ h1_)) hb))
   have z_HO147_e7 := fun (h0_ : b 7 = true) => (show Kd.R k33 33 w35 w.heap.size (fun k_ => some k_ ≠ (.slice Ao31 t159.length co31 : Value).ownBlock ∧ k_ ≠ gb173 ∧ k_ ≠ gb197) (.slice Ao10 t145.length co10) t145 from by first | exact (Kd.R_elder' (GS.rR (Q_HO147_e7 h0_)) (Kd.R_base ho0) hb) | exact Kd.R_mono (Kd.R_elder' (GS.rR (Q_HO147_e7 h0_)) (Kd.R_base ho0) hb) (fun _ hk => GS.cj hk))
   have z_HO161_e7 := fun (h0_ : b 7 = true) => (show Kd.R k33 33 w35 w.heap.size (fun k_ => some k_ ≠ (.slice Ao10 t145.length co10 : Value).ownBlock ∧ k_ ≠ gb173 ∧ k_ ≠ gb197) (.slice Ao31 t159.length co31) t159 from by first | exact (Kd.R_elder' (GS.rR (Q_HO161_e7 h0_)) (Kd.R_base ho0) hb) | exact Kd.R_mono (Kd.R_elder' (GS.rR (Q_HO161_e7 h0_)) (Kd.R_base ho0) hb) (fun _ hk => GS.cj hk))
   have z_HO185_p2_7 := fun (h0_ : up b 2 2 = true) (h1_ : up b 2 7 = true) => (show Kd.R k33 33 w35 w.heap.size (fun k_ => some k_ ≠ (.slice Ao10 t145.length co10 : Value).ownBlock ∧ some k_ ≠ (.slice Ao31 t159.length co31 : Value).ownBlock ∧ k_ ≠ gb173 ∧ k_ ≠ gb197) v184 t183 from (Kd.R_mono (Kd.R_lower (Kd.R_newB (Kd.R_newB (Kd.R_new' (Kd.R_new' ho0 (Kd.R_lt (GS.rR (Q_HO147_e7 h1_)))) (Kd.R_lt (GS.rR (Q_HO161_e7 h1_)))) (GS.bqX BK173.out)) (GS.bqX (Q_BK197 h1_ (hoff 9 (by kernel_rfl))))) (lqZ (by repeat (first | (with_reducible first | exact HB.out | apply lqA | apply lqN | apply lqD | refine lqS ?_ GE149.out | refine lqS ?_ GE173.out | refine lqS ?_ (Q_GE197 h1_)) | exact HB.out)))) (fun _ hk => GS.cj hk)))
   clear HO147
   clear HO161
   clear BK149
   clear BK173
   clear HB
   have HO147 := n0_
   have HO161 := n1_
   have HO185 := n2_
   have BK149 := n3_
   have BK173 := n4_
   have HB := n5_
   clear n0_ n1_ n2_ n3_ n4_ n5_
   (try clear hb)
   (try clear hb2)
   (try clear hk)
   (try clear hi)
   (try clear ho0)
   refine hK.out _ _ ⟨v184, gb197, (.tuple #[.agg #[.int .i64 t181, .int .i64 t182, v184], .agg #[.int .i64 t186, .int .i64 t187, .int .i64 t188, .int .i64 t189, .int .i64 t190, .int .i64 t191, .int .i64 t192, .int .i64 t193, .int .i64 t194, .int .i64 t195], .int .i64 t196]), m3_, m4_, m7_, (by rw [ha.out]; exact putSel_upk 2 hb_ rfl rfl rfl), fun _ => (GS.bqX BK149.out), (GS.bqX BK173.out), (GS.lB HB.out), z_BK197, Q_GW197, Q_GE197, Q_NB149_197, Q_NB197_149, Q_NB173_197, Q_NB197_173, fun h0_ => absurd ((hoff 8 (by kernel_rfl)).symm.trans h0_) (by decide), fun h0_ => absurd ((hoff 9 (by kernel_rfl)).symm.trans h0_) (by decide), (GS.rR (Kd.R_mono HO147.out (fun _ hk => GS.cj hk))), (GS.rR (Kd.R_mono HO161.out (fun _ hk => GS.cj hk))), fun _ => (GS.rR (Kd.R_mono HO185.out (fun _ hk => GS.cj hk))), z_HO147_e7, z_HO161_e7, z_HO185_p2_7, fun _ => rfl, fun h0_ => absurd ((hoff 3 (by kernel_rfl)).symm.trans h0_) (by decide), fun h0_ => absurd ((hoff 4 (by kernel_rfl)).symm.trans h0_) (by decide), Q_X7_⟩
  refine steps_cons ?_ ?_
  ·rintro b a w' ⟨v184, gb197, m2_, m3_, m4_, m7_, ha, Q_BK149, Q_BK173, Q_HB, Q_BK197, Q_GW197, Q_GE197, Q_NB149_197, Q_NB197_149, Q_NB173_197, Q_NB197_173, Q_BK149_e8, Q_BK197_e9, Q_HO147, Q_HO161, Q_HO185_e2, Q_HO147_e7, Q_HO161_e7, Q_HO185_p2_7, Q_X2_, Q_X3_, Q_X4_, Q_X7_⟩ hb_ hon hoff
   refine ⟨_, rfl, fun K hK => ?_⟩
   have e27 : a.tmps[27]? = some (m2_) := by rw [ha]; exact putSel_on (e := (2, 27, m2_)) 2 rfl rfl (hon 2 (by kernel_rfl)) rfl
   rw [Q_X2_ (hon 2 (by kernel_rfl))] at e27
   replace ha := Aside0.mk ha
   have BK149 := Aside0.mk (Q_BK149 (hoff 8 (by kernel_rfl)))
   have BK173 := Aside0.mk Q_BK173
   have HB := Aside0.mk Q_HB
   have HO147 := Aside0.mk Q_HO147
   have HO161 := Aside0.mk Q_HO161
   have HO185 := Aside0.mk (Q_HO185_e2 (hon 2 (by kernel_rfl)))
   refine value_ (w1 := w') (v := .tuple #[.agg #[.int .i64 t181, .int .i64 t182, v184], .agg #[.int .i64 t186, .int .i64 t187, .int .i64 t188, .int .i64 t189, .int .i64 t190, .int .i64 t191, .int .i64 t192, .int .i64 t193, .int .i64 t194, .int .i64 t195], .int .i64 t196]) (by rfl) rfl ?_ ?_
   ·go_simp
    (try simp only [i64_w])
    try rfl
   refine hK.out _ _ ⟨v184, gb197, m2_, (.tuple #[.agg #[.int .i64 t181, .int .i64 t182, v184], .agg #[.int .i64 t186, .int .i64 t187, .int .i64 t188, .int .i64 t189, .int .i64 t190, .int .i64 t191, .int .i64 t192, .int .i64 t193, .int .i64 t194, .int .i64 t195], .int .i64 t196]), m4_, m7_, (by rw [ha.out]; exact putSel_upk 3 hb_ rfl rfl rfl), Q_BK149, Q_BK173, Q_HB, Q_BK197, Q_GW197, Q_GE197, Q_NB149_197, Q_NB197_149, Q_NB173_197, Q_NB197_173, fun h0_ => absurd ((hoff 8 (by kernel_rfl)).symm.trans h0_) (by decide), fun h0_ => absurd ((hoff 9 (by kernel_rfl)).symm.trans h0_) (by decide), Q_HO147, Q_HO161, Q_HO185_e2, Q_HO147_e7, Q_HO161_e7, Q_HO185_p2_7, Q_X2_, fun _ => rfl, fun h0_ => absurd ((hoff 4 (by kernel_rfl)).symm.trans h0_) (by decide), Q_X7_⟩
  refine steps_cons ?_ ?_
  ·rintro b a w' ⟨v184, gb197, m2_, m3_, m4_, m7_, ha, Q_BK149, Q_BK173, Q_HB, Q_BK197, Q_GW197, Q_GE197, Q_NB149_197, Q_NB197_149, Q_NB173_197, Q_NB197_173, Q_BK149_e8, Q_BK197_e9, Q_HO147, Q_HO161, Q_HO185_e2, Q_HO147_e7, Q_HO161_e7, Q_HO185_p2_7, Q_X2_, Q_X3_, Q_X4_, Q_X7_⟩ hb_ hon hoff
   refine ⟨_, rfl, fun K hK => ?_⟩
   have e24 : a.tmps[24]? = some (m3_) := by rw [ha]; exact putSel_on (e := (3, 24, m3_)) 3 rfl rfl (hon 3 (by kernel_rfl)) rfl
   rw [Q_X3_ (hon 3 (by kernel_rfl))] at e24
   replace ha := Aside0.mk ha
   have BK149 := Aside0.mk (Q_BK149 (hoff 8 (by kernel_rfl)))
   have BK173 := Aside0.mk Q_BK173
   have HB := Aside0.mk Q_HB
   have HO147 := Aside0.mk Q_HO147
   have HO161 := Aside0.mk Q_HO161
   have HO185 := Aside0.mk (Q_HO185_e2 (hon 2 (by kernel_rfl)))
   refine value_ (w1 := w') (v := .agg #[.int .i64 t181, .int .i64 t182, v184]) (by rfl) rfl ?_ ?_
   ·go_simp
    (try simp only [i64_w])
    try rfl
   refine hK.out _ _ ⟨v184, gb197, m2_, m3_, (.agg #[.int .i64 t181, .int .i64 t182, v184]), m7_, (by rw [ha.out]; exact putSel_upk 4 hb_ rfl rfl rfl), Q_BK149, Q_BK173, Q_HB, Q_BK197, Q_GW197, Q_GE197, Q_NB149_197, Q_NB197_149, Q_NB173_197, Q_NB197_173, fun h0_ => absurd ((hoff 8 (by kernel_rfl)).symm.trans h0_) (by decide), fun h0_ => absurd ((hoff 9 (by kernel_rfl)).symm.trans h0_) (by decide), Q_HO147, Q_HO161, Q_HO185_e2, Q_HO147_e7, Q_HO161_e7, Q_HO185_p2_7, Q_X2_, Q_X3_, fun _ => rfl, Q_X7_⟩
  refine steps_cons ?_ ?_
  ·rintro b a w' ⟨v184, gb197, m2_, m3_, m4_, m7_, ha, Q_BK149, Q_BK173, Q_HB, Q_BK197, Q_GW197, Q_GE197, Q_NB149_197, Q_NB197_149, Q_NB173_197, Q_NB197_173, Q_BK149_e8, Q_BK197_e9, Q_HO147, Q_HO161, Q_HO185_e2, Q_HO147_e7, Q_HO161_e7, Q_HO185_p2_7, Q_X2_, Q_X3_, Q_X4_, Q_X7_⟩ hb_ hon hoff
   refine ⟨_, rfl, fun K hK => ?_⟩
   have e24 : a.tmps[24]? = some (m3_) := by rw [ha]; exact putSel_on (e := (3, 24, m3_)) 3 rfl rfl (hon 3 (by kernel_rfl)) rfl
   rw [Q_X3_ (hon 3 (by kernel_rfl))] at e24
   replace ha := Aside0.mk ha
   have BK173 := Aside0.mk Q_BK173
   have HB := Aside0.mk Q_HB
   have HO147 := Aside0.mk Q_HO147
   have HO161 := Aside0.mk Q_HO161
   have HO185 := Aside0.mk (Q_HO185_e2 (hon 2 (by kernel_rfl)))
   refine value_ (w1 := w') (v := .agg #[.int .i64 t186, .int .i64 t187, .int .i64 t188, .int .i64 t189, .int .i64 t190, .int .i64 t191, .int .i64 t192, .int .i64 t193, .int .i64 t194, .int .i64 t195]) (by rfl) rfl ?_ ?_
   ·go_simp
    (try simp only [i64_w])
    try rfl
   refine hK.out _ _ ⟨v184, gb197, m2_, m3_, m4_, m7_, (by rw [ha.out]; exact putSel_upk 5 hb_ rfl rfl rfl), Q_BK149, Q_BK173, Q_HB, Q_BK197, Q_GW197, Q_GE197, Q_NB149_197, Q_NB197_149, Q_NB173_197, Q_NB197_173, Q_BK149_e8, fun h0_ => absurd ((hoff 9 (by kernel_rfl)).symm.trans h0_) (by decide), Q_HO147, Q_HO161, Q_HO185_e2, Q_HO147_e7, Q_HO161_e7, Q_HO185_p2_7, Q_X2_, Q_X3_, Q_X4_, Q_X7_⟩
  refine steps_cons ?_ ?_
  ·rintro b a w' ⟨v184, gb197, m2_, m3_, m4_, m7_, ha, Q_BK149, Q_BK173, Q_HB, Q_BK197, Q_GW197, Q_GE197, Q_NB149_197, Q_NB197_149, Q_NB173_197, Q_NB197_173, Q_BK149_e8, Q_BK197_e9, Q_HO147, Q_HO161, Q_HO185_e2, Q_HO147_e7, Q_HO161_e7, Q_HO185_p2_7, Q_X2_, Q_X3_, Q_X4_, Q_X7_⟩ hb_ hon hoff
   refine ⟨_, rfl, fun K hK => ?_⟩
   have e24 : a.tmps[24]? = some (m3_) := by rw [ha]; exact putSel_on (e := (3, 24, m3_)) 3 rfl rfl (hon 3 (by kernel_rfl)) rfl
   rw [Q_X3_ (hon 3 (by kernel_rfl))] at e24
   replace ha := Aside0.mk ha
   have BK173 := Aside0.mk Q_BK173
   have HB := Aside0.mk Q_HB
   have HO147 := Aside0.mk Q_HO147
   have HO161 := Aside0.mk Q_HO161
   have HO185 := Aside0.mk (Q_HO185_e2 (hon 2 (by kernel_rfl)))
   refine value_ (w1 := w') (v := .int .i64 t196) (by rfl) rfl ?_ ?_
   ·go_simp
    (try simp only [i64_w])
    try rfl
   refine hK.out _ _ ⟨v184, gb197, m2_, m3_, m4_, m7_, (by rw [ha.out]; exact putSel_upk 6 hb_ rfl rfl rfl), Q_BK149, Q_BK173, Q_HB, Q_BK197, Q_GW197, Q_GE197, Q_NB149_197, Q_NB197_149, Q_NB173_197, Q_NB197_173, Q_BK149_e8, Q_BK197_e9, Q_HO147, Q_HO161, Q_HO185_e2, Q_HO147_e7, Q_HO161_e7, Q_HO185_p2_7, Q_X2_, Q_X3_, Q_X4_, Q_X7_⟩
  refine steps_cons ?_ ?_
  ·rintro b a w' ⟨v184, gb197, m2_, m3_, m4_, m7_, ha, Q_BK149, Q_BK173, Q_HB, Q_BK197, Q_GW197, Q_GE197, Q_NB149_197, Q_NB197_149, Q_NB173_197, Q_NB197_173, Q_BK149_e8, Q_BK197_e9, Q_HO147, Q_HO161, Q_HO185_e2, Q_HO147_e7, Q_HO161_e7, Q_HO185_p2_7, Q_X2_, Q_X3_, Q_X4_, Q_X7_⟩ hb_ hon hoff
   refine ⟨_, rfl, fun K hK => ?_⟩
   replace ha := Aside0.mk ha
   have BK149 := Aside0.mk (Q_BK149 (hoff 8 (by kernel_rfl)))
   have BK173 := Aside0.mk Q_BK173
   have HB := Aside0.mk Q_HB
   have HO147 := Aside0.mk Q_HO147
   have HO161 := Aside0.mk Q_HO161
   refine box_step ?hg (N := 5) ?hd (cs := #[.int .i64 0, .int .i64 0, .int .i64 0, .int .i64 0, .int .i64 0, .int .i64 0, .int .i64 0, .int .i64 0, .int .i64 0, .int .i64 0]) (t := 33) ?hr ?_; (case hd => rfl); (case hg => rfl); (case hr => first | (go_simp; done) | (go_simp; rfl))
   intro gb197 hg w33 hbox hb
   have n0_ := Aside0.mk (Kd.R_below (Kd.R_elderB (GS.rR HO147.out) gb197 (Nat.le_of_eq hg.symm)) hb)
   have n1_ := Aside0.mk (Kd.R_below (Kd.R_elderB (GS.rR HO161.out) gb197 (Nat.le_of_eq hg.symm)) hb)
   have n2_ := Aside0.mk (bqB (GS.bqX BK149.out) hb)
   have n3_ := Aside0.mk (bqB (GS.bqX BK173.out) hb)
   have n4_ := Aside0.mk (lqT (GS.lB HB.out) hb)
   have n5_ := Aside0.mk (hbox)
   have n6_ := Aside0.mk ((by rw [hg]; exact (lqZ (GS.lB HB.out)) : w.heap.size ≤ gb197))
   have n7_ := Aside0.mk ((by rw [hg]; exact (lqZ (GS.lB HB.out)) : w.heap.size ≤ gb197))
   have n8_ := Aside0.mk ((by rw [hg]; exact Nat.ne_of_lt (blk_lt (GS.bqX BK149.out)) : gb149 ≠ gb197))
   have n9_ := Aside0.mk ((by rw [hg]; exact Nat.ne_of_gt (blk_lt (GS.bqX BK149.out)) : gb197 ≠ gb149))
   have n10_ := Aside0.mk ((by rw [hg]; exact Nat.ne_of_lt (blk_lt (GS.bqX BK173.out)) : gb173 ≠ gb197))
   have n11_ := Aside0.mk ((by rw [hg]; exact Nat.ne_of_gt (blk_lt (GS.bqX BK173.out)) : gb197 ≠ gb173))
   have z_HO185_e2 := fun (h0_ : b 2 = true) => (show Kd.R k33 33 w33 w.heap.size (fun k_ => some k_ ≠ (.slice Ao10 t145.length co10 : Value).ownBlock ∧ some k_ ≠ (.slice Ao31 t159.length co31 : Value).ownBlock ∧ k_ ≠ gb173) v184 t183 from by first | exact (Kd.R_below (Kd.R_elderB (GS.rR (Q_HO185_e2 h0_)) gb197 (Nat.le_of_eq hg.symm)) hb) | exact Kd.R_mono (Kd.R_below (Kd.R_elderB (GS.rR (Q_HO185_e2 h0_)) gb197 (Nat.le_of_eq hg.symm)) hb) (fun _ hk => GS.cj hk))
   have z_HO185_p2_7 := fun (h0_ : up b 7 2 = true) (h1_ : up b 7 7 = true) => (show Kd.R k33 33 w33 w.heap.size (fun k_ => some k_ ≠ (.slice Ao10 t145.length co10 : Value).ownBlock ∧ some k_ ≠ (.slice Ao31 t159.length co31 : Value).ownBlock ∧ k_ ≠ gb173 ∧ k_ ≠ gb197) v184 t183 from (Kd.R_mono (Kd.R_below (Kd.R_elderB (GS.rR (Q_HO185_e2 h0_)) gb197 (Nat.le_of_eq hg.symm)) hb) (fun _ hk => GS.cj hk)))
   clear HO147
   clear HO161
   clear BK149
   clear BK173
   clear HB
   have HO147 := n0_
   have HO161 := n1_
   have BK149 := n2_
   have BK173 := n3_
   have HB := n4_
   have BK197 := n5_
   have GW197 := n6_
   have GE197 := n7_
   have NB149_197 := n8_
   have NB197_149 := n9_
   have NB173_197 := n10_
   have NB197_173 := n11_
   clear n0_ n1_ n2_ n3_ n4_ n5_ n6_ n7_ n8_ n9_ n10_ n11_
   clear hb hbox hg
   refine hK.out _ _ ⟨v184, gb197, m2_, m3_, m4_, (.pointer (some ⟨gb197, 0, none⟩)), (by rw [ha.out]; exact putSel_upk 7 hb_ rfl rfl rfl), fun _ => (GS.bqX BK149.out), (GS.bqX BK173.out), (GS.lB HB.out), fun _ _ => (GS.bqX BK197.out), fun _ => GW197.out, fun _ => GE197.out, fun _ => NB149_197.out, fun _ => NB197_149.out, fun _ => NB173_197.out, fun _ => NB197_173.out, fun h0_ => absurd ((hoff 8 (by kernel_rfl)).symm.trans h0_) (by decide), fun h0_ => absurd ((hoff 9 (by kernel_rfl)).symm.trans h0_) (by decide), Kd.R_mono ((by (with_reducible repeat (first | apply Kd.R_alloc | apply Kd.R_drewN | apply Kd.R_drew)); exact Kd.R_mono HO147.out (fun _ hk => hk))) (fun _ hk => GS.cj hk), Kd.R_mono ((by (with_reducible repeat (first | apply Kd.R_alloc | apply Kd.R_drewN | apply Kd.R_drew)); exact Kd.R_mono HO161.out (fun _ hk => hk))) (fun _ hk => GS.cj hk), z_HO185_e2, fun _ => (GS.rR (Kd.R_mono HO147.out (fun _ hk => GS.cj hk))), fun _ => (GS.rR (Kd.R_mono HO161.out (fun _ hk => GS.cj hk))), z_HO185_p2_7, Q_X2_, Q_X3_, Q_X4_, fun _ => rfl⟩
  refine steps_cons ?_ ?_
  ·rintro b a w' ⟨v184, gb197, m2_, m3_, m4_, m7_, ha, Q_BK149, Q_BK173, Q_HB, Q_BK197, Q_GW197, Q_GE197, Q_NB149_197, Q_NB197_149, Q_NB173_197, Q_NB197_173, Q_BK149_e8, Q_BK197_e9, Q_HO147, Q_HO161, Q_HO185_e2, Q_HO147_e7, Q_HO161_e7, Q_HO185_p2_7, Q_X2_, Q_X3_, Q_X4_, Q_X7_⟩ hb_ hon hoff
   refine ⟨_, rfl, fun K hK => ?_⟩
   have e1 : a.tmps[1]? = some (.pointer (some ⟨gb149, 0, none⟩)) := by rw [ha]; exact (putSel_off rfl).trans rfl
   have e28 : a.tmps[28]? = some (m4_) := by rw [ha]; exact putSel_on (e := (4, 28, m4_)) 4 rfl rfl (hon 4 (by kernel_rfl)) rfl
   rw [Q_X4_ (hon 4 (by kernel_rfl))] at e28
   replace ha := Aside0.mk ha
   have BK149 := Aside0.mk (Q_BK149 hb_)
   have BK173 := Aside0.mk Q_BK173
   have HB := Aside0.mk Q_HB
   have BK197 := Aside0.mk (Q_BK197 (hon 7 (by kernel_rfl)) (hoff 9 (by kernel_rfl)))
   have GW197 := Aside0.mk (Q_GW197 (hon 7 (by kernel_rfl)))
   have GE197 := Aside0.mk (Q_GE197 (hon 7 (by kernel_rfl)))
   have NB149_197 := Aside0.mk (Q_NB149_197 (hon 7 (by kernel_rfl)))
   have NB197_149 := Aside0.mk (Q_NB197_149 (hon 7 (by kernel_rfl)))
   have NB173_197 := Aside0.mk (Q_NB173_197 (hon 7 (by kernel_rfl)))
   have NB197_173 := Aside0.mk (Q_NB197_173 (hon 7 (by kernel_rfl)))
   have HO147 := Aside0.mk Q_HO147
   have HO161 := Aside0.mk Q_HO161
   have HO185 := Aside0.mk (Q_HO185_e2 (hon 2 (by kernel_rfl)))
   have HO147 := Aside0.mk (Q_HO147_e7 (hon 7 (by kernel_rfl)))
   have HO161 := Aside0.mk (Q_HO161_e7 (hon 7 (by kernel_rfl)))
   have HO185 := Aside0.mk (Q_HO185_p2_7 (hon 2 (by kernel_rfl)) (hon 7 (by kernel_rfl)))
   obtain ⟨Ao39, co39, eo39⟩ := Kd.R_slice HO185.out
   (first | subst eo39 | (injection eo39 with f1_ f2_ f3_; have f4_ := f1_.symm; have f5_ := f3_.symm; clear f1_ f2_ f3_; subst f4_; subst f5_))
   have hs37 : w'.cell? ⟨gb149, 0, none⟩ = some (.int .i64 t157) := (bqC BK149.out 0).trans rfl
   have hfs37 := bqF BK149.out 0
   have hns37_1 := NB173_149.out
   have hns37_2 := NB197_149.out
   have hms37_1 := NB149_173.out
   have hms37_2 := NB149_197.out
   have hs38 : w'.cell? ⟨gb149, 1, none⟩ = some (.int .i64 t158) := (bqC BK149.out 1).trans rfl
   have hfs38 := bqF BK149.out 1
   have hns38_1 := NB173_149.out
   have hns38_2 := NB197_149.out
   have hms38_1 := NB149_173.out
   have hms38_2 := NB149_197.out
   have hs40 : w'.cell? ⟨gb149, 2, none⟩ = some (.slice Ao31 t159.length co31) := (bqC BK149.out 2).trans rfl
   have hfs40 := bqF BK149.out 2
   have hns40_1 := NB173_149.out
   have hns40_2 := NB197_149.out
   have hms40_1 := NB149_173.out
   have hms40_2 := NB149_197.out
   refine skip_ (w1 := ?_) (by rfl) rfl ?_ ?_
   rotate_left
   ·go_simp
    rfl
   refine hK.out _ _ ⟨.slice Ao39 t183.length co39, gb197, m2_, m3_, m4_, m7_, (by rw [ha.out]; exact putSel_none (v := undef) rfl), fun h0_ => absurd ((up_self b 8).symm.trans h0_) (by decide), (GS.bqX BK173.out), (GS.lB HB.out), fun _ _ => (GS.bqX BK197.out), fun _ => GW197.out, fun _ => GE197.out, fun _ => NB149_197.out, fun _ => NB197_149.out, fun _ => NB173_197.out, fun _ => NB197_173.out, fun _ => (GS.bqZ BK149.out), fun h0_ => absurd ((hoff 9 (by kernel_rfl)).symm.trans h0_) (by decide), Kd.R_mono ((by (with_reducible repeat (first | apply Kd.R_alloc | apply Kd.R_drewN | apply Kd.R_drew)); exact Kd.R_mono (Kd.R_far (p := ⟨gb149, 2, none⟩) (Kd.R_far (p := ⟨gb149, 1, none⟩) (Kd.R_far (p := ⟨gb149, 0, none⟩) (Kd.R_types HO147.out BK149.out (by decide)) (fun _ hk => hk.2) (.int .i64 t181)) (fun _ hk => hk.2) (.int .i64 t182)) (fun _ hk => hk.2) (.slice Ao39 t183.length co39)) (fun _ hk => hk))) (fun _ hk => GS.cj hk), Kd.R_mono ((by (with_reducible repeat (first | apply Kd.R_alloc | apply Kd.R_drewN | apply Kd.R_drew)); exact Kd.R_mono (Kd.R_far (p := ⟨gb149, 2, none⟩) (Kd.R_far (p := ⟨gb149, 1, none⟩) (Kd.R_far (p := ⟨gb149, 0, none⟩) (Kd.R_types HO161.out BK149.out (by decide)) (fun _ hk => hk.2) (.int .i64 t181)) (fun _ hk => hk.2) (.int .i64 t182)) (fun _ hk => hk.2) (.slice Ao39 t183.length co39)) (fun _ hk => hk))) (fun _ hk => GS.cj hk), fun _ => Kd.R_mono ((by (with_reducible repeat (first | apply Kd.R_alloc | apply Kd.R_drewN | apply Kd.R_drew)); exact Kd.R_mono (Kd.R_far (p := ⟨gb149, 2, none⟩) (Kd.R_far (p := ⟨gb149, 1, none⟩) (Kd.R_far (p := ⟨gb149, 0, none⟩) (Kd.R_types HO185.out BK149.out (by decide)) (fun _ hk => hk.2) (.int .i64 t181)) (fun _ hk => hk.2) (.int .i64 t182)) (fun _ hk => hk.2) (.slice Ao39 t183.length co39)) (fun _ hk => hk))) (fun _ hk => GS.cj hk), fun _ => (by (with_reducible repeat (first | apply Kd.R_alloc | apply Kd.R_drewN | apply Kd.R_drew)); exact Kd.R_mono (Kd.R_far (p := ⟨gb149, 2, none⟩) (Kd.R_far (p := ⟨gb149, 1, none⟩) (Kd.R_far (p := ⟨gb149, 0, none⟩) (Kd.R_types HO147.out BK149.out (by decide)) (fun _ hk => hk.2) (.int .i64 t181)) (fun _ hk => hk.2) (.int .i64 t182)) (fun _ hk => hk.2) (.slice Ao39 t183.length co39)) (fun _ hk => GS.cj hk)), fun _ => (by (with_reducible repeat (first | apply Kd.R_alloc | apply Kd.R_drewN | apply Kd.R_drew)); exact Kd.R_mono (Kd.R_far (p := ⟨gb149, 2, none⟩) (Kd.R_far (p := ⟨gb149, 1, none⟩) (Kd.R_far (p := ⟨gb149, 0, none⟩) (Kd.R_types HO161.out BK149.out (by decide)) (fun _ hk => hk.2) (.int .i64 t181)) (fun _ hk => hk.2) (.int .i64 t182)) (fun _ hk => hk.2) (.slice Ao39 t183.length co39)) (fun _ hk => GS.cj hk)), fun _ _ => (by (with_reducible repeat (first | apply Kd.R_alloc | apply Kd.R_drewN | apply Kd.R_drew)); exact Kd.R_mono (Kd.R_far (p := ⟨gb149, 2, none⟩) (Kd.R_far (p := ⟨gb149, 1, none⟩) (Kd.R_far (p := ⟨gb149, 0, none⟩) (Kd.R_types HO185.out BK149.out (by decide)) (fun _ hk => hk.2) (.int .i64 t181)) (fun _ hk => hk.2) (.int .i64 t182)) (fun _ hk => hk.2) (.slice Ao39 t183.length co39)) (fun _ hk => GS.cj hk)), Q_X2_, Q_X3_, Q_X4_, Q_X7_⟩
  refine steps_cons ?_ ?_
  ·rintro b a w' ⟨v184, gb197, m2_, m3_, m4_, m7_, ha, Q_BK149, Q_BK173, Q_HB, Q_BK197, Q_GW197, Q_GE197, Q_NB149_197, Q_NB197_149, Q_NB173_197, Q_NB197_173, Q_BK149_e8, Q_BK197_e9, Q_HO147, Q_HO161, Q_HO185_e2, Q_HO147_e7, Q_HO161_e7, Q_HO185_p2_7, Q_X2_, Q_X3_, Q_X4_, Q_X7_⟩ hb_ hon hoff
   refine ⟨_, rfl, fun K hK => ?_⟩
   have e5 : a.tmps[5]? = some (m7_) := by rw [ha]; exact putSel_on (e := (7, 5, m7_)) 7 rfl rfl (hon 7 (by kernel_rfl)) rfl
   rw [Q_X7_ (hon 7 (by kernel_rfl))] at e5
   have e29 : a.tmps[29]? = some (.agg #[.int .i64 t186, .int .i64 t187, .int .i64 t188, .int .i64 t189, .int .i64 t190, .int .i64 t191, .int .i64 t192, .int .i64 t193, .int .i64 t194, .int .i64 t195]) := by rw [ha]; exact putSel_on (e := (5, 29, .agg #[.int .i64 t186, .int .i64 t187, .int .i64 t188, .int .i64 t189, .int .i64 t190, .int .i64 t191, .int .i64 t192, .int .i64 t193, .int .i64 t194, .int .i64 t195])) 5 rfl rfl (hon 5 (by kernel_rfl)) rfl
   replace ha := Aside0.mk ha
   have BK173 := Aside0.mk Q_BK173
   have HB := Aside0.mk Q_HB
   have BK197 := Aside0.mk (Q_BK197 (hon 7 (by kernel_rfl)) hb_)
   have GW197 := Aside0.mk (Q_GW197 (hon 7 (by kernel_rfl)))
   have GE197 := Aside0.mk (Q_GE197 (hon 7 (by kernel_rfl)))
   have NB149_197 := Aside0.mk (Q_NB149_197 (hon 7 (by kernel_rfl)))
   have NB197_149 := Aside0.mk (Q_NB197_149 (hon 7 (by kernel_rfl)))
   have NB173_197 := Aside0.mk (Q_NB173_197 (hon 7 (by kernel_rfl)))
   have NB197_173 := Aside0.mk (Q_NB197_173 (hon 7 (by kernel_rfl)))
   have BK149 := Aside0.mk (Q_BK149_e8 (hon 8 (by kernel_rfl)))
   have HO147 := Aside0.mk Q_HO147
   have HO161 := Aside0.mk Q_HO161
   have HO185 := Aside0.mk (Q_HO185_e2 (hon 2 (by kernel_rfl)))
   have HO147 := Aside0.mk (Q_HO147_e7 (hon 7 (by kernel_rfl)))
   have HO161 := Aside0.mk (Q_HO161_e7 (hon 7 (by kernel_rfl)))
   have HO185 := Aside0.mk (Q_HO185_p2_7 (hon 2 (by kernel_rfl)) (hon 7 (by kernel_rfl)))
   have hs41 : w'.cell? ⟨gb197, 0, none⟩ = some (.int .i64 0) := (bqC BK197.out 0).trans rfl
   have hfs41 := bqF BK197.out 0
   have hns41_0 := NB149_197.out
   have hns41_1 := NB173_197.out
   have hms41_0 := NB197_149.out
   have hms41_1 := NB197_173.out
   have hs42 : w'.cell? ⟨gb197, 1, none⟩ = some (.int .i64 0) := (bqC BK197.out 1).trans rfl
   have hfs42 := bqF BK197.out 1
   have hns42_0 := NB149_197.out
   have hns42_1 := NB173_197.out
   have hms42_0 := NB197_149.out
   have hms42_1 := NB197_173.out
   have hs43 : w'.cell? ⟨gb197, 2, none⟩ = some (.int .i64 0) := (bqC BK197.out 2).trans rfl
   have hfs43 := bqF BK197.out 2
   have hns43_0 := NB149_197.out
   have hns43_1 := NB173_197.out
   have hms43_0 := NB197_149.out
   have hms43_1 := NB197_173.out
   have hs44 : w'.cell? ⟨gb197, 3, none⟩ = some (.int .i64 0) := (bqC BK197.out 3).trans rfl
   have hfs44 := bqF BK197.out 3
   have hns44_0 := NB149_197.out
   have hns44_1 := NB173_197.out
   have hms44_0 := NB197_149.out
   have hms44_1 := NB197_173.out
   have hs45 : w'.cell? ⟨gb197, 4, none⟩ = some (.int .i64 0) := (bqC BK197.out 4).trans rfl
   have hfs45 := bqF BK197.out 4
   have hns45_0 := NB149_197.out
   have hns45_1 := NB173_197.out
   have hms45_0 := NB197_149.out
   have hms45_1 := NB197_173.out
   have hs46 : w'.cell? ⟨gb197, 5, none⟩ = some (.int .i64 0) := (bqC BK197.out 5).trans rfl
   have hfs46 := bqF BK197.out 5
   have hns46_0 := NB149_197.out
   have hns46_1 := NB173_197.out
   have hms46_0 := NB197_149.out
   have hms46_1 := NB197_173.out
   have hs47 : w'.cell? ⟨gb197, 6, none⟩ = some (.int .i64 0) := (bqC BK197.out 6).trans rfl
   have hfs47 := bqF BK197.out 6
   have hns47_0 := NB149_197.out
   have hns47_1 := NB173_197.out
   have hms47_0 := NB197_149.out
   have hms47_1 := NB197_173.out
   have hs48 : w'.cell? ⟨gb197, 7, none⟩ = some (.int .i64 0) := (bqC BK197.out 7).trans rfl
   have hfs48 := bqF BK197.out 7
   have hns48_0 := NB149_197.out
   have hns48_1 := NB173_197.out
   have hms48_0 := NB197_149.out
   have hms48_1 := NB197_173.out
   have hs49 : w'.cell? ⟨gb197, 8, none⟩ = some (.int .i64 0) := (bqC BK197.out 8).trans rfl
   have hfs49 := bqF BK197.out 8
   have hns49_0 := NB149_197.out
   have hns49_1 := NB173_197.out
   have hms49_0 := NB197_149.out
   have hms49_1 := NB197_173.out
   have hs50 : w'.cell? ⟨gb197, 9, none⟩ = some (.int .i64 0) := (bqC BK197.out 9).trans rfl
   have hfs50 := bqF BK197.out 9
   have hns50_0 := NB149_197.out
   have hns50_1 := NB173_197.out
   have hms50_0 := NB197_149.out
   have hms50_1 := NB197_173.out
   refine skip_ (w1 := ?_) (by rfl) rfl ?_ ?_
   rotate_left
   ·go_simp
    rfl
   refine hK.out _ _ ⟨v184, gb197, m2_, m3_, m4_, m7_, (by rw [ha.out]; exact putSel_none (v := undef) rfl), fun h0_ => absurd ((hon 8 (by kernel_rfl)).symm.trans h0_) (by decide), (GS.bqX BK173.out), (GS.lB HB.out), fun _ h1_ => absurd ((up_self b 9).symm.trans h1_) (by decide), fun _ => GW197.out, fun _ => GE197.out, fun _ => NB149_197.out, fun _ => NB197_149.out, fun _ => NB173_197.out, fun _ => NB197_173.out, fun _ => (GS.bqX BK149.out), fun _ => (GS.bqZ BK197.out), Kd.R_mono ((by (with_reducible repeat (first | apply Kd.R_alloc | apply Kd.R_drewN | apply Kd.R_drew)); exact Kd.R_mono (Kd.R_far (p := ⟨gb197, 9, none⟩) (Kd.R_far (p := ⟨gb197, 8, none⟩) (Kd.R_far (p := ⟨gb197, 7, none⟩) (Kd.R_far (p := ⟨gb197, 6, none⟩) (Kd.R_far (p := ⟨gb197, 5, none⟩) (Kd.R_far (p := ⟨gb197, 4, none⟩) (Kd.R_far (p := ⟨gb197, 3, none⟩) (Kd.R_far (p := ⟨gb197, 2, none⟩) (Kd.R_far (p := ⟨gb197, 1, none⟩) (Kd.R_far (p := ⟨gb197, 0, none⟩) (Kd.R_mono HO147.out (fun k_ hk => (⟨hk, GS.cj hk⟩ : _ ∧ k_ ≠ gb197))) (fun _ hk => hk.2) (.int .i64 t186)) (fun _ hk => hk.2) (.int .i64 t187)) (fun _ hk => hk.2) (.int .i64 t188)) (fun _ hk => hk.2) (.int .i64 t189)) (fun _ hk => hk.2) (.int .i64 t190)) (fun _ hk => hk.2) (.int .i64 t191)) (fun _ hk => hk.2) (.int .i64 t192)) (fun _ hk => hk.2) (.int .i64 t193)) (fun _ hk => hk.2) (.int .i64 t194)) (fun _ hk => hk.2) (.int .i64 t195)) (fun _ hk => hk))) (fun _ hk => GS.cj hk), Kd.R_mono ((by (with_reducible repeat (first | apply Kd.R_alloc | apply Kd.R_drewN | apply Kd.R_drew)); exact Kd.R_mono (Kd.R_far (p := ⟨gb197, 9, none⟩) (Kd.R_far (p := ⟨gb197, 8, none⟩) (Kd.R_far (p := ⟨gb197, 7, none⟩) (Kd.R_far (p := ⟨gb197, 6, none⟩) (Kd.R_far (p := ⟨gb197, 5, none⟩) (Kd.R_far (p := ⟨gb197, 4, none⟩) (Kd.R_far (p := ⟨gb197, 3, none⟩) (Kd.R_far (p := ⟨gb197, 2, none⟩) (Kd.R_far (p := ⟨gb197, 1, none⟩) (Kd.R_far (p := ⟨gb197, 0, none⟩) (Kd.R_mono HO161.out (fun k_ hk => (⟨hk, GS.cj hk⟩ : _ ∧ k_ ≠ gb197))) (fun _ hk => hk.2) (.int .i64 t186)) (fun _ hk => hk.2) (.int .i64 t187)) (fun _ hk => hk.2) (.int .i64 t188)) (fun _ hk => hk.2) (.int .i64 t189)) (fun _ hk => hk.2) (.int .i64 t190)) (fun _ hk => hk.2) (.int .i64 t191)) (fun _ hk => hk.2) (.int .i64 t192)) (fun _ hk => hk.2) (.int .i64 t193)) (fun _ hk => hk.2) (.int .i64 t194)) (fun _ hk => hk.2) (.int .i64 t195)) (fun _ hk => hk))) (fun _ hk => GS.cj hk), fun _ => Kd.R_mono ((by (with_reducible repeat (first | apply Kd.R_alloc | apply Kd.R_drewN | apply Kd.R_drew)); exact Kd.R_mono (Kd.R_far (p := ⟨gb197, 9, none⟩) (Kd.R_far (p := ⟨gb197, 8, none⟩) (Kd.R_far (p := ⟨gb197, 7, none⟩) (Kd.R_far (p := ⟨gb197, 6, none⟩) (Kd.R_far (p := ⟨gb197, 5, none⟩) (Kd.R_far (p := ⟨gb197, 4, none⟩) (Kd.R_far (p := ⟨gb197, 3, none⟩) (Kd.R_far (p := ⟨gb197, 2, none⟩) (Kd.R_far (p := ⟨gb197, 1, none⟩) (Kd.R_far (p := ⟨gb197, 0, none⟩) (Kd.R_mono HO185.out (fun k_ hk => (⟨hk, GS.cj hk⟩ : _ ∧ k_ ≠ gb197))) (fun _ hk => hk.2) (.int .i64 t186)) (fun _ hk => hk.2) (.int .i64 t187)) (fun _ hk => hk.2) (.int .i64 t188)) (fun _ hk => hk.2) (.int .i64 t189)) (fun _ hk => hk.2) (.int .i64 t190)) (fun _ hk => hk.2) (.int .i64 t191)) (fun _ hk => hk.2) (.int .i64 t192)) (fun _ hk => hk.2) (.int .i64 t193)) (fun _ hk => hk.2) (.int .i64 t194)) (fun _ hk => hk.2) (.int .i64 t195)) (fun _ hk => hk))) (fun _ hk => GS.cj hk), fun _ => (by (with_reducible repeat (first | apply Kd.R_alloc | apply Kd.R_drewN | apply Kd.R_drew)); exact Kd.R_mono (Kd.R_far (p := ⟨gb197, 9, none⟩) (Kd.R_far (p := ⟨gb197, 8, none⟩) (Kd.R_far (p := ⟨gb197, 7, none⟩) (Kd.R_far (p := ⟨gb197, 6, none⟩) (Kd.R_far (p := ⟨gb197, 5, none⟩) (Kd.R_far (p := ⟨gb197, 4, none⟩) (Kd.R_far (p := ⟨gb197, 3, none⟩) (Kd.R_far (p := ⟨gb197, 2, none⟩) (Kd.R_far (p := ⟨gb197, 1, none⟩) (Kd.R_far (p := ⟨gb197, 0, none⟩) (Kd.R_mono HO147.out (fun k_ hk => (⟨hk, GS.cj hk⟩ : _ ∧ k_ ≠ gb197))) (fun _ hk => hk.2) (.int .i64 t186)) (fun _ hk => hk.2) (.int .i64 t187)) (fun _ hk => hk.2) (.int .i64 t188)) (fun _ hk => hk.2) (.int .i64 t189)) (fun _ hk => hk.2) (.int .i64 t190)) (fun _ hk => hk.2) (.int .i64 t191)) (fun _ hk => hk.2) (.int .i64 t192)) (fun _ hk => hk.2) (.int .i64 t193)) (fun _ hk => hk.2) (.int .i64 t194)) (fun _ hk => hk.2) (.int .i64 t195)) (fun _ hk => GS.cj hk)), fun _ => (by (with_reducible repeat (first | apply Kd.R_alloc | apply Kd.R_drewN | apply Kd.R_drew)); exact Kd.R_mono (Kd.R_far (p := ⟨gb197, 9, none⟩) (Kd.R_far (p := ⟨gb197, 8, none⟩) (Kd.R_far (p := ⟨gb197, 7, none⟩) (Kd.R_far (p := ⟨gb197, 6, none⟩) (Kd.R_far (p := ⟨gb197, 5, none⟩) (Kd.R_far (p := ⟨gb197, 4, none⟩) (Kd.R_far (p := ⟨gb197, 3, none⟩) (Kd.R_far (p := ⟨gb197, 2, none⟩) (Kd.R_far (p := ⟨gb197, 1, none⟩) (Kd.R_far (p := ⟨gb197, 0, none⟩) (Kd.R_mono HO161.out (fun k_ hk => (⟨hk, GS.cj hk⟩ : _ ∧ k_ ≠ gb197))) (fun _ hk => hk.2) (.int .i64 t186)) (fun _ hk => hk.2) (.int .i64 t187)) (fun _ hk => hk.2) (.int .i64 t188)) (fun _ hk => hk.2) (.int .i64 t189)) (fun _ hk => hk.2) (.int .i64 t190)) (fun _ hk => hk.2) (.int .i64 t191)) (fun _ hk => hk.2) (.int .i64 t192)) (fun _ hk => hk.2) (.int .i64 t193)) (fun _ hk => hk.2) (.int .i64 t194)) (fun _ hk => hk.2) (.int .i64 t195)) (fun _ hk => GS.cj hk)), fun _ _ => (by (with_reducible repeat (first | apply Kd.R_alloc | apply Kd.R_drewN | apply Kd.R_drew)); exact Kd.R_mono (Kd.R_far (p := ⟨gb197, 9, none⟩) (Kd.R_far (p := ⟨gb197, 8, none⟩) (Kd.R_far (p := ⟨gb197, 7, none⟩) (Kd.R_far (p := ⟨gb197, 6, none⟩) (Kd.R_far (p := ⟨gb197, 5, none⟩) (Kd.R_far (p := ⟨gb197, 4, none⟩) (Kd.R_far (p := ⟨gb197, 3, none⟩) (Kd.R_far (p := ⟨gb197, 2, none⟩) (Kd.R_far (p := ⟨gb197, 1, none⟩) (Kd.R_far (p := ⟨gb197, 0, none⟩) (Kd.R_mono HO185.out (fun k_ hk => (⟨hk, GS.cj hk⟩ : _ ∧ k_ ≠ gb197))) (fun _ hk => hk.2) (.int .i64 t186)) (fun _ hk => hk.2) (.int .i64 t187)) (fun _ hk => hk.2) (.int .i64 t188)) (fun _ hk => hk.2) (.int .i64 t189)) (fun _ hk => hk.2) (.int .i64 t190)) (fun _ hk => hk.2) (.int .i64 t191)) (fun _ hk => hk.2) (.int .i64 t192)) (fun _ hk => hk.2) (.int .i64 t193)) (fun _ hk => hk.2) (.int .i64 t194)) (fun _ hk => hk.2) (.int .i64 t195)) (fun _ hk => GS.cj hk)), Q_X2_, Q_X3_, Q_X4_, Q_X7_⟩
  refine steps_cons ?_ ?_
  ·rintro b a w' ⟨v184, gb197, m2_, m3_, m4_, m7_, ha, Q_BK149, Q_BK173, Q_HB, Q_BK197, Q_GW197, Q_GE197, Q_NB149_197, Q_NB197_149, Q_NB173_197, Q_NB197_173, Q_BK149_e8, Q_BK197_e9, Q_HO147, Q_HO161, Q_HO185_e2, Q_HO147_e7, Q_HO161_e7, Q_HO185_p2_7, Q_X2_, Q_X3_, Q_X4_, Q_X7_⟩ hb_ hon hoff
   refine ⟨_, rfl, fun K hK => ?_⟩
   have e30 : a.tmps[30]? = some (.int .i64 t196) := by rw [ha]; exact putSel_on (e := (6, 30, .int .i64 t196)) 6 rfl rfl (hon 6 (by kernel_rfl)) rfl
   replace ha := Aside0.mk ha
   have BK173 := Aside0.mk Q_BK173
   have HB := Aside0.mk Q_HB
   have GW197 := Aside0.mk (Q_GW197 (hon 7 (by kernel_rfl)))
   have GE197 := Aside0.mk (Q_GE197 (hon 7 (by kernel_rfl)))
   have NB149_197 := Aside0.mk (Q_NB149_197 (hon 7 (by kernel_rfl)))
   have NB197_149 := Aside0.mk (Q_NB197_149 (hon 7 (by kernel_rfl)))
   have NB173_197 := Aside0.mk (Q_NB173_197 (hon 7 (by kernel_rfl)))
   have NB197_173 := Aside0.mk (Q_NB197_173 (hon 7 (by kernel_rfl)))
   have BK149 := Aside0.mk (Q_BK149_e8 (hon 8 (by kernel_rfl)))
   have BK197 := Aside0.mk (Q_BK197_e9 (hon 9 (by kernel_rfl)))
   have HO147 := Aside0.mk Q_HO147
   have HO161 := Aside0.mk Q_HO161
   have HO185 := Aside0.mk (Q_HO185_e2 (hon 2 (by kernel_rfl)))
   have HO147 := Aside0.mk (Q_HO147_e7 (hon 7 (by kernel_rfl)))
   have HO161 := Aside0.mk (Q_HO161_e7 (hon 7 (by kernel_rfl)))
   have HO185 := Aside0.mk (Q_HO185_p2_7 (hon 2 (by kernel_rfl)) (hon 7 (by kernel_rfl)))
   refine value_ (w1 := w') (v := .int .i64 t196) (by rfl) rfl ?_ ?_
   ·go_simp
    (try simp only [i64_w])
    try rfl
   refine hK.out _ _ ⟨v184, gb197, m2_, m3_, m4_, m7_, (by rw [ha.out]; exact putSel_upk 8 hb_ rfl rfl rfl), fun h0_ => absurd ((hon 8 (by kernel_rfl)).symm.trans h0_) (by decide), Q_BK173, Q_HB, fun _ h1_ => absurd ((hon 9 (by kernel_rfl)).symm.trans h1_) (by decide), Q_GW197, Q_GE197, Q_NB149_197, Q_NB197_149, Q_NB173_197, Q_NB197_173, Q_BK149_e8, Q_BK197_e9, Q_HO147, Q_HO161, Q_HO185_e2, Q_HO147_e7, Q_HO161_e7, Q_HO185_p2_7, Q_X2_, Q_X3_, Q_X4_, Q_X7_⟩
  exact steps_nil
 rintro b a w50 hall ⟨v184, gb197, m2_, m3_, m4_, m7_, ha, Q_BK149, Q_BK173, Q_HB, Q_BK197, Q_GW197, Q_GE197, Q_NB149_197, Q_NB197_149, Q_NB173_197, Q_NB197_173, Q_BK149_e8, Q_BK197_e9, Q_HO147, Q_HO161, Q_HO185_e2, Q_HO147_e7, Q_HO161_e7, Q_HO185_p2_7, Q_X2_, Q_X3_, Q_X4_, Q_X7_⟩
 clear BK149 BK173 HB HO147 HO161
 have hb0_ := hall 0 (by kernel_rfl)
 have hb1_ := hall 1 (by kernel_rfl)
 have hb2_ := hall 2 (by kernel_rfl)
 have hb3_ := hall 3 (by kernel_rfl)
 have hb4_ := hall 4 (by kernel_rfl)
 have hb5_ := hall 5 (by kernel_rfl)
 have hb6_ := hall 6 (by kernel_rfl)
 have hb7_ := hall 7 (by kernel_rfl)
 have hb8_ := hall 8 (by kernel_rfl)
 have hb9_ := hall 9 (by kernel_rfl)
 have hb10_ := hall 10 (by kernel_rfl)
 subst ha
 obtain rfl := Q_X2_ hb2_
 obtain rfl := Q_X3_ hb3_
 obtain rfl := Q_X4_ hb4_
 obtain rfl := Q_X7_ hb7_
 simp only [putSel, hb0_, hb1_, hb2_, hb3_, hb4_, hb5_, hb6_, hb7_, hb8_, hb9_, hb10_, if_true, Act.put, List.setIfInBounds_toArray, List.set_cons_zero, List.set_cons_succ]
 clear Q_BK149
 have BK173 := Aside0.mk Q_BK173
 clear Q_BK173
 have HB := Aside0.mk Q_HB
 clear Q_HB
 clear Q_BK197
 have GW197 := Aside0.mk (Q_GW197 hb7_)
 clear Q_GW197
 have GE197 := Aside0.mk (Q_GE197 hb7_)
 clear Q_GE197
 have NB149_197 := Aside0.mk (Q_NB149_197 hb7_)
 clear Q_NB149_197
 have NB197_149 := Aside0.mk (Q_NB197_149 hb7_)
 clear Q_NB197_149
 have NB173_197 := Aside0.mk (Q_NB173_197 hb7_)
 clear Q_NB173_197
 have NB197_173 := Aside0.mk (Q_NB197_173 hb7_)
 clear Q_NB197_173
 have BK149 := Aside0.mk (Q_BK149_e8 hb8_)
 clear Q_BK149_e8
 have BK197 := Aside0.mk (Q_BK197_e9 hb9_)
 clear Q_BK197_e9
 have HO147 := Aside0.mk Q_HO147
 clear Q_HO147
 have HO161 := Aside0.mk Q_HO161
 clear Q_HO161
 have HO185 := Aside0.mk (Q_HO185_e2 hb2_)
 clear Q_HO185_e2
 have HO147 := Aside0.mk (Q_HO147_e7 hb7_)
 clear Q_HO147_e7
 have HO161 := Aside0.mk (Q_HO161_e7 hb7_)
 clear Q_HO161_e7
 have HO185 := Aside0.mk (Q_HO185_p2_7 hb2_ hb7_)
 clear Q_HO185_p2_7
 clear hall hb0_ hb1_ hb2_ hb3_ hb4_ hb5_ hb6_ hb7_ hb8_ hb9_ hb10_
 go_upto_region 4 with (fail)
 go_cut [51] (fun v51 wc => ∃ (kq : Nat) (x51_5 : Bool), v51 = .bool x51_5 ∧ Aside0 (spilelaw42_awake.j0 kq x51_5 t181 t182 t183 t186 t187 t188 t189 t190 t191 t192 t193 t194 t195 = some r) ∧ Aside0 (kq ≤ k) ∧ Aside0 (Kd.R k33 33 wc w.heap.size (fun k_ => k_ ≠ gb173 ∧ k_ ≠ gb197) v184 t183) ∧ Aside0 (wc.heap[gb149]? = some (.cells #[.int .i64 t181, .int .i64 t182, v184] 24 (0, 0))) ∧ Aside0 (wc.heap[gb173]? = some (.cells #[.int .i64 t162, .int .i64 t163, .int .i64 t164, .int .i64 t165, .int .i64 t166, .int .i64 t167, .int .i64 t168, .int .i64 t169, .int .i64 t170, .int .i64 t171] 33 (0, 0))) ∧ Aside0 (wc.heap[gb197]? = some (.cells #[.int .i64 t186, .int .i64 t187, .int .i64 t188, .int .i64 t189, .int .i64 t190, .int .i64 t191, .int .i64 t192, .int .i64 t193, .int .i64 t194, .int .i64 t195] 33 (0, 0))) ∧ Aside0 (Below w.heap.size w wc))
 case first =>
  have H := HC6.out
  clear HC6
  by_cases c51 : (wrap64 ((wrap64 (t148 + t172)) + t196)) = 0
  ·rw [if_pos c51] at H
   have c51b0 : ((wrap64 ((wrap64 (t148 + t172)) + t196)) == 0) = true := beq_iff_eq.mpr c51
   try simp only [beq_self_eq_true, Bool.not_true, Bool.false_or, Bool.true_and] at c51b0
   have c51b1 : ((wrap64 ((wrap64 (t148 + t172)) + t196)) != 0) = false := bne_eq_false_iff_eq.mpr c51
   clear c51
   (first | rw [c51b0] | (simp only [i64_w, i32_w]; rw [c51b0]) | skip)
   by_cases c52 : t182 = 3
   ·rw [if_pos c52] at H
    have c52b0 : (t182 == 3) = true := beq_iff_eq.mpr c52
    try simp only [beq_self_eq_true, Bool.not_true, Bool.false_or, Bool.true_and] at c52b0
    have c52b1 : (t182 != 3) = false := bne_eq_false_iff_eq.mpr c52
    clear c52
    by_cases c53 : t164 = 1
    ·rw [if_pos c53] at H
     have c53b0 : (t164 == 1) = true := beq_iff_eq.mpr c53
     try simp only [beq_self_eq_true, Bool.not_true, Bool.false_or, Bool.true_and] at c53b0
     have c53b1 : (t164 != 1) = false := bne_eq_false_iff_eq.mpr c53
     clear c53
     have H' := Aside0.mk H
     clear H
     have hnb54 := NB149_173.out
     have hnc54 := NB173_149.out
     have hnb55 := NB149_197.out
     have hnc55 := NB197_149.out
     obtain ⟨hcz56_0, hcz56_1, hcz56_2, hfz56_0, hfz56_1, hfz56_2⟩ := GS.c3 BK149.out
     have hnb57 := NB173_197.out
     have hnc57 := NB197_173.out
     obtain ⟨hcz58_0, hcz58_1, hcz58_2, hcz58_3, hcz58_4, hcz58_5, hcz58_6, hcz58_7, hcz58_8, hcz58_9, hfz58_0, hfz58_1, hfz58_2, hfz58_3, hfz58_4, hfz58_5, hfz58_6, hfz58_7, hfz58_8, hfz58_9⟩ := GS.c10 BK173.out
     obtain ⟨hcz59_0, hcz59_1, hcz59_2, hcz59_3, hcz59_4, hcz59_5, hcz59_6, hcz59_7, hcz59_8, hcz59_9, hfz59_0, hfz59_1, hfz59_2, hfz59_3, hfz59_4, hfz59_5, hfz59_6, hfz59_7, hfz59_8, hfz59_9⟩ := GS.c10 BK197.out
     go_wp2
     go_meet
     case rel => exact ⟨_, ((t188 != 2)), (by first | rfl | (simp; done) | (simp [*]; done)), H', ⟨by first | omega | exact Nat.le_refl _⟩, ⟨by (with_reducible repeat (first | apply Kd.R_alloc | apply Kd.R_drewN | apply Kd.R_drew)); exact Kd.R_mono HO185.out (fun _ hk => GS.cj hk)⟩, ⟨GS.bqX BK149.out⟩, ⟨GS.bqX BK173.out⟩, ⟨GS.bqX BK197.out⟩, ⟨GS.lB HB.out⟩⟩
    ·rw [if_neg c53] at H
     exact absurd H (by simp)
   ·rw [if_neg c52] at H
    exact absurd H (by simp)
  ·rw [if_neg c51] at H
   exact absurd H (by simp)
 case rest =>
  clear HC6
  try clear c1
  try clear c2
  try clear p2
  try clear c5
  try clear p6
  try clear c14
  try clear c25
  try clear c51
  try clear c51b0
  try clear c51b1
  try clear c52
  try clear c52b0
  try clear c52b1
  try clear c53
  try clear c53b0
  try clear c53b1
  try clear c54
  try clear c55
  try clear c57
  try clear hcz56_0
  try clear hcz56_1
  try clear hcz56_2
  try clear hcz58_0
  try clear hcz58_1
  try clear hcz58_2
  try clear hcz58_3
  try clear hcz58_4
  try clear hcz58_5
  try clear hcz58_6
  try clear hcz58_7
  try clear hcz58_8
  try clear hcz58_9
  try clear hcz59_0
  try clear hcz59_1
  try clear hcz59_2
  try clear hcz59_3
  try clear hcz59_4
  try clear hcz59_5
  try clear hcz59_6
  try clear hcz59_7
  try clear hcz59_8
  try clear hcz59_9
  try clear hfz56_0
  try clear hfz56_1
  try clear hfz56_2
  try clear hfz58_0
  try clear hfz58_1
  try clear hfz58_2
  try clear hfz58_3
  try clear hfz58_4
  try clear hfz58_5
  try clear hfz58_6
  try clear hfz58_7
  try clear hfz58_8
  try clear hfz58_9
  try clear hfz59_0
  try clear hfz59_1
  try clear hfz59_2
  try clear hfz59_3
  try clear hfz59_4
  try clear hfz59_5
  try clear hfz59_6
  try clear hfz59_7
  try clear hfz59_8
  try clear hfz59_9
  obtain ⟨kq, x51_5, rfl, HA, HJ5, HO_150002, BK149, BK173, BK197, HB⟩ := hcut
  cases kq with
  | zero => exact absurd HA.out (by simp [spilelaw42_awake.j0])
  | succ kj5 =>
   have H := HA.out
   clear HA
   simp only [spilelaw42_awake.j0] at H
   by_cases c60 : x51_5 = true
   ·subst c60
    have H1 : (none) = some r := by rw [if_pos rfl] at H; exact H
    clear H
    have H := H1
    clear H1
    exact absurd H (by simp)
   ·replace c60 := Bool.eq_false_iff.mpr c60
    subst c60
    have H1 : ((sender_Heard.f kj5 t181 t182 t183 1 1).bind fun bt198 => ((sender_Again.f kj5 bt198.1 bt198.2.1 bt198.2.2.1 2).bind fun bt205 => ((sender_Heard.f kj5 t181 t182 t183 1 3).bind fun bt209 => ((api_Envelope_20.f kj5 bt205.1 (([(⟨t186, t187, t188, (⟨t189, t190, t191, t192, t193, t194, t195⟩ : S26)⟩ : S33)] : List (S33)))).bind fun t219 => (if t219 = true then (if bt209.2.2.2 = 2 then ((sender_Check.f kj5 bt198.1 bt198.2.1 bt198.2.2.1).bind fun t220 => (if t220 = 0 then (some ((wrap64 (bt198.2.2.2 + bt205.2)) == 0)) else (none))) else (none)) else (none)))))) = some r := by rw [if_neg (show ¬ (false = true) by decide)] at H; exact H
    clear H
    have H := H1
    clear H1
    replace H := Option.bind_eq_some_iff.mp H
    obtain ⟨⟨t198, t199, t200, t203⟩, A610, H⟩ := H
    replace H : ((sender_Again.f kj5 t198 t199 t200 2).bind fun bt205 => ((sender_Heard.f kj5 t181 t182 t183 1 3).bind fun bt209 => ((api_Envelope_20.f kj5 bt205.1 (([(⟨t186, t187, t188, (⟨t189, t190, t191, t192, t193, t194, t195⟩ : S26)⟩ : S33)] : List (S33)))).bind fun t219 => (if t219 = true then (if bt209.2.2.2 = 2 then ((sender_Check.f kj5 t198 t199 t200).bind fun t220 => (if t220 = 0 then (some ((wrap64 (t203 + bt205.2)) == 0)) else (none))) else (none)) else (none))))) = some r := H
    have A61 := Aside0.mk A610
    clear A610
    replace H := Option.bind_eq_some_iff.mp H
    obtain ⟨⟨t205, t208⟩, A620, H⟩ := H
    replace H : ((sender_Heard.f kj5 t181 t182 t183 1 3).bind fun bt209 => ((api_Envelope_20.f kj5 t205 (([(⟨t186, t187, t188, (⟨t189, t190, t191, t192, t193, t194, t195⟩ : S26)⟩ : S33)] : List (S33)))).bind fun t219 => (if t219 = true then (if bt209.2.2.2 = 2 then ((sender_Check.f kj5 t198 t199 t200).bind fun t220 => (if t220 = 0 then (some ((wrap64 (t203 + t208)) == 0)) else (none))) else (none)) else (none)))) = some r := H
    have A62 := Aside0.mk A620
    clear A620
    replace H := Option.bind_eq_some_iff.mp H
    obtain ⟨⟨t209, t210, t211, t214⟩, A630, H⟩ := H
    replace H : ((api_Envelope_20.f kj5 t205 (([(⟨t186, t187, t188, (⟨t189, t190, t191, t192, t193, t194, t195⟩ : S26)⟩ : S33)] : List (S33)))).bind fun t219 => (if t219 = true then (if t214 = 2 then ((sender_Check.f kj5 t198 t199 t200).bind fun t220 => (if t220 = 0 then (some ((wrap64 (t203 + t208)) == 0)) else (none))) else (none)) else (none))) = some r := H
    have A63 := Aside0.mk A630
    clear A630
    obtain ⟨y216, hy216⟩ : ∃ y_ : List (S33), y_ = (([(⟨t186, t187, t188, (⟨t189, t190, t191, t192, t193, t194, t195⟩ : S26)⟩ : S33)] : List (S33))) := ⟨_, rfl⟩
    replace H : ((api_Envelope_20.f kj5 t205 y216).bind fun t219 => (if t219 = true then (if t214 = 2 then ((sender_Check.f kj5 t198 t199 t200).bind fun t220 => (if t220 = 0 then (some ((wrap64 (t203 + t208)) == 0)) else (none))) else (none)) else (none))) = some r := by first | (rw [hy216]; with_reducible exact H) | (have H2_ := (Option.bind_some _ _).symm.trans H; rw [hy216]; with_reducible exact H2_) | (have H2_ := (Option.bind_some _ _).symm.trans H; with_reducible exact H2_) | with_reducible exact H | (rw [hy216]; exact H) | exact H
    have Ny216 := Aside0.mk hy216
    clear hy216
    replace H := Option.bind_eq_some_iff.mp H
    obtain ⟨t219, A640, H⟩ := H
    replace H : (if t219 = true then (if t214 = 2 then ((sender_Check.f kj5 t198 t199 t200).bind fun t220 => (if t220 = 0 then (some ((wrap64 (t203 + t208)) == 0)) else (none))) else (none)) else (none)) = some r := H
    have A64 := Aside0.mk A640
    clear A640
    by_cases c65 : t219 = true
    ·subst c65
     have H1 : (if t214 = 2 then ((sender_Check.f kj5 t198 t199 t200).bind fun t220 => (if t220 = 0 then (some ((wrap64 (t203 + t208)) == 0)) else (none))) else (none)) = some r := by rw [if_pos rfl] at H; exact H
     clear H
     have H := H1
     clear H1
     by_cases c66 : t214 = 2
     ·rw [if_pos c66] at H
      have c66b0 : (t214 == 2) = true := beq_iff_eq.mpr c66
      try simp only [beq_self_eq_true, Bool.not_true, Bool.false_or, Bool.true_and] at c66b0
      have c66b1 : (t214 != 2) = false := bne_eq_false_iff_eq.mpr c66
      clear c66
      replace H := Option.bind_eq_some_iff.mp H
      obtain ⟨t220, A670, H⟩ := H
      replace H : (if t220 = 0 then (some ((wrap64 (t203 + t208)) == 0)) else (none)) = some r := H
      have A67 := Aside0.mk A670
      clear A670
      by_cases c68 : t220 = 0
      ·rw [if_pos c68] at H
       have c68b0 : (t220 == 0) = true := beq_iff_eq.mpr c68
       try simp only [beq_self_eq_true, Bool.not_true, Bool.false_or, Bool.true_and] at c68b0
       have c68b1 : (t220 != 0) = false := bne_eq_false_iff_eq.mpr c68
       clear c68
       obtain rfl := Option.some.inj H
       have hnb69 := NB149_173.out
       have hnc69 := NB173_149.out
       have hnb70 := NB149_197.out
       have hnc70 := NB197_149.out
       obtain ⟨hcz71_0, hcz71_1, hcz71_2, hfz71_0, hfz71_1, hfz71_2⟩ := GS.c3 BK149.out
       obtain ⟨Ao72, co72, eo72⟩ := Kd.R_slice HO_150002.out
       subst eo72
       go_wp2_with (first | ((with_reducible refine gqC (f := 22) rfl ?_); refine GS.gL (some 55) Try.func22 #[.agg #[.int .i64 t181, .int .i64 t182, .slice Ao72 t183.length co72], .agg #[.int .i64 1, .int .i64 1]] ?_; (with_reducible refine (sender_Heard.calls kj5 t181 t182 _ _ t183 1 1 t198 t199 t200 t203 _ ?side1 ?side2 A61.out).mono ?_); (case side1 => repeat (first | exact (Kd.R_reads' HO_150002.out).2.2 | (with_reducible refine Kd.C_alloc ?_ _) | (with_reducible refine Kd.C_drewN ?_ _) | (with_reducible refine Kd.C_drew ?_))); (case side2 => exact (Kd.R_reads' HO_150002.out).2.1); rintro e w73 ⟨v201, rfl, ho0, hb⟩; refine ⟨_, rfl, ?_⟩; have n0_ := Aside0.mk (Kd.R_elder' (GS.rR HO_150002.out) (Kd.R_base ho0) hb); have n1_ := Aside0.mk (Kd.R_lower (Kd.R_newB (Kd.R_newB (Kd.R_new' ho0 (Kd.R_lt (GS.rR HO_150002.out))) (GS.bqX BK173.out)) (GS.bqX BK197.out)) (lqZ (GS.lB HB.out))); have n2_ := Aside0.mk (bqB (GS.bqX BK149.out) hb); have n3_ := Aside0.mk (bqB (GS.bqX BK173.out) hb); have n4_ := Aside0.mk (bqB (GS.bqX BK197.out) hb); have n5_ := Aside0.mk (lqT (GS.lB HB.out) hb); clear HO_150002; clear BK149; clear BK173; clear BK197; clear HB; have HO_150002 := n0_; have HO202 := n1_; have BK149 := n2_; have BK173 := n3_; have BK197 := n4_; have HB := n5_; clear n0_ n1_ n2_ n3_ n4_ n5_; (try clear hb); (try clear hb2); (try clear hk); (try clear hi); (try clear ho0)) | ((with_reducible refine gqD (N := 7) rfl ?_); refine GS.bx (N := 7) (cs := #[.int .i64 0, .int .i64 0, .slice none 0 0]) (t := 24) ?_; intro gb204 hg w74 hbox hb; have n0_ := Aside0.mk (Kd.R_below (GS.rR HO_150002.out) hb); have n1_ := Aside0.mk (Kd.R_below (GS.rR HO202.out) hb); have n2_ := Aside0.mk (bqB (GS.bqX BK149.out) hb); have n3_ := Aside0.mk (bqB (GS.bqX BK173.out) hb); have n4_ := Aside0.mk (bqB (GS.bqX BK197.out) hb); have n5_ := Aside0.mk (lqT (GS.lB HB.out) hb); have n6_ := Aside0.mk (hbox); have n7_ := Aside0.mk ((by rw [hg]; exact (lqZ (GS.lB HB.out)) : w.heap.size ≤ gb204)); have n8_ := Aside0.mk ((by rw [hg]; exact (lqZ (GS.lB HB.out)) : w.heap.size ≤ gb204)); have n9_ := Aside0.mk ((by rw [hg]; exact Nat.ne_of_lt (blk_lt (GS.bqX BK149.out)) : gb149 ≠ gb204)); have n10_ := Aside0.mk ((by rw [hg]; exact Nat.ne_of_gt (blk_lt (GS.bqX BK149.out)) : gb204 ≠ gb149)); have n11_ := Aside0.mk ((by rw [hg]; exact Nat.ne_of_lt (blk_lt (GS.bqX BK173.out)) : gb173 ≠ gb204)); have n12_ := Aside0.mk ((by rw [hg]; exact Nat.ne_of_gt (blk_lt (GS.bqX BK173.out)) : gb204 ≠ gb173)); have n13_ := Aside0.mk ((by rw [hg]; exact Nat.ne_of_lt (blk_lt (GS.bqX BK197.out)) : gb197 ≠ gb204)); have n14_ := Aside0.mk ((by rw [hg]; exact Nat.ne_of_gt (blk_lt (GS.bqX BK197.out)) : gb204 ≠ gb197)); clear HO_150002; clear HO202; clear BK149; clear BK173; clear BK197; clear HB; have HO_150002 := n0_; have HO202 := n1_; have BK149 := n2_; have BK173 := n3_; have BK197 := n4_; have HB := n5_; have BK204 := n6_; have GW204 := n7_; have GE204 := n8_; have NB149_204 := n9_; have NB204_149 := n10_; have NB173_204 := n11_; have NB204_173 := n12_; have NB197_204 := n13_; have NB204_197 := n14_; clear n0_ n1_ n2_ n3_ n4_ n5_ n6_ n7_ n8_ n9_ n10_ n11_ n12_ n13_ n14_; clear hb hbox hg; have hnb75 := NB204_149.out; have hnc75 := NB149_204.out; have hnb76 := NB204_173.out; have hnc76 := NB173_204.out; have hnb77 := NB204_197.out; have hnc77 := NB197_204.out; obtain ⟨hcz78_0, hcz78_1, hcz78_2, hfz78_0, hfz78_1, hfz78_2⟩ := GS.c3 BK204.out; obtain ⟨Ao79, co79, eo79⟩ := Kd.R_slice HO202.out; subst eo79) | ((with_reducible refine gqC (f := 30) rfl ?_); refine GS.gL (some 60) Try.func30 #[.agg #[.int .i64 t198, .int .i64 t199, .slice Ao79 t200.length co79], .int .i64 2] ?_; (with_reducible refine (sender_Again.calls kj5 t198 t199 _ _ t200 2 t205 t208 _ ?side1 ?side2 A62.out).mono ?_); (case side1 => refine (Kd.R_reads' (e := 33) (base := w.heap.size) (ok := fun k_ => (((True ∧ some k_ ≠ (.slice Ao72 t183.length co72 : Value).ownBlock) ∧ k_ ≠ gb173) ∧ k_ ≠ gb197)) (n := t200.length) (c := co79) ?_).2.2; exact (by (with_reducible repeat (first | apply Kd.R_alloc | apply Kd.R_drewN | apply Kd.R_drew)); exact (Kd.R_mono (Kd.R_far (p := ⟨gb204, 2, none⟩) (Kd.R_far (p := ⟨gb204, 1, none⟩) (Kd.R_far (p := ⟨gb204, 0, none⟩) (Kd.R_types HO202.out BK204.out (by decide)) (fun _ hk => hk.2) (.int .i64 t198)) (fun _ hk => hk.2) (.int .i64 t199)) (fun _ hk => hk.2) (.slice Ao79 t200.length co79)) (fun _ h_ => h_.1)))); (case side2 => exact (Kd.R_reads' HO202.out).2.1); rintro e w80 ⟨v206, rfl, ho0, hb⟩; refine ⟨_, rfl, ?_⟩; have n0_ := Aside0.mk (Kd.R_elder' (by (with_reducible repeat (first | apply Kd.R_alloc | apply Kd.R_drewN | apply Kd.R_drew)); exact (Kd.R_mono (Kd.R_far (p := ⟨gb204, 2, none⟩) (Kd.R_far (p := ⟨gb204, 1, none⟩) (Kd.R_far (p := ⟨gb204, 0, none⟩) (Kd.R_types HO_150002.out BK204.out (by decide)) (fun _ hk => hk.2) (.int .i64 t198)) (fun _ hk => hk.2) (.int .i64 t199)) (fun _ hk => hk.2) (.slice Ao79 t200.length co79)) (fun _ h_ => h_.1))) (Kd.R_base ho0) hb); have n1_ := Aside0.mk (Kd.R_elder' (by (with_reducible repeat (first | apply Kd.R_alloc | apply Kd.R_drewN | apply Kd.R_drew)); exact (Kd.R_mono (Kd.R_far (p := ⟨gb204, 2, none⟩) (Kd.R_far (p := ⟨gb204, 1, none⟩) (Kd.R_far (p := ⟨gb204, 0, none⟩) (Kd.R_types HO202.out BK204.out (by decide)) (fun _ hk => hk.2) (.int .i64 t198)) (fun _ hk => hk.2) (.int .i64 t199)) (fun _ hk => hk.2) (.slice Ao79 t200.length co79)) (fun _ h_ => h_.1))) (Kd.R_base ho0) hb); have n2_ := Aside0.mk (Kd.R_lower (Kd.R_newB (Kd.R_newB (Kd.R_new' (Kd.R_new' ho0 (Kd.R_lt (by (with_reducible repeat (first | apply Kd.R_alloc | apply Kd.R_drewN | apply Kd.R_drew)); exact (Kd.R_mono (Kd.R_far (p := ⟨gb204, 2, none⟩) (Kd.R_far (p := ⟨gb204, 1, none⟩) (Kd.R_far (p := ⟨gb204, 0, none⟩) (Kd.R_types HO_150002.out BK204.out (by decide)) (fun _ hk => hk.2) (.int .i64 t198)) (fun _ hk => hk.2) (.int .i64 t199)) (fun _ hk => hk.2) (.slice Ao79 t200.length co79)) (fun _ h_ => h_.1))))) (Kd.R_lt (by (with_reducible repeat (first | apply Kd.R_alloc | apply Kd.R_drewN | apply Kd.R_drew)); exact (Kd.R_mono (Kd.R_far (p := ⟨gb204, 2, none⟩) (Kd.R_far (p := ⟨gb204, 1, none⟩) (Kd.R_far (p := ⟨gb204, 0, none⟩) (Kd.R_types HO202.out BK204.out (by decide)) (fun _ hk => hk.2) (.int .i64 t198)) (fun _ hk => hk.2) (.int .i64 t199)) (fun _ hk => hk.2) (.slice Ao79 t200.length co79)) (fun _ h_ => h_.1))))) (GS.bqX BK173.out)) (GS.bqX BK197.out)) (lqZ (GS.lB HB.out))); have n3_ := Aside0.mk (bqB (GS.bqX BK149.out) hb); have n4_ := Aside0.mk (bqB (GS.bqX BK173.out) hb); have n5_ := Aside0.mk (bqB (GS.bqX BK197.out) hb); have n6_ := Aside0.mk (bqB (g := gb204) (o := .cells #[.int .i64 t198, .int .i64 t199, .slice Ao79 t200.length co79] 24 (0, 0)) (GS.bqZ BK204.out) hb); have n7_ := Aside0.mk (lqT (GS.lB HB.out) hb); clear HO_150002; clear HO202; clear BK149; clear BK173; clear BK197; clear BK204; clear HB; have HO_150002 := n0_; have HO202 := n1_; have HO207 := n2_; have BK149 := n3_; have BK173 := n4_; have BK197 := n5_; have BK204 := n6_; have HB := n7_; clear n0_ n1_ n2_ n3_ n4_ n5_ n6_ n7_; (try clear hb); (try clear hb2); (try clear hk); (try clear hi); (try clear ho0); obtain ⟨hcz81_0, hcz81_1, hcz81_2, hfz81_0, hfz81_1, hfz81_2⟩ := GS.c3 BK149.out) | ((with_reducible refine gqC (f := 22) rfl ?_); refine GS.gL (some 66) Try.func22 #[.agg #[.int .i64 t181, .int .i64 t182, .slice Ao72 t183.length co72], .agg #[.int .i64 1, .int .i64 3]] ?_; (with_reducible refine (sender_Heard.calls kj5 t181 t182 _ _ t183 1 3 t209 t210 t211 t214 _ ?side1 ?side2 A63.out).mono ?_); (case side1 => repeat (first | exact (Kd.R_reads' HO_150002.out).2.2 | (with_reducible refine Kd.C_alloc ?_ _) | (with_reducible refine Kd.C_drewN ?_ _) | (with_reducible refine Kd.C_drew ?_))); (case side2 => exact (Kd.R_reads' HO_150002.out).2.1); rintro e w82 ⟨v212, rfl, ho0, hb⟩; refine ⟨_, rfl, ?_⟩; have n0_ := Aside0.mk (Kd.R_elder' (GS.rR HO_150002.out) (Kd.R_base ho0) hb); have n1_ := Aside0.mk (Kd.R_elder' (GS.rR HO202.out) (Kd.R_base ho0) hb); have n2_ := Aside0.mk (Kd.R_elder' (GS.rR HO207.out) (Kd.R_base ho0) hb); have n3_ := Aside0.mk (Kd.R_lower (Kd.R_newB (Kd.R_newB (Kd.R_new' (Kd.R_new' (Kd.R_new' ho0 (Kd.R_lt (GS.rR HO_150002.out))) (Kd.R_lt (GS.rR HO202.out))) (Kd.R_lt (GS.rR HO207.out))) (GS.bqX BK173.out)) (GS.bqX BK197.out)) (lqZ (GS.lB HB.out))); have n4_ := Aside0.mk (bqB (GS.bqX BK149.out) hb); have n5_ := Aside0.mk (bqB (GS.bqX BK173.out) hb); have n6_ := Aside0.mk (bqB (GS.bqX BK197.out) hb); have n7_ := Aside0.mk (bqB (GS.bqX BK204.out) hb); have n8_ := Aside0.mk (lqT (GS.lB HB.out) hb); clear HO_150002; clear HO202; clear HO207; clear BK149; clear BK173; clear BK197; clear BK204; clear HB; have HO_150002 := n0_; have HO202 := n1_; have HO207 := n2_; have HO213 := n3_; have BK149 := n4_; have BK173 := n5_; have BK197 := n6_; have BK204 := n7_; have HB := n8_; clear n0_ n1_ n2_ n3_ n4_ n5_ n6_ n7_ n8_; (try clear hb); (try clear hb2); (try clear hk); (try clear hi); (try clear ho0)) | ((with_reducible refine gqD (N := 11) rfl ?_); refine GS.bx (N := 11) (cs := #[.int .i64 0, .int .i64 0, .slice none 0 0]) (t := 24) ?_; intro gb215 hg w83 hbox hb; have n0_ := Aside0.mk (Kd.R_below (GS.rR HO_150002.out) hb); have n1_ := Aside0.mk (Kd.R_below (GS.rR HO202.out) hb); have n2_ := Aside0.mk (Kd.R_below (GS.rR HO207.out) hb); have n3_ := Aside0.mk (Kd.R_below (GS.rR HO213.out) hb); have n4_ := Aside0.mk (bqB (GS.bqX BK149.out) hb); have n5_ := Aside0.mk (bqB (GS.bqX BK173.out) hb); have n6_ := Aside0.mk (bqB (GS.bqX BK197.out) hb); have n7_ := Aside0.mk (bqB (GS.bqX BK204.out) hb); have n8_ := Aside0.mk (lqT (GS.lB HB.out) hb); have n9_ := Aside0.mk (hbox); have n10_ := Aside0.mk ((by rw [hg]; exact (lqZ (GS.lB HB.out)) : w.heap.size ≤ gb215)); have n11_ := Aside0.mk ((by rw [hg]; exact (lqZ (GS.lB HB.out)) : w.heap.size ≤ gb215)); have n12_ := Aside0.mk ((by rw [hg]; exact Nat.ne_of_lt (blk_lt (GS.bqX BK149.out)) : gb149 ≠ gb215)); have n13_ := Aside0.mk ((by rw [hg]; exact Nat.ne_of_gt (blk_lt (GS.bqX BK149.out)) : gb215 ≠ gb149)); have n14_ := Aside0.mk ((by rw [hg]; exact Nat.ne_of_lt (blk_lt (GS.bqX BK173.out)) : gb173 ≠ gb215)); have n15_ := Aside0.mk ((by rw [hg]; exact Nat.ne_of_gt (blk_lt (GS.bqX BK173.out)) : gb215 ≠ gb173)); have n16_ := Aside0.mk ((by rw [hg]; exact Nat.ne_of_lt (blk_lt (GS.bqX BK197.out)) : gb197 ≠ gb215)); have n17_ := Aside0.mk ((by rw [hg]; exact Nat.ne_of_gt (blk_lt (GS.bqX BK197.out)) : gb215 ≠ gb197)); have n18_ := Aside0.mk ((by rw [hg]; exact Nat.ne_of_lt (blk_lt (GS.bqX BK204.out)) : gb204 ≠ gb215)); have n19_ := Aside0.mk ((by rw [hg]; exact Nat.ne_of_gt (blk_lt (GS.bqX BK204.out)) : gb215 ≠ gb204)); clear HO_150002; clear HO202; clear HO207; clear HO213; clear BK149; clear BK173; clear BK197; clear BK204; clear HB; have HO_150002 := n0_; have HO202 := n1_; have HO207 := n2_; have HO213 := n3_; have BK149 := n4_; have BK173 := n5_; have BK197 := n6_; have BK204 := n7_; have HB := n8_; have BK215 := n9_; have GW215 := n10_; have GE215 := n11_; have NB149_215 := n12_; have NB215_149 := n13_; have NB173_215 := n14_; have NB215_173 := n15_; have NB197_215 := n16_; have NB215_197 := n17_; have NB204_215 := n18_; have NB215_204 := n19_; clear n0_ n1_ n2_ n3_ n4_ n5_ n6_ n7_ n8_ n9_ n10_ n11_ n12_ n13_ n14_ n15_ n16_ n17_ n18_ n19_; clear hb hbox hg; have hnb84 := NB215_149.out; have hnc84 := NB149_215.out; have hnb85 := NB215_173.out; have hnc85 := NB173_215.out; have hnb86 := NB215_197.out; have hnc86 := NB197_215.out; have hnb87 := NB215_204.out; have hnc87 := NB204_215.out; obtain ⟨hcz88_0, hcz88_1, hcz88_2, hfz88_0, hfz88_1, hfz88_2⟩ := GS.c3 BK215.out; obtain ⟨Ao89, co89, eo89⟩ := Kd.R_slice HO213.out; subst eo89; have hnb90 := NB197_173.out; have hnc90 := NB173_197.out; obtain ⟨hcz91_0, hcz91_1, hcz91_2, hcz91_3, hcz91_4, hcz91_5, hcz91_6, hcz91_7, hcz91_8, hcz91_9, hfz91_0, hfz91_1, hfz91_2, hfz91_3, hfz91_4, hfz91_5, hfz91_6, hfz91_7, hfz91_8, hfz91_9⟩ := GS.c10 BK197.out) | ((with_reducible refine gqD (N := 71) rfl ?_); refine Kd.R_lit k33 _ 33 ?hg (N := 71) ?hd (xs := ([(⟨t186, t187, t188, (⟨t189, t190, t191, t192, t193, t194, t195⟩ : S26)⟩ : S33)] : List (S33))) (inner := [.int .i64 t186, .int .i64 t187, .int .i64 t188, .int .i64 t189, .int .i64 t190, .int .i64 t191, .int .i64 t192, .int .i64 t193, .int .i64 t194, .int .i64 t195]) (ok := fun _ => True) (okp := fun _ => True) ?hr ?hp (fun _ hk => hk) trivial (Below.refl _ _) (Nat.le_refl _) (by simp) ?_; (case hd => rfl); (case hg => rfl); (case hr => first | (go_simp; done) | (go_simp; rfl)); (case hp => exact (Reps.c10 (show Kd.M k33 _ _ _ (⟨t186, t187, t188, (⟨t189, t190, t191, t192, t193, t194, t195⟩ : S26)⟩ : S33) [.int .i64 t186, .int .i64 t187, .int .i64 t188, .int .i64 t189, .int .i64 t190, .int .i64 t191, .int .i64 t192, .int .i64 t193, .int .i64 t194, .int .i64 t195] from (k33_mkM _ _ _ (⟨t186, t187, t188, (⟨t189, t190, t191, t192, t193, t194, t195⟩ : S26)⟩ : S33) )) (Reps.none _ _))); intro v217 w92 ho93 hb hg_ hnew_; clear hg_ hnew_; (first | rw [← Ny216.out] at ho93 | (simp only [Int.reduceToNat] at ho93; rw [← Ny216.out] at ho93)); have n0_ := Aside0.mk (Kd.R_elder' (by (with_reducible repeat (first | apply Kd.R_alloc | apply Kd.R_drewN | apply Kd.R_drew)); exact (Kd.R_mono (Kd.R_far (p := ⟨gb215, 2, none⟩) (Kd.R_far (p := ⟨gb215, 1, none⟩) (Kd.R_far (p := ⟨gb215, 0, none⟩) (Kd.R_types HO_150002.out BK215.out (by decide)) (fun _ hk => hk.2) (.int .i64 t209)) (fun _ hk => hk.2) (.int .i64 t210)) (fun _ hk => hk.2) (.slice Ao89 t211.length co89)) (fun _ h_ => h_.1))) (Kd.R_base ho93) hb); have n1_ := Aside0.mk (Kd.R_elder' (by (with_reducible repeat (first | apply Kd.R_alloc | apply Kd.R_drewN | apply Kd.R_drew)); exact (Kd.R_mono (Kd.R_far (p := ⟨gb215, 2, none⟩) (Kd.R_far (p := ⟨gb215, 1, none⟩) (Kd.R_far (p := ⟨gb215, 0, none⟩) (Kd.R_types HO202.out BK215.out (by decide)) (fun _ hk => hk.2) (.int .i64 t209)) (fun _ hk => hk.2) (.int .i64 t210)) (fun _ hk => hk.2) (.slice Ao89 t211.length co89)) (fun _ h_ => h_.1))) (Kd.R_base ho93) hb); have n2_ := Aside0.mk (Kd.R_elder' (by (with_reducible repeat (first | apply Kd.R_alloc | apply Kd.R_drewN | apply Kd.R_drew)); exact (Kd.R_mono (Kd.R_far (p := ⟨gb215, 2, none⟩) (Kd.R_far (p := ⟨gb215, 1, none⟩) (Kd.R_far (p := ⟨gb215, 0, none⟩) (Kd.R_types HO207.out BK215.out (by decide)) (fun _ hk => hk.2) (.int .i64 t209)) (fun _ hk => hk.2) (.int .i64 t210)) (fun _ hk => hk.2) (.slice Ao89 t211.length co89)) (fun _ h_ => h_.1))) (Kd.R_base ho93) hb); have n3_ := Aside0.mk (Kd.R_elder' (by (with_reducible repeat (first | apply Kd.R_alloc | apply Kd.R_drewN | apply Kd.R_drew)); exact (Kd.R_mono (Kd.R_far (p := ⟨gb215, 2, none⟩) (Kd.R_far (p := ⟨gb215, 1, none⟩) (Kd.R_far (p := ⟨gb215, 0, none⟩) (Kd.R_types HO213.out BK215.out (by decide)) (fun _ hk => hk.2) (.int .i64 t209)) (fun _ hk => hk.2) (.int .i64 t210)) (fun _ hk => hk.2) (.slice Ao89 t211.length co89)) (fun _ h_ => h_.1))) (Kd.R_base ho93) hb); have n4_ := Aside0.mk (Kd.R_lower (Kd.R_newB (Kd.R_newB (Kd.R_new' (Kd.R_new' (Kd.R_new' (Kd.R_new' ho93 (Kd.R_lt (by (with_reducible repeat (first | apply Kd.R_alloc | apply Kd.R_drewN | apply Kd.R_drew)); exact (Kd.R_mono (Kd.R_far (p := ⟨gb215, 2, none⟩) (Kd.R_far (p := ⟨gb215, 1, none⟩) (Kd.R_far (p := ⟨gb215, 0, none⟩) (Kd.R_types HO_150002.out BK215.out (by decide)) (fun _ hk => hk.2) (.int .i64 t209)) (fun _ hk => hk.2) (.int .i64 t210)) (fun _ hk => hk.2) (.slice Ao89 t211.length co89)) (fun _ h_ => h_.1))))) (Kd.R_lt (by (with_reducible repeat (first | apply Kd.R_alloc | apply Kd.R_drewN | apply Kd.R_drew)); exact (Kd.R_mono (Kd.R_far (p := ⟨gb215, 2, none⟩) (Kd.R_far (p := ⟨gb215, 1, none⟩) (Kd.R_far (p := ⟨gb215, 0, none⟩) (Kd.R_types HO202.out BK215.out (by decide)) (fun _ hk => hk.2) (.int .i64 t209)) (fun _ hk => hk.2) (.int .i64 t210)) (fun _ hk => hk.2) (.slice Ao89 t211.length co89)) (fun _ h_ => h_.1))))) (Kd.R_lt (by (with_reducible repeat (first | apply Kd.R_alloc | apply Kd.R_drewN | apply Kd.R_drew)); exact (Kd.R_mono (Kd.R_far (p := ⟨gb215, 2, none⟩) (Kd.R_far (p := ⟨gb215, 1, none⟩) (Kd.R_far (p := ⟨gb215, 0, none⟩) (Kd.R_types HO207.out BK215.out (by decide)) (fun _ hk => hk.2) (.int .i64 t209)) (fun _ hk => hk.2) (.int .i64 t210)) (fun _ hk => hk.2) (.slice Ao89 t211.length co89)) (fun _ h_ => h_.1))))) (Kd.R_lt (by (with_reducible repeat (first | apply Kd.R_alloc | apply Kd.R_drewN | apply Kd.R_drew)); exact (Kd.R_mono (Kd.R_far (p := ⟨gb215, 2, none⟩) (Kd.R_far (p := ⟨gb215, 1, none⟩) (Kd.R_far (p := ⟨gb215, 0, none⟩) (Kd.R_types HO213.out BK215.out (by decide)) (fun _ hk => hk.2) (.int .i64 t209)) (fun _ hk => hk.2) (.int .i64 t210)) (fun _ hk => hk.2) (.slice Ao89 t211.length co89)) (fun _ h_ => h_.1))))) (GS.bqX BK173.out)) (GS.bqX BK197.out)) (lqZ (GS.lB HB.out))); have n5_ := Aside0.mk (bqB (GS.bqX BK149.out) hb); have n6_ := Aside0.mk (bqB (GS.bqX BK173.out) hb); have n7_ := Aside0.mk (bqB (GS.bqX BK197.out) hb); have n8_ := Aside0.mk (bqB (GS.bqX BK204.out) hb); have n9_ := Aside0.mk (bqB (g := gb215) (o := .cells #[.int .i64 t209, .int .i64 t210, .slice Ao89 t211.length co89] 24 (0, 0)) (GS.bqZ BK215.out) hb); have n10_ := Aside0.mk (lqT (GS.lB HB.out) hb); clear HO_150002; clear HO202; clear HO207; clear HO213; clear BK149; clear BK173; clear BK197; clear BK204; clear BK215; clear HB; have HO_150002 := n0_; have HO202 := n1_; have HO207 := n2_; have HO213 := n3_; have HO218 := n4_; have BK149 := n5_; have BK173 := n6_; have BK197 := n7_; have BK204 := n8_; have BK215 := n9_; have HB := n10_; clear n0_ n1_ n2_ n3_ n4_ n5_ n6_ n7_ n8_ n9_ n10_; clear hb ho93; obtain ⟨Ao94, co94, eo94⟩ := Kd.R_slice HO207.out; subst eo94; obtain ⟨Ao95, co95, eo95⟩ := Kd.R_slice HO218.out; subst eo95) | ((with_reducible refine gqC (f := 20) rfl ?_); refine GS.gL (some 72) Try.func20 #[.slice Ao94 t205.length co94, .slice Ao95 y216.length co95] ?_; (with_reducible refine (api_Envelope_20.calls kj5 _ _ t205 _ _ y216 true _ ?side1 ?side2 ?side3 ?side4 A64.out).mono ?_); (case side1 => repeat (first | exact (Kd.R_reads' HO207.out).2.2 | (with_reducible refine Kd.C_alloc ?_ _) | (with_reducible refine Kd.C_drewN ?_ _) | (with_reducible refine Kd.C_drew ?_))); (case side2 => exact (Kd.R_reads' HO207.out).2.1); (case side3 => repeat (first | exact (Kd.R_reads' HO218.out).2.2 | (with_reducible refine Kd.C_alloc ?_ _) | (with_reducible refine Kd.C_drewN ?_ _) | (with_reducible refine Kd.C_drew ?_))); (case side4 => exact (Kd.R_reads' HO218.out).2.1); rintro e w' ⟨rfl, ⟨nd, rfl⟩⟩; refine ⟨_, rfl, ?_⟩; obtain ⟨hcz96_0, hcz96_1, hcz96_2, hfz96_0, hfz96_1, hfz96_2⟩ := GS.c3 BK204.out) | (go_at_call 17; (with_reducible refine (sender_Check.calls kj5 t198 t199 _ _ t200 t220 _ ?side1 ?side2 A67.out).mono ?_); (case side1 => repeat (first | exact (Kd.R_reads' HO202.out).2.2 | (with_reducible refine Kd.C_alloc ?_ _) | (with_reducible refine Kd.C_drewN ?_ _) | (with_reducible refine Kd.C_drew ?_))); (case side2 => exact (Kd.R_reads' HO202.out).2.1); rintro e w97 ⟨rfl, hb⟩; have n0_ := Aside0.mk (Kd.R_below (GS.rR HO_150002.out) hb); have n1_ := Aside0.mk (Kd.R_below (GS.rR HO202.out) hb); have n2_ := Aside0.mk (Kd.R_below (GS.rR HO207.out) hb); have n3_ := Aside0.mk (Kd.R_below (GS.rR HO213.out) hb); have n4_ := Aside0.mk (Kd.R_below (GS.rR HO218.out) hb); have n5_ := Aside0.mk (bqB (GS.bqX BK149.out) hb); have n6_ := Aside0.mk (bqB (GS.bqX BK173.out) hb); have n7_ := Aside0.mk (bqB (GS.bqX BK197.out) hb); have n8_ := Aside0.mk (bqB (GS.bqX BK204.out) hb); have n9_ := Aside0.mk (bqB (GS.bqX BK215.out) hb); have n10_ := Aside0.mk (lqT (GS.lB HB.out) hb); clear HO_150002; clear HO202; clear HO207; clear HO213; clear HO218; clear BK149; clear BK173; clear BK197; clear BK204; clear BK215; clear HB; have HO_150002 := n0_; have HO202 := n1_; have HO207 := n2_; have HO213 := n3_; have HO218 := n4_; have BK149 := n5_; have BK173 := n6_; have BK197 := n7_; have BK204 := n8_; have BK215 := n9_; have HB := n10_; clear n0_ n1_ n2_ n3_ n4_ n5_ n6_ n7_ n8_ n9_ n10_; (try clear hb); (try clear hb2); (try clear hk); (try clear hi)))
       go_ret
       exact ⟨by first | rfl | (simp [errW_none, errW_some] <;> rfl) | (simp [*, errW_none, errW_some] <;> rfl), GS.lB HB.out⟩
      ·rw [if_neg c68] at H
       exact absurd H (by simp)
     ·rw [if_neg c66] at H
      exact absurd H (by simp)
    ·replace c65 := Bool.eq_false_iff.mpr c65
     subst c65
     have H1 : (none) = some r := by rw [if_neg (show ¬ (false = true) by decide)] at H; exact H
     clear H
     have H := H1
     clear H1
     exact absurd H (by simp)

end Go.Proofs.Ytfafeeobjlkjnaa.K
