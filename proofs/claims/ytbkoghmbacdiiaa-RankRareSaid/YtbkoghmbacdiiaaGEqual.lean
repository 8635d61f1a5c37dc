import Derived.Shelf.SlicesG.CompactI
import Derived.Test.YtbkoghmbacdiiaaProg
import Derived.Test.YtbkoghmbacdiiaaGSorted
import Derived.Test.YtbkoghmbacdiiaaGConcat
import Derived.Test.YtbkoghmbacdiiaaPFault
import Derived.Test.YtbkoghmbacdiiaaGW
import Derived.Lib.OwnBridge
/- PRINTED by the kit's lay-plain: the shelf's contract of slices.Compact at this program. -/
namespace Go.Proofs
open Go.Shelf
def Try.compA_ren : Go.Shelf.Ren := ⟨fun | 43 => 52 | n => n, fun | 22 => 27 | 23 => 3 | 3 => 3 | 4 => 4 | 0 => 0 | n => n, fun | n => n⟩
theorem Try.compA : Go.Proofs.SlLaysN.n43 Try.prog Try.compA_ren := {
  mixed := by kernel_rfl
  f43 := ⟨Try.f52.name, by decide, Try.func52.trans (congrArg some (by kernel_rfl))⟩
  t0 := Try.underlying0
  a0 := Try.isAgg0
  z0 := Try.sizeOf0
  v0 := Try.zeroValue0
  t3 := Try.underlying3
  a3 := Try.isAgg3
  z3 := Try.sizeOf3
  v3 := Try.zeroValue3
  t4 := Try.underlying4
  a4 := Try.isAgg4
  z4 := Try.sizeOf4
  v4 := Try.zeroValue4
  t22 := Try.underlying27
  a22 := Try.isAgg27
  z22 := Try.sizeOf27
  v22 := Try.zeroValue27
  t23 := Try.underlying3
  a23 := Try.isAgg3
  z23 := Try.sizeOf3
  v23 := Try.zeroValue3
  i23 := by kernel_rfl }
end Go.Proofs
/- By hand: spilelaw33.equal: whether a number comes twice in two lists. -/
namespace Go.Proofs.Ytbkoghmbacdiiaa.K
open Go Go.RowKit Go.Sort Go.Shelf Go.Proofs.YtbkoghmbacdiiaaW.PrintWords Go.Proofs.YtbkoghmbacdiiaaW.PrintLast Go.Proofs.YtbkoghmbacdiiaaW.PrintMore
set_option linter.unusedVariables false
set_option linter.unusedSimpArgs false
def equal36.f (a b : List Int) : Option Bool := if a.length < 100000 ∧ b.length < 100000 then some (decide ((Lib.compact (srt (a ++ b))).length < a.length + b.length)) else none
theorem comp52 (xs : List Int) (v : Value) (base : Nat) (w : World) (hN : xs.length < 1000000000) (HO : Kd.R (Kd.int .i64) 3 w base (fun _ => True) v xs) :
    Calls Try.prog 52 #[v] w fun e w' => (∃ A c, e = .returned (.slice A (Lib.compact xs).length c)) ∧ Below base w w' := by
  obtain ⟨hok, inner, hown, hlen, hr⟩ := HO
  rcases hown.2 with ⟨rfl, hz⟩ | ⟨gb, cap, cur, rfl, hbase, hgb, r1, r2, r3, r4⟩
  · have hss : xs = [] := List.eq_nil_of_length_eq_zero hz
    subst hss
    refine (AnyG.slices_Compact_int_empty Try.compA none 0 w).mono ?_
    rintro e w' ⟨rfl, rfl⟩
    exact ⟨⟨_, _, rfl⟩, Below.refl _ _⟩
  · have hl1 : inner.length = xs.length := by simpa [Kd.int, Kd.scalar] using hlen
    have hin : inner = xs.map (Value.int .i64) := by
      apply List.ext_getElem (by simpa using hl1)
      intro j h1 h2
      have h3 : j < xs.length := by simpa using h2
      have h4 : (inner.drop (j * 1)).take 1 = [Value.int .i64 xs[j]] := hr j xs[j] (List.getElem?_eq_getElem h3)
      rw [Nat.mul_one, List.drop_eq_getElem_cons h1] at h4
      have h5 := (List.cons.inj h4).1
      rw [List.getElem_map]
      exact h5
    have r4' : cur.toList.take (xs.length * 1) = inner := r4
    rw [Nat.mul_one] at r4'
    have hH : Holds (Value.int .i64) w gb 0 xs.toArray := holds_of_block_i hgb (by rw [r4', hin])
    refine (AnyG.slices_Compact_int Try.compA gb 0 cap xs w hH (by omega) r1).mono ?_
    rintro e w' ⟨rfl, q, rfl⟩
    exact ⟨⟨_, _, rfl⟩, Lib.below_putRow (Below.refl _ _) hbase⟩
set_option maxHeartbeats 2000000 in
set_option maxRecDepth 100000 in
theorem equal36.calls (A0 : Option Addr) (c0 : Nat) (l0 : List Int) (A1 : Option Addr) (c1 : Nat) (l1 : List Int) (r : Bool) (w : World) (hr0 : Kd.C (Kd.int .i64) w A0 l0.length l0) (hc0 : l0.length ≤ c0) (hr1 : Kd.C (Kd.int .i64) w A1 l1.length l1) (hc1 : l1.length ≤ c1) (h : equal36.f l0 l1 = some r) :
    Calls Try.prog 36 #[.slice A0 l0.length c0, .slice A1 l1.length c1] w fun e w' => e = .returned (.bool r) ∧ Below w.heap.size w w' := by
  unfold equal36.f at h
  by_cases hl : l0.length < 100000 ∧ l1.length < 100000
  · rw [if_pos hl] at h
    obtain rfl := Option.some.inj h
    obtain ⟨al, hal⟩ : ∃ al, al = l0 ++ l1 := ⟨_, rfl⟩
    have HAL : Aside0 (l0 ++ l1 = al) := ⟨hal.symm⟩
    have HLN : Aside0 (al.length < 1000000000) := ⟨by rw [hal, List.length_append]; omega⟩
    have HLS : Aside0 ((srt al).length < 1000000000) := ⟨by rw [show (srt al).length = al.length from List.length_mergeSort _]; exact HLN.out⟩
    obtain ⟨L, hL⟩ : ∃ L, L = (Lib.compact (srt al)).length := ⟨_, rfl⟩
    have HLL : Aside0 ((Lib.compact (srt al)).length = L) := ⟨hL.symm⟩
    have HW : Aside0 (wrap64 ((l0.length : Int) + (l1.length : Int)) = ((l0.length + l1.length : Nat) : Int)) := ⟨by unfold wrap64; omega⟩
    have HD : Aside0 (decide ((L : Int) < ((l0.length + l1.length : Nat) : Int)) = decide (L < l0.length + l1.length)) := ⟨decide_eq_decide.2 (by omega)⟩
    rw [← hal, ← hL]
    clear hL hal
    have HL := Aside0.mk hl
    have HR0 := Aside0.mk hr0
    have HC0 := Aside0.mk hc0
    have HR1 := Aside0.mk hr1
    have HC1 := Aside0.mk hc1
    have HB := Aside0.mk (Below.refl w.heap.size w)
    clear hr0 hc0 hr1 hc1 hl
    go_enter Try.func36, Try.ntmps36
    go_wp2_with (first
      | ((with_reducible refine GW.gate_op (N := some 8) rfl rfl ?_); refine lit_ev (N := 8) (cs := #[.slice A0 l0.length c0, .slice A1 l1.length c1]) (t := 27) (n := 2) rfl rfl ?_ ?_; (· first | (go_simp; done) | (go_simp; rfl)); intro gL hg w1 hbox hb; have HL1 := Aside0.mk hbox; have n0_ := Aside0.mk (lqT (GS.lB HB.out) hb); clear HB; have HB := n0_; clear n0_ hb hbox hg)
      | ((with_reducible show Calls Try.prog 48 _ _ _); refine (concat2.calls gL A0 A1 c0 c1 l0 l1 _ HL1.out (Kd.C_below HR0.out HB.out) (Kd.C_below HR1.out HB.out) (by have := HL.out; omega) (by have := HL.out; omega)).mono ?_; rintro e w3 ⟨v3, rfl, hro, hb⟩; rw [HAL.out] at hro; obtain ⟨Ac, cc, ec⟩ := Kd.R_slice hro; subst ec; have HO := Aside0.mk hro; have n0_ := Aside0.mk (lqT (GS.lB HB.out) hb); clear HB hb hro; have HB := n0_; clear n0_)
      | ((with_reducible show Calls Try.prog 39 _ _ _); refine ((callsIn_wide (n := 5)).1 (values_in 5 Ac al.length cc _)).mono ?_; rintro e w4 ⟨rfl, rfl⟩)
      | ((with_reducible show Calls Try.prog 38 _ _ _); refine (sorted_vals Ac cc al HLN.out _ ((Kd.R_reads' HO.out).2.2)).mono ?_; rintro e w5 ⟨v5, rfl, hro, hb⟩; have HO5 := Aside0.mk hro; have HB3 := Aside0.mk HB.out.size; have n0_ := Aside0.mk (lqT (GS.lB HB.out) hb); clear HB hb hro; have HB := n0_; clear n0_)
      | ((with_reducible show Calls Try.prog 52 _ _ _); refine (comp52 (srt al) _ _ _ HLS.out HO5.out).mono ?_; rintro e w6 ⟨⟨A6, c6, rfl⟩, hb⟩; rw [HLL.out]; have HB6 := Aside0.mk hb; clear hb))
    go_ret
    exact ⟨by rw [HW.out, HD.out]; rfl, HB.out.trans (HB6.out.mono HB3.out)⟩
  · rw [if_neg hl] at h
    cases h
end Go.Proofs.Ytbkoghmbacdiiaa.K
