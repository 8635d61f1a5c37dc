/- By hand: sender.Again: what is pending to a node. -/
import Derived.Test.YtfafeeobjlkjnaaGShort
import Derived.Test.YtfafeeobjlkjnaaK5
import Derived.Test.YtfafeeobjlkjnaaGDf52
import Derived.Test.YtfafeeobjlkjnaaGClone
namespace Go.Proofs.Ytfafeeobjlkjnaa.K
open Go.RowKit Go.Proofs.YtfafeeobjlkjnaaW.PrintWords Go.Proofs.YtfafeeobjlkjnaaW.PrintLast Go.Proofs.YtfafeeobjlkjnaaW.PrintMore Go.Proofs.Ytfafeeobjlkjnaa.GW
set_option linter.unusedVariables false
set_option linter.unusedSimpArgs false

def sender_Again.f (k : Nat) (a0_0 a0_1 : Int) (l0_2 : List S33) (a1 : Int) : Option (List S33 × Int) :=
  (sender_Check.f k a0_0 a0_1 l0_2).bind fun t => if t = 0 then ((sender_node.f a1).bind fun b => if b = true then ((api_Envelope_21.f l0_2).bind fun m => some (m.filter (fun x => !(x.f1 != a1)), 0)) else some ([], 2)) else some ([], 1)
theorem sender_Again.mono : ∀ a0 a1 a2 a3 k, LeO (sender_Again.f k a0 a1 a2 a3) (sender_Again.f (k + 1) a0 a1 a2 a3) := by
  intro a0 a1 a2 a3 k
  unfold sender_Again.f
  repeat' first
  | (with_reducible exact sender_Check.mono _ _ _ _)
  | (with_reducible exact LeO.refl _)
  | (with_reducible refine LeO.ite ?_ ?_)
  | (with_reducible refine LeO.bind ?_ (fun _ => ?_))

set_option maxHeartbeats 8000000 in
set_option maxRecDepth 100000 in
theorem sender_Again.calls (k : Nat) (a0_0 : Int) (a0_1 : Int) (A0_2 : Option Addr) (c0_2 : Nat) (l0_2 : List S33) (a1 : Int) (r1 : List S33) (r2 : Int) (w : World) (hr0_2 : Kd.C k33 w A0_2 l0_2.length l0_2) (hc0_2 : l0_2.length ≤ c0_2) (h : sender_Again.f k a0_0 a0_1 l0_2 a1 = some (r1, r2)) :
    Calls Try.prog 30 #[.agg #[.int .i64 a0_0, .int .i64 a0_1, .slice A0_2 l0_2.length c0_2], .int .i64 a1] w fun e w' => ∃ v1_ : Value, e = .returned (.tuple #[v1_, .int .i64 r2]) ∧ Kd.R k33 33 w' w.heap.size (fun _ => True) v1_ r1 ∧ Below w.heap.size w w' := by
  have hu24 := Try.underlying24
  have HR := Aside0.mk hr0_2
  have HC := Aside0.mk hc0_2
  have HB := Aside0.mk (Below.refl w.heap.size w)
  clear hr0_2 hc0_2
  obtain ⟨t, A20, H⟩ := Option.bind_eq_some_iff.mp h
  clear h
  have A2 := Aside0.mk A20
  clear A20
  by_cases c1 : t = 0
  · rw [if_pos c1] at H
    subst c1
    obtain ⟨b, A40, H⟩ := Option.bind_eq_some_iff.mp H
    have A4 := Aside0.mk A40
    clear A40
    cases b with
    | true =>
      rw [if_pos rfl] at H
      obtain ⟨m, A50, H⟩ := Option.bind_eq_some_iff.mp H
      have A5 := Aside0.mk A50
      clear A50
      simp only [Option.some.injEq, Prod.mk.injEq] at H
      obtain ⟨rfl, rfl⟩ := H
      go_enter Try.func30, Try.ntmps30
      go_wp2_with (first | ((with_reducible refine gate_dst (N := 2) rfl ?_); refine GS.bx (N := 2) (cs := #[.int .i64 a0_0, .int .i64 a0_1, .slice A0_2 l0_2.length c0_2]) (t := 24) ?_; intro g2 hg_ w2 hbox_ hb_; have n0_ := Aside0.mk (below_step (GS.lB HB.out) hb_); have n1_ := Aside0.mk hbox_; have n2_ : Aside0 (w.heap.size ≤ g2) := ⟨by rw [hg_]; exact below_size (GS.lB HB.out)⟩; clear HB; have HB := n0_; have Bg2 := n1_; have Gg2 := n2_; clear n0_ n1_ n2_ hb_ hbox_ hg_) | ((with_reducible refine gate_dst (N := 3) rfl ?_); refine GS.bx (N := 3) (cs := #[.int .i64 a1]) (t := 3) ?_; intro g3 hg_ w3 hbox_ hb_; have n0_ := Aside0.mk (below_step (GS.lB HB.out) hb_); have n1_ := Aside0.mk hbox_; have n2_ : Aside0 (w.heap.size ≤ g3) := ⟨by rw [hg_]; exact below_size (GS.lB HB.out)⟩; have m0_ := Aside0.mk (blk_below (GS.bqX Bg2.out) hb_); have l0_ : Aside0 (g2 ≠ g3) := ⟨by rw [hg_]; exact Nat.ne_of_lt (blk_lt (GS.bqX Bg2.out))⟩; clear HB; have HB := n0_; have Bg3 := n1_; have Gg3 := n2_; clear Bg2; have Bg2 := m0_; have Ng2g3 := l0_; clear m0_ l0_; clear n0_ n1_ n2_ hb_ hbox_ hg_; obtain ⟨za0, za1, za2, qa0, qa1, qa2⟩ := GS.c3 (w := w3) Bg2.out; obtain ⟨zb0, qb0⟩ := GS.c1 (w := w3) Bg3.out) | (go_at_call 17; refine (sender_Check.calls k a0_0 a0_1 _ _ l0_2 0 _ (Kd.C_below HR.out HB.out) HC.out A2.out).mono ?_; rintro e w5 ⟨rfl, hb_⟩; have n0_ := Aside0.mk (below_step HB.out hb_); clear HB; have HB := n0_; clear n0_; have m0_ := Aside0.mk (blk_below Bg2.out hb_); clear Bg2; have Bg2 := m0_; clear m0_; have m1_ := Aside0.mk (blk_below Bg3.out hb_); clear Bg3; have Bg3 := m1_; clear m1_; clear hb_; clear za0 za1 za2 qa0 qa1 qa2 zb0 qb0; obtain ⟨za0, za1, za2, qa0, qa1, qa2⟩ := GS.c3 (w := w5) Bg2.out; obtain ⟨zb0, qb0⟩ := GS.c1 (w := w5) Bg3.out) | (go_at_call 40; refine (sender_node.calls a1 true _ A4.out).mono ?_; rintro e w6 ⟨rfl, hd_⟩; have hb_ := hd_.below; clear hd_; have n0_ := Aside0.mk (below_step HB.out hb_); clear HB; have HB := n0_; clear n0_; have m0_ := Aside0.mk (blk_below Bg2.out hb_); clear Bg2; have Bg2 := m0_; clear m0_; have m1_ := Aside0.mk (blk_below Bg3.out hb_); clear Bg3; have Bg3 := m1_; clear m1_; clear hb_; clear za0 za1 za2 qa0 qa1 qa2 zb0 qb0; obtain ⟨za0, za1, za2, qa0, qa1, qa2⟩ := GS.c3 (w := w6) Bg2.out; obtain ⟨zb0, qb0⟩ := GS.c1 (w := w6) Bg3.out) | (go_at_call 21; refine (api_Envelope_21.calls _ _ l0_2 m _ (Kd.C_below HR.out HB.out) HC.out A5.out).mono ?_; rintro e w7 ⟨v, rfl, ho_, hb_⟩; obtain ⟨A6, c6, hv_⟩ := Kd.R_slice ho_; subst hv_; have HO := Aside0.mk (Kd.R_lower ho_ HB.out.size); have n0_ := Aside0.mk (below_step HB.out hb_); clear HB; have HB := n0_; clear n0_; have m0_ := Aside0.mk (blk_below Bg2.out hb_); clear Bg2; have Bg2 := m0_; clear m0_; have m1_ := Aside0.mk (blk_below Bg3.out hb_); clear Bg3; have Bg3 := m1_; clear m1_; clear hb_ ho_; clear za0 za1 za2 qa0 qa1 qa2 zb0 qb0; obtain ⟨za0, za1, za2, qa0, qa1, qa2⟩ := GS.c3 (w := w7) Bg2.out; obtain ⟨zb0, qb0⟩ := GS.c1 (w := w7) Bg3.out) | (go_at_call 23; refine (delf23_52.calls (.pointer (some ⟨g3, 0, none⟩)) (fun x => x.f1 != a1) A6 c6 m w.heap.size (fun _ => True) _ HO.out (fun W x hg_ => again52.calls g3 a1 x W (blk_grown Bg3.out hg_ (Kd.R_ne HO.out Bg3.out (by decide))))).mono ?_; rintro e w8 ⟨v', rfl, ho_, hg_⟩; have HO2 := Aside0.mk ho_; have HB2 := Aside0.mk (HB.out.grown hg_ HB.out.size (fun q hq => Kd.R_base HO.out q hq)); clear ho_ hg_))
      go_ret2
      exact ⟨_, rfl, HO2.out, HB2.out⟩
    | false =>
      rw [if_neg (by decide)] at H
      simp only [Option.some.injEq, Prod.mk.injEq] at H
      obtain ⟨rfl, rfl⟩ := H
      go_enter Try.func30, Try.ntmps30
      go_wp2_with (first | ((with_reducible refine gate_dst (N := 2) rfl ?_); refine GS.bx (N := 2) (cs := #[.int .i64 a0_0, .int .i64 a0_1, .slice A0_2 l0_2.length c0_2]) (t := 24) ?_; intro g2 hg_ w2 hbox_ hb_; have n0_ := Aside0.mk (below_step (GS.lB HB.out) hb_); have n1_ := Aside0.mk hbox_; have n2_ : Aside0 (w.heap.size ≤ g2) := ⟨by rw [hg_]; exact below_size (GS.lB HB.out)⟩; clear HB; have HB := n0_; have Bg2 := n1_; have Gg2 := n2_; clear n0_ n1_ n2_ hb_ hbox_ hg_) | ((with_reducible refine gate_dst (N := 3) rfl ?_); refine GS.bx (N := 3) (cs := #[.int .i64 a1]) (t := 3) ?_; intro g3 hg_ w3 hbox_ hb_; have n0_ := Aside0.mk (below_step (GS.lB HB.out) hb_); have n1_ := Aside0.mk hbox_; have n2_ : Aside0 (w.heap.size ≤ g3) := ⟨by rw [hg_]; exact below_size (GS.lB HB.out)⟩; have m0_ := Aside0.mk (blk_below (GS.bqX Bg2.out) hb_); have l0_ : Aside0 (g2 ≠ g3) := ⟨by rw [hg_]; exact Nat.ne_of_lt (blk_lt (GS.bqX Bg2.out))⟩; clear HB; have HB := n0_; have Bg3 := n1_; have Gg3 := n2_; clear Bg2; have Bg2 := m0_; have Ng2g3 := l0_; clear m0_ l0_; clear n0_ n1_ n2_ hb_ hbox_ hg_; obtain ⟨za0, za1, za2, qa0, qa1, qa2⟩ := GS.c3 (w := w3) Bg2.out; obtain ⟨zb0, qb0⟩ := GS.c1 (w := w3) Bg3.out) | (go_at_call 17; refine (sender_Check.calls k a0_0 a0_1 _ _ l0_2 0 _ (Kd.C_below HR.out HB.out) HC.out A2.out).mono ?_; rintro e w5 ⟨rfl, hb_⟩; have n0_ := Aside0.mk (below_step HB.out hb_); clear HB; have HB := n0_; clear n0_; have m0_ := Aside0.mk (blk_below Bg2.out hb_); clear Bg2; have Bg2 := m0_; clear m0_; have m1_ := Aside0.mk (blk_below Bg3.out hb_); clear Bg3; have Bg3 := m1_; clear m1_; clear hb_; clear za0 za1 za2 qa0 qa1 qa2 zb0 qb0; obtain ⟨za0, za1, za2, qa0, qa1, qa2⟩ := GS.c3 (w := w5) Bg2.out; obtain ⟨zb0, qb0⟩ := GS.c1 (w := w5) Bg3.out) | (go_at_call 40; refine (sender_node.calls a1 false _ A4.out).mono ?_; rintro e w6 ⟨rfl, hd_⟩; have hb_ := hd_.below; clear hd_; have n0_ := Aside0.mk (below_step HB.out hb_); clear HB; have HB := n0_; clear n0_; have m0_ := Aside0.mk (blk_below Bg2.out hb_); clear Bg2; have Bg2 := m0_; clear m0_; have m1_ := Aside0.mk (blk_below Bg3.out hb_); clear Bg3; have Bg3 := m1_; clear m1_; clear hb_; clear za0 za1 za2 qa0 qa1 qa2 zb0 qb0; obtain ⟨za0, za1, za2, qa0, qa1, qa2⟩ := GS.c3 (w := w6) Bg2.out; obtain ⟨zb0, qb0⟩ := GS.c1 (w := w6) Bg3.out))
      (go_ret2; exact ⟨_, rfl, Kd.R_nil _ _ _ _ _, HB.out⟩)
  · rw [if_neg c1] at H
    simp only [Option.some.injEq, Prod.mk.injEq] at H
    obtain ⟨rfl, rfl⟩ := H
    have c1b : (t == 0) = false := beq_eq_false_iff_ne.mpr c1
    have c1c : (t != 0) = true := bne_iff_ne.mpr c1
    clear c1
    go_enter Try.func30, Try.ntmps30
    go_wp2_with (first | ((with_reducible refine gate_dst (N := 2) rfl ?_); refine GS.bx (N := 2) (cs := #[.int .i64 a0_0, .int .i64 a0_1, .slice A0_2 l0_2.length c0_2]) (t := 24) ?_; intro g2 hg_ w2 hbox_ hb_; have n0_ := Aside0.mk (below_step (GS.lB HB.out) hb_); have n1_ := Aside0.mk hbox_; have n2_ : Aside0 (w.heap.size ≤ g2) := ⟨by rw [hg_]; exact below_size (GS.lB HB.out)⟩; clear HB; have HB := n0_; have Bg2 := n1_; have Gg2 := n2_; clear n0_ n1_ n2_ hb_ hbox_ hg_) | ((with_reducible refine gate_dst (N := 3) rfl ?_); refine GS.bx (N := 3) (cs := #[.int .i64 a1]) (t := 3) ?_; intro g3 hg_ w3 hbox_ hb_; have n0_ := Aside0.mk (below_step (GS.lB HB.out) hb_); have n1_ := Aside0.mk hbox_; have n2_ : Aside0 (w.heap.size ≤ g3) := ⟨by rw [hg_]; exact below_size (GS.lB HB.out)⟩; have m0_ := Aside0.mk (blk_below (GS.bqX Bg2.out) hb_); have l0_ : Aside0 (g2 ≠ g3) := ⟨by rw [hg_]; exact Nat.ne_of_lt (blk_lt (GS.bqX Bg2.out))⟩; clear HB; have HB := n0_; have Bg3 := n1_; have Gg3 := n2_; clear Bg2; have Bg2 := m0_; have Ng2g3 := l0_; clear m0_ l0_; clear n0_ n1_ n2_ hb_ hbox_ hg_; obtain ⟨za0, za1, za2, qa0, qa1, qa2⟩ := GS.c3 (w := w3) Bg2.out; obtain ⟨zb0, qb0⟩ := GS.c1 (w := w3) Bg3.out) | (go_at_call 17; refine (sender_Check.calls k a0_0 a0_1 _ _ l0_2 t _ (Kd.C_below HR.out HB.out) HC.out A2.out).mono ?_; rintro e w5 ⟨rfl, hb_⟩; have n0_ := Aside0.mk (below_step HB.out hb_); clear HB; have HB := n0_; clear n0_; have m0_ := Aside0.mk (blk_below Bg2.out hb_); clear Bg2; have Bg2 := m0_; clear m0_; have m1_ := Aside0.mk (blk_below Bg3.out hb_); clear Bg3; have Bg3 := m1_; clear m1_; clear hb_; clear za0 za1 za2 qa0 qa1 qa2 zb0 qb0; obtain ⟨za0, za1, za2, qa0, qa1, qa2⟩ := GS.c3 (w := w5) Bg2.out; obtain ⟨zb0, qb0⟩ := GS.c1 (w := w5) Bg3.out))
    (go_ret2; exact ⟨_, rfl, Kd.R_nil _ _ _ _ _, HB.out⟩)
end Go.Proofs.Ytfafeeobjlkjnaa.K
