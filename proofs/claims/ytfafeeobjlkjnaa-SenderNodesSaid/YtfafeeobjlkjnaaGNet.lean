/- By hand: network.Check at a list of one envelope: the error of the envelope alone (the map of names is empty when it is asked). -/
import Derived.Test.YtfafeeobjlkjnaaK4
import Derived.Test.YtfafeeobjlkjnaaGW
namespace Go.Proofs.Ytfafeeobjlkjnaa.K
open Go.RowKit Go.Proofs.YtfafeeobjlkjnaaW.PrintWords Go.Proofs.YtfafeeobjlkjnaaW.PrintLast Go.Proofs.YtfafeeobjlkjnaaW.PrintMore Go.Proofs.Ytfafeeobjlkjnaa.GW
set_option linter.unusedVariables false
set_option linter.unusedSimpArgs false

def netOne (k : Nat) (i : Int) (x : S33) : Option (Int × Int) :=
  if x.f0 < 1 then some (i, 2) else if x.f0 > 99 then some (i, 2) else if x.f1 < 1 then some (i, 2) else if x.f1 > 99 then some (i, 2) else if x.f2 < 1 then some (i, 2) else if x.f2 > 1073741824 then some (i, 2) else
  if x.f0 = x.f1 then some (i, 10) else (document_Check.f k x.f3.f0 x.f3.f1 x.f3.f2 x.f3.f3 x.f3.f4 x.f3.f5 x.f3.f6).bind fun t => if t = 0 then some (-1, 0) else some (i, 1)
def network_Check.f (k : Nat) (l0 : List S33) : Option (Int × Int) := if l0.length = 1 then netOne k 0 (rd_T33 l0 0) else none
theorem network_Check.mono : ∀ a0 k, LeO (network_Check.f k a0) (network_Check.f (k + 1) a0) := by
  intro a0 k
  unfold network_Check.f netOne
  repeat' first
  | (with_reducible exact document_Check.mono _ _ _ _ _ _ _ _)
  | (with_reducible exact LeO.refl _)
  | (with_reducible refine LeO.ite ?_ ?_)
  | (with_reducible refine LeO.bind ?_ (fun _ => ?_))

theorem ck85 (e : Bool) (a b : Int) (w : World) : (Instr.checkKey e 10000 85 (.agg #[.int .i64 a, .int .i64 b])).run Try.prog w = .ok () w := by kernel_rfl
theorem zv4 (w : World) : (zeroValue 4).run Try.prog w = .ok (.bool false) w := by kernel_rfl

set_option maxHeartbeats 8000000 in
set_option maxRecDepth 100000 in
theorem network_Check.calls (k : Nat) (A0 : Option Addr) (c0 : Nat) (l0 : List S33) (r1 r2 : Int) (w : World) (hr0 : Kd.C k33 w A0 l0.length l0) (hc0 : l0.length ≤ c0) (h : network_Check.f k l0 = some (r1, r2)) :
    Calls Try.prog 45 #[.slice A0 l0.length c0] w fun e w' => e = .returned (.tuple #[.int .i64 r1, .int .i64 r2]) ∧ Below w.heap.size w w' := by
  have hu33 := Try.underlying33
  have hu26 := Try.underlying26
  have hu85 := Try.underlying85
  have HR := Aside0.mk hr0
  clear hr0 hc0
  unfold network_Check.f at h
  by_cases h1 : l0.length = 1
  · rw [if_pos h1] at h
    have HL := Aside0.mk h1
    have HH := Aside0.mk h
    clear h
    have hlen0 : decide (64 < (l0.length : Int)) = false := by rw [h1]; rfl
    have hlen1 : decide (64 < l0.length) = false := by rw [h1]; rfl
    clear h1
    go_enter Try.func45, Try.ntmps45
    go_wp2_with ((with_reducible refine gate_op (N := some 10) (op := .makeMap 83 none) rfl rfl ?_); refine map_event rfl rfl ?_; intro mb hmb w1 hmap hb; have HM := Aside0.mk hmap; have HB := Aside0.mk hb; have HMB := Aside0.mk hmb; clear hmap hb hmb)
    go_loopg [13] 1 (fun kq v13 w' => ∃ i : Int, v13 = .int .i64 i ∧ Aside0 (i = 1 - (kq : Int) ∧ kq ≤ 1) ∧ Aside0 (kq = 0 → r1 = -1 ∧ r2 = 0) ∧ Aside0 (kq = 1 → w'.heap[mb]? = some (.map #[] 0)) ∧ Aside0 (Below w.heap.size w w'))
    case atStart => exact ⟨0, rfl, ⟨by omega, by omega⟩, ⟨fun h => by omega⟩, ⟨fun _ => HM.out⟩, ⟨HB.out⟩⟩
    case round =>
      clear HM HB
      obtain ⟨i, rfl, HI, HR1, HM, HB⟩ := hrel
      cases gk with
      | zero =>
        obtain rfl : i = 1 := by have := HI.out; omega
        obtain ⟨rfl, rfl⟩ := HR1.out rfl
        have c1 : decide ((1 : Int) < (l0.length : Int)) = false := by rw [HL.out]; rfl
        have c2 : decide (1 < l0.length) = false := by rw [HL.out]; rfl
        go_wp2
        go_ret2
        exact ⟨rfl, HB.out⟩
      | succ gk =>
        obtain rfl : gk = 0 := by have := HI.out.2; omega
        have HI2 : Aside0 (i = 0) := ⟨by have := HI.out; omega⟩
        have c1 : decide (i < (l0.length : Int)) = true := by rw [HL.out, HI2.out]; rfl
        have H0 : netOne k i (rd_T33 l0 i) = some (r1, r2) := by rw [HI2.out]; exact HH.out
        clear HH HI HR1
        have p1 : 0 ≤ i := by rw [HI2.out]; omega
        have q1 : i < (l0.length : Int) := by rw [HI2.out, HL.out]; omega
        obtain ⟨ad, e1, x0, x1, x2, x3, x4, x5, x6, x7, x8, x9⟩ := at_T33 (Kd.C_below HR.out HB.out) i p1 q1
        cases e1
        replace p1 := eq_true p1
        replace q1 := eq_true q1
        unfold netOne at H0
        have HMB' := HMB
        by_cases t0 : (rd_T33 l0 i).f0 < 1
        · rw [if_pos t0] at H0
          simp only [Option.some.injEq, Prod.mk.injEq] at H0
          obtain ⟨rfl, rfl⟩ := H0
          have t0b : decide ((rd_T33 l0 i).f0 < 1) = true := decide_eq_true t0
          clear t0
          go_wp2
          go_ret2
          exact ⟨rfl, by repeat (first | (with_reducible first | exact HB.out | apply below_alloc | apply below_drew1 | refine below_set ?_ HB.out.size | refine below_setCells ?_ HB.out.size) | exact HB.out)⟩
        rw [if_neg t0] at H0
        have t0b : decide ((rd_T33 l0 i).f0 < 1) = false := decide_eq_false t0
        clear t0
        by_cases t1 : (rd_T33 l0 i).f0 > 99
        · rw [if_pos t1] at H0
          simp only [Option.some.injEq, Prod.mk.injEq] at H0
          obtain ⟨rfl, rfl⟩ := H0
          have t1b : decide (99 < (rd_T33 l0 i).f0) = true := decide_eq_true t1
          clear t1
          go_wp2
          go_ret2
          exact ⟨rfl, by repeat (first | (with_reducible first | exact HB.out | apply below_alloc | apply below_drew1 | refine below_set ?_ HB.out.size | refine below_setCells ?_ HB.out.size) | exact HB.out)⟩
        rw [if_neg t1] at H0
        have t1b : decide (99 < (rd_T33 l0 i).f0) = false := decide_eq_false t1
        clear t1
        by_cases t2 : (rd_T33 l0 i).f1 < 1
        · rw [if_pos t2] at H0
          simp only [Option.some.injEq, Prod.mk.injEq] at H0
          obtain ⟨rfl, rfl⟩ := H0
          have t2b : decide ((rd_T33 l0 i).f1 < 1) = true := decide_eq_true t2
          clear t2
          go_wp2
          go_ret2
          exact ⟨rfl, by repeat (first | (with_reducible first | exact HB.out | apply below_alloc | apply below_drew1 | refine below_set ?_ HB.out.size | refine below_setCells ?_ HB.out.size) | exact HB.out)⟩
        rw [if_neg t2] at H0
        have t2b : decide ((rd_T33 l0 i).f1 < 1) = false := decide_eq_false t2
        clear t2
        by_cases t3 : (rd_T33 l0 i).f1 > 99
        · rw [if_pos t3] at H0
          simp only [Option.some.injEq, Prod.mk.injEq] at H0
          obtain ⟨rfl, rfl⟩ := H0
          have t3b : decide (99 < (rd_T33 l0 i).f1) = true := decide_eq_true t3
          clear t3
          go_wp2
          go_ret2
          exact ⟨rfl, by repeat (first | (with_reducible first | exact HB.out | apply below_alloc | apply below_drew1 | refine below_set ?_ HB.out.size | refine below_setCells ?_ HB.out.size) | exact HB.out)⟩
        rw [if_neg t3] at H0
        have t3b : decide (99 < (rd_T33 l0 i).f1) = false := decide_eq_false t3
        clear t3
        by_cases t4 : (rd_T33 l0 i).f2 < 1
        · rw [if_pos t4] at H0
          simp only [Option.some.injEq, Prod.mk.injEq] at H0
          obtain ⟨rfl, rfl⟩ := H0
          have t4b : decide ((rd_T33 l0 i).f2 < 1) = true := decide_eq_true t4
          clear t4
          go_wp2
          go_ret2
          exact ⟨rfl, by repeat (first | (with_reducible first | exact HB.out | apply below_alloc | apply below_drew1 | refine below_set ?_ HB.out.size | refine below_setCells ?_ HB.out.size) | exact HB.out)⟩
        rw [if_neg t4] at H0
        have t4b : decide ((rd_T33 l0 i).f2 < 1) = false := decide_eq_false t4
        clear t4
        by_cases t5 : (rd_T33 l0 i).f2 > 1073741824
        · rw [if_pos t5] at H0
          simp only [Option.some.injEq, Prod.mk.injEq] at H0
          obtain ⟨rfl, rfl⟩ := H0
          have t5b : decide (1073741824 < (rd_T33 l0 i).f2) = true := decide_eq_true t5
          clear t5
          go_wp2
          go_ret2
          exact ⟨rfl, by repeat (first | (with_reducible first | exact HB.out | apply below_alloc | apply below_drew1 | refine below_set ?_ HB.out.size | refine below_setCells ?_ HB.out.size) | exact HB.out)⟩
        rw [if_neg t5] at H0
        have t5b : decide (1073741824 < (rd_T33 l0 i).f2) = false := decide_eq_false t5
        clear t5
        by_cases t6 : (rd_T33 l0 i).f0 = (rd_T33 l0 i).f1
        · rw [if_pos t6] at H0
          simp only [Option.some.injEq, Prod.mk.injEq] at H0
          obtain ⟨rfl, rfl⟩ := H0
          have t6b : ((rd_T33 l0 i).f0 == (rd_T33 l0 i).f1) = true := beq_iff_eq.mpr t6
          clear t6
          go_wp2
          go_ret2
          exact ⟨rfl, by repeat (first | (with_reducible first | exact HB.out | apply below_alloc | apply below_drew1 | refine below_set ?_ HB.out.size | refine below_setCells ?_ HB.out.size) | exact HB.out)⟩
        rw [if_neg t6] at H0
        have t6b : ((rd_T33 l0 i).f0 == (rd_T33 l0 i).f1) = false := beq_eq_false_iff_ne.mpr t6
        clear t6
        obtain ⟨t, A1, H1⟩ := Option.bind_eq_some_iff.mp H0
        clear H0
        have A := Aside0.mk A1
        clear A1
        have HMAP := Aside0.mk (HM.out rfl)
        clear HM
        by_cases t7 : t = 0
        · rw [if_pos t7] at H1
          simp only [Option.some.injEq, Prod.mk.injEq] at H1
          obtain ⟨rfl, rfl⟩ := H1
          subst t7
          go_wp2_with (first
            | (go_at_call 42; refine (document_Check.calls k _ _ _ _ _ _ _ 0 _ A.out).mono ?_; rintro e w7 ⟨rfl, hb⟩; have BK := Aside0.mk (blk_below (blk_new wr _) hb); have HMAP2 := Aside0.mk (blk_below (blk_alloc HMAP.out _) hb); have HB2 := Aside0.mk (below_step (below_alloc HB.out _) hb); clear hb; have z0 := (blk_cell BK.out 0).trans rfl; have z1 := (blk_cell BK.out 1).trans rfl; have z2 := (blk_cell BK.out 2).trans rfl)
            | ((with_reducible refine gate_op (N := some 68) (op := .lookup 83 (.tmp 62) (.tmp 67) false) rfl rfl ?_); refine lookup_event rfl rfl rfl rfl (run_lookup0 Try.underlying83 HMAP2.out (ck85 _ _ _ _) Try.underlying85 (zv4 _)) ?_)
            | ((with_reducible refine gate_op (N := none) (op := .mapUpdate 83 (.tmp 70) (.tmp 75) (.const (.bool true))) rfl rfl ?_); refine update_event rfl rfl rfl rfl rfl (run_update0 Try.underlying83 HMAP2.out (ck85 _ _ _ _) Try.underlying85) ?_))
          go_roundg 0
          case measure => omega
          case rel => exact ⟨wrap64 (i + 1), rfl, ⟨by rw [HI2.out]; unfold wrap64; omega, by omega⟩, ⟨by simp⟩, ⟨fun h => by omega⟩, ⟨below_mset HB2.out (by rw [HMB.out]; exact Nat.le_refl _) _⟩⟩
        · rw [if_neg t7] at H1
          simp only [Option.some.injEq, Prod.mk.injEq] at H1
          obtain ⟨rfl, rfl⟩ := H1
          have t7b : (t == 0) = false := beq_eq_false_iff_ne.mpr t7
          have t7c : (t != 0) = true := bne_iff_ne.mpr t7
          clear t7
          go_wp2_with (go_at_call 42; refine (document_Check.calls k _ _ _ _ _ _ _ t _ A.out).mono ?_; rintro e w7 ⟨rfl, hb⟩; have HB2 := Aside0.mk (below_step (below_alloc HB.out _) hb); clear hb)
          go_ret2
          exact ⟨rfl, HB2.out⟩
  · rw [if_neg h1] at h
    cases h
end Go.Proofs.Ytfafeeobjlkjnaa.K
