/- By hand: capacity.Frustums. -/
import Derived.Test.YtmcmbjkjilcmeaaGAt
import Derived.Test.YtmcmbjkjilcmeaaGReg
import Derived.LoopIn
namespace Go.Proofs.Ytmcmbjkjilcmeaa.K
open Go Go.RowKit Go.Shelf Go.Proofs.YtmcmbjkjilcmeaaW.PrintWords Go.Proofs.YtmcmbjkjilcmeaaW.PrintLast Go.Proofs.YtmcmbjkjilcmeaaW.PrintMore Go.Proofs.Ytmcmbjkjilcmeaa.GW
set_option linter.unusedVariables false
set_option linter.unusedSimpArgs false
attribute [local go_sem] Oper.semAt_some
def fruT (s : S33 × S33) : Int := (s.2.f0 - s.1.f0) * (s.1.f1 * s.1.f1 + s.1.f1 * s.2.f1 + s.2.f1 * s.2.f1)
def fru (l : List (S33 × S33)) : Int := l.foldl (fun s x => s + fruT x) 0
theorem fru_snoc (l : List (S33 × S33)) (x : S33 × S33) : fru (l ++ [x]) = fru l + fruT x := by simp [fru]
theorem mul_nn (a b A B : Int) (ha : 0 ≤ a ∧ a ≤ A) (hb : 0 ≤ b ∧ b ≤ B) : 0 ≤ a * b ∧ a * b ≤ A * B :=
  ⟨Int.mul_nonneg ha.1 hb.1, Int.le_trans (Int.mul_le_mul_of_nonneg_right ha.2 hb.1) (Int.mul_le_mul_of_nonneg_left hb.2 (Int.le_trans ha.1 ha.2))⟩
theorem wrap_id2 (n : Int) (h : 0 ≤ n ∧ n ≤ 4000000000000000000) : wrap64 n = n := by unfold wrap64; omega
theorem fruT_bd (s : S33 × S33) (h : len1 s) : 0 ≤ fruT s ∧ fruT s ≤ 3000000000000000 := by
  obtain ⟨⟨m1, m2, m3⟩, m4, m5⟩ := h
  have a1 := mul_nn _ _ _ _ m4 m4
  have a2 := mul_nn _ _ _ _ m4 m5
  have a3 := mul_nn _ _ _ _ m5 m5
  exact mul_nn (s.2.f0 - s.1.f0) _ 100000 30000000000 ⟨by omega, by omega⟩ ⟨by omega, by omega⟩
theorem fru_bd' : ∀ (l : List (S33 × S33)) (s : Int), (∀ x ∈ l, len1 x) → s ≤ l.foldl (fun s x => s + fruT x) s ∧ l.foldl (fun s x => s + fruT x) s ≤ s + l.length * 3000000000000000
  | [], s, _ => by simp
  | x :: r, s, h => by
    have h1 := fru_bd' r (s + fruT x) (fun y hy => h y (by simp [hy]))
    have h2 := fruT_bd x (h x (by simp))
    rw [List.foldl_cons, List.length_cons]
    omega
theorem fru_bd (l : List (S33 × S33)) (h : ∀ s ∈ l, len1 s) : 0 ≤ fru l ∧ fru l ≤ l.length * 3000000000000000 := by
  have := fru_bd' l 0 h
  unfold fru
  omega
theorem eg_fru (args : Array Value) (w : World) : (callFunc 65 args).run Try.prog w = .ok (.enter 65 args) w := enters_ Try.func65 (by kernel_rfl) rfl args w
set_option maxRecDepth 100000 in
set_option maxHeartbeats 4000000 in
theorem fru1 (n : Nat) (Bs : Nat) (s : Int) (x : S33 × S33) (W : World) (bS : Boxed W Bs 3 (.int .i64 s)) (hx : len1 x) (hs : 0 ≤ s ∧ s ≤ 1000000000000000000) :
    CallsIn Fence.wide n Try.prog 65 #[.int .i64 (x.2.f0 - x.1.f0), .int .i64 x.1.f1, .int .i64 x.2.f1, .pointer (some ⟨Bs, 0, none⟩)] W fun e W' => (∃ v, e = .returned v) ∧ W' = W.setCell ⟨Bs, 0, none⟩ (.int .i64 (s + fruT x)) := by
  have cS := bS.cell
  have fS := bS.frozen
  have b1 := fruT_bd x hx
  obtain ⟨⟨m1, m2, m3⟩, m4, m5⟩ := hx
  have a1 := mul_nn _ _ _ _ m4 m4
  have a2 := mul_nn _ _ _ _ m4 m5
  have a3 := mul_nn _ _ _ _ m5 m5
  unfold fruT at b1 ⊢
  have w1 : wrap64 (x.1.f1 * x.1.f1) = x.1.f1 * x.1.f1 := wrap_id2 _ (by omega)
  have w2 : wrap64 (x.1.f1 * x.2.f1) = x.1.f1 * x.2.f1 := wrap_id2 _ (by omega)
  have w3 : wrap64 (x.2.f1 * x.2.f1) = x.2.f1 * x.2.f1 := wrap_id2 _ (by omega)
  have w4 : wrap64 (x.1.f1 * x.1.f1 + x.1.f1 * x.2.f1) = x.1.f1 * x.1.f1 + x.1.f1 * x.2.f1 := wrap_id2 _ (by omega)
  have w5 : wrap64 (x.1.f1 * x.1.f1 + x.1.f1 * x.2.f1 + x.2.f1 * x.2.f1) = x.1.f1 * x.1.f1 + x.1.f1 * x.2.f1 + x.2.f1 * x.2.f1 := wrap_id2 _ (by omega)
  obtain ⟨q, hq⟩ : ∃ q, x.1.f1 * x.1.f1 + x.1.f1 * x.2.f1 + x.2.f1 * x.2.f1 = q := ⟨_, rfl⟩
  rw [hq] at w5 b1 ⊢
  have w6 : wrap64 ((x.2.f0 - x.1.f0) * q) = (x.2.f0 - x.1.f0) * q := wrap_id2 _ (by omega)
  have w7 : wrap64 (s + (x.2.f0 - x.1.f0) * q) = s + (x.2.f0 - x.1.f0) * q := wrap_id2 _ (by omega)
  clear m1 m2 m3 m4 m5 a1 a2 a3 b1 hs
  refine callsIn_of_wp Try.func65 rfl trivial ?_ rfl
  simp only [Try.ntmps65, List.size_toArray, List.length_cons, List.length_nil, Nat.reduceAdd, Nat.reduceSub, Array.replicate_succ, Array.replicate_zero, List.push_toArray, List.append_toArray, List.nil_append, List.cons_append]
  gi_wp2
  go_end0
  exact ⟨⟨_, rfl⟩, rfl⟩
theorem boxed_drew {W : World} {B t : Nat} {v : Value} (h : Boxed W B t v) : Boxed W.drew B t v := h
set_option maxRecDepth 100000 in
set_option maxHeartbeats 4000000 in
theorem frus_in (n : Nat) (hn : 6 ≤ n) (A0 : Option Addr) (c0 : Nat) (l0 : List S33) (w : World) (hr : Kd.C k33 w A0 l0.length l0) (hc : l0.length ≤ c0) :
    CallsIn Fence.wide n Try.prog 48 #[.slice A0 l0.length c0] w fun e w' => e = .returned (.tuple #[.int .i64 (if profC l0 = 0 then fru (pairs l0) else 0), .int .i64 (profC l0)]) ∧ Below w.heap.size w w' := by
  have h1 : 1 ≤ n := by omega
  have hu33 := Try.underlying33
  have HR := Aside0.mk hr
  have HC := Aside0.mk hc
  have HB := Aside0.mk (Below.refl w.heap.size w)
  have hmx : Try.prog.follows .mixedOrders = true := by kernel_rfl
  clear hr hc
  by_cases c1 : profC l0 = 0
  · rw [if_pos c1, c1]
    have HP := Aside0.mk c1
    have HM := Aside0.mk (prof_len1 l0 c1)
    have HL := Aside0.mk (prof_short l0 c1)
    have hpl := pairs_len l0
    clear c1
    refine callsIn_of_wp Try.func48 rfl trivial ?_ rfl
    simp only [Try.ntmps48, List.size_toArray, List.length_cons, List.length_nil, Nat.reduceAdd, Nat.reduceSub, Array.replicate_succ, Array.replicate_zero, List.push_toArray, List.append_toArray, List.nil_append, List.cons_append]
    gi_wp2_with (refine ⟨trivial, ?_⟩; gi_at_call 54; refine (callsIn_wide.2 (check54.calls A0 c0 l0 0 _ (GS.rC HR.out) HC.out (by rw [check54.f, HP.out]))).mono ?_; rintro e w1 ⟨rfl, hb1⟩)
    have hB1 := hb1
    obtain ⟨Bs, hBs⟩ : ∃ Bs, w1.heap.size = Bs := ⟨_, rfl⟩
    have bS0 := Boxed.new w1 3 (.int .i64 0)
    have hb0 := hB1.alloc hB1.size (.cells #[.int .i64 0] 3)
    have hBsw : w.heap.size ≤ Bs := by rw [← hBs]; exact hB1.size
    rw [hBs] at bS0 ⊢
    clear hb1
    gi_loopw [7] (fun v7 wr => ∃ i : Nat, v7 = .int .i64 ((i : Int) + 1) ∧ i ≤ (pairs l0).length ∧ Boxed wr Bs 3 (.int .i64 (fru ((pairs l0).take i))) ∧ Below w.heap.size w wr)
      (fun v7 wr => match v7 with | .int _ i => (l0.length - i.toNat) | _ => 0)
    case atStart => exact ⟨0, rfl, Nat.zero_le _, bS0, hb0⟩
    case round =>
      obtain ⟨i, rfl, hi, bS, hb⟩ := hrel
      by_cases hlt : i < (pairs l0).length
      · have q0 : i + 1 < l0.length := ar_pairs hlt hpl
        have HLT := Aside0.mk hlt
        have hbd := fru_bd ((pairs l0).take i) (fun s hs => HM.out s (List.mem_of_mem_take hs))
        have hs2 : 0 ≤ fru ((pairs l0).take i) ∧ fru ((pairs l0).take i) ≤ 1000000000000000000 := by
          have := List.length_take_le i (pairs l0)
          have := HL.out
          omega
        clear hlt hi hpl hbd
        have q1 : decide ((i : Int) + 1 < (l0.length : Int)) = true := decide_eq_true (by omega)
        have HLL := HL.out
        have hw1 : wrap64 ((i : Int) + 1 - 1) = (i : Int) := by unfold wrap64; omega
        have hw2 : wrap64 (i : Int) = (i : Int) := by unfold wrap64; omega
        have hC := Kd.C_below (GS.rC HR.out) hb
        obtain ⟨ad, e1, x0, x1⟩ := at_T33 hC (i : Int) (by omega) (by omega)
        cases e1
        obtain ⟨ad', e2, y0, y1⟩ := at_T33 hC ((i : Int) + 1) (by omega) (by omega)
        obtain rfl : ad = ad' := by injection e2
        clear e2
        have p2 : (0 ≤ (i : Int)) = True := eq_true (by omega)
        have p3 : (0 ≤ (i : Int) + 1) = True := eq_true (by omega)
        have q2 : ((i : Int) < (l0.length : Int)) = True := eq_true (by omega)
        have q3 : ((i : Int) + 1 < (l0.length : Int)) = True := eq_true (by omega)
        have hw : wrap64 ((i : Int) + 1 + 1) = ((i + 1 : Nat) : Int) + 1 := by unfold wrap64; omega
        have hg := pairs_rd l0 i q0
        obtain ⟨px, hpx⟩ : ∃ px, rd_T33 l0 (i : Int) = px := ⟨_, rfl⟩
        obtain ⟨qx, hqx⟩ : ∃ qx, rd_T33 l0 ((i : Int) + 1) = qx := ⟨_, rfl⟩
        rw [hpx] at x0 x1 hg
        rw [hqx] at y0 y1 hg
        have hm2 : len1 (px, qx) := HM.out _ (List.mem_of_mem_take (i := i + 1) (by rw [hg]; simp))
        have w9 : wrap64 (qx.f0 - px.f0) = qx.f0 - px.f0 := wrap_id _ (by have := hm2.1; dsimp only at this; omega)
        simp only [Int.toNat_natCast] at x0 x1
        rw [show ((i : Int) + 1).toNat = i + 1 by omega] at y0 y1
        clear HLL
        gi_wp2
        refine GI.start_ (m := 25) (S := fun w' => w' = wr.drew) (ds := [24]) #[false, false, false, false, false, false, false, false, false, false, false, false, false, false, false, false, false, false, false, false, false, false, false, false, false] (by kernel_rfl) rfl rfl rfl (fun hHeld => ?_)
        refine GI.pure_ (i := 0) (N := some 20) (v := ?_) (a' := ?_) #[true, false, false, false, false, false, false, false, false, false, false, false, false, false, false, false, false, false, false, false, false, false, false, false, false] rfl rfl (by kernel_rfl) (fun _ _ _ h => h) (fun _ => rfl) (Or.inl ⟨by rfl, ?_⟩) ?_ ?_
        rotate_left
        · intro w'
          go_simp
          with_reducible rfl
        rotate_left
        · simp only [Act.put, List.setIfInBounds_toArray, List.set_cons_zero, List.set_cons_succ, i64_w, i32_w]
          rfl
        refine GI.pure_ (i := 1) (N := some 21) (v := ?_) (a' := ?_) #[true, true, false, false, false, false, false, false, false, false, false, false, false, false, false, false, false, false, false, false, false, false, false, false, false] rfl rfl (by kernel_rfl) (fun _ _ _ h => h) (fun _ => rfl) (Or.inl ⟨by rfl, ?_⟩) ?_ ?_
        rotate_left
        · intro w'
          go_simp
          with_reducible rfl
        rotate_left
        · simp only [Act.put, List.setIfInBounds_toArray, List.set_cons_zero, List.set_cons_succ, i64_w, i32_w]
          rfl
        refine GI.pure_ (i := 2) (N := some 22) (v := ?_) (a' := ?_) #[true, true, true, false, false, false, false, false, false, false, false, false, false, false, false, false, false, false, false, false, false, false, false, false, false] rfl rfl (by kernel_rfl) (fun _ _ _ h => h) (fun _ => rfl) (Or.inl ⟨by rfl, ?_⟩) ?_ ?_
        rotate_left
        · intro w'
          go_simp
          with_reducible rfl
        rotate_left
        · simp only [Act.put, List.setIfInBounds_toArray, List.set_cons_zero, List.set_cons_succ, i64_w, i32_w]
          rfl
        refine GI.pure_ (i := 6) (N := some 26) (v := ?_) (a' := ?_) #[true, true, true, false, false, false, true, false, false, false, false, false, false, false, false, false, false, false, false, false, false, false, false, false, false] rfl rfl (by kernel_rfl) (fun _ _ _ h => h) (fun _ => rfl) (Or.inl ⟨by rfl, ?_⟩) ?_ ?_
        rotate_left
        · intro w'
          go_simp
          with_reducible rfl
        rotate_left
        · simp only [Act.put, List.setIfInBounds_toArray, List.set_cons_zero, List.set_cons_succ, i64_w, i32_w]
          rfl
        refine GI.pure_ (i := 7) (N := some 27) (v := ?_) (a' := ?_) #[true, true, true, false, false, false, true, true, false, false, false, false, false, false, false, false, false, false, false, false, false, false, false, false, false] rfl rfl (by kernel_rfl) (fun _ _ _ h => h) (fun _ => rfl) (Or.inl ⟨by rfl, ?_⟩) ?_ ?_
        rotate_left
        · intro w'
          go_simp
          with_reducible rfl
        rotate_left
        · simp only [Act.put, List.setIfInBounds_toArray, List.set_cons_zero, List.set_cons_succ, i64_w, i32_w]
          rfl
        refine GI.pure_ (i := 13) (N := some 33) (v := ?_) (a' := ?_) #[true, true, true, false, false, false, true, true, false, false, false, false, false, true, false, false, false, false, false, false, false, false, false, false, false] rfl rfl (by kernel_rfl) (fun _ _ _ h => h) (fun _ => rfl) (Or.inl ⟨by rfl, ?_⟩) ?_ ?_
        rotate_left
        · intro w'
          go_simp
          with_reducible rfl
        rotate_left
        · simp only [Act.put, List.setIfInBounds_toArray, List.set_cons_zero, List.set_cons_succ, i64_w, i32_w]
          rfl
        refine GI.pure_ (i := 14) (N := some 34) (v := ?_) (a' := ?_) #[true, true, true, false, false, false, true, true, false, false, false, false, false, true, true, false, false, false, false, false, false, false, false, false, false] rfl rfl (by kernel_rfl) (fun _ _ _ h => h) (fun _ => rfl) (Or.inl ⟨by rfl, ?_⟩) ?_ ?_
        rotate_left
        · intro w'
          go_simp
          with_reducible rfl
        rotate_left
        · simp only [Act.put, List.setIfInBounds_toArray, List.set_cons_zero, List.set_cons_succ, i64_w, i32_w]
          rfl
        refine GI.pure_ (i := 19) (N := some 39) (v := ?_) (a' := ?_) #[true, true, true, false, false, false, true, true, false, false, false, false, false, true, true, false, false, false, false, true, false, false, false, false, false] rfl rfl (by kernel_rfl) (fun _ _ _ h => h) (fun _ => rfl) (Or.inl ⟨by rfl, ?_⟩) ?_ ?_
        rotate_left
        · intro w'
          go_simp
          with_reducible rfl
        rotate_left
        · simp only [Act.put, List.setIfInBounds_toArray, List.set_cons_zero, List.set_cons_succ, i64_w, i32_w]
          rfl
        refine GI.pure_ (i := 20) (N := some 40) (v := ?_) (a' := ?_) #[true, true, true, false, false, false, true, true, false, false, false, false, false, true, true, false, false, false, false, true, true, false, false, false, false] rfl rfl (by kernel_rfl) (fun _ _ _ h => h) (fun _ => rfl) (Or.inl ⟨by rfl, ?_⟩) ?_ ?_
        rotate_left
        · intro w'
          go_simp
          with_reducible rfl
        rotate_left
        · simp only [Act.put, List.setIfInBounds_toArray, List.set_cons_zero, List.set_cons_succ, i64_w, i32_w]
          rfl
        refine GI.pure_ (i := 3) (N := some 23) (v := ?_) (a' := ?_) #[true, true, true, true, false, false, true, true, false, false, false, false, false, true, true, false, false, false, false, true, true, false, false, false, false] rfl rfl (by kernel_rfl) (fun _ _ _ h => h) (fun _ => rfl) (Or.inl ⟨by rfl, ?_⟩) ?_ ?_
        rotate_left
        · intro w'
          go_simp
          with_reducible rfl
        rotate_left
        · simp only [Act.put, List.setIfInBounds_toArray, List.set_cons_zero, List.set_cons_succ, i64_w, i32_w]
          rfl
        refine GI.pure_ (i := 8) (N := some 28) (v := ?_) (a' := ?_) #[true, true, true, true, false, false, true, true, true, false, false, false, false, true, true, false, false, false, false, true, true, false, false, false, false] rfl rfl (by kernel_rfl) (fun _ _ _ h => h) (fun _ => rfl) (Or.inl ⟨by rfl, ?_⟩) ?_ ?_
        rotate_left
        · intro w'
          go_simp
          with_reducible rfl
        rotate_left
        · simp only [Act.put, List.setIfInBounds_toArray, List.set_cons_zero, List.set_cons_succ, i64_w, i32_w]
          rfl
        refine GI.pure_ (i := 15) (N := some 35) (v := ?_) (a' := ?_) #[true, true, true, true, false, false, true, true, true, false, false, false, false, true, true, true, false, false, false, true, true, false, false, false, false] rfl rfl (by kernel_rfl) (fun _ _ _ h => h) (fun _ => rfl) (Or.inl ⟨by rfl, ?_⟩) ?_ ?_
        rotate_left
        · intro w'
          go_simp
          with_reducible rfl
        rotate_left
        · simp only [Act.put, List.setIfInBounds_toArray, List.set_cons_zero, List.set_cons_succ, i64_w, i32_w]
          rfl
        refine GI.pure_ (i := 21) (N := some 41) (v := ?_) (a' := ?_) #[true, true, true, true, false, false, true, true, true, false, false, false, false, true, true, true, false, false, false, true, true, true, false, false, false] rfl rfl (by kernel_rfl) (fun _ _ _ h => h) (fun _ => rfl) (Or.inl ⟨by rfl, ?_⟩) ?_ ?_
        rotate_left
        · intro w'
          go_simp
          with_reducible rfl
        rotate_left
        · simp only [Act.put, List.setIfInBounds_toArray, List.set_cons_zero, List.set_cons_succ, i64_w, i32_w]
          rfl
        refine GI.pure_ (i := 9) (N := some 29) (v := ?_) (a' := ?_) #[true, true, true, true, false, false, true, true, true, true, false, false, false, true, true, true, false, false, false, true, true, true, false, false, false] rfl rfl (by kernel_rfl) (fun _ _ _ h => h) (fun _ => rfl) (Or.inl ⟨by rfl, ?_⟩) ?_ ?_
        rotate_left
        · intro w'
          go_simp
          with_reducible rfl
        rotate_left
        · simp only [Act.put, List.setIfInBounds_toArray, List.set_cons_zero, List.set_cons_succ, i64_w, i32_w]
          rfl
        refine GI.pure_ (i := 16) (N := some 36) (v := ?_) (a' := ?_) #[true, true, true, true, false, false, true, true, true, true, false, false, false, true, true, true, true, false, false, true, true, true, false, false, false] rfl rfl (by kernel_rfl) (fun _ _ _ h => h) (fun _ => rfl) (Or.inl ⟨by rfl, ?_⟩) ?_ ?_
        rotate_left
        · intro w'
          go_simp
          with_reducible rfl
        rotate_left
        · simp only [Act.put, List.setIfInBounds_toArray, List.set_cons_zero, List.set_cons_succ, i64_w, i32_w]
          rfl
        refine GI.pure_ (i := 4) (N := some 24) (v := ?_) (a' := ?_) #[true, true, true, true, true, false, true, true, true, true, false, false, false, true, true, true, true, false, false, true, true, true, false, false, false] rfl rfl (by kernel_rfl) (fun _ _ _ h => h) (fun _ => rfl) (Or.inl ⟨by rfl, ?_⟩) ?_ ?_
        rotate_left
        · intro w'
          go_simp
          with_reducible rfl
        rotate_left
        · simp only [Act.put, List.setIfInBounds_toArray, List.set_cons_zero, List.set_cons_succ, i64_w, i32_w]
          rfl
        refine GI.pure_ (i := 10) (N := some 30) (v := ?_) (a' := ?_) #[true, true, true, true, true, false, true, true, true, true, true, false, false, true, true, true, true, false, false, true, true, true, false, false, false] rfl rfl (by kernel_rfl) (fun _ _ _ h => h) (fun _ => rfl) (Or.inl ⟨by rfl, ?_⟩) ?_ ?_
        rotate_left
        · intro w'
          go_simp
          with_reducible rfl
        rotate_left
        · simp only [Act.put, List.setIfInBounds_toArray, List.set_cons_zero, List.set_cons_succ, i64_w, i32_w]
          rfl
        refine GI.pure_ (i := 17) (N := some 37) (v := ?_) (a' := ?_) #[true, true, true, true, true, false, true, true, true, true, true, false, false, true, true, true, true, true, false, true, true, true, false, false, false] rfl rfl (by kernel_rfl) (fun _ _ _ h => h) (fun _ => rfl) (Or.inl ⟨by rfl, ?_⟩) ?_ ?_
        rotate_left
        · intro w'
          go_simp
          with_reducible rfl
        rotate_left
        · simp only [Act.put, List.setIfInBounds_toArray, List.set_cons_zero, List.set_cons_succ, i64_w, i32_w]
          rfl
        refine GI.pure_ (i := 22) (N := some 42) (v := ?_) (a' := ?_) #[true, true, true, true, true, false, true, true, true, true, true, false, false, true, true, true, true, true, false, true, true, true, true, false, false] rfl rfl (by kernel_rfl) (fun _ _ _ h => h) (fun _ => rfl) (Or.inl ⟨by rfl, ?_⟩) ?_ ?_
        rotate_left
        · intro w'
          go_simp
          with_reducible rfl
        rotate_left
        · simp only [Act.put, List.setIfInBounds_toArray, List.set_cons_zero, List.set_cons_succ, i64_w, i32_w]
          rfl
        refine GI.take_ (i := 5) (N := some 25) (v := ?_) (a' := ?_) #[true, true, true, true, true, true, true, true, true, true, true, false, false, true, true, true, true, true, false, true, true, true, true, false, false] rfl rfl (by kernel_rfl) (fun _ _ _ h => h) (fun _ => rfl) (Or.inl ⟨by rfl, ?_⟩) hHeld ?_ ?_
        rotate_left
        · rintro w' rfl
          go_simp
          with_reducible rfl
        rotate_left
        · simp only [Act.put, List.setIfInBounds_toArray, List.set_cons_zero, List.set_cons_succ, i64_w, i32_w]
          rfl
        refine GI.take_ (i := 11) (N := some 31) (v := ?_) (a' := ?_) #[true, true, true, true, true, true, true, true, true, true, true, true, false, true, true, true, true, true, false, true, true, true, true, false, false] rfl rfl (by kernel_rfl) (fun _ _ _ h => h) (fun _ => rfl) (Or.inl ⟨by rfl, ?_⟩) hHeld ?_ ?_
        rotate_left
        · rintro w' rfl
          go_simp
          with_reducible rfl
        rotate_left
        · simp only [Act.put, List.setIfInBounds_toArray, List.set_cons_zero, List.set_cons_succ, i64_w, i32_w]
          rfl
        refine GI.take_ (i := 18) (N := some 38) (v := ?_) (a' := ?_) #[true, true, true, true, true, true, true, true, true, true, true, true, false, true, true, true, true, true, true, true, true, true, true, false, false] rfl rfl (by kernel_rfl) (fun _ _ _ h => h) (fun _ => rfl) (Or.inl ⟨by rfl, ?_⟩) hHeld ?_ ?_
        rotate_left
        · rintro w' rfl
          go_simp
          with_reducible rfl
        rotate_left
        · simp only [Act.put, List.setIfInBounds_toArray, List.set_cons_zero, List.set_cons_succ, i64_w, i32_w]
          rfl
        refine GI.take_ (i := 23) (N := some 43) (v := ?_) (a' := ?_) #[true, true, true, true, true, true, true, true, true, true, true, true, false, true, true, true, true, true, true, true, true, true, true, true, false] rfl rfl (by kernel_rfl) (fun _ _ _ h => h) (fun _ => rfl) (Or.inl ⟨by rfl, ?_⟩) hHeld ?_ ?_
        rotate_left
        · rintro w' rfl
          go_simp
          with_reducible rfl
        rotate_left
        · simp only [Act.put, List.setIfInBounds_toArray, List.set_cons_zero, List.set_cons_succ, i64_w, i32_w]
          rfl
        refine GI.pure_ (i := 12) (N := some 32) (v := ?_) (a' := ?_) #[true, true, true, true, true, true, true, true, true, true, true, true, true, true, true, true, true, true, true, true, true, true, true, true, false] rfl rfl (by kernel_rfl) (fun _ _ _ h => h) (fun _ => rfl) (Or.inl ⟨by rfl, ?_⟩) ?_ ?_
        rotate_left
        · intro w'
          go_simp
          with_reducible rfl
        rotate_left
        · simp only [Act.put, List.setIfInBounds_toArray, List.set_cons_zero, List.set_cons_succ, i64_w, i32_w]
          rfl
        refine GI.last_ (i := 24) (N := some 44) #[true, true, true, true, true, true, true, true, true, true, true, true, true, true, true, true, true, true, true, true, true, true, true, true, true] rfl rfl (by kernel_rfl) (by decide) (by rfl) ?_
        refine GI.call_ (f := 65) #[.int .i64 (wrap64 (qx.f0 - px.f0)), .int .i64 px.f1, .int .i64 qx.f1, .pointer (some ⟨Bs, 0, none⟩)] (fun c h => by cases h) ?hab ?hrun (fun h => by omega) ?_
        case hab => intro f hf; trivial
        case hrun => unfold execOp; simp [resolve, Deferred.ofValue, invoke, Act.eval, eg_fru]
        rw [w9]
        refine (fru1 (n - 1) Bs (fru ((pairs l0).take i)) (px, qx) _ (boxed_drew bS) hm2 hs2).mono ?_
        rintro e W2 ⟨⟨u, rfl⟩, rfl⟩
        refine ⟨_, rfl, ?_⟩
        refine GI.done_ (by kernel_rfl) ?_ _
        gi_wp2
        refine ⟨⟨i + 1, by rw [hw], by have := HLT.out; omega, ?_, below_drew hb |>.setCell (p := ⟨Bs, 0, none⟩) hBsw _⟩, ?_⟩
        · rw [hg, fru_snoc]
          exact (boxed_drew bS).set _
        · show l0.length - (wrap64 ((i : Int) + 1 + 1)).toNat < l0.length - ((i : Int) + 1).toNat
          rw [hw]
          omega
      · have q1 : decide ((i : Int) + 1 < (l0.length : Int)) = false := decide_eq_false (ar_pairs' hlt hpl)
        have he : (pairs l0).take i = pairs l0 := List.take_of_length_le (Nat.le_of_not_lt hlt)
        rw [he] at bS
        have cS := bS.cell
        gi_wp2
        go_ret2
        exact ⟨rfl, hb⟩
  · rw [if_neg c1]
    have c1b : decide (profC l0 ≠ 0) = true := decide_eq_true c1
    have c1c : (profC l0 == 0) = false := beq_eq_false_iff_ne.2 c1
    clear c1
    refine callsIn_of_wp Try.func48 rfl trivial ?_ rfl
    simp only [Try.ntmps48, List.size_toArray, List.length_cons, List.length_nil, Nat.reduceAdd, Nat.reduceSub, Array.replicate_succ, Array.replicate_zero, List.push_toArray, List.append_toArray, List.nil_append, List.cons_append]
    gi_wp2_with (refine ⟨trivial, ?_⟩; gi_at_call 54; refine (callsIn_wide.2 (check54.calls A0 c0 l0 _ _ (GS.rC HR.out) HC.out rfl)).mono ?_; rintro e w1 ⟨rfl, hb1⟩)
    go_ret2
    exact ⟨rfl, hb1⟩
def frus48.f (l : List S33) : Option (Int × Int) := some (if profC l = 0 then fru (pairs l) else 0, profC l)
theorem frus48.calls (A0 : Option Addr) (c0 : Nat) (l0 : List S33) (r1 r2 : Int) (w : World) (hr0 : Kd.C k33 w A0 l0.length l0) (hc0 : l0.length ≤ c0) (h : frus48.f l0 = some (r1, r2)) :
    Calls Try.prog 48 #[.slice A0 l0.length c0] w fun e w' => e = .returned (.tuple #[.int .i64 r1, .int .i64 r2]) ∧ Below w.heap.size w w' := by
  have e := Option.some.inj h
  have e1 := congrArg Prod.fst e
  have e2 := congrArg Prod.snd e
  dsimp only at e1 e2
  have := callsIn_wide.1 (frus_in 6 (Nat.le_refl _) A0 c0 l0 w hr0 hc0)
  rw [e1, e2] at this
  exact this
end Go.Proofs.Ytmcmbjkjilcmeaa.K
