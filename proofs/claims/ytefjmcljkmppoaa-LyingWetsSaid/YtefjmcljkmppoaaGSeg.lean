/- By hand: the iterator strips, a loop over it, and segment.Check. -/
import Derived.Test.YtefjmcljkmppoaaGAt
namespace Go.Proofs.Ytefjmcljkmppoaa.K
open Go Go.RowKit Go.Shelf Go.Proofs.YtefjmcljkmppoaaW.PrintWords Go.Proofs.YtefjmcljkmppoaaW.PrintLast Go.Proofs.YtefjmcljkmppoaaW.PrintMore Go.Proofs.Ytefjmcljkmppoaa.GW
set_option linter.unusedVariables false
set_option linter.unusedSimpArgs false
attribute [local go_sem] Oper.semAt_some
theorem rdG_get (xs : List Int) (i : Nat) (h : i < xs.length) : rd xs (i : Int) = xs[i] := by
  unfold rd
  simp [List.getD_eq_getElem?_getD, h]
def pairsI : List Int → List (Int × Int)
  | p :: q :: r => (p, q) :: pairsI (q :: r)
  | _ => []
theorem pairsI_len : ∀ l : List Int, (pairsI l).length = l.length - 1
  | [] => rfl
  | [_] => rfl
  | p :: q :: r => by rw [pairsI, List.length_cons, pairsI_len (q :: r)]; simp
theorem pairsI_get : ∀ (l : List Int) (i : Nat) (h : i + 1 < l.length), (pairsI l)[i]? = some (l[i], l[i + 1])
  | [], i, h => by simp at h
  | [_], i, h => by simp at h
  | p :: q :: r, 0, h => rfl
  | p :: q :: r, i + 1, h => by
    rw [pairsI, List.getElem?_cons_succ, pairsI_get (q :: r) i (by simpa using h)]
    rfl
theorem pairsI_rd (l : List Int) (i : Nat) (h : i + 1 < l.length) : (pairsI l).take (i + 1) = (pairsI l).take i ++ [(rd l (i : Int), rd l ((i : Int) + 1))] := by
  have h1 := pairsI_get l i h
  rw [List.take_add_one, h1, rdG_get l i (by omega), show ((i : Int) + 1) = ((i + 1 : Nat) : Int) by omega, rdG_get l (i + 1) h]
  rfl
def encI (x : Int × Int) : Array Value := #[.int .i64 x.1, .int .i64 x.2]
set_option maxHeartbeats 1000000 in
theorem strips_in (F : Fence) (n : Nat) (hf : F.fn 62) (hro : F.round = none) (A : Option Addr) (m c : Nat) (w : World) :
    CallsIn F n Try.prog 62 #[.slice A m c] w fun e w' => e = .returned (.func (.func 89) #[] #[.pointer (some ⟨w.heap.size, 0, none⟩)]) ∧ w' = w.alloc (.cells #[.slice A m c] 34) := by
  refine callsIn_of_wp Try.func62 rfl hf ?_ hro
  simp only [Try.ntmps62, List.size_toArray, List.length_cons, List.length_nil, Nat.reduceAdd, Nat.reduceSub, Array.replicate_succ, Array.replicate_zero, List.push_toArray, List.append_toArray, List.nil_append, List.cons_append]
  gi_wp2
  go_ret
  exact ⟨rfl, rfl⟩
set_option maxRecDepth 100000 in
set_option maxHeartbeats 4000000 in
theorem strips1 (F : Fence) (n : Nat) (hf : F.fn 89) (hro : F.round = none) (hn : 1 ≤ n) (l Bm n₀ : Nat) (A : Option Addr) (c : Nat) (xs : List Int) (hxl : xs.length < 1000000000) (J Jx : List (Int × Int) → World → Prop)
    (hY : ∀ pre x W, x ∈ pairsI xs → J pre W → pre.length < (pairsI xs).length → YieldAt F (n - 1) Try.prog l (encI x) W fun e W' =>
      (e = .returned (.bool true) ∧ J (pre ++ [x]) W' ∧ KpS n₀ Bm W W') ∨ (e = .returned (.bool false) ∧ Jx (pre ++ [x]) W'))
    (hJd : ∀ pre W, J pre W → J pre W.drew) (W : World) (hm : W.cell? ⟨Bm, 0, none⟩ = some (.slice A xs.length c)) (w0 : World) (hw0 : w0.heap.size ≤ n₀) (hr : Kd.C (Kd.int .i64) w0 A xs.length xs) (hb0 : Below w0.heap.size w0 W) (h0 : J [] W) :
    CallsIn F n Try.prog 89 #[.func (.yield l) #[] #[], .pointer (some ⟨Bm, 0, none⟩)] W fun e W' => (∃ v, e = .returned v) ∧ ((∃ ys, ys = pairsI xs ∧ J ys W') ∨ (∃ pre, pre <+: pairsI xs ∧ Jx pre W')) := by
  have hpl := pairsI_len xs
  refine callsIn_of_wp Try.func89 rfl hf ?_ hro
  simp only [Try.ntmps89, List.size_toArray, List.length_cons, List.length_nil, Nat.reduceAdd, Nat.reduceSub, Array.replicate_succ, Array.replicate_zero, List.push_toArray, List.append_toArray, List.nil_append, List.cons_append]
  gi_wp2
  gi_loopw [3] (fun v3 wr => ∃ i : Nat, v3 = .int .i64 ((i : Int) + 1) ∧ i ≤ (pairsI xs).length ∧ wr.cell? ⟨Bm, 0, none⟩ = some (.slice A xs.length c) ∧ Below w0.heap.size w0 wr ∧ J ((pairsI xs).take i) wr)
    (fun v3 wr => match v3 with | .int _ i => (xs.length - i.toNat) | _ => 0)
  case atStart => exact ⟨0, rfl, Nat.zero_le _, hm, hb0, h0⟩
  case round =>
    obtain ⟨i, rfl, hi, hc, hb, hJ⟩ := hrel
    by_cases hlt : i < (pairsI xs).length
    · have q0 : i + 1 < xs.length := ar_pairs hlt hpl
      have HLT := Aside0.mk hlt
      clear hlt hi hpl
      have q1 : decide ((i : Int) + 1 < (xs.length : Int)) = true := decide_eq_true (by omega)
      have hw1 : wrap64 ((i : Int) + 1 - 1) = (i : Int) := by unfold wrap64; omega
      have hw2 : wrap64 (i : Int) = (i : Int) := by unfold wrap64; omega
      have hC := Kd.C_below hr hb
      obtain ⟨ad, e1, x0⟩ := Kd.at_int hC (i : Int) (by omega) (by omega)
      cases e1
      obtain ⟨ad', e2, y0⟩ := Kd.at_int hC ((i : Int) + 1) (by omega) (by omega)
      obtain rfl : ad = ad' := by injection e2
      clear e2
      have p2 : (0 ≤ (i : Int)) = True := eq_true (by omega)
      have p3 : (0 ≤ (i : Int) + 1) = True := eq_true (by omega)
      have q2 : ((i : Int) < (xs.length : Int)) = True := eq_true (by omega)
      have q3 : ((i : Int) + 1 < (xs.length : Int)) = True := eq_true (by omega)
      have hw : wrap64 ((i : Int) + 1 + 1) = ((i + 1 : Nat) : Int) + 1 := by unfold wrap64; omega
      have hg := pairsI_rd xs i q0
      obtain ⟨px, hpx⟩ : ∃ px, rd xs (i : Int) = px := ⟨_, rfl⟩
      obtain ⟨qx, hqx⟩ : ∃ qx, rd xs ((i : Int) + 1) = qx := ⟨_, rfl⟩
      rw [hpx] at x0 hg
      rw [hqx] at y0 hg
      obtain ⟨fn, tmps, assign, body, hy, hR⟩ := hY ((pairsI xs).take i) (px, qx) _ (List.mem_of_mem_take (i := i + 1) (by rw [hg]; simp)) (hJd _ _ hJ) (by rw [List.length_take, Nat.min_eq_left (Nat.le_of_lt HLT.out)]; exact HLT.out)
      dsimp only [encI] at hy
      simp only [Int.toNat_natCast] at x0
      rw [show ((i : Int) + 1).toNat = i + 1 by omega, Addr.add_succ'] at y0
      have hmx : Try.prog.follows .mixedOrders = true := by kernel_rfl
      gi_wp2
      refine GI.start_ (m := 12) (S := fun w' => w' = wr.drew) (ds := [10]) #[false, false, false, false, false, false, false, false, false, false, false, false] (by kernel_rfl) rfl rfl rfl (fun hHeld => ?_)
      refine GI.pu 0 (some 10) ?_
      refine GI.pu 2 (some 12) ?_
      refine GI.pu 3 (some 13) ?_
      refine GI.pu 7 (some 17) ?_
      refine GI.tk 1 (some 11) hHeld ?_
      refine GI.tk 6 (some 16) hHeld ?_
      refine GI.pu 4 (some 14) ?_
      refine GI.pu 8 (some 18) ?_
      refine GI.tk 5 (some 15) hHeld ?_
      refine GI.tk 9 (some 19) hHeld ?_
      refine GI.last_ (i := 10) (N := some 20) #[true, true, true, true, true, true, true, true, true, true, true, false] rfl rfl (by kernel_rfl) (by decide) (by rfl) ?_
      refine GI.round_ (l := l) (f := fn) (tmps := tmps) (assign := assign) (body := body) (fun c h => by cases h) (fun f hf => by cases hf) ?hrun (fun _ => hn) (hR.mono ?_)
      case hrun => go_simp
      rintro e W3 (⟨rfl, hJ3, hk3⟩ | ⟨rfl, hJx3⟩)
      · refine ⟨_, rfl, ?_⟩
        refine GI.pu 11 (some 21) ?_
        refine GI.done_ (by kernel_rfl) ?_ _
        have hc3 : W3.cell? ⟨Bm, 0, none⟩ = some (.slice (some ad) xs.length c) := hk3.cell.trans hc
        gi_wp2
        refine ⟨⟨i + 1, by simp, by have := HLT.out; omega, hc3, (lqD hb).trans (hk3.1.mono hw0), by rw [hg]; exact hJ3⟩, ?_⟩
        show xs.length - ((i : Int) + 1 + 1).toNat < xs.length - ((i : Int) + 1).toNat
        omega
      · refine ⟨_, rfl, ?_⟩
        refine GI.pu 11 (some 21) ?_
        refine GI.done_ (by kernel_rfl) ?_ _
        gi_wp2
        refine bodyPost_ret (results_none rfl _ _ _) rfl ?_
        exact ⟨⟨_, rfl⟩, .inr ⟨_, by rw [← hg]; exact List.take_prefix _ _, hJx3⟩⟩
    · have q1 : decide ((i : Int) + 1 < (xs.length : Int)) = false := decide_eq_false (ar_pairs' hlt hpl)
      have he : (pairsI xs).take i = pairsI xs := List.take_of_length_le (Nat.le_of_not_lt hlt)
      rw [he] at hJ
      gi_wp2
      go_end0
      exact ⟨⟨_, rfl⟩, .inl ⟨_, rfl, hJ⟩⟩
theorem strips_stops (F : Fence) (n : Nat) (hf : F.fn 89) (hro : F.round = none) (hn : 1 ≤ n) (Bm n₀ : Nat) (A : Option Addr) (c : Nat) (xs : List Int) (hxl : xs.length < 1000000000) (w : World) (hBw : Bm < w.heap.size)
    (hm : w.cell? ⟨Bm, 0, none⟩ = some (.slice A xs.length c)) (w0 : World) (hw0 : w0.heap.size ≤ n₀) (hr : Kd.C (Kd.int .i64) w0 A xs.length xs) (hb0 : Below w0.heap.size w0 w) :
    SeqStopsK F n Try.prog 89 #[.pointer (some ⟨Bm, 0, none⟩)] (fun s : { s // s ∈ pairsI xs } => encI s.1) (KpS n₀ Bm) (fun ys => ys.map Subtype.val = pairsI xs) (fun pre => pre.map Subtype.val <+: pairsI xs) (pairsI xs).length w := fun l J Jx W hW hJ hJx hY h0 => by
  refine (strips1 F n hf hro hn l Bm n₀ A c xs hxl (fun pre W => ∃ pre', pre'.map Subtype.val = pre ∧ J pre' W) (fun pre W => ∃ pre', pre'.map Subtype.val = pre ∧ Jx pre' W) ?_
    ?_ W ((hW.cell (p := ⟨Bm, 0, none⟩) hBw).trans hm) w0 hw0 hr (hb0.trans (hW.mono hb0.size)) ⟨[], rfl, h0⟩).mono ?_
  · rintro pre x W1 hx ⟨pre', rfl, hj⟩ hlt
    obtain ⟨fn, tmps, assign, body, hy, hR⟩ := hY pre' ⟨x, hx⟩ W1 hj (by simpa using hlt)
    refine ⟨fn, tmps, assign, body, hy, hR.mono ?_⟩
    rintro e W' (⟨h1, h2, h3⟩ | ⟨h1, h2⟩)
    · exact .inl ⟨h1, ⟨pre' ++ [⟨x, hx⟩], by simp, h2⟩, h3⟩
    · exact .inr ⟨h1, ⟨pre' ++ [⟨x, hx⟩], by simp, h2⟩⟩
  · rintro pre W1 ⟨pre', h1, h2⟩
    exact ⟨pre', h1, abides_drew hJ pre' W1 h2⟩
  · rintro e W' ⟨h1, ⟨ys, rfl, pre', h2, h3⟩ | ⟨pre, h2, pre', rfl, h3⟩⟩
    · exact ⟨h1, .inl ⟨pre', h2, h3⟩⟩
    · exact ⟨h1, .inr ⟨pre', h2, h3⟩⟩
theorem eg_strips (args : Array Value) (w : World) : (callFunc 89 args).run Try.prog w = .ok (.enter 89 args) w := enters_ Try.func89 (by kernel_rfl) rfl args w
def axI (t : Array Value) (i j p q : Nat) (x : Int × Int) : Array Value :=
  (((t.setIfInBounds i (.int .i64 x.1)).setIfInBounds j (.int .i64 x.2)).setIfInBounds p (.int .i64 x.1)).setIfInBounds q (.int .i64 x.2)
theorem loopI {n : Nat} {g : Operand} {i j : Nat} {assign body : Code} {Q : Exit → Act → World → Prop} {a : Act} {W0 : World} (p q : Nat) (hn : 6 ≤ n) (w : World) (A : Option Addr) (c : Nat) (l0 : List Int) (hr : Kd.C (Kd.int .i64) w A l0.length l0) (hxl : l0.length < 1000000000)
    (Bm : Nat) (bM : Boxed W0 Bm 34 (.slice A l0.length c)) (hB0 : Below w.heap.size w W0) (hg : a.eval g = .func (.func 89) #[] #[.pointer (some ⟨Bm, 0, none⟩)])
    (I : List (Int × Int) → World → Prop) (Ix : Code → List (Int × Int) → World → Prop) (hI : OwnFrom W0.heap.size I) (hIx : ∀ c, OwnFrom W0.heap.size (Ix c)) (h0 : I [] W0)
    (hassign : ∀ (l : Nat) (x : Int × Int) (W : World) (K : Act → World → Prop), K { tmps := axI a.tmps i j p q x, defers := [] } W →
      assign.wpIn (Fence.wide.inRound l) (n - 1 - 1) Try.prog (Exit.then K (fun _ _ _ => False)) { tmps := (a.tmps.setIfInBounds i (.int .i64 x.1)).setIfInBounds j (.int .i64 x.2), defers := [] } W)
    (hbody : ∀ (l : Nat) (pre : List (Int × Int)) (x : Int × Int) (W : World), W0.heap.size ≤ l → I pre W → Boxed W Bm 34 (.slice A l0.length c) → Below w.heap.size w W → W0.heap.size ≤ W.heap.size → x ∈ pairsI l0 →
      body.wpIn (Fence.wide.inRound l) (n - 1 - 1) Try.prog (ownPostG W0.heap.size (KpS w.heap.size Bm) (fun pre W => (I pre W ∧ Boxed W Bm 34 (.slice A l0.length c)) ∧ (Below w.heap.size w W ∧ W0.heap.size ≤ W.heap.size))
        (fun c pre W => Ix c pre W ∧ Below w.heap.size w W) (pre ++ [x]) W) { tmps := axI a.tmps i j p q x, defers := [] } W)
    (hdone : ∀ (D : Nat) (W : World), W0.heap.size ≤ D → I (pairsI l0) W → Below w.heap.size w W → W.heap[D]? = some (.deferred (some [])) → Q .normal { a with defers := { target := .collected D, args := #[] } :: a.defers } W)
    (hstop : ∀ (D : Nat) (c : Code) (pre : List (Int × Int)) (W : World), W0.heap.size ≤ D → pre <+: pairsI l0 → Ix c pre W → Below w.heap.size w W → W.heap[D]? = some (.deferred (some [])) → c.wpIn Fence.wide n Try.prog Q { a with defers := { target := .collected D, args := #[] } :: a.defers } W) :
    (Code.rangeFunc g #[i, j] assign body).wpIn Fence.wide n Try.prog Q a W0 := by
  have h1 : 1 ≤ n := by omega
  refine wpIn_rangeFunc_ownH rfl h1 (gf := 89) (lb := #[.pointer (some ⟨Bm, 0, none⟩)]) hg trivial eg_strips
      (strips_stops Fence.wide (n - 1) trivial rfl (by omega) Bm w.heap.size A c l0 hxl W0 bM.lt bM.cell w (Nat.le_refl _) hr hB0) KpS.trans (kpS_b hB0.size bM.lt) (Below.refl _ _) (fun _ => rfl)
      (fun pre W => (I (pre.map Subtype.val) W ∧ Boxed W Bm 34 (.slice A l0.length c)) ∧ (Below w.heap.size w W ∧ W0.heap.size ≤ W.heap.size))
      (fun c pre W => Ix c (pre.map Subtype.val) W ∧ Below w.heap.size w W)
      (OwnFrom.and (OwnFrom.and (fun s => hI (s.map Subtype.val)) (Own.from (boxed_own _ _ _) _)) (OwnFrom.and (ownFrom_below (Nat.le_refl _) hB0.size) (ownFrom_size _ _)))
      (fun c => OwnFrom.and (fun s => hIx c (s.map Subtype.val)) (ownFrom_below (Nat.le_refl _) hB0.size))
      ⟨⟨h0, bM⟩, hB0, Nat.le_refl _⟩
      (fun (x : { s // s ∈ pairsI l0 }) a' W => a' = { tmps := axI a.tmps i j p q x.1, defers := [] })
      (fun x a' _ X Y row hs hg hr => hs)
      ?assign ?body ?done ?stop
  case assign =>
    rintro l pre ⟨x, hx⟩ W K ⟨⟨hi, bM1⟩, hB1, hs1⟩ hK
    have e : ∀ t : Array Value, ((#[i, j] : Array Tmp).zip (encI x)).foldl (fun t (p, v) => t.setIfInBounds p v) t = (t.setIfInBounds i (.int .i64 x.1)).setIfInBounds j (.int .i64 x.2) := fun t => by simp [encI]
    rw [e]
    exact hassign l x W K (hK _ _ (KeepsFrom.refl _ _) (KpS.refl _ _ _) ⟨⟨hi, bM1⟩, hB1, hs1⟩ rfl)
  case body =>
    rintro l pre ⟨x, hx⟩ a' W hl _ ⟨⟨hi, bM1⟩, hB1, hs1⟩ rfl hlt
    have := hbody l (pre.map Subtype.val) x W hl hi bM1 hB1 hs1 hx
    refine wpIn_mono this (fun e a2 W2 h => ?_)
    have e5 : (pre ++ [(⟨x, hx⟩ : { s // s ∈ pairsI l0 })]).map Subtype.val = pre.map Subtype.val ++ [x] := by simp
    cases e <;> simp only [ownPostG, e5] at h ⊢ <;> exact h
  case done =>
    rintro D zs W hD hz ⟨⟨hi, bM1⟩, hB1, hs1⟩ hK
    rw [hz] at hi
    exact hdone D W hD hi hB1 hK
  case stop =>
    rintro D c pre W hD hpre ⟨hi, hB1⟩ hK
    exact hstop D c _ W hD hpre hi hB1 hK
def outH (h : Int) : Bool := decide (h < 0) || decide (200000 < h)
def segC (l : List Int) : Int :=
  if l.length < 2 then 9 else if 65 < l.length then 8 else if l.any outH = true then 2 else if (pairsI l).any (fun x => decide (x.2 < x.1)) = true then 5 else 0
theorem take_rd (l : List Int) (i : Nat) (h : i < l.length) : l.take (i + 1) = l.take i ++ [rd l (i : Int)] := by
  rw [List.take_add_one, List.getElem?_eq_getElem h, rdG_get l i h]
  rfl
theorem any_take {l : List Int} {i : Nat} {p : Int → Bool} (h : i < l.length) (hp : p (rd l (i : Int)) = true) : l.any p = true := by
  rw [rdG_get l i h] at hp
  exact List.any_eq_true.2 ⟨_, List.getElem_mem h, hp⟩
set_option maxRecDepth 100000 in
set_option maxHeartbeats 4000000 in
theorem seg_in (n : Nat) (hn : 6 ≤ n) (A0 : Option Addr) (c0 : Nat) (l0 : List Int) (w : World) (hr : Kd.C (Kd.int .i64) w A0 l0.length l0) :
    CallsIn Fence.wide n Try.prog 56 #[.slice A0 l0.length c0] w fun e w' => e = .returned (.int .i64 (segC l0)) ∧ Below w.heap.size w w' := by
  have h1 : 1 ≤ n := by omega
  have HR := Aside0.mk hr
  have HB := Aside0.mk (Below.refl w.heap.size w)
  have HM : Aside0 (l0.length ≤ 9223372036854775807) := ⟨hr.2.1⟩
  clear hr
  unfold segC
  by_cases c1 : l0.length < 2
  · rw [if_pos c1]
    have c1b : decide ((l0.length : Int) < 2) = true := decide_eq_true (by omega)
    clear c1
    refine callsIn_of_wp_marks Try.func56 rfl trivial ?_ rfl
    simp only [Try.ntmps56, List.size_toArray, List.length_cons, List.length_nil, Nat.reduceAdd, Nat.reduceSub, Array.replicate_succ, Array.replicate_zero, List.push_toArray, List.append_toArray, List.nil_append, List.cons_append]
    gi_wp2
    exact leaves0 (results_cell1 rfl _ _ w.heap.size _ rfl (Boxed.new w 29 _).cell) ⟨rfl, below_alloc HB.out _⟩
  rw [if_neg c1]
  have c1b : decide ((l0.length : Int) < 2) = false := decide_eq_false (by omega)
  by_cases c2 : 65 < l0.length
  · rw [if_pos c2]
    have c2b : decide ((65 : Int) < (l0.length : Int)) = true := decide_eq_true (by omega)
    clear c1 c2
    refine callsIn_of_wp_marks Try.func56 rfl trivial ?_ rfl
    simp only [Try.ntmps56, List.size_toArray, List.length_cons, List.length_nil, Nat.reduceAdd, Nat.reduceSub, Array.replicate_succ, Array.replicate_zero, List.push_toArray, List.append_toArray, List.nil_append, List.cons_append]
    gi_wp2
    exact leaves0 (results_cell1 rfl _ _ w.heap.size _ rfl (Boxed.new w 29 _).cell) ⟨rfl, below_alloc HB.out _⟩
  rw [if_neg c2]
  have c2b : decide ((65 : Int) < (l0.length : Int)) = false := decide_eq_false (by omega)
  have HL := Aside0.mk (show 2 ≤ l0.length ∧ l0.length ≤ 65 from ⟨by omega, by omega⟩)
  clear c1 c2
  obtain ⟨r4, h4⟩ : ∃ r : Int, (if l0.any outH = true then 2 else if (pairsI l0).any (fun x => decide (x.2 < x.1)) = true then 5 else 0) = r := ⟨_, rfl⟩
  rw [h4]
  have H4 := Aside0.mk h4
  clear h4
  refine callsIn_of_wp_marks Try.func56 rfl trivial ?_ rfl
  simp only [Try.ntmps56, List.size_toArray, List.length_cons, List.length_nil, Nat.reduceAdd, Nat.reduceSub, Array.replicate_succ, Array.replicate_zero, List.push_toArray, List.append_toArray, List.nil_append, List.cons_append]
  gi_wp2
  have bR0 := Boxed.new w 29 (.int .i64 0)
  have hB0 := below_alloc HB.out (.cells #[.int .i64 0] 29)
  gi_loopw [15] (fun v15 wr => ∃ i : Nat, v15 = .int .i64 (i : Int) ∧ i ≤ l0.length ∧ (l0.take i).any outH = false ∧ Boxed wr w.heap.size 29 (.int .i64 0) ∧ Below w.heap.size w wr)
    (fun v15 wr => match v15 with | .int _ i => (l0.length - i.toNat) | _ => 0)
  case atStart => exact ⟨0, rfl, Nat.zero_le _, rfl, bR0, hB0⟩
  case round =>
    clear bR0 hB0
    obtain ⟨i, rfl, hi, hA, bR, hB⟩ := hrel
    have cR := bR.cell
    have fR := bR.frozen
    by_cases hlt : i < l0.length
    · have HLT := Aside0.mk hlt
      clear hlt hi
      have q1 : decide ((i : Int) < (l0.length : Int)) = true := decide_eq_true (by have := HLT.out; omega)
      have hw : wrap64 ((i : Int) + 1) = ((i + 1 : Nat) : Int) := by have := HL.out; have := HLT.out; unfold wrap64; omega
      obtain ⟨ad, e1, x0⟩ := Kd.at_int (Kd.C_below (GS.rC HR.out) hB) (i : Int) (by omega) (by have := HLT.out; omega)
      cases e1
      have p2 : (0 ≤ (i : Int)) = True := eq_true (by omega)
      have q2 : ((i : Int) < (l0.length : Int)) = True := eq_true (by have := HLT.out; omega)
      simp only [Int.toNat_natCast] at x0
      have hx : outH (rd l0 (i : Int)) = (decide (rd l0 (i : Int) < 0) || decide (200000 < rd l0 (i : Int))) := rfl
      obtain ⟨x, ex⟩ : ∃ x, rd l0 (i : Int) = x := ⟨_, rfl⟩
      rw [ex] at hx x0
      have EX := Aside0.mk ex
      clear ex
      cases ca : decide (x < 0) with
      | true =>
        have e4 := H4.out
        rw [if_pos (any_take HLT.out (by rw [EX.out, hx, ca]; rfl))] at e4
        subst e4
        gi_wp2
        exact leaves0 (results_cell1 rfl _ _ w.heap.size _ rfl (bR.set _).cell) ⟨rfl, hB.setCell (p := ⟨w.heap.size, 0, none⟩) (Nat.le_refl _) _⟩
      | false =>
        cases cb : decide (200000 < x) with
        | true =>
          have e4 := H4.out
          rw [if_pos (any_take HLT.out (by rw [EX.out, hx, ca, cb]; rfl))] at e4
          subst e4
          gi_wp2
          exact leaves0 (results_cell1 rfl _ _ w.heap.size _ rfl (bR.set _).cell) ⟨rfl, hB.setCell (p := ⟨w.heap.size, 0, none⟩) (Nat.le_refl _) _⟩
        | false =>
          have HA := Aside0.mk (show (l0.take (i + 1)).any outH = false by rw [take_rd l0 i HLT.out, List.any_append, hA, EX.out, List.any_cons, hx, ca, cb]; rfl)
          gi_wp2
          refine ⟨⟨i + 1, by rw [hw], HLT.out, HA.out, bR, hB⟩, ?_⟩
          show l0.length - (wrap64 ((i : Int) + 1)).toNat < l0.length - (i : Int).toNat
          have := HLT.out
          rw [hw]
          omega
    · have q1 : decide ((i : Int) < (l0.length : Int)) = false := decide_eq_false (by omega)
      have q1' : decide (i < l0.length) = false := decide_eq_false hlt
      rw [List.take_of_length_le (Nat.le_of_not_lt hlt)] at hA
      have e4 := H4.out
      rw [if_neg (by rw [hA]; simp)] at e4
      have H5 := Aside0.mk e4
      have hlt3 := bR.lt
      clear e4 H4 hA hlt hi
      gi_wp2_with (refine ⟨trivial, ?_⟩; gi_at_call 62; refine (strips_in Fence.wide (n - 1) trivial rfl _ _ _ _).mono ?_; rintro e w' ⟨rfl, rfl⟩)
      have bM := Boxed.new wr 34 (.slice A0 l0.length c0)
      have hB0 := hB.alloc hB.size (.cells #[.slice A0 l0.length c0] 34)
      have bR0 := bR.alloc (.cells #[.slice A0 l0.length c0] 34)
      obtain ⟨Bm, hBm⟩ : ∃ Bm, wr.heap.size = Bm := ⟨_, rfl⟩
      obtain ⟨W0, hW0⟩ : ∃ W0, wr.alloc (.cells #[.slice A0 l0.length c0] 34) = W0 := ⟨_, rfl⟩
      have hs0 : w.heap.size < W0.heap.size := by rw [← hW0, World.size_alloc]; omega
      rw [hBm] at bM hlt3 ⊢
      rw [hW0] at bR0 bM hB0 ⊢
      clear hW0 hBm cR fR bR hB
      refine loopI 5 6 hn w A0 c0 l0 (GS.rC HR.out) (by have := HL.out; omega) Bm bM hB0 rfl
        (fun pre W => (pre.any (fun x => decide (x.2 < x.1)) = false) ∧ Boxed W w.heap.size 29 (.int .i64 0))
        (fun c pre W => (c = .ret ∧ pre.any (fun x => decide (x.2 < x.1)) = true) ∧ Boxed W w.heap.size 29 (.int .i64 5))
        (OwnFrom.and (ownFrom_pure _ _) (Own.from (boxed_own _ _ _) _))
        (fun c => OwnFrom.and (ownFrom_pure _ _) (Own.from (boxed_own _ _ _) _))
        ⟨rfl, bR0⟩ ?assign ?body ?done ?stop
      case assign =>
        intro l x W K hK
        simp only [List.setIfInBounds_toArray, List.set_cons_zero, List.set_cons_succ]
        gi_wp2
        exact hK
      case body =>
        rintro l pre x W hl ⟨hp, bR1⟩ bM1 hB1 hs1 hxm
        have cR := bR1.cell
        have fR := bR1.frozen
        unfold axI
        simp only [List.setIfInBounds_toArray, List.set_cons_zero, List.set_cons_succ]
        cases cx : decide (x.2 < x.1) with
        | true =>
          gi_wp2
          exact ⟨(KeepsOthers.setCell _ _ _).from _, ⟨⟨rfl, by rw [List.any_append, List.any_cons, cx]; simp⟩, bR1.set _⟩, hB1.setCell (p := ⟨w.heap.size, 0, none⟩) (Nat.le_refl _) _⟩
        | false =>
          gi_wp2
          exact ⟨KeepsFrom.refl _ _, KpS.refl _ _ _, ⟨⟨by rw [List.any_append, hp, List.any_cons, cx]; rfl, bR1⟩, bM1⟩, hB1, hs1⟩
      case stop =>
        rintro D c pre W hD hpre ⟨⟨rfl, hq⟩, bR1⟩ hB1 hK
        gi_wp2
        refine ⟨by simp, .inl ⟨_, _, rfl, run_takeDeferred hK, ?_⟩⟩
        have hc5 := cell_kept bR1.cell (grownBy_putObj' _ D (.deferred none)) (fun r e => by cases e; exact ⟨_, hK, rfl⟩)
        refine leaves0 (results_cell1 rfl _ _ w.heap.size _ rfl hc5) ⟨?_, hB1.trans (belowK_b (w := w) (Nat.le_refl _) W D _ _ (by omega) hK rfl rfl)⟩
        have hq2 : (pairsI l0).any (fun x => decide (x.2 < x.1)) = true := by
          obtain ⟨y, hy, hz⟩ := List.any_eq_true.1 hq
          exact List.any_eq_true.2 ⟨y, hpre.subset hy, hz⟩
        rw [← H5.out, if_pos hq2]
      case done =>
        rintro D W hD ⟨hp, bR1⟩ hB1 hK
        have e5 := H5.out
        rw [if_neg (by rw [hp]; simp)] at e5
        subst e5
        have cR := bR1.cell
        have fR := bR1.frozen
        gi_wp2
        have hK' := (KeepsOthers.setCell W ⟨w.heap.size, 0, none⟩ (.int .i64 0)).same D _ hK rfl
        refine ⟨by simp, .inl ⟨_, _, rfl, run_takeDeferred hK', ?_⟩⟩
        have hc5 := cell_kept (bR1.set (.int .i64 0)).cell (grownBy_putObj' _ D (.deferred none)) (fun r e => by cases e; exact ⟨_, hK', rfl⟩)
        exact leaves0 (results_cell1 rfl _ _ w.heap.size _ rfl hc5) ⟨rfl, (hB1.setCell (p := ⟨w.heap.size, 0, none⟩) (Nat.le_refl _) _).trans (belowK_b (w := w) (Nat.le_refl _) _ D _ _ (by omega) hK' rfl rfl)⟩
def seg56.f (l : List Int) : Option Int := some (segC l)
theorem seg56.calls (A0 : Option Addr) (c0 : Nat) (l0 : List Int) (r : Int) (w : World) (hr0 : Kd.C (Kd.int .i64) w A0 l0.length l0) (hc0 : l0.length ≤ c0) (h : seg56.f l0 = some r) :
    Calls Try.prog 56 #[.slice A0 l0.length c0] w fun e w' => e = .returned (.int .i64 r) ∧ Below w.heap.size w w' := by
  obtain rfl := Option.some.inj h
  exact callsIn_wide.1 (seg_in 6 (Nat.le_refl _) A0 c0 l0 w hr0)
end Go.Proofs.Ytefjmcljkmppoaa.K
