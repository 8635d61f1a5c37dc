/- By hand: a region that draws its order, walked inside a fence, in a round too (the words of the printed second file, for wpAnyIn). -/
import Derived.Test.YtefjmcljkmppoaaK0
import Derived.OrdersIn
import Derived.OwnWalkIn
namespace Go.Proofs.Ytefjmcljkmppoaa.GI
open Go.RowKit Go.Proofs.YtefjmcljkmppoaaW.PrintWords Go.Proofs.YtefjmcljkmppoaaW.PrintLast
set_option linter.unusedVariables false
section
variable {F : Fence} {n : Nat} {P : Program} {ops : Array Oper} {Q : Exit → Act → World → Prop} {md : Region.Mode} {S : World → Prop} {ds : List Nat}
def noDefer (ops : Array Oper) : Bool := ops.all fun o => match o.op with | .defer _ => false | _ => true
theorem noDefer_spec (h : noDefer ops = true) : ∀ (j : Nat) (o : Oper), ops[j]? = some o → ∀ c, o.op ≠ .defer c := by
  intro j o hj c hc
  obtain ⟨hlt, rfl⟩ := Array.getElem?_eq_some_iff.1 hj
  have := (Array.all_eq_true.1 h) j hlt
  rw [hc] at this
  cases this
def YieldsF (P : Program) (ops : Array Oper) (S : World → Prop) (o : Oper) (v : Value) (a : Act) : Prop := YieldsIf P ops S o v a ∧ ∀ w, o.about P w a.eval = none
theorem YieldsF.of_same {o : Oper} {v : Value} {a a' : Act} (hy : YieldsF P ops S o v a) (he : execOp a'.eval o = execOp a.eval o)
    (hw : Region.wanted o (yielded ops a'.tmps) = Region.wanted o (yielded ops a.tmps)) (hb : ∀ w, o.about P w a'.eval = o.about P w a.eval) : YieldsF P ops S o v a' :=
  ⟨hy.1.of_same he hw, fun w => by rw [hb w]; exact hy.2 w⟩
theorem YieldsF.op {i : Nat} {o : Oper} {v : Value} {a : Act} (hi : ops[i]? = some o) (hnd : ∀ c, o.op ≠ .defer c) (hy : YieldsF P ops S o v a)
    {K : Act → World → Prop} {w : World} (hS : S w) (h : K (a.put o.dst v) w) : wpOpIn F n P ops Q i K a w := by
  unfold Go.wpOpIn
  simp only [hi]
  have hab : ∀ f, o.about P w a.eval = some f → F.fn f := fun f hf => by rw [hy.2 w] at hf; cases hf
  rcases hy.1 with ⟨hw, hv⟩ | ⟨hw, rfl⟩
  · simp only [hw, if_true, Oper.wpIn, Oper.semAt_plain F _ o hnd, hv w hS, Oper.uponIn]; exact ⟨hab, h⟩
  · simp only [hw, Bool.false_eq_true, if_false]; exact ⟨hab, h⟩
theorem op_putIf {j : Nat} {oi oj : Oper} {v : Value} (hj : ops[j]? = some oj) (hnd : ∀ c, oj.op ≠ .defer c) (hap : oi.apart ops oj = true)
    (hsi : ∀ cs b, oi.op ≠ .select cs b) (hsj : ∀ cs b, oj.op ≠ .select cs b)
    (hQ : ∀ c a w, Q (.panic c) (a.put oi.dst v) w → Q (.panic c) a w) {K : Act → World → Prop} {a : Act} {w : World}
    (hy : YieldsF P ops S oi v a) (h : wpOpIn F n P ops Q j K (a.put oi.dst v) w) :
    wpOpIn F n P ops Q j (fun a' w' => YieldsF P ops S oi v a' ∧ K (a'.put oi.dst v) w') a w := by
  obtain ⟨h1, h2, h3⟩ := Oper.apart_spec hap
  have keep : ∀ (a : Act), YieldsF P ops S oi v a → ∀ u, YieldsF P ops S oi v (a.put oj.dst u) := fun a hy u =>
    hy.of_same (execOp_put oi hsi a oj.dst u h3) (wanted_put oi a oj.dst u h3) (fun w => about_put oi w a oj.dst u h3)
  have keepD : ∀ d, YieldsF P ops S oi v { a with defers := d :: a.defers } := fun d => hy.of_same rfl rfl (fun _ => rfl)
  unfold wpOpIn at *
  simp only [hj] at *
  rw [wanted_put oj a oi.dst v h1, about_put oj w a oi.dst v h1] at h
  split
  · rename_i hw
    simp only [hw, if_true] at h
    unfold Oper.wpIn at *
    rw [about_put oj w a oi.dst v h1] at h
    refine ⟨h.1, ?_⟩
    have h := h.2
    rw [Oper.semAt_plain F _ oj hnd, execOp_put oj hsj a oi.dst v h1] at h
    rw [Oper.semAt_plain F _ oj hnd]
    generalize (execOp a.eval oj).run P w = r at *
    cases r with
    | ok x w' =>
      cases x <;> simp only [Oper.uponIn] at h ⊢
      case value u => exact ⟨keep a hy u, by rw [← Act.put_comm a v u h2]; exact h⟩
      case skip => exact ⟨keep a hy _, by rw [← Act.put_comm a v undef h2]; exact h⟩
      case defer d =>
        refine ⟨keep _ (keepD d) _, ?_⟩
        rw [← Act.put_comm _ v undef h2, ← Act.put_defers]
        exact h
      case enter f args =>
        refine ⟨h.1, CallsIn.mono h.2 fun e w'' he => ?_⟩
        cases e with
        | returned u => exact ⟨keep a hy u, by rw [← Act.put_comm a v u h2]; exact he⟩
        | panicked c => exact hQ _ _ _ he
        | outgrown => exact he
      case row row args => exact ⟨h.1, RowsIn.mono h.2 fun u w'' he => ⟨keep a hy u, by rw [← Act.put_comm a v u h2]; exact he⟩⟩
      case round l f tmps assign body =>
        refine ⟨h.1, RoundIn.mono h.2 fun e w'' he => ?_⟩
        cases e with
        | returned u => exact ⟨keep a hy u, by rw [← Act.put_comm a v u h2]; exact he⟩
        | panicked c => exact hQ _ _ _ he
        | outgrown => exact he
    | halt x w' =>
      cases x <;> simp only [Oper.uponIn] at h ⊢
      case panic u => exact hQ _ _ _ h
  · rename_i hw
    simp only [hw] at h
    exact ⟨h.1, keep a hy _, by rw [← Act.put_comm a v undef h2]; exact h.2⟩
def wpAnyS (F : Fence) (n : Nat) (P : Program) (md : Region.Mode) (ops : Array Oper) (Q : Exit → Act → World → Prop) (S : World → Prop) (ds : List Nat) : Nat → Array Bool → Act → World → Prop
  | 0, listed, a, w => Region.ready md ops listed = [] ∧ Q .normal a w
  | fuel + 1, listed, a, w =>
    (Region.ready md ops listed = [] → Q .normal a w) ∧
    ∀ i ∈ Region.ready md ops listed, wpOpIn F n P ops Q i (fun a' w' => (i ∉ ds → S w → S w') ∧ wpAnyS F n P md ops Q S ds fuel (listed.setIfInBounds i true) a' w') a w
theorem anyIn_of_S : ∀ (fuel : Nat) (listed : Array Bool) (a : Act) (w : World), wpAnyS F n P md ops Q S ds fuel listed a w → wpAnyIn F n P md ops Q fuel listed a w
  | 0, _, _, _, h => h
  | fuel + 1, _, _, _, h => ⟨h.1, fun i hi => wpOpIn_mono (fun a' w' h' => anyIn_of_S fuel _ a' w' h'.2) (h.2 i hi)⟩
theorem anyS_first {i : Nat} {oi : Oper} {v : Value} (hi : ops[i]? = some oi) (hnd : ∀ (j : Nat) (o : Oper), ops[j]? = some o → ∀ c, o.op ≠ .defer c) (hsel : ∀ (j : Nat) (o : Oper) cs b, ops[j]? = some o → o.op ≠ .select cs b)
    (hQ : ∀ c a w, Q (.panic c) (a.put oi.dst v) w → Q (.panic c) a w) (m : Nat) :
    ∀ (fuel : Nat) (listed : Array Bool) (a : Act) (w : World),
      (∀ j oj, ops[j]? = some oj → j ≠ i → listed.getD j true = false → (∀ e ∈ oj.after, Region.binds md e = true → e.on ≠ i) → oi.apart ops oj = true) →
      ListedClosed md ops listed → (∀ d ∈ ds, listed.getD d true = false → Region.reachB md ops i m d = true) →
      i ∈ Region.ready md ops listed → YieldsF P ops S oi v a → S w →
      wpAnyS F n P md ops Q S ds fuel (listed.setIfInBounds i true) (a.put oi.dst v) w → wpAnyS F n P md ops Q S ds (fuel + 1) listed a w := by
  intro fuel
  induction fuel with
  | zero =>
    intro listed a w _ _ _ hr hy hS H
    refine ⟨fun h => (by rw [h] at hr; cases hr), fun j hj => ?_⟩
    by_cases hji : j = i
    · subst hji; exact hy.op hi (hnd _ _ hi) hS ⟨fun _ h => h, H⟩
    · have := ready_mono hj hji
      rw [H.1] at this
      cases this
  | succ fuel ih =>
    intro listed a w hfree hc hd hr hy hS H
    refine ⟨fun h => (by rw [h] at hr; cases hr), fun j hj => ?_⟩
    by_cases hji : j = i
    · subst hji; exact hy.op hi (hnd _ _ hi) hS ⟨fun _ h => h, H⟩
    · have h1 := H.2 j (ready_mono hj hji)
      obtain ⟨hjun, oj, hoj, hall⟩ := mem_ready.1 hj
      have hiun := (mem_ready.1 hr).1
      have hnot : ∀ e ∈ oj.after, Region.binds md e = true → e.on ≠ i := fun e he hb heq => by
        have h1 := hall e he hb
        rw [heq] at h1
        rcases Nat.lt_or_ge i listed.size with h' | h'
        · simp [h'] at hiun h1; rw [hiun] at h1; cases h1
        · simp [Array.getElem?_eq_none h'] at h1
      have hjd : j ∉ ds := fun hm => Region.reach_not_ready hc (hd j hm hjun) hiun hj
      have h2 := op_putIf hoj (hnd _ _ hoj) (hfree j oj hoj hji hjun hnot) (fun cs b => hsel i oi cs b hi) (fun cs b => hsel j oj cs b hoj) hQ hy h1
      have hfree' : ∀ k ok, ops[k]? = some ok → k ≠ i → (listed.setIfInBounds j true).getD k true = false →
          (∀ e ∈ ok.after, Region.binds md e = true → e.on ≠ i) → oi.apart ops ok = true := fun k ok hk hki hun hno => by
        refine hfree k ok hk hki ?_ hno
        by_cases hjk : j = k
        · subst hjk; exact hjun
        · rw [getD_set_ne true hjk] at hun; exact hun
      have hd' : ∀ d ∈ ds, (listed.setIfInBounds j true).getD d true = false → Region.reachB md ops i m d = true := fun d hm hun => by
        refine hd d hm ?_
        by_cases hjk : j = d
        · subst hjk; exact hjun
        · rw [getD_set_ne true hjk] at hun; exact hun
      refine wpOpIn_mono (fun a' w' h3 => ⟨h3.2.1, ih (listed.setIfInBounds j true) a' w' hfree' (hc.set hj) hd' (ready_mono hr (Ne.symm hji)) h3.1 (h3.2.1 hjd hS) ?_⟩) h2
      rw [Array.setIfInBounds_comm _ _ hji]
      exact h3.2.2
theorem anyS_any {i : Nat} {oi : Oper} {v : Value} (hi : ops[i]? = some oi) (hnd : ∀ (j : Nat) (o : Oper), ops[j]? = some o → ∀ c, o.op ≠ .defer c) (hsel : ∀ (j : Nat) (o : Oper) cs b, ops[j]? = some o → o.op ≠ .select cs b)
    (hQ : ∀ c a w, Q (.panic c) (a.put oi.dst v) w → Q (.panic c) a w) :
    ∀ (fuel : Nat) (listed : Array Bool) (a : Act) (w : World),
      (∀ j oj, ops[j]? = some oj → j ≠ i → listed.getD j true = false → (∀ e ∈ oj.after, Region.binds md e = true → e.on ≠ i) → oi.apart ops oj = true) →
      i ∈ Region.ready md ops listed → YieldsF P ops (fun _ => True) oi v a →
      wpAnyS F n P md ops Q S ds fuel (listed.setIfInBounds i true) (a.put oi.dst v) w → wpAnyS F n P md ops Q S ds (fuel + 1) listed a w := by
  intro fuel
  induction fuel with
  | zero =>
    intro listed a w _ hr hy H
    refine ⟨fun h => (by rw [h] at hr; cases hr), fun j hj => ?_⟩
    by_cases hji : j = i
    · subst hji; exact hy.op hi (hnd _ _ hi) trivial ⟨fun _ h => h, H⟩
    · have := ready_mono hj hji
      rw [H.1] at this
      cases this
  | succ fuel ih =>
    intro listed a w hfree hr hy H
    refine ⟨fun h => (by rw [h] at hr; cases hr), fun j hj => ?_⟩
    by_cases hji : j = i
    · subst hji; exact hy.op hi (hnd _ _ hi) trivial ⟨fun _ h => h, H⟩
    · have h1 := H.2 j (ready_mono hj hji)
      obtain ⟨hjun, oj, hoj, hall⟩ := mem_ready.1 hj
      have hiun := (mem_ready.1 hr).1
      have hnot : ∀ e ∈ oj.after, Region.binds md e = true → e.on ≠ i := fun e he hb heq => by
        have h1 := hall e he hb
        rw [heq] at h1
        rcases Nat.lt_or_ge i listed.size with h' | h'
        · simp [h'] at hiun h1; rw [hiun] at h1; cases h1
        · simp [Array.getElem?_eq_none h'] at h1
      have h2 := op_putIf hoj (hnd _ _ hoj) (hfree j oj hoj hji hjun hnot) (fun cs b => hsel i oi cs b hi) (fun cs b => hsel j oj cs b hoj) hQ hy h1
      have hfree' : ∀ k ok, ops[k]? = some ok → k ≠ i → (listed.setIfInBounds j true).getD k true = false →
          (∀ e ∈ ok.after, Region.binds md e = true → e.on ≠ i) → oi.apart ops ok = true := fun k ok hk hki hun hno => by
        refine hfree k ok hk hki ?_ hno
        by_cases hjk : j = k
        · subst hjk; exact hjun
        · rw [getD_set_ne true hjk] at hun; exact hun
      refine wpOpIn_mono (fun a' w' h3 => ⟨h3.2.1, ih (listed.setIfInBounds j true) a' w' hfree' (ready_mono hr (Ne.symm hji)) h3.1 ?_⟩) h2
      rw [Array.setIfInBounds_comm _ _ hji]
      exact h3.2.2
theorem start_ {id m : Nat} {a : Act} {w : World} (l : Array Bool) (hm : P.follows .mixedOrders = true) (hn : ops.size = m) (hl : Array.replicate m false = l) (hS : S w.drew)
    (h : S w.drew → wpAnyS F n P .any ops Q S ds m l a w.drew) : (Code.region id ops true).wpIn F n P Q a w := by
  subst hn
  subst hl
  exact wpIn_region_any hm (anyIn_of_S _ _ _ _ (h hS))
def takeD (md : Region.Mode) (ops : Array Oper) (ds : List Nat) (l l' : Array Bool) (i : Nat) : Bool := takeB md ops ds l l' i && noDefer ops
theorem take_ {i : Nat} {N : Option Tmp} {oi : Oper} {v : Value} {fuel : Nat} {l : Array Bool} {a : Act} {w : World} (l' : Array Bool) (hi : ops[i]? = some oi) (hN : oi.dst = N) (hc : takeD md ops ds l l' i = true)
    (hQ : ∀ c a w, Q (.panic c) (a.put oi.dst v) w → Q (.panic c) a w) (hb : ∀ w, oi.about P w a.eval = none) (hy : YieldsIf P ops S oi v a) (hS : S w) {a' : Act} (ha : a.put N v = a')
    (h : wpAnyS F n P md ops Q S ds fuel l' a' w) : wpAnyS F n P md ops Q S ds (fuel + 1) l a w := by
  subst ha
  subst hN
  simp only [takeD, takeB, Bool.and_eq_true, beq_iff_eq] at hc
  obtain ⟨⟨⟨⟨⟨⟨h1, h2⟩, h3⟩, h4⟩, h5⟩, h6⟩, h7⟩ := hc
  subst h6
  exact anyS_first hi (noDefer_spec h7) (Region.noSelect_spec h1) hQ ops.size fuel l a w (Region.free_spec hi h2) (Region.closedB_spec h4)
    (fun d hm hun => by have := List.all_eq_true.1 h5 d hm; rw [hun] at this; simpa using this) (by simpa using h3) ⟨hy, hb⟩ hS h
def anyD (md : Region.Mode) (ops : Array Oper) (l l' : Array Bool) (i : Nat) : Bool := anyB md ops l l' i && noDefer ops
theorem pure_ {i : Nat} {N : Option Tmp} {oi : Oper} {v : Value} {fuel : Nat} {l : Array Bool} {a : Act} {w : World} (l' : Array Bool) (hi : ops[i]? = some oi) (hN : oi.dst = N) (hc : anyD md ops l l' i = true)
    (hQ : ∀ c a w, Q (.panic c) (a.put oi.dst v) w → Q (.panic c) a w) (hb : ∀ w, oi.about P w a.eval = none) (hy : Yields P ops oi v a) {a' : Act} (ha : a.put N v = a')
    (h : wpAnyS F n P md ops Q S ds fuel l' a' w) : wpAnyS F n P md ops Q S ds (fuel + 1) l a w := by
  subst ha
  subst hN
  simp only [anyD, anyB, Bool.and_eq_true, beq_iff_eq] at hc
  obtain ⟨⟨⟨⟨h1, h2⟩, h3⟩, h6⟩, h7⟩ := hc
  subst h6
  exact anyS_any hi (noDefer_spec h7) (Region.noSelect_spec h1) hQ fuel l a w (Region.free_spec hi h2) (by simpa using h3) ⟨hy.yieldsIf, hb⟩ h
theorem one_ {i : Nat} {N : Option Tmp} {oi : Oper} {fuel : Nat} {l : Array Bool} {a : Act} {w : World} (l' : Array Bool) (hi : ops[i]? = some oi) (hN : oi.dst = N) (hc : readyB md ops l l' i = true) (hd : i ∉ ds) (hw : Region.wanted oi (yielded ops a.tmps) = true)
    (h : oi.wpIn F n P a w (fun a' w' => (S w → S w') ∧ wpAnyS F n P md ops Q S ds fuel l' a' w') Q) :
    wpAnyS F n P md ops Q S ds (fuel + 1) l a w := by
  subst hN
  simp only [readyB, Bool.and_eq_true, beq_iff_eq] at hc
  obtain ⟨h1, h2⟩ := hc
  subst h2
  refine ⟨fun h0 => (by rw [h1] at h0; cases h0), fun j hj => ?_⟩
  rw [h1] at hj
  obtain rfl : j = i := by simpa using hj
  unfold wpOpIn
  rw [hi]
  simp only [hw, if_true]
  exact Oper.wpIn_mono (fun a' w' h' => ⟨fun _ => h'.1, h'.2⟩) h
theorem last_ {i : Nat} {N : Option Tmp} {oi : Oper} {fuel : Nat} {l : Array Bool} {a : Act} {w : World} (l' : Array Bool) (hi : ops[i]? = some oi) (hN : oi.dst = N) (hc : readyB md ops l l' i = true) (hd : i ∈ ds) (hw : Region.wanted oi (yielded ops a.tmps) = true)
    (h : oi.wpIn F n P a w (fun a' w' => wpAnyS F n P md ops Q S ds fuel l' a' w') Q) :
    wpAnyS F n P md ops Q S ds (fuel + 1) l a w := by
  subst hN
  simp only [readyB, Bool.and_eq_true, beq_iff_eq] at hc
  obtain ⟨h1, h2⟩ := hc
  subst h2
  refine ⟨fun h0 => (by rw [h1] at h0; cases h0), fun j hj => ?_⟩
  rw [h1] at hj
  obtain rfl : j = i := by simpa using hj
  unfold wpOpIn
  rw [hi]
  simp only [hw, if_true]
  exact Oper.wpIn_mono (fun a' w' h' => ⟨fun hn => absurd hd hn, h'⟩) h
theorem pu {oi : Oper} {v : Value} {fuel : Nat} {l l' : Array Bool} {a a' : Act} {w : World} (i : Nat) (N : Option Tmp) (h : wpAnyS F n P md ops Q S ds fuel l' a' w)
    (hi : ops[i]? = some oi := by exact rfl) (hN : oi.dst = N := by exact rfl)
    (hl : l.setIfInBounds i true = l' := by (simp only [List.setIfInBounds_toArray, List.set_cons_zero, List.set_cons_succ]; exact rfl))
    (hc : anyD md ops l l' i = true := by kernel_rfl)
    (hQ : ∀ c a w, Q (.panic c) (a.put oi.dst v) w → Q (.panic c) a w := by exact fun _ _ _ h => h) (hb : ∀ w, oi.about P w a.eval = none := by exact fun _ => rfl)
    (hy : Yields P ops oi v a := by (refine Or.inl ⟨by exact rfl, ?_⟩; intro w'; go_simp; with_reducible rfl)) (ha : a.put N v = a' := by (simp only [Go.Act.put, List.setIfInBounds_toArray, List.set_cons_zero, List.set_cons_succ, i64_w, i32_w]; exact rfl)) :
    wpAnyS F n P md ops Q S ds (fuel + 1) l a w := pure_ l' hi hN hc hQ hb hy ha h
theorem tk {oi : Oper} {v : Value} {fuel : Nat} {l l' : Array Bool} {a a' : Act} {w : World} (i : Nat) (N : Option Tmp) (hS : S w) (h : wpAnyS F n P md ops Q S ds fuel l' a' w)
    (hi : ops[i]? = some oi := by exact rfl) (hN : oi.dst = N := by exact rfl)
    (hl : l.setIfInBounds i true = l' := by (simp only [List.setIfInBounds_toArray, List.set_cons_zero, List.set_cons_succ]; exact rfl))
    (hc : takeD md ops ds l l' i = true := by kernel_rfl)
    (hQ : ∀ c a w, Q (.panic c) (a.put oi.dst v) w → Q (.panic c) a w := by exact fun _ _ _ h => h) (hb : ∀ w, oi.about P w a.eval = none := by exact fun _ => rfl)
    (hy : YieldsIf P ops S oi v a := by (refine Or.inl ⟨by exact rfl, ?_⟩; rintro w' rfl; go_simp; with_reducible rfl)) (ha : a.put N v = a' := by (simp only [Go.Act.put, List.setIfInBounds_toArray, List.set_cons_zero, List.set_cons_succ, i64_w, i32_w]; exact rfl)) :
    wpAnyS F n P md ops Q S ds (fuel + 1) l a w := take_ l' hi hN hc hQ hb hy hS ha h
theorem tl {oi : Oper} {v : Value} {fuel : Nat} {l l' : Array Bool} {a a' : Act} {w : World} (i : Nat) (N : Option Tmp) (hS : S w) (h : wpAnyS F n P md ops Q S ds fuel l' a' w)
    (hi : ops[i]? = some oi := by exact rfl) (hN : oi.dst = N := by exact rfl)
    (hl : l.setIfInBounds i true = l' := by (simp only [List.setIfInBounds_toArray, List.set_cons_zero, List.set_cons_succ]; exact rfl))
    (hc : takeD md ops ds l l' i = true := by kernel_rfl)
    (hQ : ∀ c a w, Q (.panic c) (a.put oi.dst v) w → Q (.panic c) a w := by exact fun _ _ _ h => h) (hb : ∀ w, oi.about P w a.eval = none := by exact fun _ => rfl)
    (hy : YieldsIf P ops S oi v a := by (refine Or.inl ⟨by exact rfl, ?_⟩; rintro w' ⟨hsa, hsb⟩; go_simp; with_reducible rfl)) (ha : a.put N v = a' := by (simp only [Go.Act.put, List.setIfInBounds_toArray, List.set_cons_zero, List.set_cons_succ, i64_w, i32_w]; exact rfl)) :
    wpAnyS F n P md ops Q S ds (fuel + 1) l a w := take_ l' hi hN hc hQ hb hy hS ha h
theorem round_ {o : Oper} {a : Act} {w : World} {K : Act → World → Prop} {l : Nat} {f : FuncId} {tmps : Array Value} {assign body : Code} (hnd : ∀ c, o.op ≠ .defer c) (hab : ∀ f, o.about P w a.eval = some f → F.fn f)
    (hrun : (execOp a.eval o).run P w = .ok (.round l f tmps assign body) w) (hn : F.depth.isSome = true → 1 ≤ n) (hR : RoundIn F (n - 1) P l f tmps assign body w fun e w'' => ∃ v, e = .returned v ∧ K (a.put o.dst v) w'') : o.wpIn F n P a w K Q := by
  unfold Oper.wpIn
  rw [Oper.semAt_plain F _ o hnd, hrun]
  refine ⟨hab, hn, RoundIn.mono hR fun e w'' he => ?_⟩
  obtain ⟨v, rfl, hk⟩ := he
  exact hk
theorem value_ {o : Oper} {a : Act} {w w1 : World} {v : Value} {K : Act → World → Prop} (hnd : ∀ c, o.op ≠ .defer c) (hab : ∀ f, o.about P w a.eval = some f → F.fn f) (hrun : (execOp a.eval o).run P w = .ok (.value v) w1) (h : K (a.put o.dst v) w1) : o.wpIn F n P a w K Q := by
  unfold Oper.wpIn
  rw [Oper.semAt_plain F _ o hnd, hrun]
  exact ⟨hab, h⟩
theorem skip_ {o : Oper} {a : Act} {w w1 : World} {K : Act → World → Prop} (hnd : ∀ c, o.op ≠ .defer c) (hab : ∀ f, o.about P w a.eval = some f → F.fn f) (hN : o.dst = none) (hrun : (execOp a.eval o).run P w = .ok .skip w1) (h : K a w1) : o.wpIn F n P a w K Q := by
  unfold Oper.wpIn
  rw [Oper.semAt_plain F _ o hnd, hrun]
  refine ⟨hab, ?_⟩
  show K (a.put o.dst undef) w1
  rw [hN]
  exact h
theorem done_ {l : Array Bool} {a : Act} {w : World} (hr : (Region.ready md ops l == []) = true) (h : Q .normal a w) : ∀ m : Nat, wpAnyS F n P md ops Q S ds m l a w
  | 0 => ⟨by simpa using hr, h⟩
  | _ + 1 => ⟨fun _ => h, by rw [show Region.ready md ops l = [] by simpa using hr]; simp⟩
end
end Go.Proofs.Ytefjmcljkmppoaa.GI
/- By hand: a call of a function in a region that draws its order, inside a fence. -/
namespace Go.Proofs.Ytefjmcljkmppoaa.GI
open Go.RowKit Go.Proofs.YtefjmcljkmppoaaW.PrintWords Go.Proofs.YtefjmcljkmppoaaW.PrintLast
set_option linter.unusedVariables false
section
variable {F : Fence} {n : Nat} {P : Program} {ops : Array Oper} {Q : Exit → Act → World → Prop} {md : Region.Mode} {S : World → Prop} {ds : List Nat}
theorem call_ {o : Oper} {a : Act} {w : World} {K : Act → World → Prop} {f : FuncId} (args : Array Value) (hnd : ∀ c, o.op ≠ .defer c) (hab : ∀ f, o.about P w a.eval = some f → F.fn f)
    (hrun : (execOp a.eval o).run P w = .ok (.enter f args) w) (hn : F.depth.isSome = true → 1 ≤ n) (hR : CallsIn F (n - 1) P f args w fun e w'' => ∃ v, e = .returned v ∧ K (a.put o.dst v) w'') : o.wpIn F n P a w K Q := by
  unfold Oper.wpIn
  rw [Oper.semAt_plain F _ o hnd, hrun]
  refine ⟨hab, hn, CallsIn.mono hR fun e w'' he => ?_⟩
  obtain ⟨v, rfl, hk⟩ := he
  exact hk
def twoB (md : Region.Mode) (ops : Array Oper) (l li lj : Array Bool) (i j : Nat) : Bool := (Region.ready md ops l == [i, j]) && (li == l.setIfInBounds i true) && (lj == l.setIfInBounds j true)
theorem two_ {i j : Nat} {Ni Nj : Option Tmp} {oi oj : Oper} {fuel : Nat} {l : Array Bool} {a : Act} {w : World} (li lj : Array Bool) (hi : ops[i]? = some oi) (hj : ops[j]? = some oj) (hNi : oi.dst = Ni) (hNj : oj.dst = Nj) (hc : twoB md ops l li lj i j = true)
    (hwi : Region.wanted oi (yielded ops a.tmps) = true) (hwj : Region.wanted oj (yielded ops a.tmps) = true)
    (h1 : oi.wpIn F n P a w (fun a' w' => (S w → S w') ∧ wpAnyS F n P md ops Q S ds fuel li a' w') Q)
    (h2 : oj.wpIn F n P a w (fun a' w' => (S w → S w') ∧ wpAnyS F n P md ops Q S ds fuel lj a' w') Q) :
    wpAnyS F n P md ops Q S ds (fuel + 1) l a w := by
  simp only [twoB, Bool.and_eq_true, beq_iff_eq] at hc
  obtain ⟨⟨h0, rfl⟩, rfl⟩ := hc
  refine ⟨fun e => (by rw [h0] at e; cases e), fun k hk => ?_⟩
  rw [h0] at hk
  have hk' : k = i ∨ k = j := by simpa using hk
  rcases hk' with rfl | rfl
  · unfold wpOpIn
    rw [hi]
    simp only [hwi, if_true]
    exact Oper.wpIn_mono (fun a' w' h' => ⟨fun _ => h'.1, h'.2⟩) h1
  · unfold wpOpIn
    rw [hj]
    simp only [hwj, if_true]
    exact Oper.wpIn_mono (fun a' w' h' => ⟨fun _ => h'.1, h'.2⟩) h2
def putL (t : Array Value) (vs : List (Nat × Value)) : Array Value := vs.foldl (fun t x => t.setIfInBounds x.1 x.2) t
theorem join_ {fuel : Nat} {l : Array Bool} {a : Act} {w : World} (vs : List (Nat × Value)) (p : Nat) (X : Nat → World → Prop) (hc : ∀ g W, X g W → Q .normal { tmps := putL (a.tmps.setIfInBounds p (.pointer (some ⟨g, 0, none⟩))) vs, defers := a.defers } W)
    (h : (∀ g W, X g W → Q .normal { tmps := putL (a.tmps.setIfInBounds p (.pointer (some ⟨g, 0, none⟩))) vs, defers := a.defers } W) → wpAnyS F n P md ops Q S ds fuel l a w) : wpAnyS F n P md ops Q S ds fuel l a w := h hc
theorem norm_ {l : Array Bool} {a a' : Act} {w : World} {fuel : Nat} (ha : a = a') (h : wpAnyS F n P md ops Q S ds fuel l a' w) : wpAnyS F n P md ops Q S ds fuel l a w := by rw [ha]; exact h
theorem q_norm {a a' : Act} {e : Exit} {w : World} (ha : a = a') (h : Q e a' w) : Q e a w := by rw [ha]; exact h
end
end Go.Proofs.Ytefjmcljkmppoaa.GI
