/- By hand: suspect.Without. -/
import Derived.Test.YtfhmjleimampeaaGOf
import Derived.Test.YtfhmjleimampeaaGDf
import Derived.Test.YtfhmjleimampeaaGCloneF
import Derived.Laws.EntriesVeiled
namespace Go.Proofs.Ytfhmjleimampeaa.K
open Go Go.RowKit Go.Maps Go.Proofs.YtfhmjleimampeaaW.PrintWords Go.Proofs.YtfhmjleimampeaaW.PrintLast Go.Proofs.YtfhmjleimampeaaW.PrintMore Go.Proofs.Ytfhmjleimampeaa.GW Go.Proofs.Ytfhmjleimampeaa.RM
set_option linter.unusedVariables false
set_option linter.unusedSimpArgs false
set_option maxHeartbeats 4000000 in
set_option maxRecDepth 100000 in
theorem with43 (g : Nat) (kf : S30 → Int) (hW : Who g kf) (gw gi : Nat) (id : Int) (x : S30) (W : World) (bw : W.heap[gw]? = some (.cells #[.func (.func g) #[] #[]] 55 (0, 0))) (bi : W.heap[gi]? = some (.cells #[.int .i64 id] 3 (0, 0))) :
    Calls Try.prog 43 #[.agg #[.int .i64 x.f0, .int .i64 x.f1, .int .i64 x.f2, .int .i64 x.f3], .pointer (some ⟨gw, 0, none⟩), .pointer (some ⟨gi, 0, none⟩)] W fun e w' => e = .returned (.bool (kf x == id)) ∧ Below W.heap.size W w' := by
  have heg := hW.enters
  have HW := Aside0.mk hW
  have HB := Aside0.mk (Below.refl W.heap.size W)
  have BW := Aside0.mk bw
  have BI := Aside0.mk bi
  clear hW bw bi
  go_enter Try.func43, Try.ntmps43
  go_upto_region 1 with (first | ((with_reducible refine gqD (N := 3) rfl ?_); refine GS.bx (N := 3) (cs := #[.int .i64 x.f0, .int .i64 x.f1, .int .i64 x.f2, .int .i64 x.f3]) (t := 30) ?_; intro g3 hg w1 hbox hb; have B3 := Aside0.mk hbox; have n0_ := Aside0.mk (lqT (GS.lB HB.out) hb); have n1_ := Aside0.mk (bqB (GS.bqX BW.out) hb); have n2_ := Aside0.mk (bqB (GS.bqX BI.out) hb); clear HB BW BI; have HB := n0_; have BW := n1_; have BI := n2_; clear n0_ n1_ n2_ hb hbox hg))
  refine start_ (n := 6) (S := fun w' => w'.heap[g3]? = some (.cells #[.int .i64 x.f0, .int .i64 x.f1, .int .i64 x.f2, .int .i64 x.f3] 30 (0, 0)) ∧ w'.heap[gw]? = some (.cells #[.func (.func g) #[] #[]] 55 (0, 0)) ∧ w'.heap[gi]? = some (.cells #[.int .i64 id] 3 (0, 0)) ∧ Below W.heap.size W w') (ds := []) #[false, false, false, false, false, false] (by kernel_rfl) rfl rfl ⟨bqD B3.out, bqD BW.out, bqD BI.out, GS.lB HB.out⟩ (fun hHeld => ?_)
  refine take_ (i := 0) (N := some 5) (v := ?_) (a' := ?_) #[true, false, false, false, false, false] rfl rfl (by kernel_rfl) (fun _ _ _ h => h) (Or.inl ⟨by rfl, ?_⟩) hHeld ?_ ?_
  rotate_left
  · rintro w' hS
    have z0 := blk_cell hS.2.1 0
    simp only [List.getElem?_toArray, List.getElem?_cons_zero] at z0
    go_simp
    with_reducible rfl
  rotate_left
  · simp only [Act.put, List.setIfInBounds_toArray, List.set_cons_zero, List.set_cons_succ, i64_w, i32_w]
    rfl
  refine take_ (i := 1) (N := some 6) (v := ?_) (a' := ?_) #[true, true, false, false, false, false] rfl rfl (by kernel_rfl) (fun _ _ _ h => h) (Or.inl ⟨by rfl, ?_⟩) hHeld ?_ ?_
  rotate_left
  · rintro w' hS
    obtain ⟨z0, z1, z2, z3, _, _, _, _⟩ := GS.c4 hS.1
    go_simp
    with_reducible rfl
  rotate_left
  · simp only [Act.put, List.setIfInBounds_toArray, List.set_cons_zero, List.set_cons_succ, i64_w, i32_w]
    rfl
  refine take_ (i := 3) (N := some 8) (v := ?_) (a' := ?_) #[true, true, false, true, false, false] rfl rfl (by kernel_rfl) (fun _ _ _ h => h) (Or.inl ⟨by rfl, ?_⟩) hHeld ?_ ?_
  rotate_left
  · rintro w' hS
    have z0 := blk_cell hS.2.2.1 0
    simp only [List.getElem?_toArray, List.getElem?_cons_zero] at z0
    go_simp
    with_reducible rfl
  rotate_left
  · simp only [Act.put, List.setIfInBounds_toArray, List.set_cons_zero, List.set_cons_succ, i64_w, i32_w]
    rfl
  refine one_ (i := 2) (N := some 7) #[true, true, true, true, false, false] rfl rfl (by kernel_rfl) (by decide) (fun K hK => ?_)
  refine call_ g #[.agg #[.int .i64 x.f0, .int .i64 x.f1, .int .i64 x.f2, .int .i64 x.f3]] (by rfl) rfl ?_ ?_
  · unfold execOp
    simp [resolve, Deferred.ofValue, invoke, Act.eval, heg]
  refine (HW.out.calls _ x).mono ?_
  rintro e w1 ⟨rfl, hb1⟩
  refine ⟨_, rfl, ?_⟩
  refine hK.out _ _ ⟨bqB hHeld.1 hb1, bqB hHeld.2.1 hb1, bqB hHeld.2.2.1 hb1, lqT hHeld.2.2.2 hb1⟩ (fun hHeld => ?_)
  clear hK K
  refine norm_ (a' := ?_) ?_ ?_
  rotate_left
  · show Act.put _ (some 7) _ = _
    simp only [Act.put, List.setIfInBounds_toArray, List.set_cons_zero, List.set_cons_succ, i64_w, i32_w]
    rfl
  refine pure_ (i := 4) (N := some 9) (v := ?_) (a' := ?_) #[true, true, true, true, true, false] rfl rfl (by kernel_rfl) (fun _ _ _ h => h) (Or.inl ⟨by rfl, ?_⟩) ?_ ?_
  rotate_left
  · intro w'
    go_simp
    with_reducible rfl
  rotate_left
  · simp only [Act.put, List.setIfInBounds_toArray, List.set_cons_zero, List.set_cons_succ, i64_w, i32_w]
    rfl
  refine pure_ (i := 5) (N := some 4) (v := ?_) (a' := ?_) #[true, true, true, true, true, true] rfl rfl (by kernel_rfl) (fun _ _ _ h => h) (Or.inl ⟨by rfl, ?_⟩) ?_ ?_
  rotate_left
  · intro w'
    go_simp
    with_reducible rfl
  rotate_left
  · simp only [Act.put, List.setIfInBounds_toArray, List.set_cons_zero, List.set_cons_succ, i64_w, i32_w]
    rfl
  refine done_ (by kernel_rfl) ?_
  try go_wp2
  go_ret
  exact ⟨rfl, hHeld.2.2.2⟩
def withoutE (l : List S30) (b id : Int) : List S30 × Int := if (ofE l b id).2.2 = 0 then (l.filter (fun x => !(kfE b x == id)), 0) else ([], (ofE l b id).2.2)
def suspect_Without.f (l : List S30) (b id : Int) : Option (List S30 × Int) := if (Lit.int .i64 id).wf = true then some (withoutE l b id) else none
theorem of_zero {l : List S30} {b id : Int} (h : (ofE l b id).2.2 = 0) : (chkE l).2 = 0 ∧ (b = 1 ∨ b = 2) ∧ grp (kfE b) l id ≠ [] ∧ ofE l b id = (grp (kfE b) l id, oth (kfE b) l id, 0) := by
  unfold ofE at h ⊢
  by_cases c0 : (chkE l).2 ≠ 0
  · rw [if_pos c0] at h; cases h
  · rw [if_neg c0] at h ⊢
    by_cases c1 : ¬ (b = 1 ∨ b = 2)
    · rw [if_pos c1] at h; cases h
    · rw [if_neg c1] at h ⊢
      by_cases c2 : grp (kfE b) l id = []
      · rw [if_pos c2] at h; cases h
      · rw [if_neg c2]
        exact ⟨Decidable.not_not.1 c0, Decidable.not_not.1 c1, c2, rfl⟩
theorem own_off {v : Value} {b g : Nat} (h : ∀ k, v.ownBlock = some k → b ≤ k) (hg : g < b) : some g ≠ v.ownBlock := by
  intro e
  have := h g e.symm
  omega
set_option maxHeartbeats 4000000 in
set_option maxRecDepth 100000 in
theorem suspect_Without.calls (A0 : Option Addr) (c0 : Nat) (l0 : List S30) (a1 a2 : Int) (r1 : List S30) (r2 : Int) (w : World) (hr0 : Kd.C k30 w A0 l0.length l0) (hc0 : l0.length ≤ c0) (h : suspect_Without.f l0 a1 a2 = some (r1, r2)) :
    Calls Try.prog 17 #[.slice A0 l0.length c0, .int .i64 a1, .int .i64 a2] w fun e w' => ∃ v0_ : Value, e = .returned (.tuple #[v0_, .int .i64 r2]) ∧ Kd.R k30 30 w' w.heap.size (fun _ => True) v0_ r1 ∧ Below w.heap.size w w' := by
  unfold suspect_Without.f at h
  by_cases hid : (Lit.int .i64 a2).wf = true
  case neg => rw [if_neg hid] at h; cases h
  rw [if_pos hid] at h
  have h := Option.some.inj h
  have HOF : Aside0 (suspect_Of.f l0 a1 a2 = some ((ofE l0 a1 a2).1, (ofE l0 a1 a2).2.1, (ofE l0 a1 a2).2.2)) := ⟨by unfold suspect_Of.f; rw [if_pos hid]⟩
  have hu30 := Try.underlying30
  have HR0 := Aside0.mk hr0
  have HC0 := Aside0.mk hc0
  have HB := Aside0.mk (Below.refl w.heap.size w)
  clear hr0 hc0 hid
  unfold withoutE at h
  by_cases c0_ : (ofE l0 a1 a2).2.2 = 0
  · rw [if_pos c0_] at h
    simp only [Prod.mk.injEq] at h
    obtain ⟨hl1, rfl⟩ := h
    obtain ⟨h1, h2, h3, h4⟩ := of_zero c0_
    have HLN := Aside0.mk (chk_ok h1).1
    have HV := Aside0.mk (whoV_ok h2)
    have HFL := Aside0.mk hl1
    rw [h4] at HOF
    have HCL : Aside0 (clone13.f l0 = some l0) := ⟨by unfold clone13.f; rw [if_pos (by have := HLN.out; omega)]⟩
    clear h1 h2 h3 h4 c0_ hl1
    go_enter Try.func17, Try.ntmps17
    go_wp2_with (first | ((with_reducible refine gqD (N := 5) rfl ?_); refine GS.bx (N := 5) (cs := #[.int .i64 a2]) (t := 3) ?_; intro g5 hg w1 hbox hb; have n0_ := Aside0.mk (lqT (GS.lB HB.out) hb); have B5 := Aside0.mk hbox; have G5 : Aside0 (w.heap.size ≤ g5) := ⟨by rw [hg]; exact (lqZ (GS.lB HB.out))⟩; clear HB; have HB := n0_; clear n0_ hb hbox hg; have z5 : w1.cell? ⟨g5, 0, none⟩ = some (.int .i64 a2) := (blk_cell B5.out 0).trans rfl) | ((with_reducible show Calls Try.prog 15 _ _ _); refine (suspect_Of.calls A0 c0 l0 a1 a2 _ _ _ _ (GS.rC (Kd.C_below HR0.out HB.out)) HC0.out HOF.out).mono ?_; rintro e w3 ⟨v0, v1, rfl, ho0, ho1, hb⟩; clear ho0 ho1 z5; have n0_ := Aside0.mk (lqT (GS.lB HB.out) hb); have n1_ := Aside0.mk (bqB (GS.bqX B5.out) hb); clear HB B5 hb; have HB := n0_; have B5 := n1_; clear n0_ n1_) | ((with_reducible show Calls Try.prog 36 _ _ _); refine (who36 _ _).mono ?_; rw [HV.out]; rintro e w4 ⟨rfl, rfl⟩) | ((with_reducible refine gqD (N := 11) rfl ?_); refine GS.bx (N := 11) (cs := #[.nilFunc]) (t := 55) ?_; intro g11 hg w5 hbox hb; have n0_ := Aside0.mk (lqT (GS.lB HB.out) hb); have B11 := Aside0.mk hbox; have G11 : Aside0 (w.heap.size ≤ g11) := ⟨by rw [hg]; exact (lqZ (GS.lB HB.out))⟩; have NG : Aside0 (g5 ≠ g11) := ⟨by rw [hg]; exact Nat.ne_of_lt (blk_lt (GS.bqX B5.out))⟩; have n1_ := Aside0.mk (bqB (GS.bqX B5.out) hb); clear HB B5; have HB := n0_; have B5 := n1_; clear n0_ n1_ hb hbox hg; have z11 : w5.cell? ⟨g11, 0, none⟩ = some .nilFunc := (blk_cell B11.out 0).trans rfl; have f11 : w5.frozen? ⟨g11, 0, none⟩ = false := blk_frozen B11.out 0) | ((with_reducible show Calls Try.prog 13 _ _ _); have n0_ : Aside0 (Below w.heap.size w (w5.setCell ⟨g11, 0, none⟩ (.func (.func (gE a1)) #[] #[]))) := ⟨GS.lB HB.out⟩; have n1_ : Aside0 ((w5.setCell ⟨g11, 0, none⟩ (.func (.func (gE a1)) #[] #[])).heap[g11]? = some (.cells #[.func (.func (gE a1)) #[] #[]] 55 (0, 0))) := ⟨GS.bqZ B11.out⟩; have n2_ : Aside0 ((w5.setCell ⟨g11, 0, none⟩ (.func (.func (gE a1)) #[] #[])).heap[g5]? = some (.cells #[.int .i64 a2] 3 (0, 0))) := ⟨GS.bqX B5.out⟩; clear HB B11 B5 z11 f11; generalize (w5.setCell ⟨g11, 0, none⟩ (.func (.func (gE a1)) #[] #[])) = w6 at n0_ n1_ n2_ ⊢; have HB := n0_; have B11 := n1_; have B5 := n2_; clear n0_ n1_ n2_; refine (clone13.calls A0 c0 l0 _ _ (GS.rC (Kd.C_below HR0.out HB.out)) HC0.out HCL.out).mono ?_; rintro e w7 ⟨v7, rfl, hro, hb⟩; have N5 : Aside0 (g5 < w6.heap.size) := ⟨blk_lt B5.out⟩; have N11 : Aside0 (g11 < w6.heap.size) := ⟨blk_lt B11.out⟩; have HO := Aside0.mk hro; have HZ := Aside0.mk (HB.out.size); have n0_ := Aside0.mk (lqT HB.out hb); have n1_ := Aside0.mk (bqB B5.out hb); have n2_ := Aside0.mk (bqB B11.out hb); clear HB B5 B11 hb hro; have HB := n0_; have B5 := n1_; have B11 := n2_; clear n0_ n1_ n2_; obtain ⟨Ao, co, eo⟩ := Kd.R_slice HO.out; subst eo) | ((with_reducible show Calls Try.prog 42 _ _ _); refine (delf42 43 #[.pointer (some ⟨g11, 0, none⟩), .pointer (some ⟨g5, 0, none⟩)] (fun args w => enters_ Try.func43 (by kernel_rfl) rfl args w) (fun x => kfE a1 x == a2) Ao co l0 w6.heap.size _ _ HO.out (fun W x hg => with43 (gE a1) (kfE a1) (whoE a1) g11 g5 a2 x W (blk_grown B11.out hg (own_off (Kd.R_base HO.out) N11.out)) (blk_grown B5.out hg (own_off (Kd.R_base HO.out) N5.out)))).mono ?_; rintro e w8 ⟨v8, rfl, hro, hg⟩; rw [HFL.out] at hro; have HO8 := Aside0.mk (Kd.R_lower hro HZ.out); have n0_ := Aside0.mk (HB.out.grown hg HB.out.size (fun k hk => Nat.le_trans HZ.out (Kd.R_base HO.out k hk))); clear HB B5 B11 hro hg HO; have HB := n0_; clear n0_))
    go_ret2
    exact ⟨_, rfl, HO8.out, HB.out⟩
  · rw [if_neg c0_] at h
    simp only [Prod.mk.injEq] at h
    obtain ⟨rfl, rfl⟩ := h
    have cn : ((ofE l0 a1 a2).2.2 != 0) = true := bne_iff_ne.2 c0_
    generalize ofE l0 a1 a2 = z at HOF cn ⊢
    clear c0_
    go_enter Try.func17, Try.ntmps17
    go_wp2_with (first | ((with_reducible refine gqD (N := 5) rfl ?_); refine GS.bx (N := 5) (cs := #[.int .i64 a2]) (t := 3) ?_; intro g5 hg w1 hbox hb; have n0_ := Aside0.mk (lqT (GS.lB HB.out) hb); have B5 := Aside0.mk hbox; have G5 : Aside0 (w.heap.size ≤ g5) := ⟨by rw [hg]; exact (lqZ (GS.lB HB.out))⟩; clear HB; have HB := n0_; clear n0_ hb hbox hg; have z5 : w1.cell? ⟨g5, 0, none⟩ = some (.int .i64 a2) := (blk_cell B5.out 0).trans rfl) | ((with_reducible show Calls Try.prog 15 _ _ _); refine (suspect_Of.calls A0 c0 l0 a1 a2 _ _ _ _ (GS.rC (Kd.C_below HR0.out HB.out)) HC0.out HOF.out).mono ?_; rintro e w3 ⟨v0, v1, rfl, ho0, ho1, hb⟩; clear ho0 ho1 z5; have n0_ := Aside0.mk (lqT (GS.lB HB.out) hb); have n1_ := Aside0.mk (bqB (GS.bqX B5.out) hb); clear HB B5 hb; have HB := n0_; have B5 := n1_; clear n0_ n1_))
    go_ret2
    exact ⟨_, rfl, Kd.R_nil _ _ _ _ _, GS.lB HB.out⟩
end Go.Proofs.Ytfhmjleimampeaa.K
