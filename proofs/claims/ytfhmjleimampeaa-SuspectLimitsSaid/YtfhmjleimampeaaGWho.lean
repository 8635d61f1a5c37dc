/- By hand: suspect.who's closures; suspect.groups and suspect.others with any of them. -/
import Derived.Test.YtfhmjleimampeaaGMapR
import Derived.Test.YtfhmjleimampeaaK0
import Derived.Test.YtfhmjleimampeaaGShort
import Derived.Test.YtfhmjleimampeaaGW
import Derived.Test.YtfhmjleimampeaaGSym
namespace Go.Proofs.Ytfhmjleimampeaa.K
open Go Go.RowKit Go.Maps Go.Proofs.YtfhmjleimampeaaW.PrintWords Go.Proofs.YtfhmjleimampeaaW.PrintLast Go.Proofs.YtfhmjleimampeaaW.PrintMore Go.Proofs.Ytfhmjleimampeaa.GW Go.Proofs.Ytfhmjleimampeaa.RM
set_option linter.unusedVariables false
set_option linter.unusedSimpArgs false
/-- A function that tells a finding's cask or clerk. -/
structure Who (g : Nat) (kf : S30 → Int) : Prop where
  enters : ∀ (args : Array Value) (w : World), (callFunc g args).run Try.prog w = .ok (.enter g args) w
  calls : ∀ (W : World) (x : S30), Calls Try.prog g #[.agg #[.int .i64 x.f0, .int .i64 x.f1, .int .i64 x.f2, .int .i64 x.f3]] W fun e w' => e = .returned (.int .i64 (kf x)) ∧ Below W.heap.size W w'
set_option maxHeartbeats 1000000 in
theorem who58 : Who 58 (fun x => x.f1) := by
  refine ⟨fun args w => enters_ Try.func58 (by kernel_rfl) rfl args w, fun W x => ?_⟩
  go_enter Try.func58, Try.ntmps58
  go_wp2
  go_ret
  exact ⟨rfl, GS.lB (Below.refl _ _)⟩
set_option maxHeartbeats 1000000 in
theorem who59 : Who 59 (fun x => x.f2) := by
  refine ⟨fun args w => enters_ Try.func59 (by kernel_rfl) rfl args w, fun W x => ?_⟩
  go_enter Try.func59, Try.ntmps59
  go_wp2
  go_ret
  exact ⟨rfl, GS.lB (Below.refl _ _)⟩
/-- The losses of those that kf tells x of. -/
def grp (kf : S30 → Int) (l : List S30) : Int → List Int := fun x => (l.filter (fun y => decide (kf y = x))).map (fun y => y.f3)
theorem grp_take (kf : S30 → Int) (l : List S30) (i : Nat) (hi : i < l.length) : gput (grp kf (l.take i)) (kf l[i]) l[i].f3 = grp kf (l.take (i + 1)) := by
  funext x
  rw [← List.take_append_getElem hi]
  unfold gput grp
  rw [List.filter_append, List.map_append]
  by_cases e : x = kf l[i]
  · rw [if_pos e]
    simp [e]
  · rw [if_neg e]
    simp
    exact fun e' => e e'.symm
theorem grp_len (kf : S30 → Int) (l : List S30) (x : Int) : (grp kf l x).length ≤ l.length := by
  unfold grp
  rw [List.length_map]
  exact List.length_filter_le _ _
theorem rd_get30 (l : List S30) (i : Nat) (h : i < l.length) : rd_T30 l (i : Int) = l[i] := by
  unfold rd_T30
  simp [List.getD_eq_getElem?_getD, h]
/-- The state while a round of groups draws. -/
structure StG (w : World) (gm n : Nat) (M : Int → Option Value) (G : Int → List Int) (g7 : Nat) (cs : Array Value) (W : World) : Prop where
  blk : W.heap[g7]? = some (.cells cs 30 (0, 0))
  map : RMap W w.heap.size gm n M G
  below : Below w.heap.size w W
theorem StG.step {w : World} {gm n : Nat} {M : Int → Option Value} {G : Int → List Int} {g7 : Nat} {cs : Array Value} {W W' : World} (h : StG w gm n M G g7 cs W) (hb : Below W.heap.size W W') : StG w gm n M G g7 cs W' :=
  ⟨bqB h.blk hb, h.map.kept hb, lqT h.below hb⟩
theorem StG.lit {w : World} {gm n : Nat} {M : Int → Option Value} {G : Int → List Int} {g7 : Nat} {cs : Array Value} {W : World} (h : StG w gm n M G g7 cs W) (x : Int) :
    StG w gm n M G g7 cs (W.alloc (.cells #[.int .i64 x] 3 (0, 0))) ∧ (W.alloc (.cells #[.int .i64 x] 3 (0, 0))).heap[W.heap.size]? = some (.cells #[.int .i64 x] 3 (0, 0)) :=
  ⟨h.step (below_alloc (Below.refl _ _) _), blk_new W _⟩
theorem append_run {P : Program} {o : Oper} {a : Act} {W w1 : World} {s x : Operand} {t : TypeId} {v lit v1 : Value} (ho : o.op = .call { callee := .builtin .append, args := #[s, x], argTypes := #[t, t] }) (hs : a.eval s = v) (hx : a.eval x = lit)
    (hr : (Builtin.append_ #[t, t] o.type #[v, lit]).run P W = .ok v1 w1) : (execOp a.eval o).run P W = .ok (.value v1) w1 := by
  unfold execOp
  simp only [ho, resolve, invoke, builtin, Sem.run_bind, Sem.run_pure, Result.andThen_ok, List.map_toArray, List.map_cons, List.map_nil, hs, hx, hr]
theorem update_run {P : Program} {oi : Oper} {a : Act} {w w1 : World} {t : TypeId} {m x v : Operand} {mv key val : Value} (ho : oi.op = .mapUpdate t m x v) (hm : a.eval m = mv) (hx : a.eval x = key) (hv : a.eval v = val)
    (hrun : (Instr.mapUpdate t mv key val).run P w = .ok () w1) : (execOp a.eval oi).run P w = .ok .skip w1 := by
  unfold execOp
  simp [ho, hm, hx, hv, hrun, Result.andThen]
set_option maxHeartbeats 8000000 in
set_option maxRecDepth 100000 in
theorem groups38 (g : Nat) (kf : S30 → Int) (hW : Who g kf) (A0 : Option Addr) (c0 : Nat) (l0 : List S30) (w : World) (hr0 : Kd.C k30 w A0 l0.length l0) (hl : l0.length ≤ 1000) (hkw : ∀ x ∈ l0, (Lit.int .i64 (kf x)).wf = true) :
    Calls Try.prog 38 #[.slice A0 l0.length c0, .func (.func g) #[] #[]] w fun e w' => ∃ gm M, e = .returned (.map (some gm)) ∧ RMap w' w.heap.size gm l0.length M (grp kf l0) ∧ Below w.heap.size w w' := by
  have heg := hW.enters
  have HW := Aside0.mk hW
  have HR0 := Aside0.mk hr0
  have HL0 := Aside0.mk hl
  have HKW := Aside0.mk hkw
  have HB := Aside0.mk (Below.refl w.heap.size w)
  clear hW hr0 hl hkw
  go_enter Try.func38, Try.ntmps38
  go_wp2_with (first | ((with_reducible refine gate_dst (N := 8) rfl ?_); refine map_event ?hg (t := 57) ?ho ?_; (case hg => rfl); (case ho => rfl); intro gm hgm_ w6 hmap_ hb; have HGM : Aside0 (w.heap.size ≤ gm) := ⟨by rw [hgm_]; exact (lqZ (GS.lB HB.out))⟩; have HM0 := Aside0.mk (RMap.new hmap_ w.heap.size); have n0_ := Aside0.mk (lqT (GS.lB HB.out) hb); clear HB; have HB := n0_; clear n0_ hb hmap_ hgm_))
  go_loopg [11] l0.length (fun kq v11 w' => ∃ (i : Nat) (M : Int → Option Value), v11 = .int .i64 (i : Int) ∧ Aside0 (i + kq = l0.length) ∧ Aside0 (RMap w' w.heap.size gm i M (grp kf (l0.take i))) ∧ Aside0 (Below w.heap.size w w'))
  case atStart => exact ⟨0, _, rfl, ⟨by omega⟩, ⟨by rw [List.take_zero]; exact HM0.out⟩, HB⟩
  case round =>
    clear HM0 HB
    obtain ⟨i, M, rfl, HJ, HMP, HB⟩ := hrel
    cases gk with
    | zero =>
      have ei : i = l0.length := by have := HJ.out; omega
      subst ei
      have cz : decide ((l0.length : Int) < (l0.length : Int)) = false := decide_eq_false (by omega)
      go_wp2
      go_ret
      have hm := HMP.out
      rw [List.take_length] at hm
      exact ⟨gm, M, rfl, hm, HB.out⟩
    | succ gk =>
      have q1 : (i : Int) < (l0.length : Int) := by have := HJ.out; omega
      have hi : i < l0.length := by omega
      have cb1 : decide ((i : Int) < (l0.length : Int)) = true := decide_eq_true q1
      have HWI : Aside0 (wrap64 ((i : Int) + 1) = ((i + 1 : Nat) : Int)) := ⟨by unfold wrap64; have := HL0.out; omega⟩
      have HI := Aside0.mk hi
      have hrd := rd_get30 l0 i hi
      obtain ⟨ad, e1, x0, x1, x2, x3⟩ := at_T30 (Kd.C_below HR0.out HB.out) (i : Int) (by omega) q1
      cases e1
      simp only [Int.toNat_natCast] at x0 x1 x2 x3
      obtain ⟨X, hX⟩ : ∃ X, X = rd_T30 l0 (i : Int) := ⟨_, rfl⟩
      rw [← hX] at x0 x1 x2 x3 hrd
      have HX : Aside0 (∀ h : i < l0.length, X = l0[i]) := ⟨fun _ => hrd⟩
      have HKX : Aside0 ((Lit.int .i64 (kf X)).wf = true) := ⟨by rw [hrd]; exact HKW.out _ (List.getElem_mem hi)⟩
      have HN : Aside0 (i < maxLen) := ⟨by have := HL0.out; unfold maxLen; omega⟩
      have HLN : Aside0 ((grp kf (l0.take i) (kf X)).length ≤ 1000) := ⟨by have h1 := grp_len kf (l0.take i) (kf X); have h2 := HL0.out; simp only [List.length_take] at h1; omega⟩
      have pj : (0 ≤ (i : Int)) = True := eq_true (by omega)
      have qj : ((i : Int) < (l0.length : Int)) = True := eq_true q1
      have cb2 : decide (i < l0.length) = true := decide_eq_true hi
      clear q1 hi hrd hX
      go_upto_region 5 with (first | ((with_reducible refine gqD (N := 7) rfl ?_); refine GS.bx (N := 7) (cs := #[.int .i64 0, .int .i64 0, .int .i64 0, .int .i64 0]) (t := 30) ?_; intro g7 hg w7 hbox hb; have B7 := Aside0.mk hbox; have N7 : Aside0 (wr.heap.size ≤ g7) := ⟨by rw [hg]; exact Nat.le_refl _⟩; have n1_ := Aside0.mk hb; clear hb hbox hg; obtain ⟨hz0, hz1, hz2, hz3, hf0, hf1, hf2, hf3⟩ := GS.c4 B7.out))
      have hS0 : StG w gm i M (grp kf (l0.take i)) g7 #[.int .i64 X.f0, .int .i64 X.f1, .int .i64 X.f2, .int .i64 X.f3] ((((w7.setCell ⟨g7, 0, none⟩ (.int .i64 X.f0)).setCell ⟨g7, 1, none⟩ (.int .i64 X.f1)).setCell ⟨g7, 2, none⟩ (.int .i64 X.f2)).setCell ⟨g7, 3, none⟩ (.int .i64 X.f3)) := by
        have hb : Below wr.heap.size wr ((((w7.setCell ⟨g7, 0, none⟩ (.int .i64 X.f0)).setCell ⟨g7, 1, none⟩ (.int .i64 X.f1)).setCell ⟨g7, 2, none⟩ (.int .i64 X.f2)).setCell ⟨g7, 3, none⟩ (.int .i64 X.f3)) := GS.lB n1_.out
        exact ⟨GS.bqZ B7.out, HMP.out.kept hb, lqT HB.out hb⟩
      have HS0 := Aside0.mk hS0
      clear hS0 B7 HMP HB n1_ hz0 hz1 hz2 hz3 hf0 hf1 hf2 hf3 N7 x0 x1 x2 x3
      generalize ((((w7.setCell ⟨g7, 0, none⟩ (.int .i64 X.f0)).setCell ⟨g7, 1, none⟩ (.int .i64 X.f1)).setCell ⟨g7, 2, none⟩ (.int .i64 X.f2)).setCell ⟨g7, 3, none⟩ (.int .i64 X.f3)) = w8 at HS0 ⊢
      obtain ⟨i3_, hi3_, hz3_, hs3_, hb3_⟩ : ∃ inf, Try.prog.info? 3 = some inf ∧ inf.zero = some (.int .i64 0) ∧ inf.size = 1 ∧ inf.bytes = 8 := by
        have h := info3
        cases hq : Try.prog.info? 3 with
        | none => rw [hq] at h; cases h
        | some inf =>
          rw [hq] at h
          have h := Option.some.inj h
          exact ⟨inf, rfl, (Prod.mk.inj h).1, (Prod.mk.inj (Prod.mk.inj h).2).1, (Prod.mk.inj (Prod.mk.inj h).2).2⟩
      refine start_ (n := 14) (S := StG w gm i M (grp kf (l0.take i)) g7 #[.int .i64 X.f0, .int .i64 X.f1, .int .i64 X.f2, .int .i64 X.f3]) (ds := [12, 13]) #[false, false, false, false, false, false, false, false, false, false, false, false, false, false] (by kernel_rfl) rfl rfl (HS0.out.step (GS.lB (Below.refl _ _))) (fun hHeld => ?_)
      refine pure_ (i := 0) (N := some 15) (v := ?_) (a' := ?_) #[true, false, false, false, false, false, false, false, false, false, false, false, false, false] rfl rfl (by kernel_rfl) (fun _ _ _ h => h) (Or.inl ⟨by rfl, ?_⟩) ?_ ?_
      rotate_left
      · intro w'
        go_simp
        with_reducible rfl
      rotate_left
      · simp only [Act.put, List.setIfInBounds_toArray, List.set_cons_zero, List.set_cons_succ, i64_w, i32_w]
        rfl
      refine pure_ (i := 1) (N := some 16) (v := ?_) (a' := ?_) #[true, true, false, false, false, false, false, false, false, false, false, false, false, false] rfl rfl (by kernel_rfl) (fun _ _ _ h => h) (Or.inl ⟨by rfl, ?_⟩) ?_ ?_
      rotate_left
      · intro w'
        go_simp
        with_reducible rfl
      rotate_left
      · simp only [Act.put, List.setIfInBounds_toArray, List.set_cons_zero, List.set_cons_succ, i64_w, i32_w]
        rfl
      refine pure_ (i := 4) (N := some 19) (v := ?_) (a' := ?_) #[true, true, false, false, true, false, false, false, false, false, false, false, false, false] rfl rfl (by kernel_rfl) (fun _ _ _ h => h) (Or.inl ⟨by rfl, ?_⟩) ?_ ?_
      rotate_left
      · intro w'
        go_simp
        with_reducible rfl
      rotate_left
      · simp only [Act.put, List.setIfInBounds_toArray, List.set_cons_zero, List.set_cons_succ, i64_w, i32_w]
        rfl
      refine pure_ (i := 5) (N := some 20) (v := ?_) (a' := ?_) #[true, true, false, false, true, true, false, false, false, false, false, false, false, false] rfl rfl (by kernel_rfl) (fun _ _ _ h => h) (Or.inl ⟨by rfl, ?_⟩) ?_ ?_
      rotate_left
      · intro w'
        go_simp
        with_reducible rfl
      rotate_left
      · simp only [Act.put, List.setIfInBounds_toArray, List.set_cons_zero, List.set_cons_succ, i64_w, i32_w]
        rfl
      refine pure_ (i := 9) (N := some 24) (v := ?_) (a' := ?_) #[true, true, false, false, true, true, false, false, false, true, false, false, false, false] rfl rfl (by kernel_rfl) (fun _ _ _ h => h) (Or.inl ⟨by rfl, ?_⟩) ?_ ?_
      rotate_left
      · intro w'
        go_simp
        with_reducible rfl
      rotate_left
      · simp only [Act.put, List.setIfInBounds_toArray, List.set_cons_zero, List.set_cons_succ, i64_w, i32_w]
        rfl
      refine take_ (i := 2) (N := some 17) (v := ?_) (a' := ?_) #[true, true, true, false, true, true, false, false, false, true, false, false, false, false] rfl rfl (by kernel_rfl) (fun _ _ _ h => h) (Or.inl ⟨by rfl, ?_⟩) hHeld ?_ ?_
      rotate_left
      · rintro w' hS
        obtain ⟨z0, z1, z2, z3, _, _, _, _⟩ := GS.c4 hS.blk
        go_simp
        with_reducible rfl
      rotate_left
      · simp only [Act.put, List.setIfInBounds_toArray, List.set_cons_zero, List.set_cons_succ, i64_w, i32_w]
        rfl
      refine take_ (i := 6) (N := some 21) (v := ?_) (a' := ?_) #[true, true, true, false, true, true, true, false, false, true, false, false, false, false] rfl rfl (by kernel_rfl) (fun _ _ _ h => h) (Or.inl ⟨by rfl, ?_⟩) hHeld ?_ ?_
      rotate_left
      · rintro w' hS
        obtain ⟨z0, z1, z2, z3, _, _, _, _⟩ := GS.c4 hS.blk
        go_simp
        with_reducible rfl
      rotate_left
      · simp only [Act.put, List.setIfInBounds_toArray, List.set_cons_zero, List.set_cons_succ, i64_w, i32_w]
        rfl
      refine take_ (i := 10) (N := some 25) (v := ?_) (a' := ?_) #[true, true, true, false, true, true, true, false, false, true, true, false, false, false] rfl rfl (by kernel_rfl) (fun _ _ _ h => h) (Or.inl ⟨by rfl, ?_⟩) hHeld ?_ ?_
      rotate_left
      · rintro w' hS
        obtain ⟨z0, z1, z2, z3, _, _, _, _⟩ := GS.c4 hS.blk
        go_simp
        with_reducible rfl
      rotate_left
      · simp only [Act.put, List.setIfInBounds_toArray, List.set_cons_zero, List.set_cons_succ, i64_w, i32_w]
        rfl
      refine join_ 2 #[true, true, true, true, true, true, true, true, true, true, true, true, false, false] (fun s : Nat => [(18, .int .i64 (kf X)), (22, .int .i64 (kf X)), (23, (M (kf X)).getD (.slice none 0 0)), (26, .slice (some ⟨s, 0, none⟩) 1 1)]) (fun s W => StG w gm i M (grp kf (l0.take i)) g7 #[.int .i64 X.f0, .int .i64 X.f1, .int .i64 X.f2, .int .i64 X.f3] W ∧ W.heap[s]? = some (.cells #[.int .i64 X.f3] 3 (0, 0))) ?_ ?_
      rotate_left
      · intro hc
        refine two_ (i := 3) (j := 11) (Ni := some 18) (Nj := some 26) #[true, true, true, true, true, true, true, false, false, true, true, false, false, false] #[true, true, true, false, true, true, true, false, false, true, true, true, false, false] rfl rfl rfl rfl (by kernel_rfl) (by decide) (by decide) (fun K hK => ?_) (fun K hK => ?_)
        · refine call_ g #[.agg #[.int .i64 X.f0, .int .i64 X.f1, .int .i64 X.f2, .int .i64 X.f3]] (by rfl) rfl ?_ ?_
          · unfold execOp
            simp [resolve, Deferred.ofValue, invoke, Act.eval, heg]
          refine (HW.out.calls _ X).mono ?_
          rintro e w1 ⟨rfl, hb1⟩
          refine ⟨_, rfl, ?_⟩
          have hS1 := hHeld.step hb1
          clear hb1 hHeld
          refine hK.out _ _ hS1 (fun hHeld => ?_)
          clear hK K hS1
          refine norm_ (a' := ?_) ?_ ?_
          rotate_left
          · show Act.put _ (some 18) _ = _
            simp only [Act.put, List.setIfInBounds_toArray, List.set_cons_zero, List.set_cons_succ, i64_w, i32_w]
            rfl
          refine two_ (i := 7) (j := 11) (Ni := some 22) (Nj := some 26) #[true, true, true, true, true, true, true, true, false, true, true, false, false, false] #[true, true, true, true, true, true, true, false, false, true, true, true, false, false] rfl rfl rfl rfl (by kernel_rfl) (by decide) (by decide) (fun K hK => ?_) (fun K hK => ?_)
          · refine call_ g #[.agg #[.int .i64 X.f0, .int .i64 X.f1, .int .i64 X.f2, .int .i64 X.f3]] (by rfl) rfl ?_ ?_
            · unfold execOp
              simp [resolve, Deferred.ofValue, invoke, Act.eval, heg]
            refine (HW.out.calls _ X).mono ?_
            rintro e w1 ⟨rfl, hb1⟩
            refine ⟨_, rfl, ?_⟩
            have hS1 := hHeld.step hb1
            clear hb1 hHeld
            refine hK.out _ _ hS1 (fun hHeld => ?_)
            clear hK K hS1
            refine norm_ (a' := ?_) ?_ ?_
            rotate_left
            · show Act.put _ (some 22) _ = _
              simp only [Act.put, List.setIfInBounds_toArray, List.set_cons_zero, List.set_cons_succ, i64_w, i32_w]
              rfl
            refine take_ (i := 8) (N := some 23) (v := ?_) (a' := ?_) #[true, true, true, true, true, true, true, true, true, true, true, false, false, false] rfl rfl (by kernel_rfl) (fun _ _ _ h => h) (Or.inl ⟨by rfl, ?_⟩) hHeld ?_ ?_
            rotate_left
            · rintro w' hS
              have hlk := hS.map.map.look HKX.out
              go_simp
              first | with_reducible rfl | rfl
            rotate_left
            · simp only [Act.put, List.setIfInBounds_toArray, List.set_cons_zero, List.set_cons_succ, i64_w, i32_w]
              rfl
            refine one_ (i := 11) (N := some 26) #[true, true, true, true, true, true, true, true, true, true, true, true, false, false] rfl rfl (by kernel_rfl) (by decide) (fun K hK => ?_)
            refine value_ (w1 := _) (v := _) (by rfl) rfl (by go_simp; exact ⟨rfl, rfl⟩) ?_
            have hS1 := (hHeld.lit X.f3).1
            have HL := Aside0.mk (hHeld.lit X.f3).2
            clear hHeld
            refine hK.out _ _ hS1 (fun hHeld => ?_)
            clear hK K hS1
            refine norm_ (a' := ?_) ?_ ?_
            rotate_left
            · show Act.put _ (some 26) _ = _
              simp only [Act.put, List.setIfInBounds_toArray, List.set_cons_zero, List.set_cons_succ, i64_w, i32_w]
              rfl
            refine norm_ (a' := putAll _ [(18, .int .i64 (kf X)), (22, .int .i64 (kf X)), (23, (M (kf X)).getD (.slice none 0 0)), (26, .slice (some ⟨_, 0, none⟩) 1 1)]) ?_ (hc _ _ ⟨hHeld, HL.out⟩)
            · first | (simp only [putAll, Act.put, List.setIfInBounds_toArray, List.set_cons_zero, List.set_cons_succ]; done) | (simp only [putAll, Act.put, List.setIfInBounds_toArray, List.set_cons_zero, List.set_cons_succ]; rfl)
          · refine value_ (w1 := _) (v := _) (by rfl) rfl (by go_simp; exact ⟨rfl, rfl⟩) ?_
            have hS1 := (hHeld.lit X.f3).1
            have HL := Aside0.mk (hHeld.lit X.f3).2
            clear hHeld
            refine hK.out _ _ hS1 (fun hHeld => ?_)
            clear hK K hS1
            refine norm_ (a' := ?_) ?_ ?_
            rotate_left
            · show Act.put _ (some 26) _ = _
              simp only [Act.put, List.setIfInBounds_toArray, List.set_cons_zero, List.set_cons_succ, i64_w, i32_w]
              rfl
            refine one_ (i := 7) (N := some 22) #[true, true, true, true, true, true, true, true, false, true, true, true, false, false] rfl rfl (by kernel_rfl) (by decide) (fun K hK => ?_)
            refine call_ g #[.agg #[.int .i64 X.f0, .int .i64 X.f1, .int .i64 X.f2, .int .i64 X.f3]] (by rfl) rfl ?_ ?_
            · unfold execOp
              simp [resolve, Deferred.ofValue, invoke, Act.eval, heg]
            refine (HW.out.calls _ X).mono ?_
            rintro e w1 ⟨rfl, hb1⟩
            refine ⟨_, rfl, ?_⟩
            have hS1 := hHeld.step hb1
            have hL1 := bqB HL.out hb1
            clear HL
            have HL := Aside0.mk hL1
            clear hL1
            clear hb1 hHeld
            refine hK.out _ _ hS1 (fun hHeld => ?_)
            clear hK K hS1
            refine norm_ (a' := ?_) ?_ ?_
            rotate_left
            · show Act.put _ (some 22) _ = _
              simp only [Act.put, List.setIfInBounds_toArray, List.set_cons_zero, List.set_cons_succ, i64_w, i32_w]
              rfl
            refine take_ (i := 8) (N := some 23) (v := ?_) (a' := ?_) #[true, true, true, true, true, true, true, true, true, true, true, true, false, false] rfl rfl (by kernel_rfl) (fun _ _ _ h => h) (Or.inl ⟨by rfl, ?_⟩) hHeld ?_ ?_
            rotate_left
            · rintro w' hS
              have hlk := hS.map.map.look HKX.out
              go_simp
              first | with_reducible rfl | rfl
            rotate_left
            · simp only [Act.put, List.setIfInBounds_toArray, List.set_cons_zero, List.set_cons_succ, i64_w, i32_w]
              rfl
            refine norm_ (a' := putAll _ [(18, .int .i64 (kf X)), (22, .int .i64 (kf X)), (23, (M (kf X)).getD (.slice none 0 0)), (26, .slice (some ⟨_, 0, none⟩) 1 1)]) ?_ (hc _ _ ⟨hHeld, HL.out⟩)
            · first | (simp only [putAll, Act.put, List.setIfInBounds_toArray, List.set_cons_zero, List.set_cons_succ]; done) | (simp only [putAll, Act.put, List.setIfInBounds_toArray, List.set_cons_zero, List.set_cons_succ]; rfl)
        · refine value_ (w1 := _) (v := _) (by rfl) rfl (by go_simp; exact ⟨rfl, rfl⟩) ?_
          have hS1 := (hHeld.lit X.f3).1
          have HL := Aside0.mk (hHeld.lit X.f3).2
          clear hHeld
          refine hK.out _ _ hS1 (fun hHeld => ?_)
          clear hK K hS1
          refine norm_ (a' := ?_) ?_ ?_
          rotate_left
          · show Act.put _ (some 26) _ = _
            simp only [Act.put, List.setIfInBounds_toArray, List.set_cons_zero, List.set_cons_succ, i64_w, i32_w]
            rfl
          refine one_ (i := 3) (N := some 18) #[true, true, true, true, true, true, true, false, false, true, true, true, false, false] rfl rfl (by kernel_rfl) (by decide) (fun K hK => ?_)
          refine call_ g #[.agg #[.int .i64 X.f0, .int .i64 X.f1, .int .i64 X.f2, .int .i64 X.f3]] (by rfl) rfl ?_ ?_
          · unfold execOp
            simp [resolve, Deferred.ofValue, invoke, Act.eval, heg]
          refine (HW.out.calls _ X).mono ?_
          rintro e w1 ⟨rfl, hb1⟩
          refine ⟨_, rfl, ?_⟩
          have hS1 := hHeld.step hb1
          have hL1 := bqB HL.out hb1
          clear HL
          have HL := Aside0.mk hL1
          clear hL1
          clear hb1 hHeld
          refine hK.out _ _ hS1 (fun hHeld => ?_)
          clear hK K hS1
          refine norm_ (a' := ?_) ?_ ?_
          rotate_left
          · show Act.put _ (some 18) _ = _
            simp only [Act.put, List.setIfInBounds_toArray, List.set_cons_zero, List.set_cons_succ, i64_w, i32_w]
            rfl
          refine one_ (i := 7) (N := some 22) #[true, true, true, true, true, true, true, true, false, true, true, true, false, false] rfl rfl (by kernel_rfl) (by decide) (fun K hK => ?_)
          refine call_ g #[.agg #[.int .i64 X.f0, .int .i64 X.f1, .int .i64 X.f2, .int .i64 X.f3]] (by rfl) rfl ?_ ?_
          · unfold execOp
            simp [resolve, Deferred.ofValue, invoke, Act.eval, heg]
          refine (HW.out.calls _ X).mono ?_
          rintro e w1 ⟨rfl, hb1⟩
          refine ⟨_, rfl, ?_⟩
          have hS1 := hHeld.step hb1
          have hL1 := bqB HL.out hb1
          clear HL
          have HL := Aside0.mk hL1
          clear hL1
          clear hb1 hHeld
          refine hK.out _ _ hS1 (fun hHeld => ?_)
          clear hK K hS1
          refine norm_ (a' := ?_) ?_ ?_
          rotate_left
          · show Act.put _ (some 22) _ = _
            simp only [Act.put, List.setIfInBounds_toArray, List.set_cons_zero, List.set_cons_succ, i64_w, i32_w]
            rfl
          refine take_ (i := 8) (N := some 23) (v := ?_) (a' := ?_) #[true, true, true, true, true, true, true, true, true, true, true, true, false, false] rfl rfl (by kernel_rfl) (fun _ _ _ h => h) (Or.inl ⟨by rfl, ?_⟩) hHeld ?_ ?_
          rotate_left
          · rintro w' hS
            have hlk := hS.map.map.look HKX.out
            go_simp
            first | with_reducible rfl | rfl
          rotate_left
          · simp only [Act.put, List.setIfInBounds_toArray, List.set_cons_zero, List.set_cons_succ, i64_w, i32_w]
            rfl
          refine norm_ (a' := putAll _ [(18, .int .i64 (kf X)), (22, .int .i64 (kf X)), (23, (M (kf X)).getD (.slice none 0 0)), (26, .slice (some ⟨_, 0, none⟩) 1 1)]) ?_ (hc _ _ ⟨hHeld, HL.out⟩)
          · first | (simp only [putAll, Act.put, List.setIfInBounds_toArray, List.set_cons_zero, List.set_cons_succ]; done) | (simp only [putAll, Act.put, List.setIfInBounds_toArray, List.set_cons_zero, List.set_cons_succ]; rfl)
      rintro s W9 ⟨hS9, hL9⟩
      refine norm_ (a' := ?_) ?_ ?_
      rotate_left
      · simp only [putAll, Act.put, List.setIfInBounds_toArray, List.set_cons_zero, List.set_cons_succ]
        rfl
      clear hHeld
      obtain ⟨v1, w1, hrunA, hrow1, hg1, _, hat1⟩ := run_append_own_at (P := Try.prog) (w := W9) w.heap.size 31 31 3 i3_ (.int .i64 0) 1 8 Try.underlying31 hi3_ hz3_ hs3_ hb3_ rfl (by decide) _ _ _ (hS9.map.rowD (kf X)) ⟨s, 0, none⟩ 1 1 [.int .i64 X.f3] rfl (by intro j u hj; cases j with | zero => (cases hj; exact (blk_cell hL9 0).trans rfl) | succ j => (simp at hj)) (by simp [Value.oneCell']) (by have := HLN.out; unfold maxLen; omega) (by have := HLN.out; omega) (by exact hS9.below.size)
      refine last_ (i := 12) (N := some 27) #[true, true, true, true, true, true, true, true, true, true, true, true, true, false] rfl rfl (by kernel_rfl) (by decide) (fun K hK => ?_)
      refine value_ (w1 := w1) (v := v1) (by rfl) rfl (append_run rfl (by rfl) (by rfl) hrunA) ?_
      refine hK.out _ _ ?_
      clear hK K
      refine norm_ (a' := ?_) ?_ ?_
      rotate_left
      · show Act.put _ (some 27) _ = _
        simp only [Act.put, List.setIfInBounds_toArray, List.set_cons_zero, List.set_cons_succ, i64_w, i32_w]
        rfl
      have hrow1 : Row w1 w.heap.size v1 (grp kf (l0.take i) (kf X) ++ [X.f3]) := by
        unfold Row
        rw [List.length_append, List.map_append]
        exact hrow1
      obtain ⟨w2, hrunU, hm2, hg2⟩ := hS9.map.append HN.out HKX.out hrow1 hg1 hat1
      refine last_ (i := 13) (N := none) #[true, true, true, true, true, true, true, true, true, true, true, true, true, true] rfl rfl (by kernel_rfl) (by decide) (fun K hK => ?_)
      refine skip_ (w1 := w2) (by rfl) rfl (update_run rfl (by rfl) (by rfl) (by rfl) hrunU) ?_
      refine hK.out _ _ ?_
      clear hK K
      refine done_ (by kernel_rfl) ?_
      have HB2 : Aside0 (Below w.heap.size w w2) := ⟨(hS9.below.grown hg1 hS9.below.size (fun k e => ((hS9.map.rowD (kf X)).lt e).2)).grown hg2 (hS9.below.grown hg1 hS9.below.size (fun k e => ((hS9.map.rowD (kf X)).lt e).2)).size (fun k e => by injection e with e; rw [← e]; exact HGM.out)⟩
      go_wp2
      go_roundg gk
      case measure => omega
      case rel => exact ⟨i + 1, _, by first | rw [HWI.out] | (simp; done), ⟨by have := HJ.out; omega⟩, ⟨by have h := hm2; rw [HX.out HI.out] at h; rw [← grp_take kf l0 i HI.out]; exact h⟩, HB2⟩
/-- The losses of all others. -/
def oth (kf : S30 → Int) (l : List S30) (id : Int) : List Int := (l.filter (fun y => !decide (kf y = id))).map (fun y => y.f3)
theorem oth_take (kf : S30 → Int) (l : List S30) (id : Int) (i : Nat) (hi : i < l.length) : oth kf (l.take (i + 1)) id = if kf l[i] = id then oth kf (l.take i) id else oth kf (l.take i) id ++ [l[i].f3] := by
  rw [← List.take_append_getElem hi]
  unfold oth
  rw [List.filter_append, List.map_append]
  by_cases e : kf l[i] = id
  · simp [e]
  · simp [e]
theorem oth_len (kf : S30 → Int) (l : List S30) (x : Int) : (oth kf l x).length ≤ l.length := by
  unfold oth
  rw [List.length_map]
  exact List.length_filter_le _ _
set_option maxHeartbeats 8000000 in
set_option maxRecDepth 100000 in
theorem others39 (g : Nat) (kf : S30 → Int) (hW : Who g kf) (A0 : Option Addr) (c0 : Nat) (l0 : List S30) (id : Int) (w : World) (hr0 : Kd.C k30 w A0 l0.length l0) (hl : l0.length ≤ 1000) :
    Calls Try.prog 39 #[.slice A0 l0.length c0, .func (.func g) #[] #[], .int .i64 id] w fun e w' => ∃ v, e = .returned v ∧ Kd.R (Kd.int .i64) 3 w' w.heap.size (fun _ => True) v (oth kf l0 id) ∧ Below w.heap.size w w' := by
  have heg := hW.enters
  have HW := Aside0.mk hW
  have HR0 := Aside0.mk hr0
  have HL0 := Aside0.mk hl
  have HB := Aside0.mk (Below.refl w.heap.size w)
  clear hW hr0 hl
  go_enter Try.func39, Try.ntmps39
  go_wp2
  go_loopg [7, 12] l0.length (fun kq v7 v12 w' => ∃ (i : Nat), v12 = .int .i64 (i : Int) ∧ Aside0 (i + kq = l0.length) ∧ Aside0 (Kd.R (Kd.int .i64) 3 w' w.heap.size (fun _ => True) v7 (oth kf (l0.take i) id)) ∧ Aside0 (Below w.heap.size w w'))
  case atStart => exact ⟨0, rfl, ⟨by omega⟩, ⟨by rw [List.take_zero]; exact Kd.R_nil _ _ _ _ _⟩, HB⟩
  case round =>
    clear HB
    obtain ⟨i, rfl, HJ, HO, HB⟩ := hrel
    cases gk with
    | zero =>
      have ei : i = l0.length := by have := HJ.out; omega
      subst ei
      have cz : decide ((l0.length : Int) < (l0.length : Int)) = false := decide_eq_false (by omega)
      go_wp2
      go_ret
      have hm := HO.out
      rw [List.take_length] at hm
      exact ⟨_, rfl, hm, HB.out⟩
    | succ gk =>
      have q1 : (i : Int) < (l0.length : Int) := by have := HJ.out; omega
      have hi : i < l0.length := by omega
      have cb1 : decide ((i : Int) < (l0.length : Int)) = true := decide_eq_true q1
      have HWI : Aside0 (wrap64 ((i : Int) + 1) = ((i + 1 : Nat) : Int)) := ⟨by unfold wrap64; have := HL0.out; omega⟩
      have HI := Aside0.mk hi
      have hrd := rd_get30 l0 i hi
      obtain ⟨ad, e1, x0, x1, x2, x3⟩ := at_T30 (Kd.C_below HR0.out HB.out) (i : Int) (by omega) q1
      cases e1
      simp only [Int.toNat_natCast] at x0 x1 x2 x3
      obtain ⟨X, hX⟩ : ∃ X, X = rd_T30 l0 (i : Int) := ⟨_, rfl⟩
      rw [← hX] at x0 x1 x2 x3 hrd
      have HX : Aside0 (∀ h : i < l0.length, X = l0[i]) := ⟨fun _ => hrd⟩
      have HLN : Aside0 ((oth kf (l0.take i) id).length ≤ 1000) := ⟨by have h1 := oth_len kf (l0.take i) id; have h2 := HL0.out; simp only [List.length_take] at h1; omega⟩
      have HOT : Aside0 (oth kf (l0.take (i + 1)) id = if kf X = id then oth kf (l0.take i) id else oth kf (l0.take i) id ++ [X.f3]) := ⟨by rw [hrd]; exact oth_take kf l0 id i hi⟩
      have pj : (0 ≤ (i : Int)) = True := eq_true (by omega)
      have qj : ((i : Int) < (l0.length : Int)) = True := eq_true q1
      have cb2 : decide (i < l0.length) = true := decide_eq_true hi
      clear q1 hi hrd hX
      go_upto_region 5 with (first | ((with_reducible refine gqD (N := 9) rfl ?_); refine GS.bx (N := 9) (cs := #[.int .i64 0, .int .i64 0, .int .i64 0, .int .i64 0]) (t := 30) ?_; intro g9 hg w7 hbox hb; have B9 := Aside0.mk hbox; have N9 : Aside0 (wr.heap.size ≤ g9) := ⟨by rw [hg]; exact Nat.le_refl _⟩; have n1_ := Aside0.mk hb; clear hb hbox hg; obtain ⟨hz0, hz1, hz2, hz3, hf0, hf1, hf2, hf3⟩ := GS.c4 B9.out))
      have n0_ : Aside0 (Below wr.heap.size wr ((((w7.setCell ⟨g9, 0, none⟩ (.int .i64 X.f0)).setCell ⟨g9, 1, none⟩ (.int .i64 X.f1)).setCell ⟨g9, 2, none⟩ (.int .i64 X.f2)).setCell ⟨g9, 3, none⟩ (.int .i64 X.f3))) := ⟨GS.lB n1_.out⟩
      have n2_ : Aside0 (((((w7.setCell ⟨g9, 0, none⟩ (.int .i64 X.f0)).setCell ⟨g9, 1, none⟩ (.int .i64 X.f1)).setCell ⟨g9, 2, none⟩ (.int .i64 X.f2)).setCell ⟨g9, 3, none⟩ (.int .i64 X.f3)).heap[g9]? = some (.cells #[.int .i64 X.f0, .int .i64 X.f1, .int .i64 X.f2, .int .i64 X.f3] 30 (0, 0))) := ⟨GS.bqZ B9.out⟩
      clear n1_ B9 hz0 hz1 hz2 hz3 hf0 hf1 hf2 hf3 N9 x0 x1 x2 x3
      generalize ((((w7.setCell ⟨g9, 0, none⟩ (.int .i64 X.f0)).setCell ⟨g9, 1, none⟩ (.int .i64 X.f1)).setCell ⟨g9, 2, none⟩ (.int .i64 X.f2)).setCell ⟨g9, 3, none⟩ (.int .i64 X.f3)) = w8 at n0_ n2_ ⊢
      have HB8 := Aside0.mk (lqT HB.out n0_.out)
      have HO8 := Aside0.mk (Kd.R_below HO.out n0_.out)
      have B9 := n2_
      clear n0_ n2_ HB HO
      obtain ⟨z0, z1, z2, z3, _, _, _, _⟩ := GS.c4 B9.out
      by_cases ck : kf X = id
      · have cn : (kf X != id) = false := by rw [ck]; exact bne_self_eq_false id
        have HOT2 : Aside0 (oth kf (l0.take (i + 1)) id = oth kf (l0.take i) id) := ⟨by rw [HOT.out, if_pos ck]⟩
        clear ck HOT
        go_wp2_with (first | ((with_reducible show Calls Try.prog g _ _ _); refine (HW.out.calls _ X).mono ?_; rintro e w9 ⟨rfl, hb⟩; have n0_ := Aside0.mk (lqT HB8.out hb); have n1_ := Aside0.mk (Kd.R_below HO8.out hb); have n2_ := Aside0.mk (bqB B9.out hb); clear HB8 HO8 B9 hb z0 z1 z2 z3; have HB8 := n0_; have HO8 := n1_; have B9 := n2_; clear n0_ n1_ n2_; obtain ⟨z0, z1, z2, z3, _, _, _, _⟩ := GS.c4 B9.out))
        go_roundg gk
        case measure => omega
        case rel => exact ⟨i + 1, by first | rw [HWI.out] | (simp; done), ⟨by have := HJ.out; omega⟩, ⟨by rw [HOT2.out]; exact HO8.out⟩, HB8⟩
      · have cn : (kf X != id) = true := bne_iff_ne.2 ck
        have HOT2 : Aside0 (oth kf (l0.take (i + 1)) id = oth kf (l0.take i) id ++ [X.f3]) := ⟨by rw [HOT.out, if_neg ck]⟩
        clear ck HOT
        go_wp2_with (first | ((with_reducible show Calls Try.prog g _ _ _); refine (HW.out.calls _ X).mono ?_; rintro e w9 ⟨rfl, hb⟩; have n0_ := Aside0.mk (lqT HB8.out hb); have n1_ := Aside0.mk (Kd.R_below HO8.out hb); have n2_ := Aside0.mk (bqB B9.out hb); clear HB8 HO8 B9 hb z0 z1 z2 z3; have HB8 := n0_; have HO8 := n1_; have B9 := n2_; clear n0_ n1_ n2_; obtain ⟨z0, z1, z2, z3, _, _, _, _⟩ := GS.c4 B9.out) | ((with_reducible refine gate_builtin (b := .append) (xs := #[.tmp 21, .tmp 24]) rfl ?_); at_builtin; refine Kd.R_append (Kd.int .i64) (w0 := w) w.heap.size rfl (.tmp 21) (.tmp 24) 31 3 (.int .i64 0) 8 rfl Try.underlying31 info3 rfl (by decide) (by omega) _ (oth kf (l0.take i) id) X.f3 [.int .i64 X.f3] (fun _ => True) (fun _ => False) rfl rfl ?aP (fun _ hk => hk.elim) ?aF ?aO ?aB ?aS ?aL ?_; (case aP => exact rfl); (case aB => exact (GS.lB HB8.out)); (case aF => exact (fun _ _ => trivial)); (case aO => exact (GS.rR HO8.out)); (case aS => exact (lqZ (GS.lB HB8.out))); (case aL => have := HLN.out; omega); intro v12 w12 ho hb hg hat; rw [← HOT2.out] at ho; have n0_ := Aside0.mk hb; have n1_ := Aside0.mk ho; clear HB8 HO8; have HB8 := n0_; have HO8 := n1_; clear n0_ n1_ ho hb hg hat))
        go_roundg gk
        case measure => omega
        case rel => exact ⟨i + 1, by first | rw [HWI.out] | (simp; done), ⟨by have := HJ.out; omega⟩, HO8, HB8⟩
end Go.Proofs.Ytfhmjleimampeaa.K
