/- By hand: suspect.who and suspect.Of. -/
import Derived.Test.YtfhmjleimampeaaGWho
import Derived.Test.YtfhmjleimampeaaPChk
namespace Go.Proofs.Ytfhmjleimampeaa.K
open Go Go.RowKit Go.Maps Go.Proofs.YtfhmjleimampeaaW.PrintWords Go.Proofs.YtfhmjleimampeaaW.PrintLast Go.Proofs.YtfhmjleimampeaaW.PrintMore Go.Proofs.Ytfhmjleimampeaa.GW Go.Proofs.Ytfhmjleimampeaa.RM
set_option linter.unusedVariables false
set_option linter.unusedSimpArgs false
def kfE (b : Int) : S30 → Int := if b = 1 then (fun x => x.f1) else (fun x => x.f2)
def gE (b : Int) : Nat := if b = 1 then 58 else 59
theorem whoE (b : Int) : Who (gE b) (kfE b) := by
  unfold gE kfE
  by_cases c : b = 1
  · rw [if_pos c, if_pos c]; exact who58
  · rw [if_neg c, if_neg c]; exact who59
def whoV (b : Int) : Value := if b = 1 then .func (.func 58) #[] #[] else if b = 2 then .func (.func 59) #[] #[] else .nilFunc
set_option maxHeartbeats 1000000 in
theorem who36 (b : Int) (w : World) : Calls Try.prog 36 #[.int .i64 b] w fun e w' => e = .returned (whoV b) ∧ w = w' := by
  unfold whoV
  by_cases c1 : b = 1
  · subst c1
    rw [if_pos rfl]
    go_enter Try.func36, Try.ntmps36
    go_wp2
    go_ret
    exact ⟨rfl, rfl⟩
  · rw [if_neg c1]
    have b1 : decide (b = 1) = false := decide_eq_false c1
    have e1 : (b == 1) = false := beq_eq_false_iff_ne.2 c1
    by_cases c2 : b = 2
    · subst c2
      rw [if_pos rfl]
      clear c1 b1 e1
      go_enter Try.func36, Try.ntmps36
      go_wp2
      go_ret
      exact ⟨rfl, rfl⟩
    · rw [if_neg c2]
      have e2 : (b == 2) = false := beq_eq_false_iff_ne.2 c2
      clear c1 c2 b1
      go_enter Try.func36, Try.ntmps36
      go_wp2
      go_ret
      exact ⟨rfl, rfl⟩
theorem whoV_ok {b : Int} (h : b = 1 ∨ b = 2) : whoV b = .func (.func (gE b)) #[] #[] := by
  rcases h with rfl | rfl <;> rfl
theorem whoV_bad {b : Int} (h : ¬ (b = 1 ∨ b = 2)) : whoV b = .nilFunc := by
  unfold whoV
  rw [if_neg (fun e => h (.inl e)), if_neg (fun e => h (.inr e))]
theorem eqN (w : World) : (binOp .eql 55 .nilFunc .nilFunc).run Try.prog w = .ok (.bool true) w := by
  have e : Op.maxDepth = (Op.maxDepth - 1) + 1 := by decide
  simp only [binOp, Op.equal, Sem.run_bind]
  rw [e, Op.equalIn]
  simp [Sem.run_bind]
theorem eqF (g : Nat) (w : World) : (binOp .eql 55 (.func (.func g) #[] #[]) .nilFunc).run Try.prog w = .ok (.bool false) w := by
  have e : Op.maxDepth = (Op.maxDepth - 1) + 1 := by decide
  simp only [binOp, Op.equal, Sem.run_bind]
  rw [e, Op.equalIn]
  simp [Sem.run_bind]
def ofE (l : List S30) (b id : Int) : List Int × List Int × Int :=
  if (chkE l).2 ≠ 0 then ([], [], 1) else if ¬ (b = 1 ∨ b = 2) then ([], [], 2) else if grp (kfE b) l id = [] then ([], [], 7) else (grp (kfE b) l id, oth (kfE b) l id, 0)
def suspect_Of.f (l : List S30) (b id : Int) : Option (List Int × List Int × Int) := if (Lit.int .i64 id).wf = true then some (ofE l b id) else none
theorem kf_wf {l : List S30} (h : (chkE l).2 = 0) (b : Int) : ∀ x ∈ l, (Lit.int .i64 (kfE b x)).wf = true := fun x hx => by
  obtain ⟨_, h1, h2, _⟩ := (chk_ok h).2 x hx
  unfold kfE
  split
  · show (Lit.int .i64 x.f1).wf = true
    exact WalkArith.wf_i64 (by omega)
  · show (Lit.int .i64 x.f2).wf = true
    exact WalkArith.wf_i64 (by omega)
theorem Row.toOk {w : World} {base : Nat} {v : Value} {xs : List Int} (h : Row w base v xs) {ok : Nat → Prop} (hok : ∀ k, v.ownBlock = some k → ok k) : (Kd.int .i64).R 3 w base ok v xs := by
  obtain ⟨_, inner, h1, h2, h3⟩ := h.toR
  exact ⟨hok, inner, h1, h2, fun j p hj => h3 j p hj⟩
theorem R_row {w : World} {base : Nat} {v : Value} {xs : List Int} {ok : Nat → Prop} (h : (Kd.int .i64).R 3 w base ok v xs) : Row w base v xs := by
  obtain ⟨hok, inner, hown, hlen, hr⟩ := h
  have hl1 : inner.length = xs.length := by simpa [Kd.int, Kd.scalar] using hlen
  have hin : inner = xs.map (Value.int .i64) := by
    apply List.ext_getElem (by simpa using hl1)
    intro j h1 h2
    have h3 : j < xs.length := by simpa using h2
    have h4 : (inner.drop (j * 1)).take 1 = [Value.int .i64 xs[j]] := hr j xs[j] (List.getElem?_eq_getElem h3)
    rw [Nat.mul_one, List.drop_eq_getElem_cons h1] at h4
    have h5 := (List.cons.inj h4).1
    rw [List.getElem_map]
    exact h5
  subst hin
  exact hown
theorem Row.lower {w : World} {base base' : Nat} {v : Value} {xs : List Int} (h : Row w base v xs) (hb : base' ≤ base) : Row w base' v xs := own_weaken h hb
set_option maxHeartbeats 4000000 in
set_option maxRecDepth 100000 in
theorem suspect_Of.calls (A0 : Option Addr) (c0 : Nat) (l0 : List S30) (a1 a2 : Int) (r1 r2 : List Int) (r3 : Int) (w : World) (hr0 : Kd.C k30 w A0 l0.length l0) (hc0 : l0.length ≤ c0) (h : suspect_Of.f l0 a1 a2 = some (r1, r2, r3)) :
    Calls Try.prog 15 #[.slice A0 l0.length c0, .int .i64 a1, .int .i64 a2] w fun e w' => ∃ v0_ v1_ : Value, e = .returned (.tuple #[v0_, v1_, .int .i64 r3]) ∧ Kd.R (Kd.int .i64) 3 w' w.heap.size (fun k_ => some k_ ≠ (v1_ : Value).ownBlock) v0_ r1 ∧ Kd.R (Kd.int .i64) 3 w' w.heap.size (fun k_ => some k_ ≠ (v0_ : Value).ownBlock) v1_ r2 ∧ Below w.heap.size w w' := by
  unfold suspect_Of.f at h
  by_cases hid : (Lit.int .i64 a2).wf = true
  case neg => rw [if_neg hid] at h; cases h
  rw [if_pos hid] at h
  have h := Option.some.inj h
  obtain ⟨k, hk⟩ := (right_ev l0).one
  have HK := Aside0.mk hk
  have hqn := eqN
  have hqf := eqF (gE a1)
  have HR0 := Aside0.mk hr0
  have HC0 := Aside0.mk hc0
  have HID := Aside0.mk hid
  have HB := Aside0.mk (Below.refl w.heap.size w)
  clear hk hr0 hc0 hid
  unfold ofE at h
  by_cases c0 : (chkE l0).2 ≠ 0
  · rw [if_pos c0] at h
    simp only [Prod.mk.injEq] at h
    obtain ⟨rfl, rfl, rfl⟩ := h
    have HK2 : Aside0 (suspect_right.f k l0 = some false) := ⟨by rw [HK.out, beq_eq_false_iff_ne.2 c0]⟩
    clear c0 HK
    go_enter Try.func15, Try.ntmps15
    go_wp2_with (first | ((with_reducible show Calls Try.prog 36 _ _ _); refine (who36 _ _).mono ?_; rintro e w3 ⟨rfl, rfl⟩) | ((with_reducible show Calls Try.prog 37 _ _ _); refine (suspect_right.calls k A0 c0 l0 _ _ (Kd.C_below HR0.out HB.out) HC0.out HK2.out).mono ?_; rintro e w4 ⟨rfl, hb⟩; have n0_ := Aside0.mk (lqT (GS.lB HB.out) hb); clear HB hb; have HB := n0_; clear n0_))
    go_ret3
    exact ⟨_, _, rfl, Kd.R_nil _ _ _ _ _, Kd.R_nil _ _ _ _ _, by first | exact HB.out | exact GS.lB HB.out⟩
  rw [if_neg c0] at h
  have c0' : (chkE l0).2 = 0 := Decidable.not_not.1 c0
  have HLN := Aside0.mk (chk_ok c0').1
  have HKW := Aside0.mk (kf_wf c0' a1)
  have HK2 : Aside0 (suspect_right.f k l0 = some true) := ⟨by rw [HK.out, c0']; rfl⟩
  clear c0 c0' HK
  by_cases c1 : ¬ (a1 = 1 ∨ a1 = 2)
  · rw [if_pos c1] at h
    simp only [Prod.mk.injEq] at h
    obtain ⟨rfl, rfl, rfl⟩ := h
    have HV := Aside0.mk (whoV_bad c1)
    clear c1
    go_enter Try.func15, Try.ntmps15
    go_wp2_with (first | ((with_reducible show Calls Try.prog 36 _ _ _); refine (who36 _ _).mono ?_; rw [HV.out]; rintro e w3 ⟨rfl, rfl⟩) | ((with_reducible show Calls Try.prog 37 _ _ _); refine (suspect_right.calls k A0 c0 l0 _ _ (Kd.C_below HR0.out HB.out) HC0.out HK2.out).mono ?_; rintro e w4 ⟨rfl, hb⟩; have n0_ := Aside0.mk (lqT (GS.lB HB.out) hb); clear HB hb; have HB := n0_; clear n0_))
    go_ret3
    exact ⟨_, _, rfl, Kd.R_nil _ _ _ _ _, Kd.R_nil _ _ _ _ _, by first | exact HB.out | exact GS.lB HB.out⟩
  rw [if_neg c1] at h
  have HV := Aside0.mk (whoV_ok (Decidable.not_not.1 c1))
  clear c1
  by_cases c2 : grp (kfE a1) l0 a2 = []
  · rw [if_pos c2] at h
    simp only [Prod.mk.injEq] at h
    obtain ⟨rfl, rfl, rfl⟩ := h
    have cz : ((((grp (kfE a1) l0 a2).length : Nat) : Int) == 0) = true := by rw [c2]; rfl
    clear c2
    go_enter Try.func15, Try.ntmps15
    go_wp2_with (first | ((with_reducible show Calls Try.prog 36 _ _ _); refine (who36 _ _).mono ?_; rw [HV.out]; rintro e w3 ⟨rfl, rfl⟩) | ((with_reducible show Calls Try.prog 37 _ _ _); refine (suspect_right.calls k A0 c0 l0 _ _ (Kd.C_below HR0.out HB.out) HC0.out HK2.out).mono ?_; rintro e w4 ⟨rfl, hb⟩; have n0_ := Aside0.mk (lqT (GS.lB HB.out) hb); clear HB hb; have HB := n0_; clear n0_) | ((with_reducible show Calls Try.prog 38 _ _ _); refine (groups38 (gE a1) (kfE a1) (whoE a1) A0 c0 l0 _ (Kd.C_below HR0.out HB.out) (by have := HLN.out; omega) HKW.out).mono ?_; rintro e w5 ⟨gm, M, rfl, hm, hb⟩; have HM := Aside0.mk hm; have HB5 := Aside0.mk hb; have HW4 := Aside0.mk HB.out.size; have n0_ := Aside0.mk (lqT (GS.lB HB.out) hb); clear HB hb hm; have HB := n0_; clear n0_; have hlk := HM.out.map.look HID.out; have hro := (HM.out.rowD a2); obtain ⟨Ao, co, eo⟩ := Kd.R_slice hro.toR; rw [eo] at hlk; have HO := Aside0.mk (show Row _ _ (.slice Ao (grp (kfE a1) l0 a2).length co) _ by rw [← eo]; exact hro); clear hro eo))
    go_ret3
    exact ⟨_, _, rfl, Kd.R_nil _ _ _ _ _, Kd.R_nil _ _ _ _ _, by first | exact HB.out | exact GS.lB HB.out⟩
  rw [if_neg c2] at h
  simp only [Prod.mk.injEq] at h
  obtain ⟨rfl, rfl, rfl⟩ := h
  have cz : ((((grp (kfE a1) l0 a2).length : Nat) : Int) == 0) = false := beq_eq_false_iff_ne.2 (fun e => c2 (List.eq_nil_of_length_eq_zero (by omega)))
  clear c2
  go_enter Try.func15, Try.ntmps15
  go_wp2_with (first | ((with_reducible show Calls Try.prog 36 _ _ _); refine (who36 _ _).mono ?_; rw [HV.out]; rintro e w3 ⟨rfl, rfl⟩) | ((with_reducible show Calls Try.prog 37 _ _ _); refine (suspect_right.calls k A0 c0 l0 _ _ (Kd.C_below HR0.out HB.out) HC0.out HK2.out).mono ?_; rintro e w4 ⟨rfl, hb⟩; have n0_ := Aside0.mk (lqT (GS.lB HB.out) hb); clear HB hb; have HB := n0_; clear n0_) | ((with_reducible show Calls Try.prog 38 _ _ _); refine (groups38 (gE a1) (kfE a1) (whoE a1) A0 c0 l0 _ (Kd.C_below HR0.out HB.out) (by have := HLN.out; omega) HKW.out).mono ?_; rintro e w5 ⟨gm, M, rfl, hm, hb⟩; have HM := Aside0.mk hm; have HB5 := Aside0.mk hb; have HW4 := Aside0.mk HB.out.size; have n0_ := Aside0.mk (lqT (GS.lB HB.out) hb); clear HB hb hm; have HB := n0_; clear n0_; have hlk := HM.out.map.look HID.out; have hro := (HM.out.rowD a2); obtain ⟨Ao, co, eo⟩ := Kd.R_slice hro.toR; rw [eo] at hlk; have HO := Aside0.mk (show Row _ _ (.slice Ao (grp (kfE a1) l0 a2).length co) _ by rw [← eo]; exact hro); clear hro eo) | ((with_reducible show Calls Try.prog 39 _ _ _); refine (others39 (gE a1) (kfE a1) (whoE a1) A0 c0 l0 a2 _ (Kd.C_below HR0.out HB.out) (by have := HLN.out; omega)).mono ?_; rintro e w6 ⟨v6, rfl, hro, hb⟩; have HO6 := Aside0.mk hro; have HB6 := Aside0.mk hb; have n0_ := Aside0.mk (lqT (GS.lB HB.out) hb); clear HB hb hro; have HB := n0_; clear n0_))
  go_ret3
  have hne : ∀ k, (Value.slice Ao (grp (kfE a1) l0 a2).length co).ownBlock = some k → some k ≠ v6.ownBlock := fun k hk e => by
    have h1 := (HO.out.lt hk).1
    have h2 := ((R_row HO6.out).lt e.symm).2
    omega
  exact ⟨_, v6, rfl, Row.toOk (Row.lower (HO.out.kept (grown_of_below HB6.out none) (fun b _ e => by cases e)) HW4.out) hne, Row.toOk (Row.lower (R_row HO6.out) (Nat.le_trans HW4.out HB5.out.size)) (fun k hk e => hne k e.symm hk.symm), HB.out⟩
end Go.Proofs.Ytfhmjleimampeaa.K
