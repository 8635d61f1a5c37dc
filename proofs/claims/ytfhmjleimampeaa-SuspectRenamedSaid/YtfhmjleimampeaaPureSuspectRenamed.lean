/- By hand: the plain law of SuspectRenamed. -/
import Derived.Test.YtfhmjleimampeaaSaySuspectRenamed
import Derived.Test.YtfhmjleimampeaaPAwake
import Derived.Test.YtfhmjleimampeaaPLex
namespace Go.Proofs.Ytfhmjleimampeaa.K
open Go Go.RowKit Go.Proofs.YtfhmjleimampeaaW.PrintWords
set_option linter.unusedVariables false
set_option linter.unusedSimpArgs false
theorem clone_evW (l : List S30) (h : l.length ≤ 1000) : Ev (fun _ => clone13.f l) l := ⟨0, fun _ _ => by unfold clone13.f; rw [if_pos (by omega)]⟩
def ren (m : Int) (x : S30) : S30 := ⟨x.f0, x.f1 + m, x.f2 + m, x.f3⟩
theorem kf_ren (b m : Int) (x : S30) : kfE b (ren m x) = kfE b x + m := by
  unfold kfE ren
  split <;> rfl
theorem grp_ren (b m : Int) (l : List S30) (id : Int) : grp (kfE b) (l.map (ren m)) (id + m) = grp (kfE b) l id := by
  unfold grp
  rw [List.filter_map, List.map_map]
  congr 1
  refine List.filter_congr (fun x _ => ?_)
  show decide (kfE b (ren m x) = id + m) = decide (kfE b x = id)
  rw [kf_ren]
  exact decide_eq_decide.2 (by omega)
theorem oth_ren (b m : Int) (l : List S30) (id : Int) : oth (kfE b) (l.map (ren m)) (id + m) = oth (kfE b) l id := by
  unfold oth
  rw [List.filter_map, List.map_map]
  congr 1
  refine List.filter_congr (fun x _ => ?_)
  show (!decide (kfE b (ren m x) = id + m)) = !decide (kfE b x = id)
  rw [kf_ren]
  congr 1
  exact decide_eq_decide.2 (by omega)
def smallL (l : List S30) : Prop := ∀ x ∈ l, x.f1 ≤ 1048576 ∧ x.f2 ≤ 1048576
theorem chk_ren {l : List S30} {m : Int} (hm : 0 ≤ m ∧ m ≤ 65535) (hs : smallL l) (hc : (chkE l).2 = 0) : (chkE (l.map (ren m))).2 = 0 := by
  have hl := (chk_ok hc).1
  have h := hc
  unfold chkE at h ⊢
  rw [if_neg (by omega)] at h
  rw [if_neg (by rw [List.length_map]; omega)]
  have hpw := (ok_pw l none 0 h).2
  have hr : ∀ x ∈ l.map (ren m), rangeB x = false := fun x hx => by
    obtain ⟨y, hy, rfl⟩ := List.mem_map.1 hx
    obtain ⟨r0, r1, r2, r3⟩ := (chk_ok hc).2 y hy
    obtain ⟨s1, s2⟩ := hs y hy
    unfold rangeB ren
    simp only [Bool.or_eq_false_iff, decide_eq_false_iff_not]
    omega
  have hp : (l.map (ren m)).Pairwise lexL := by
    refine List.pairwise_map.2 (hpw.imp (fun {a b} h => ?_))
    unfold lexL ren at *
    simp only
    omega
  rw [pw_ok _ none 0 hr (fun q hq => by cases hq) hp]
theorem of_ren {l : List S30} {m : Int} (hm : 0 ≤ m ∧ m ≤ 65535) (hs : smallL l) (hc : (chkE l).2 = 0) (b id : Int) : ofE (l.map (ren m)) b (id + m) = ofE l b id := by
  have h := chk_ren hm hs hc
  unfold ofE
  rw [if_neg (show ¬ (chkE (l.map (ren m))).2 ≠ 0 from fun e => e h), if_neg (show ¬ (chkE l).2 ≠ 0 from fun e => e hc), grp_ren, oth_ren]
theorem test_ren {l : List S30} {m : Int} (hm : 0 ≤ m ∧ m ≤ 65535) (hs : smallL l) (hc : (chkE l).2 = 0) (b id : Int) : testE (l.map (ren m)) b (id + m) = testE l b id := by
  unfold testE
  rw [of_ren hm hs hc]
theorem insU_map (m x : Int) : ∀ l : List Int, insU (x + m) (l.map (· + m)) = (insU x l).map (· + m)
  | [] => rfl
  | y :: l => by
    have ih := insU_map m x l
    rw [List.map_cons]
    unfold insU
    by_cases c : x < y
    · rw [if_pos c, if_pos (by omega)]; rfl
    · rw [if_neg c, if_neg (by omega)]
      by_cases c2 : x = y
      · rw [if_pos c2, if_pos (by omega)]; rfl
      · rw [if_neg c2, if_neg (by omega), List.map_cons, ih]
theorem keys_ren (b m : Int) : ∀ l : List S30, keysOf (kfE b) (l.map (ren m)) = (keysOf (kfE b) l).map (· + m)
  | [] => rfl
  | x :: l => by
    have ih := keys_ren b m l
    show insU (kfE b (ren m x)) (keysOf (kfE b) (l.map (ren m))) = (insU (kfE b x) (keysOf (kfE b) l)).map (· + m)
    rw [ih, kf_ren, insU_map]
theorem susp_ren {l : List S30} {m : Int} (hm : 0 ≤ m ∧ m ≤ 65535) (hs : smallL l) (hc : (chkE l).2 = 0) (b : Int) : suspE (l.map (ren m)) b 1 4 = ((suspE l b 1 4).1.map (· + m), (suspE l b 1 4).2) := by
  have h := chk_ren hm hs hc
  unfold suspE
  rw [if_neg (show ¬ (chkE (l.map (ren m))).2 ≠ 0 from fun e => e h), if_neg (show ¬ (chkE l).2 ≠ 0 from fun e => e hc)]
  split
  · rfl
  · simp only [keys_ren, List.filter_map]
    congr 2
    refine List.filter_congr (fun id _ => ?_)
    show ((testE (l.map (ren m)) b (id + m)).2.2 == 0 && decide (wrap64 ((testE (l.map (ren m)) b (id + m)).1 * 4) ≤ wrap64 ((testE (l.map (ren m)) b (id + m)).2.1 * 1))) = _
    rw [test_ren hm hs hc]
theorem susp_mem {l : List S30} (hs : smallL l) (hc : (chkE l).2 = 0) (b : Int) : (suspE l b 1 4).1.length ≤ 24 ∧ ∀ z ∈ (suspE l b 1 4).1, 1 ≤ z ∧ z ≤ 1048576 := by
  unfold suspE
  rw [if_neg (by rw [hc]; simp)]
  split
  · exact ⟨by simp, fun z hz => by cases hz⟩
  · refine ⟨?_, fun z hz => ?_⟩
    · have h1 := List.length_filter_le (fun id => (testE l b id).2.2 == 0 && decide (wrap64 ((testE l b id).1 * 4) ≤ wrap64 ((testE l b id).2.1 * 1))) (keysOf (kfE b) l)
      have h2 := len_keysOf (kfE b) l
      have h3 := (chk_ok hc).1
      simp only
      omega
    · obtain ⟨y, hy, hk⟩ := (mem_keysOf _ _ _).1 (List.mem_filter.1 hz).1
      obtain ⟨r0, r1, r2, r3⟩ := (chk_ok hc).2 y hy
      obtain ⟨s1, s2⟩ := hs y hy
      unfold kfE at hk
      split at hk
      · have hk : y.f1 = z := hk
        omega
      · have hk : y.f2 = z := hk
        omega
theorem ren_l1 (m : Int) (hm : 0 ≤ m ∧ m ≤ 65535) (X : List Int) (hX : X.length ≤ 24) (hz : ∀ z ∈ X, 1 ≤ z ∧ z ≤ 1048576) : ∀ (suf : List Int) (i : Nat), X.drop i = suf → Ev (fun k => spilelaw34_SuspectRenamed.l1 k m X (X.map (· + m)) (X.length : Int) (i : Int)) true
  | [], i, h => by
    have := drop_endI h
    exact Ev.succ (Ev.const _) (fun k => by rw [spilelaw34_SuspectRenamed.l1, if_neg (by omega)])
  | x :: suf, i, h => by
    obtain ⟨hi, hx, hd, _⟩ := drop_atI h
    have ih := ren_l1 m hm X hX hz suf (i + 1) hd
    have hmem : x ∈ X := by
      have : x ∈ X.drop i := by rw [h]; simp
      exact List.mem_of_mem_drop this
    have hb := hz x hmem
    have hy : rd (X.map (· + m)) (i : Int) = x + m := by
      have e : X[i] = x := by
        have := hx
        unfold rd at this
        simpa [List.getD_eq_getElem?_getD, hi] using this
      unfold rd
      simp [List.getD_eq_getElem?_getD, hi, e]
    have w1 : wrap64 m = m := by unfold wrap64; omega
    have w2 : wrap64 (x + m) = x + m := by unfold wrap64; omega
    refine Ev.succ ih (fun k => ?_)
    rw [spilelaw34_SuspectRenamed.l1, if_pos (by omega), if_pos (by omega), if_pos (by omega), if_pos (by rw [List.length_map]; omega), hx, hy, w1, w2, if_pos rfl, wrap_up (by omega)]
theorem ren_end (l : List S30) (b id m : Int) (hm : 0 ≤ m ∧ m ≤ 65535) (hid : 1 ≤ id ∧ id ≤ 1048576) (hl : l.length ≤ 14) (hs : smallL l) (hc : (chkE l).2 = 0) (i : Int) (hi : (l.length : Int) ≤ i) :
    Ev (fun k => spilelaw34_SuspectRenamed.l0 k l b id m (l.map (ren m)) (l.length : Int) i) true := by
  have hlm : (l.map (ren m)).length ≤ 1000 := by rw [List.length_map]; omega
  have w1 : wrap64 m = m := by unfold wrap64; omega
  have w2 : wrap64 (id + m) = id + m := by unfold wrap64; omega
  have hT1 : Ev (fun _ => suspect_Test.f l b id) (testE l b id) := ⟨0, fun _ _ => test_some (WalkArith.wf_i64 (by omega))⟩
  have hT2 : Ev (fun _ => suspect_Test.f (l.map (ren m)) b (id + m)) (testE (l.map (ren m)) b (id + m)) := ⟨0, fun _ _ => test_some (WalkArith.wf_i64 (by omega))⟩
  rw [test_ren hm hs hc] at hT2
  have hS1 : Ev (fun _ => suspect_Suspects.f l b 1 4) (suspE l b 1 4) := ⟨0, fun _ _ => rfl⟩
  have hS2 : Ev (fun _ => suspect_Suspects.f (l.map (ren m)) b 1 4) (suspE (l.map (ren m)) b 1 4) := ⟨0, fun _ _ => rfl⟩
  rw [susp_ren hm hs hc] at hS2
  obtain ⟨s1, s2⟩ := susp_mem hs hc b
  refine Ev.shift ?_
  simp only [spilelaw34_SuspectRenamed.l0, if_neg (show ¬ i < (l.length : Int) by omega), w1, w2]
  refine Ev.bind (clone_evW l (by omega)) ?_
  refine Ev.bind hT1 ?_
  refine Ev.bind (clone_evW _ hlm) ?_
  refine Ev.bind hT2 ?_
  refine Ev.bind (clone_evW l (by omega)) ?_
  refine Ev.bind hS1 ?_
  refine Ev.bind (clone_evW _ hlm) ?_
  refine Ev.bind hS2 ?_
  generalize suspE l b 1 4 = z at s1 s2 ⊢
  simp only [if_true]
  refine Ev.shift ?_
  have e : (((z.1.length : Nat) : Int) != (((z.1.map (· + m)).length : Nat) : Int)) = false := by rw [List.length_map]; simp
  simp only [spilelaw34_SuspectRenamed.j2, e, Bool.false_eq_true, if_false]
  exact ren_l1 m hm z.1 s1 s2 z.1 0 rfl
theorem ren_l0 (l : List S30) (b id m : Int) (hm : 0 ≤ m ∧ m ≤ 65535) (hid : 1 ≤ id ∧ id ≤ 1048576) (hl : l.length ≤ 14) (hs : smallL l) (hc : (chkE l).2 = 0) : ∀ (suf pre : List S30), pre ++ suf = l →
    Ev (fun k => spilelaw34_SuspectRenamed.l0 k l b id m (pre.map (ren m) ++ suf) (l.length : Int) (pre.length : Int)) true
  | [], pre, h => by
    rw [List.append_nil] at h
    subst h
    rw [List.append_nil]
    exact ren_end pre b id m hm hid hl hs hc _ (Int.le_refl _)
  | x :: suf, pre, h => by
    have hlt : pre.length < l.length := by rw [← h]; simp
    have ih := ren_l0 l b id m hm hid hl hs hc suf (pre ++ [x]) (by simpa using h)
    have hmem : x ∈ l := by rw [← h]; simp
    obtain ⟨r0, r1, r2, r3⟩ := (chk_ok hc).2 x hmem
    obtain ⟨s1, s2⟩ := hs x hmem
    have w0 : wrap64 m = m := by unfold wrap64; omega
    have w1 : wrap64 (x.f1 + m) = x.f1 + m := by unfold wrap64; omega
    have w2 : wrap64 (x.f2 + m) = x.f2 + m := by unfold wrap64; omega
    have hpl : (pre.map (ren m)).length = pre.length := List.length_map _
    have rdm : ∀ y : S30, rd_T30 (pre.map (ren m) ++ y :: suf) (pre.length : Int) = y := fun y => by
      rw [rd_get30 _ _ (by rw [List.length_append, hpl]; simp)]
      rw [List.getElem_append_right (by rw [hpl]; exact Nat.le_refl _)]
      simp [hpl]
    have stm : ∀ y z : S30, (pre.map (ren m) ++ y :: suf).set pre.length z = pre.map (ren m) ++ z :: suf := fun y z => by
      rw [List.set_append_right _ _ (by rw [hpl]; exact Nat.le_refl _), hpl]
      simp
    refine Ev.shift ?_
    simp only [spilelaw34_SuspectRenamed.l0, if_pos (show (pre.length : Int) < (l.length : Int) by omega), if_pos (show 0 ≤ (pre.length : Int) by omega), if_pos (show (pre.length : Int) < ((pre.map (ren m) ++ x :: suf).length : Int) by rw [List.length_append, hpl, List.length_cons]; omega), Option.bind_some, Int.toNat_natCast, rdm, stm, w0, w1, w2, wrap_up (show pre.length ≤ 1000000 by omega)]
    have e : (pre ++ [x]).map (ren m) ++ suf = pre.map (ren m) ++ ren m x :: suf := by simp
    have e2 : ((pre ++ [x]).length : Int) = ((pre.length + 1 : Nat) : Int) := by simp
    rw [e, e2] at ih
    exact ih
theorem u16_bd {w : Int} (hw : (Lit.int .u16 w).wf = true) : 0 ≤ w ∧ w ≤ 65535 := by
  simp [Lit.wf, IntKind.min, IntKind.max, IntKind.signed, IntKind.bits] at hw
  omega
theorem renamed_pure : SuspectRenamedPure := by
  intro l b id m hl hb hid hm
  have hm' := u16_bd hm
  refine Ev.one (g := fun k => spilelaw34_SuspectRenamed.f k l b id m) ?_
  have out : Ev (fun k => spilelaw34_SuspectRenamed.j0 k l b id m true) true := Ev.succ (Ev.const _) (fun k => by rw [spilelaw34_SuspectRenamed.j0, if_pos rfl])
  unfold spilelaw34_SuspectRenamed.f
  refine Ev.bind awake_ev ?_
  simp only [if_true]
  by_cases c : (l.length : Int) > 14
  · simp only [if_pos c]
    exact Ev.const true
  · simp only [if_neg c]
    refine Ev.bind (clone_evW l (by omega)) ?_
    refine Ev.bind (chk_ev l) ?_
    by_cases hc : (chkE l).2 = 0
    · simp only [if_pos hc]
      by_cases d0 : id < 1
      · simp only [if_pos d0]; exact out
      · by_cases d1 : id > 1048576
        · simp only [if_neg d0, if_pos d1]; exact out
        · simp only [if_neg d0, if_neg d1]
          refine Ev.bind (g := fun _ => big27.f l) (r := l.any bigB) ⟨0, fun _ _ => rfl⟩ ?_
          cases hB : l.any bigB with
          | true => exact out
          | false =>
            have hs : smallL l := fun x hx => by
              have h1 := List.any_eq_false.1 hB x hx
              unfold bigB at h1
              simp only [Bool.or_eq_true, decide_eq_true_eq] at h1
              omega
            refine Ev.shift ?_
            simp only [spilelaw34_SuspectRenamed.j0, Bool.false_eq_true, if_false]
            refine Ev.bind (clone_evW l (by omega)) ?_
            exact ren_l0 l b id m hm' (by omega) (by omega) hs hc l [] rfl
    · simp only [if_neg hc]
      exact out
end Go.Proofs.Ytfhmjleimampeaa.K
namespace Go.Proofs.Ytfhmjleimampeaa.Pure
theorem SuspectRenamed : K.SuspectRenamedPure := K.renamed_pure
end Go.Proofs.Ytfhmjleimampeaa.Pure
