/- By hand: the plain law of SuspectEqual. -/
import Derived.Test.YtfhmjleimampeaaSaySuspectEqual
import Derived.Test.YtfhmjleimampeaaPAwake
import Derived.Test.YtfhmjleimampeaaPAtl
namespace Go.Proofs.Ytfhmjleimampeaa.K
open Go Go.RowKit Go.Proofs.YtfhmjleimampeaaW.PrintWords
set_option linter.unusedVariables false
set_option linter.unusedSimpArgs false
theorem clone_evW (l : List S30) (h : l.length ≤ 1000) : Ev (fun _ => clone13.f l) l := ⟨0, fun _ _ => by unfold clone13.f; rw [if_pos (by omega)]⟩
theorem upW_const (s : Int) (c : Int) : ∀ L : List Int, (∀ y ∈ L, y = s) → upW s c L = c
  | [], _ => rfl
  | y :: L, h => by
    show upW s (if y < s then wrap64 (c + 1) else c) L = c
    rw [if_neg (by rw [h y (by simp)]; omega)]
    exact upW_const s c L (fun z hz => h z (List.mem_cons_of_mem _ hz))
theorem upsW_const (s : Int) (c : Int) : ∀ (L A : List Int), (∀ y ∈ A, y = s) → (∀ y ∈ L, y = s) → upsW A L c = c
  | [], A, _, _ => rfl
  | x :: L, A, hA, hL => by
    have hx := hL x (by simp)
    show upsW (A ++ [x]) L (upW x c A) = c
    rw [hx, upW_const s c A hA]
    exact upsW_const s c L (A ++ [s]) (fun y hy => by
      rcases List.mem_append.1 hy with h | h
      · exact hA y h
      · simpa using h) (fun y hy => hL y (List.mem_cons_of_mem _ hy))
theorem rises_const {L : List Int} {s : Int} (h : ∀ y ∈ L, y = s) : (risesE L).1 = 0 := by
  unfold risesE
  split
  · exact upsW_const s 0 L [] (fun y hy => by cases hy) h
  · rfl
theorem ord_pos : ∀ n : Nat, n < 15 → 1 ≤ n → 1 ≤ (ordE (n : Int) 0).1 := by decide +kernel
theorem mem_grp {kf : S30 → Int} {l : List S30} {id s : Int} (h : ∀ x ∈ l, x.f3 = s) : ∀ y ∈ grp kf l id, y = s := fun y hy => by
  obtain ⟨z, hz, rfl⟩ := List.mem_map.1 hy
  exact h z (List.mem_filter.1 hz).1
theorem mem_oth {kf : S30 → Int} {l : List S30} {id s : Int} (h : ∀ x ∈ l, x.f3 = s) : ∀ y ∈ oth kf l id, y = s := fun y hy => by
  obtain ⟨z, hz, rfl⟩ := List.mem_map.1 hy
  exact h z (List.mem_filter.1 hz).1
theorem eq_test {m : List S30} {b id s : Int} (hc : (chkE m).2 = 0) (hb : b = 1 ∨ b = 2) (hm : ∀ x ∈ m, x.f3 = s) (hid : ∃ y, y ∈ m ∧ kfE b y = id) :
    testE m b id = (0, 0, 9) ∨ ∃ n : Int, 1 ≤ n ∧ n ≤ 100000000000 ∧ testE m b id = (n, n, 0) := by
  have hg := grp_ne.2 hid
  have ho : ofE m b id = (grp (kfE b) m id, oth (kfE b) m id, 0) := by
    unfold ofE
    rw [if_neg (by rw [hc]; simp), if_neg (fun e => e hb), if_neg hg]
  obtain ⟨hl, hr⟩ := chk_ok hc
  unfold testE
  rw [ho]
  simp only [if_true]
  by_cases c : (oth (kfE b) m id).length = 0
  · rw [if_pos c]
    exact .inl rfl
  · rw [if_neg c]
    obtain ⟨y, hy, _⟩ := hid
    have hs := (hr y hy).2.2.2
    rw [hm y hy] at hs
    have g0 : 0 < (grp (kfE b) m id).length := List.length_pos_iff.2 hg
    have h1 : ∀ l : List S30, (grp (kfE b) l id).length + (oth (kfE b) l id).length = l.length := fun l => by
      induction l with
      | nil => rfl
      | cons x l ih =>
        unfold grp oth at ih ⊢
        by_cases c : kfE b x = id
        · simp only [List.filter_cons, c, decide_true, if_true, Bool.not_true, Bool.false_eq_true, if_false, List.map_cons, List.length_cons]
          omega
        · simp only [List.filter_cons, c, decide_false, if_true, Bool.not_false, Bool.false_eq_true, if_false, List.map_cons, List.length_cons]
          omega
    have h2 := h1 m
    exact .inr (atl_const (mem_grp hm) (mem_oth hm) g0 (by omega) (by omega) (by omega))
theorem eq_susp {m : List S30} {b s : Int} (hm : ∀ x ∈ m, x.f3 = s) (h : (suspE m b 9 10).2 = 0) : (chkE m).2 = 0 ∧ suspE m b 9 10 = ([], 0) := by
  unfold suspE at h ⊢
  by_cases c0 : (chkE m).2 ≠ 0
  · rw [if_pos c0] at h; cases h
  · rw [if_neg c0] at h ⊢
    have c0' := Decidable.not_not.1 c0
    split
    · rename_i c1
      rw [if_pos c1] at h; cases h
    · rename_i c1
      refine ⟨c0', ?_⟩
      congr 1
      rw [List.filter_eq_nil_iff]
      intro id hid
      obtain ⟨y, hy, hk⟩ := (mem_keysOf _ _ _).1 hid
      rcases eq_test c0' (by omega) hm ⟨y, hy, hk⟩ with e | ⟨n, h1, h2, e⟩
      · rw [e]; simp
      · rw [e]
        have w1 : wrap64 (n * 10) = n * 10 := by unfold wrap64; omega
        have w2 : wrap64 (n * 9) = n * 9 := by unfold wrap64; omega
        simp only [w1, w2]
        simp
        omega
def setL (s : Int) (x : S30) : S30 := ⟨x.f0, x.f1, x.f2, s⟩
theorem eq_l1 (m : List S30) (s : Int) (hl : m.length ≤ 14) (hc : (chkE m).2 = 0) (hm : ∀ x ∈ m, x.f3 = s) : ∀ (suf : List S30) (i : Nat), m.drop i = suf → Ev (fun k => spilelaw34_SuspectEqual.l1 k m m (m.length : Int) (i : Int)) true
  | [], i, h => by
    have := drop_endF h
    exact Ev.succ (Ev.const _) (fun k => by rw [spilelaw34_SuspectEqual.l1, if_neg (by omega)])
  | x :: suf, i, h => by
    obtain ⟨hi, hx, hd⟩ := drop_atF h
    have ih := eq_l1 m s hl hc hm suf (i + 1) hd
    have hmem : x ∈ m := by
      have : x ∈ m.drop i := by rw [h]; simp
      exact List.mem_of_mem_drop this
    have hwf : (Lit.int .i64 x.f1).wf = true := kf_wf hc 1 x hmem
    have hT : Ev (fun _ => suspect_Test.f m 1 x.f1) (testE m 1 x.f1) := ⟨0, fun _ _ => test_some hwf⟩
    have hR : Ev (fun _ => suspect_Trend.f m x.f1) (trendE m x.f1) := ⟨0, fun _ _ => by unfold suspect_Trend.f; rw [if_pos hwf]⟩
    have hex : ∃ y, y ∈ m ∧ kfE 1 y = x.f1 := ⟨x, hmem, rfl⟩
    have hg := grp_ne.2 hex
    have hgl := grp_len (kfE 1) m x.f1
    have hg0 : 0 < (grp (kfE 1) m x.f1).length := List.length_pos_iff.2 hg
    have htr : ∃ n : Int, 1 ≤ n ∧ trendE m x.f1 = (n, n, 0) := by
      unfold trendE
      rw [if_neg (by rw [hc]; simp), if_neg (by omega), if_neg (by omega), rises_const (mem_grp hm)]
      exact ⟨_, ord_pos _ (by omega) (by omega), rfl⟩
    obtain ⟨n, hn1, hn⟩ := htr
    rw [hn] at hR
    have j4 : Ev (fun k => spilelaw34_SuspectEqual.j4 k m m (m.length : Int) (i : Int) ((0 : Int) != 0)) true := by
      refine Ev.succ ih (fun k => ?_)
      rw [spilelaw34_SuspectEqual.j4, if_neg (by simp), wrap_up (by omega)]
    have j3 : Ev (fun k => spilelaw34_SuspectEqual.j3 k m m (m.length : Int) (i : Int) false x.f0 x.f1 x.f2 x.f3) true := by
      refine Ev.shift ?_
      simp only [spilelaw34_SuspectEqual.j3, Bool.false_eq_true, if_false]
      refine Ev.bind (clone_evW m (by omega)) ?_
      refine Ev.bind hR ?_
      simp only [if_true, if_neg (show ¬ n < 1 by omega)]
      exact j4
    refine Ev.shift ?_
    simp only [spilelaw34_SuspectEqual.l1, if_pos (show (i : Int) < (m.length : Int) by omega), if_pos (show 0 ≤ (i : Int) by omega), hx]
    refine Ev.bind (clone_evW m (by omega)) ?_
    refine Ev.bind hT ?_
    rcases eq_test hc (.inl rfl) hm hex with e | ⟨q, _, _, e⟩
    · rw [e]
      simp only [if_true]
      exact j3
    · rw [e]
      simp only [if_true]
      exact j3
theorem eq_end (m : List S30) (b s : Int) (hl : m.length ≤ 14) (hm : ∀ x ∈ m, x.f3 = s) (i : Int) (hi : (m.length : Int) ≤ i) : Ev (fun k => spilelaw34_SuspectEqual.l0 k m b s (m.length : Int) i) true := by
  have hS : Ev (fun _ => suspect_Suspects.f m b 9 10) (suspE m b 9 10) := ⟨0, fun _ _ => rfl⟩
  refine Ev.shift ?_
  simp only [spilelaw34_SuspectEqual.l0, if_neg (show ¬ i < (m.length : Int) by omega)]
  refine Ev.bind (clone_evW m (by omega)) ?_
  refine Ev.bind hS ?_
  by_cases c : (suspE m b 9 10).2 = 0
  · obtain ⟨hc, e⟩ := eq_susp hm c
    rw [e]
    simp only [if_true, List.length_nil]
    refine Ev.shift ?_
    simp only [spilelaw34_SuspectEqual.j1]
    exact Ev.congr (eq_l1 m s hl hc hm m 0 rfl) (fun k => by simp)
  · have e1 : (suspE m b 9 10).1 = [] := by
      unfold suspE at c ⊢
      split
      · rfl
      · rename_i c0
        rw [if_neg c0] at c
        split
        · rfl
        · rename_i c1
          rw [if_neg c1] at c
          exact absurd rfl c
    simp only [if_neg c]
    refine Ev.shift ?_
    simp only [spilelaw34_SuspectEqual.j1, if_true, if_neg c, e1, List.length_nil]
    exact Ev.const true
theorem eq_l0 (l : List S30) (b s : Int) (hl : l.length ≤ 14) : ∀ (suf pre : List S30), pre.length + suf.length = l.length → (∀ x ∈ pre, x.f3 = s) → Ev (fun k => spilelaw34_SuspectEqual.l0 k (pre ++ suf) b s (l.length : Int) (pre.length : Int)) true
  | [], pre, h, hp => by
    rw [List.append_nil]
    have e : l.length = pre.length := by simpa using h.symm
    rw [e]
    exact eq_end pre b s (by omega) hp _ (Int.le_refl _)
  | x :: suf, pre, h, hp => by
    have hlen : pre.length < (pre ++ x :: suf).length := by simp
    have hx : rd_T30 (pre ++ x :: suf) (pre.length : Int) = x := by
      rw [rd_get30 _ _ hlen]
      simp
    have ih := eq_l0 l b s hl suf (pre ++ [setL s x]) (by simp at h ⊢; omega) (fun y hy => by
      rcases List.mem_append.1 hy with h | h
      · exact hp y h
      · have : y = setL s x := by simpa using h
        rw [this]; rfl)
    have e : (pre ++ x :: suf).set pre.length (setL s x) = pre ++ [setL s x] ++ suf := by simp
    refine Ev.shift ?_
    simp only [spilelaw34_SuspectEqual.l0, if_pos (show (pre.length : Int) < (l.length : Int) by simp at h; omega), if_pos (show 0 ≤ (pre.length : Int) by omega), if_pos (show (pre.length : Int) < ((pre ++ x :: suf).length : Int) by omega), hx, Int.toNat_natCast, wrap_up (show pre.length ≤ 1000000 by simp at h; omega)]
    rw [show (⟨x.f0, x.f1, x.f2, s⟩ : S30) = setL s x from rfl, e]
    have e2 : ((pre ++ [setL s x]).length : Int) = ((pre.length + 1 : Nat) : Int) := by simp
    rw [e2] at ih
    exact ih
theorem equal_pure : SuspectEqualPure := by
  intro l b s hl hb hs
  refine Ev.one (g := fun k => spilelaw34_SuspectEqual.f k l b s) ?_
  unfold spilelaw34_SuspectEqual.f
  refine Ev.bind awake_ev ?_
  simp only [if_true]
  by_cases c : (l.length : Int) > 14
  · simp only [if_pos c]
    exact Ev.const true
  · simp only [if_neg c]
    refine Ev.bind (clone_evW l (by omega)) ?_
    exact eq_l0 l b s (by omega) l [] (by simp) (fun x hx => by cases hx)
end Go.Proofs.Ytfhmjleimampeaa.K
namespace Go.Proofs.Ytfhmjleimampeaa.Pure
theorem SuspectEqual : K.SuspectEqualPure := K.equal_pure
end Go.Proofs.Ytfhmjleimampeaa.Pure
