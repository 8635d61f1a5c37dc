/- By hand: the plain law of SenderNodes: the nodes that wait are those of the pending envelopes, ascending, and to each goes what is pending to it. -/
import Derived.Test.YtfafeeobjlkjnaaSaySenderNodes
import Derived.Test.YtfafeeobjlkjnaaPHeard
import Derived.Test.YtfafeeobjlkjnaaPAwake
namespace Go.Proofs.Ytfafeeobjlkjnaa.K
open Go.RowKit Go.Proofs.YtfafeeobjlkjnaaW.PrintWords
set_option linter.unusedVariables false
set_option linter.unusedSimpArgs false

theorem rd_at (l : List Int) (i : Nat) (h : i < l.length) : rd l (i : Int) = l[i] := by
  unfold rd
  simp [List.getD_eq_getElem?_getD, h]
theorem indexI_l0 (l : List Int) (hl : l.length ≤ 1000) (v : Int) : ∀ (d i : Nat), i + d = l.length → ∃ r : Int, Ev (fun k => slices_Index_int_int.l0 k l v (l.length : Int) (i : Int)) r ∧ decide (r ≥ 0) = (l.drop i).contains v
  | 0, i, h => by
    refine ⟨-1, Ev.succ (g' := fun _ => some (-1)) (Ev.const _) (fun k => by rw [slices_Index_int_int.l0, if_neg (by omega)]), ?_⟩
    rw [List.drop_eq_nil_of_le (by omega)]
    rfl
  | d + 1, i, h => by
    have hi : i < l.length := by omega
    have h1 : (i : Int) < (l.length : Int) := by omega
    have h0 : (0 : Int) ≤ (i : Int) := by omega
    have hw : wrap64 ((i : Int) + 1) = ((i + 1 : Nat) : Int) := by rw [wrap_in _ (by omega) (by omega)]; omega
    rw [List.drop_eq_getElem_cons hi]
    by_cases he : v = l[i]
    · refine ⟨(i : Int), Ev.succ (g' := fun _ => some (i : Int)) (Ev.const _) (fun k => by rw [slices_Index_int_int.l0, if_pos h1, if_pos h0, if_pos h1, rd_at l i hi, if_pos he]), ?_⟩
      rw [List.contains_cons, he]
      simp
    · obtain ⟨r, hr, hd⟩ := indexI_l0 l hl v d (i + 1) (by omega)
      refine ⟨r, Ev.succ hr (fun k => by rw [slices_Index_int_int.l0, if_pos h1, if_pos h0, if_pos h1, rd_at l i hi, if_neg he, hw]), ?_⟩
      rw [hd, List.contains_cons]
      have : (v == l[i]) = false := by simp [he]
      rw [this]
      rfl
theorem containsI_ev (l : List Int) (hl : l.length ≤ 1000) (v : Int) : Ev (fun k => slices_Contains_int_int.f k l v) (l.contains v) := by
  obtain ⟨r, hr, hd⟩ := indexI_l0 l hl v l.length 0 (by omega)
  unfold slices_Contains_int_int.f slices_Index_int_int.f
  refine Ev.bind hr ?_
  rw [List.drop_zero] at hd
  rw [← hd]
  exact Ev.const _
theorem index55_mem (l : List S33) (hl : l.length ≤ 1000) (x : S33) : ∀ (d i k : Nat), i + d = l.length → d + 1 ≤ k → x ∈ l.drop i → ∃ r : Int, api_Envelope_55.l0 k l (l.length : Int) (i : Int) x.f0 x.f1 x.f2 x.f3.f0 x.f3.f1 x.f3.f2 x.f3.f3 x.f3.f4 x.f3.f5 x.f3.f6 = some r ∧ r ≥ 0
  | d, i, 0, h, hk, hx => by omega
  | 0, i, k + 1, h, hk, hx => by
    rw [List.drop_eq_nil_of_le (by omega)] at hx
    simp at hx
  | d + 1, i, k + 1, h, hk, hx => by
    have hi : i < l.length := by omega
    have h1 : (i : Int) < (l.length : Int) := by omega
    have h0 : (0 : Int) ≤ (i : Int) := by omega
    have hw : wrap64 ((i : Int) + 1) = ((i + 1 : Nat) : Int) := by rw [wrap_in _ (by omega) (by omega)]; omega
    rw [api_Envelope_55.l0, if_pos h1, if_pos h0, if_pos h1, hw, rd_get l i hi]
    split
    · exact ⟨_, rfl, by omega⟩
    · rename_i hne
      rw [List.drop_eq_getElem_cons hi] at hx
      rcases List.mem_cons.1 hx with e | hx
      · exact absurd (by rw [← e]; simp) hne
      · exact index55_mem l hl x d (i + 1) k (by omega) (by omega) hx
theorem pC_no {k : Nat} {n a b : Int} {P : List S33} {x : S33} (hk : P.length + 2 ≤ k) (hl : P.length ≤ 1000) (hx : x ∈ P) (hn : x.f1 = n) : pC k n a b P x = false := by
  obtain ⟨r, h1, h2⟩ := index55_mem P hl x P.length 0 k (by omega) (by omega) (by simpa using hx)
  unfold pC spilelaw42_SenderNodes_1.f api_Envelope_38.f api_Envelope_55.f
  rw [if_pos hn]
  rw [show ((0 : Nat) : Int) = 0 from rfl] at h1
  rw [h1]
  simp [h2]
theorem cont_ev (n a b : Int) (P : List S33) (hl : P.length ≤ 1000) : Ev (fun k => cont36.f k (P.filter (fun x => !(x.f1 != n))) n a b P) false := by
  refine ⟨P.length + 2, fun k hk => ?_⟩
  show cont36.f k (P.filter (fun x => !(x.f1 != n))) n a b P = some false
  unfold cont36.f
  rw [if_pos ⟨hk, hl⟩]
  congr 1
  rw [List.any_eq_false]
  intro x hx
  obtain ⟨h1, h2⟩ := List.mem_filter.1 hx
  rw [pC_no hk hl h1 (by simpa using h2)]
  simp
def cnt (ks : List Int) (P : List S33) : Nat := (P.filter (fun x => ks.contains x.f1)).length
theorem cnt_nil (P : List S33) : cnt [] P = 0 := by
  unfold cnt
  simp
theorem cnt_snoc (ks : List Int) (n : Int) (hn : n ∉ ks) : ∀ P : List S33, cnt (ks ++ [n]) P = cnt ks P + (P.filter (fun x => !(x.f1 != n))).length
  | [] => rfl
  | x :: P => by
    have ih := cnt_snoc ks n hn P
    unfold cnt at ih ⊢
    by_cases h1 : x.f1 = n
    · have q1 : (ks ++ [n]).contains x.f1 = true := by simp [h1]
      have q2 : ¬ ks.contains x.f1 = true := by simp [h1, hn]
      have q3 : (!(x.f1 != n)) = true := by simp [h1]
      rw [List.filter_cons_of_pos (p := fun (y : S33) => (ks ++ [n]).contains y.f1) q1, List.filter_cons_of_neg (p := fun (y : S33) => ks.contains y.f1) q2, List.filter_cons_of_pos (p := fun (y : S33) => !(y.f1 != n)) q3, List.length_cons, List.length_cons, ih]
      omega
    · have q3 : ¬ (!(x.f1 != n)) = true := by simp [h1]
      rw [List.filter_cons_of_neg (p := fun (y : S33) => !(y.f1 != n)) q3]
      by_cases h2 : ks.contains x.f1 = true
      · have q1 : (ks ++ [n]).contains x.f1 = true := by simp at h2 ⊢; exact .inl h2
        rw [List.filter_cons_of_pos (p := fun (y : S33) => (ks ++ [n]).contains y.f1) q1, List.filter_cons_of_pos (p := fun (y : S33) => ks.contains y.f1) h2, List.length_cons, List.length_cons, ih]
        omega
      · have q1 : ¬ (ks ++ [n]).contains x.f1 = true := by simp at h2 ⊢; exact ⟨h2, h1⟩
        rw [List.filter_cons_of_neg (p := fun (y : S33) => (ks ++ [n]).contains y.f1) q1, List.filter_cons_of_neg (p := fun (y : S33) => ks.contains y.f1) h2, ih]
theorem cnt_all (P : List S33) : cnt (waitsL P) P = P.length := by
  unfold cnt
  rw [List.filter_eq_self.2]
  intro x hx
  rw [List.contains_iff_mem, mem_waitsL]
  exact List.mem_map_of_mem hx
def againS (node next n : Int) (P : List S33) : List S33 × Int :=
  if chk node next P = 0 then (if nodeB n = true then (P.filter (fun x => !(x.f1 != n)), 0) else ([], 2)) else ([], 1)
theorem again_spec (node next n : Int) (P : List S33) : Ev (fun k => sender_Again.f k node next P n) (againS node next n P) := by
  unfold sender_Again.f againS
  refine Ev.bind (check_ev _ _ _) ?_
  by_cases hc : chk node next P = 0
  · obtain ⟨_, _, _, hl, _⟩ := chk_zero hc
    simp only [if_pos hc, node_f, Option.bind_some]
    by_cases hn : nodeB n = true
    · have h3 : P.length < 1759218604441 := by omega
      simp only [if_pos hn, api_Envelope_21.f, if_pos h3, Option.bind_some]
      exact Ev.const _
    · simp only [if_neg hn]; exact Ev.const _
  · simp only [if_neg hc]; exact Ev.const _
theorem waitsL_len : ∀ P : List S33, (waitsL P).length ≤ P.length
  | [] => by simp [waitsL]
  | x :: l => by
    have h : ∀ (y : Int) (ks : List Int), (insU y ks).length ≤ ks.length + 1 := by
      intro y ks
      induction ks with
      | nil => simp [insU]
      | cons z ks ih =>
        unfold insU
        split
        · simp
        · split
          · simp
          · simp; omega
    have h1 := h x.f1 (waitsL l)
    have h2 := waitsL_len l
    show (insU x.f1 (waitsL l)).length ≤ (x :: l).length
    simp
    omega
theorem filt_pos {P : List S33} {n : Int} : 0 < (P.filter (fun x => !(x.f1 != n))).length ↔ n ∈ waitsL P := by
  rw [mem_waitsL]
  constructor
  · intro h
    obtain ⟨y, hy⟩ := List.exists_mem_of_length_pos h
    obtain ⟨h1, h2⟩ := List.mem_filter.1 hy
    exact List.mem_map.2 ⟨y, h1, by simpa using h2⟩
  · intro h
    obtain ⟨y, hy, e⟩ := List.mem_map.1 h
    exact List.length_pos_of_mem (List.mem_filter.2 ⟨hy, by simp [e]⟩)
theorem nodes_step (x1 a b T v i : Int) (P : List S33) (W : List Int) (h1 : i < (W.length : Int)) (h0 : 0 ≤ i) (hcopy : spileref42_Copy.f a b P = some (a, b, P)) (hx : rd W i = v) (k : Nat) :
    spilelaw42_SenderNodes.l0 (k + 1) x1 W T W (W.length : Int) i a b P = (sender_Again.f k a b P v).bind fun bt => (if bt.2 = 0 then (if (bt.1.length : Int) = 0 then none else (if i > 0 then (if 0 ≤ wrap64 (i - 1) then (if wrap64 (i - 1) < (W.length : Int) then (if rd W (wrap64 (i - 1)) ≥ v then none else (cont36.f k bt.1 v a b P).bind fun t => spilelaw42_SenderNodes.j1 k x1 W T bt.1 W (W.length : Int) i t a b P) else none) else none) else (cont36.f k bt.1 v a b P).bind fun t => spilelaw42_SenderNodes.j1 k x1 W T bt.1 W (W.length : Int) i t a b P)) else none) := by
  subst hx
  rw [spilelaw42_SenderNodes.l0, if_pos h1, if_pos h0, if_pos h1, hcopy]
  rfl
theorem nodes_l0 (x1 a b : Int) (P : List S33) (hP : P.length ≤ 14) (hc : chk a b P = 0) : ∀ (d i : Nat), i + d = (waitsL P).length →
    Ev (fun k => spilelaw42_SenderNodes.l0 k x1 (waitsL P) (cnt ((waitsL P).take i) P : Int) (waitsL P) ((waitsL P).length : Int) (i : Int) a b P) true
  | 0, i, h => by
    have hwl := waitsL_len P
    have hcopy := copy_f a b P (by omega)
    have ht : (waitsL P).take i = waitsL P := List.take_of_length_le (by omega)
    have hag := again_spec a b x1 P
    refine Ev.succ (g' := _) ?_ (fun k => by rw [spilelaw42_SenderNodes.l0, if_neg (by omega), hcopy, Option.bind_some])
    refine Ev.bind hag ?_
    rw [ht, cnt_all]
    simp only [if_true]
    unfold againS
    rw [if_pos hc]
    by_cases hn : nodeB x1 = true
    · simp only [if_pos hn, if_true]
      refine Ev.bind (containsI_ev _ (by omega) x1) ?_
      have e : decide (((P.filter (fun x => !(x.f1 != x1))).length : Int) > 0) = (waitsL P).contains x1 := by
        rw [Bool.eq_iff_iff, decide_eq_true_eq, List.contains_iff_mem, ← filt_pos]
        omega
      rw [e]
      simp only [beq_self_eq_true]
      exact Ev.const _
    · have h2 : ¬ (2 : Int) = 0 := by decide
      simp only [if_neg hn, if_neg h2, List.length_nil]
      exact Ev.const _
  | d + 1, i, h => by
    have hwl := waitsL_len P
    have hi : i < (waitsL P).length := by omega
    have h1 : (i : Int) < ((waitsL P).length : Int) := by omega
    have h0 : (0 : Int) ≤ (i : Int) := by omega
    have hw : wrap64 ((i : Int) + 1) = ((i + 1 : Nat) : Int) := by rw [wrap_in _ (by omega) (by omega)]; omega
    have hcopy := copy_f a b P (by omega)
    have hx : rd (waitsL P) (i : Int) = (waitsL P)[i] := rd_at _ i hi
    have hmem : (waitsL P)[i] ∈ waitsL P := List.getElem_mem hi
    have hasc := asc_waitsL P
    obtain ⟨_, _, _, _, hg⟩ := chk_zero hc
    have hn : nodeB (waitsL P)[i] = true := by
      obtain ⟨y, hy, e⟩ := List.mem_map.1 ((mem_waitsL _ P).1 hmem)
      have := goC_to P none hg y hy
      exact decide_eq_true (by omega)
    have hag := again_spec a b (waitsL P)[i] P
    unfold againS at hag
    rw [if_pos hc, if_pos hn] at hag
    have hpos := filt_pos.2 hmem
    have hlen := List.length_filter_le (fun x => !(x.f1 != (waitsL P)[i])) P
    have hnot : (waitsL P)[i] ∉ (waitsL P).take i := by
      intro hm
      obtain ⟨j, hj, e⟩ := List.mem_iff_getElem.1 hm
      rw [List.getElem_take] at e
      have hj' : j < i := by rw [List.length_take] at hj; omega
      have := List.pairwise_iff_getElem.1 hasc j i (by omega) hi hj'
      omega
    have hsnoc := cnt_snoc ((waitsL P).take i) _ hnot P
    rw [← List.take_succ_eq_append_getElem hi] at hsnoc
    have hle : cnt ((waitsL P).take (i + 1)) P ≤ P.length := List.length_filter_le _ _
    have htot : wrap64 ((cnt ((waitsL P).take i) P : Int) + ((P.filter (fun x => !(x.f1 != (waitsL P)[i]))).length : Int)) = (cnt ((waitsL P).take (i + 1)) P : Int) := by
      rw [wrap_in _ (by omega) (by omega)]
      omega
    have ih := nodes_l0 x1 a b P hP hc d (i + 1) (by omega)
    refine Ev.succ (g' := _) ?_ (nodes_step x1 a b _ (waitsL P)[i] i P (waitsL P) h1 h0 hcopy hx)
    refine Ev.bind hag ?_
    have hz : ¬ ((P.filter (fun x => !(x.f1 != (waitsL P)[i]))).length : Int) = 0 := fun e => absurd (Int.natCast_eq_zero.1 e) (Nat.pos_iff_ne_zero.1 hpos)
    simp only [if_true, if_neg hz]
    have hj1 : Ev (fun k => (cont36.f k (P.filter (fun x => !(x.f1 != (waitsL P)[i]))) (waitsL P)[i] a b P).bind fun t => spilelaw42_SenderNodes.j1 k x1 (waitsL P) (cnt ((waitsL P).take i) P : Int) (P.filter (fun x => !(x.f1 != (waitsL P)[i]))) (waitsL P) ((waitsL P).length : Int) (i : Int) t a b P) true := by
      refine Ev.bind (cont_ev _ a b P (by omega)) ?_
      exact Ev.succ ih (fun k => by rw [spilelaw42_SenderNodes.j1, if_neg (by decide), htot, hw])
    by_cases hi0 : (i : Int) > 0
    · have hw1 : wrap64 ((i : Int) - 1) = ((i - 1 : Nat) : Int) := by rw [wrap_in _ (by omega) (by omega)]; omega
      have q1 : (0 : Int) ≤ ((i - 1 : Nat) : Int) := by omega
      have q2 : ((i - 1 : Nat) : Int) < ((waitsL P).length : Int) := by omega
      have q3 : ¬ (waitsL P)[i - 1] ≥ (waitsL P)[i] := by
        have := List.pairwise_iff_getElem.1 hasc (i - 1) i (by omega) hi (by omega)
        omega
      simp only [if_pos hi0, hw1, if_pos q1, if_pos q2, rd_at _ (i - 1) (show i - 1 < (waitsL P).length by omega), if_neg q3]
      exact hj1
    · simp only [if_neg hi0]
      exact hj1
theorem nodes_pure : SenderNodesPure := by
  intro x0 x1 _ _
  refine Ev.one (g := fun k => spilelaw42_SenderNodes.f k x0.f0 x0.f1 x0.f2 x1) ?_
  unfold spilelaw42_SenderNodes.f
  refine Ev.bind awake_ev ?_
  simp only [if_true]
  by_cases h1 : (x0.f2.length : Int) > 14
  · simp only [if_pos h1]; exact Ev.const _
  simp only [if_neg h1]
  have hcopy := copy_f x0.f0 x0.f1 x0.f2 (by omega)
  simp only [hcopy, Option.bind_some]
  have hws : Ev (fun k => sender_Waits.f k x0.f0 x0.f1 x0.f2) (if chk x0.f0 x0.f1 x0.f2 = 0 then (waitsL x0.f2, 0) else ([], 1)) := by
    unfold sender_Waits.f
    refine Ev.bind (check_ev _ _ _) ?_
    by_cases hc : chk x0.f0 x0.f1 x0.f2 = 0
    · simp only [if_pos hc]; exact Ev.const _
    · simp only [if_neg hc]; exact Ev.const _
  refine Ev.bind hws ?_
  by_cases hc : chk x0.f0 x0.f1 x0.f2 = 0
  · simp only [if_pos hc, if_true]
    have h := nodes_l0 x1 x0.f0 x0.f1 x0.f2 (by omega) hc (waitsL x0.f2).length 0 (by omega)
    rw [List.take_zero, cnt_nil] at h
    exact h
  · have h2 : ¬ (1 : Int) = 0 := by decide
    simp only [if_neg hc, if_neg h2, List.length_nil]
    exact Ev.const _
end Go.Proofs.Ytfafeeobjlkjnaa.K
namespace Go.Proofs.Ytfafeeobjlkjnaa.Pure
theorem SenderNodes : K.SenderNodesPure := K.nodes_pure
end Go.Proofs.Ytfafeeobjlkjnaa.Pure
