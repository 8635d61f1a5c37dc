import Derived.Test.YthboaobgipodiaaProg
import Derived.Test.YthboaobgipodiaaK0
import Derived.Test.YthboaobgipodiaaGRow
import Derived.WalkKit
import Derived.Test.YthboaobgipodiaaK32
import Derived.Test.YthboaobgipodiaaPRefA
import Derived.Test.YthboaobgipodiaaPAwake
-- PRINTED by row.py: the types of a law's parameters, opened.
namespace Go.Proofs.Ythboaobgipodiaa.K
open Go.RowKit Go.Proofs.YthboaobgipodiaaW.PrintWords Go.Proofs.Ythboaobgipodiaa.GRow
set_option linter.unusedVariables false
def ok3 (x : Int) : Prop := (Lit.int .i64 x).wf = true
theorem opens3 : Opens Try.prog 3 (Kd.int .i64) ok3 := opens_int Try.underlying3 (by kernel_rfl)
def ok60 (x : S60) : Prop := (ok3 x.f0 ∧ ok3 x.f1 ∧ ok3 x.f2)
theorem opens60_ : Opens Try.prog 60 (Kd.pair (Kd.int .i64) (Kd.pair (Kd.int .i64) (Kd.int .i64))) (Two ok3 (Two ok3 ok3)) := by
  refine opens_struct Try.underlying60 (by kernel_rfl) ?_
  refine fields_cons opens3 (by rfl) (by rfl) ?_
  refine fields_cons opens3 (by rfl) (by rfl) ?_
  exact fields_last opens3 (by rfl) (by rfl)
theorem opens60 : Opens Try.prog 60 k60 ok60 := (opens_iso opens60_ _ (fun p => ⟨p.1, p.2.1, p.2.2⟩) (fun _ => rfl)).imp (fun _ h => h)
def ok22 (x : (List S60)) : Prop := (x.length ≤ maxLen ∧ ∀ x_ ∈ x, ok60 x_)
theorem opens22 : Opens Try.prog 22 (Kd.slice 60 k60) ok22 := (opens_slice Try.underlying22 (by kernel_rfl) opens60).imp (fun _ h => h)
def ok24 (x : S24) : Prop := (ok3 x.f0 ∧ ok22 x.f1)
theorem opens24_ : Opens Try.prog 24 (Kd.pair (Kd.int .i64) (Kd.slice 60 k60)) (Two ok3 ok22) := by
  refine opens_struct Try.underlying24 (by kernel_rfl) ?_
  refine fields_cons opens3 (by rfl) (by rfl) ?_
  exact fields_last opens22 (by rfl) (by rfl)
theorem opens24 : Opens Try.prog 24 k24 ok24 := (opens_iso opens24_ _ (fun p => ⟨p.1, p.2⟩) (fun _ => rfl)).imp (fun _ h => h)
def ok35 (x : S35) : Prop := (ok3 x.f0 ∧ ok3 x.f1 ∧ ok3 x.f2 ∧ ok3 x.f3 ∧ ok3 x.f4)
theorem opens35_ : Opens Try.prog 35 (Kd.pair (Kd.int .i64) (Kd.pair (Kd.int .i64) (Kd.pair (Kd.int .i64) (Kd.pair (Kd.int .i64) (Kd.int .i64))))) (Two ok3 (Two ok3 (Two ok3 (Two ok3 ok3)))) := by
  refine opens_struct Try.underlying35 (by kernel_rfl) ?_
  refine fields_cons opens3 (by rfl) (by rfl) ?_
  refine fields_cons opens3 (by rfl) (by rfl) ?_
  refine fields_cons opens3 (by rfl) (by rfl) ?_
  refine fields_cons opens3 (by rfl) (by rfl) ?_
  exact fields_last opens3 (by rfl) (by rfl)
theorem opens35 : Opens Try.prog 35 k35 ok35 := (opens_iso opens35_ _ (fun p => ⟨p.1, p.2.1, p.2.2.1, p.2.2.2.1, p.2.2.2.2⟩) (fun _ => rfl)).imp (fun _ h => h)
def ok25 (x : (List S35)) : Prop := (x.length ≤ maxLen ∧ ∀ x_ ∈ x, ok35 x_)
theorem opens25 : Opens Try.prog 25 (Kd.slice 35 k35) ok25 := (opens_slice Try.underlying25 (by kernel_rfl) opens35).imp (fun _ h => h)
end Go.Proofs.Ythboaobgipodiaa.K
-- PRINTED by row.py: what the plain law of LiabilitySums has to say.
namespace Go.Proofs.Ythboaobgipodiaa.K
open Go.RowKit Go.Proofs.YthboaobgipodiaaW.PrintWords
def LiabilitySumsPure : Prop := ∀ (x0 : S24) (x1 : (List S35)) (x2 : Int), ok24 x0 → ok25 x1 → ok3 x2 → ∃ k, spilelaw51_LiabilitySums.f k x0.f0 x0.f1 x1 x2 = some true
end Go.Proofs.Ythboaobgipodiaa.K
/- By hand: the plain law of LiabilitySums: Greatest and Bonds tell what the reference tells. -/
namespace Go.Proofs.Ythboaobgipodiaa.K
open Go.RowKit Go.Proofs.YthboaobgipodiaaW.PrintWords
set_option linter.unusedVariables false
set_option linter.unusedSimpArgs false

theorem rd42g (xs : List S42) (i : Nat) (h : i < xs.length) : rd_T42 xs (i : Int) = xs[i] := by
  unfold rd_T42
  simp [List.getD_eq_getElem?_getD, h]
/-- A hold's sum grows, or it is put in where it belongs. -/
def insH (b n : Int) : List S42 → List S42
  | [] => [⟨b, 0, n⟩]
  | h :: l => if h.f0 < b then h :: insH b n l else if h.f0 = b then ⟨h.f0, h.f1, wrap64 (h.f2 + n)⟩ :: l else ⟨b, 0, n⟩ :: h :: l
theorem insH_map (b n : Int) (F : Int → Int) (hn : wrap64 n = n) : ∀ ks : List Int, ks.Pairwise (· < ·) → (b ∉ ks → F b = 0) →
    insH b n (ks.map fun x => (⟨x, 0, F x⟩ : S42)) = (insU b ks).map fun x => (⟨x, 0, if b = x then wrap64 (F x + n) else F x⟩ : S42)
  | [], _, h => by
    have := h (by simp)
    simp [insH, insU, this, hn]
  | y :: ks, hp, h => by
    obtain ⟨p1, p2⟩ := List.pairwise_cons.1 hp
    have hrest : ∀ (l : List Int), (∀ z ∈ l, b ≠ z) → (l.map fun x => (⟨x, 0, F x⟩ : S42)) = l.map fun x => (⟨x, 0, if b = x then wrap64 (F x + n) else F x⟩ : S42) := fun l hl => List.map_congr_left (fun z hz => by rw [if_neg (hl z hz)])
    rw [List.map_cons, insH]
    unfold insU
    by_cases c1 : y < b
    · rw [if_pos c1, if_neg (by omega), if_neg (by omega), List.map_cons, if_neg (by omega), insH_map b n F hn ks p2 (fun hm => h (by
        rw [List.mem_cons, not_or]
        exact ⟨by omega, hm⟩))]
    · rw [if_neg c1]
      by_cases c2 : y = b
      · subst c2
        rw [if_pos rfl, if_neg (by omega), if_pos rfl, List.map_cons, if_pos rfl, hrest ks (fun z hz => by have := p1 z hz; omega)]
      · have hb : b < y := by omega
        have hn' : b ∉ y :: ks := by
          intro hm
          rcases List.mem_cons.1 hm with e | hm
          · omega
          · have := p1 b hm
            omega
        rw [if_neg (show ¬ y = b from c2), if_pos hb, List.map_cons, List.map_cons, if_pos rfl, h hn', Int.zero_add, hn, if_neg (by omega), hrest ks (fun z hz => by have := p1 z hz; omega)]
theorem bsum_none (x : Int) : ∀ (ps : List (Int × Int)) (s : Int), x ∉ ps.map (·.1) → ps.foldl (fun s p => if p.1 = x then wrap64 (s + p.2) else s) s = s
  | [], _, _ => rfl
  | p :: ps, s, h => by
    rw [List.map_cons, List.mem_cons, not_or] at h
    rw [List.foldl_cons, if_neg (fun e => h.1 e.symm), bsum_none x ps s h.2]
theorem insH_bonds (ps : List (Int × Int)) (b n : Int) (hn : wrap64 n = n) : insH b n (bonds ps) = bonds (ps ++ [(b, n)]) := by
  unfold bonds
  have hk : bkeys (ps ++ [(b, n)]) = insU b (bkeys ps) := by
    refine asc_ext _ _ (asc_bkeys _) (asc_insU _ _ (asc_bkeys _)) (fun z => ?_)
    rw [mem_bkeys, mem_insU, mem_bkeys, List.map_append, List.mem_append]
    simp only [List.map_cons, List.map_nil, List.mem_singleton]
    exact ⟨fun h => h.symm, fun h => h.symm⟩
  rw [insH_map b n (bsum ps) hn (bkeys ps) (asc_bkeys ps) (fun hm => bsum_none b ps 0 (fun h => hm ((mem_bkeys _ _).2 h))), hk]
  refine List.map_congr_left (fun x _ => ?_)
  have : bsum (ps ++ [(b, n)]) x = if b = x then wrap64 (bsum ps x + n) else bsum ps x := by
    unfold bsum
    rw [List.foldl_append]
    rfl
  rw [this]
theorem bonds_len (ps : List (Int × Int)) : (bonds ps).length ≤ ps.length := by
  have hi : ∀ (z : Int) (ks : List Int), (insU z ks).length ≤ ks.length + 1 := by
    intro z ks
    induction ks with
    | nil => exact Nat.le_refl _
    | cons k ks ih =>
      unfold insU
      split
      · simp
      · split
        · simp
        · simp only [List.length_cons]
          omega
  unfold bonds
  rw [List.length_map]
  induction ps with
  | nil => exact Nat.le_refl _
  | cons p ps ih =>
    have := hi p.1 (bkeys ps)
    show (insU p.1 (bkeys ps)).length ≤ ps.length + 1
    omega

/-! ### the reference's Greatest and Bonds -/
theorem rmost1_ev {a : Int} {l : List S60} {day : Int} {x : S35} (ht : (tchk a l).2 = 0) (hd : 0 ≤ day ∧ day ≤ 100000) (hx : xok x = true) : ∃ q, Ev (fun k => spileref51_most.f k a l x.f0 x.f1 x.f2 x.f3 x.f4 day) (gP a l day x, q) := by
  have h := rmost_ev ht hd hx
  by_cases c : day < x.f3
  · rw [if_pos c] at h
    have e : gP a l day x = 0 := by unfold gP; rw [if_pos c]
    rw [e]
    exact ⟨_, h⟩
  · rw [if_neg c] at h
    exact ⟨_, h⟩
theorem rscan {a : Int} {l : List S60} {day : Int} (L : List S35) (hL : L.length ≤ 16) (n : Int) (r : List S42 × Int) (i : Nat) (hi : i < L.length) : ∀ (Q P : List S42), P.length + Q.length ≤ 16 →
    Ev (fun k => spileref51_Bonds.l0 k L day (P ++ insH L[i].f1 n Q) ((i + 1 : Nat) : Int) a l) r →
    Ev (fun k => spileref51_Bonds.l1 k L day (P ++ Q) (i : Int) n (P.length : Int) a l) r
  | [], P, hl, hr => by
    have h1 : (i : Int) < (L.length : Int) := by omega
    have h0 : (0 : Int) ≤ (i : Int) := by omega
    have hp : ¬ (P.length : Int) < ((P ++ ([] : List S42)).length : Int) := by simp
    have e1 : ∀ k, spileref51_Bonds.l1 (k + 1) L day (P ++ []) (i : Int) n (P.length : Int) a l = spileref51_Bonds.j2 k L day (P ++ []) (i : Int) n (P.length : Int) a l := fun k => by rw [spileref51_Bonds.l1, if_neg hp]
    refine Ev.succ (Ev.succ hr (fun k => ?_)) e1
    rw [List.length_nil] at hl
    rw [spileref51_Bonds.j2, if_neg hp, if_pos h0, if_pos h1, rd_get L i hi]
    simp only [Option.bind_some, List.append_nil, Int.toNat_natCast, List.drop_length, List.take_length, if_pos (show (0 : Int) ≤ (P.length : Int) by omega), Int.le_refl, if_true]
    rw [if_pos (by simp), if_pos (by simp; omega), w1 hi (by omega)]
    rfl
  | h :: Q, P, hl, hr => by
    have h1 : (i : Int) < (L.length : Int) := by omega
    have h0 : (0 : Int) ≤ (i : Int) := by omega
    have hpn : P.length < (P ++ h :: Q).length := by simp
    have hp : (P.length : Int) < ((P ++ h :: Q).length : Int) := by omega
    have hp0 : (0 : Int) ≤ (P.length : Int) := by omega
    have hg : rd_T42 (P ++ h :: Q) (P.length : Int) = h := by rw [rd42g _ _ hpn]; simp
    rw [List.length_cons] at hl
    rw [insH] at hr
    by_cases c1 : h.f0 < L[i].f1
    · rw [if_pos c1] at hr
      have ih := rscan L hL n r i hi Q (P ++ [h]) (by simp; omega) (by simpa using hr)
      rw [List.append_assoc] at ih
      refine Ev.succ ih (fun k => ?_)
      rw [spileref51_Bonds.l1, if_pos hp, if_pos hp0, if_pos h0, if_pos h1, hg, rd_get L i hi, if_pos c1, wrap_at _ (by omega) (by omega)]
      simp
    · rw [if_neg c1] at hr
      have e1 : ∀ k, spileref51_Bonds.l1 (k + 1) L day (P ++ h :: Q) (i : Int) n (P.length : Int) a l = spileref51_Bonds.j2 k L day (P ++ h :: Q) (i : Int) n (P.length : Int) a l := fun k => by rw [spileref51_Bonds.l1, if_pos hp, if_pos hp0, if_pos h0, if_pos h1, hg, rd_get L i hi, if_neg c1]
      refine Ev.succ ?_ e1
      by_cases c2 : h.f0 = L[i].f1
      · rw [if_pos c2] at hr
        refine Ev.succ hr (fun k => ?_)
        rw [spileref51_Bonds.j2, if_pos hp, if_pos hp0, if_pos h0, if_pos h1, hg, rd_get L i hi, if_pos c2, w1 hi (by omega), Int.toNat_natCast]
        simp
      · rw [if_neg c2] at hr
        refine Ev.succ hr (fun k => ?_)
        rw [spileref51_Bonds.j2, if_pos hp, if_pos hp0, if_pos h0, if_pos h1, hg, rd_get L i hi, if_neg c2]
        simp only [Option.bind_some, Int.toNat_natCast, List.drop_left, List.take_left, if_pos (Int.le_of_lt hp)]
        rw [if_pos (by simp; omega), if_pos (by simp; omega), w1 hi (by omega)]
        rfl
section
variable {a : Int} {l : List S60} {day : Int} (ht : (tchk a l).2 = 0) (hd : 0 ≤ day ∧ day ≤ 100000) (L : List S35) (hL : L.length ≤ 16) (hx : ∀ y ∈ L, xok y = true)
include ht hd hL hx
theorem rGl_ev : ∀ (d i : Nat) (out : List Int) (s : Int), i + d = L.length → out.length = i →
    Ev (fun k => spileref51_Greatest.l0 k L day out s (i : Int) a l) (out ++ (L.drop i).map (gP a l day), gsum a l day s (L.drop i), 0)
  | 0, i, out, s, h, ho => by
    rw [List.drop_eq_nil_of_le (by omega)]
    refine Ev.succ (Ev.const _) (fun k => ?_)
    rw [spileref51_Greatest.l0, if_neg (by omega)]
    simp [gsum]
  | d + 1, i, out, s, h, ho => by
    have hi : i < L.length := by omega
    have h1 : (i : Int) < (L.length : Int) := by omega
    have h0 : (0 : Int) ≤ (i : Int) := by omega
    obtain ⟨q, hq⟩ := rmost1_ev ht hd (hx _ (List.getElem_mem hi))
    have ih := rGl_ev d (i + 1) (out ++ [gP a l day L[i]]) (wrap64 (s + gP a l day L[i])) (by omega) (by simp [ho])
    have e : ∀ k, spileref51_Greatest.l0 (k + 1) L day out s (i : Int) a l = (spileref51_most.f k a l L[i].f0 L[i].f1 L[i].f2 L[i].f3 L[i].f4 day).bind fun t => spileref51_Greatest.l0 k L day (out ++ [t.1]) (wrap64 (s + t.1)) ((i + 1 : Nat) : Int) a l := by
      intro k
      rw [spileref51_Greatest.l0, if_pos h1, if_pos h0, rd_get L i hi, w1 hi (by omega)]
      simp only [if_pos (show out.length < 17592186044416 by omega)]
    have er : (out ++ (L.drop i).map (gP a l day), gsum a l day s (L.drop i), (0 : Int)) = ((out ++ [gP a l day L[i]]) ++ (L.drop (i + 1)).map (gP a l day), gsum a l day (wrap64 (s + gP a l day L[i])) (L.drop (i + 1)), 0) := by
      rw [List.drop_eq_getElem_cons hi, List.map_cons, List.append_assoc]
      rfl
    rw [er]
    exact Ev.succ (Ev.bind hq ih) e
theorem rBl_ev : ∀ (d i : Nat), i + d = L.length → Ev (fun k => spileref51_Bonds.l0 k L day (bonds ((L.take i).map fun y => (y.f1, gP a l day y))) (i : Int) a l) (bonds (L.map fun y => (y.f1, gP a l day y)), 0)
  | 0, i, h => by
    rw [List.take_of_length_le (by omega)]
    exact Ev.succ (Ev.const _) (fun k => by rw [spileref51_Bonds.l0, if_neg (by omega)])
  | d + 1, i, h => by
    have hi : i < L.length := by omega
    have h1 : (i : Int) < (L.length : Int) := by omega
    have h0 : (0 : Int) ≤ (i : Int) := by omega
    have hm := hx _ (List.getElem_mem hi)
    obtain ⟨q, hq⟩ := rmost1_ev ht hd hm
    have hg := gP_in ht hd hm
    have hn : wrap64 (gP a l day L[i]) = gP a l day L[i] := by unfold wrap64; omega
    have ih := rBl_ev d (i + 1) (by omega)
    have et : (L.take (i + 1)).map (fun y => (y.f1, gP a l day y)) = (L.take i).map (fun y => (y.f1, gP a l day y)) ++ [(L[i].f1, gP a l day L[i])] := by
      rw [List.take_succ_eq_append_getElem hi, List.map_append]
      rfl
    rw [et, ← insH_bonds _ _ _ hn] at ih
    have hb := bonds_len ((L.take i).map fun y => (y.f1, gP a l day y))
    rw [List.length_map, List.length_take] at hb
    have e : ∀ k, spileref51_Bonds.l0 (k + 1) L day (bonds ((L.take i).map fun y => (y.f1, gP a l day y))) (i : Int) a l = (spileref51_most.f k a l L[i].f0 L[i].f1 L[i].f2 L[i].f3 L[i].f4 day).bind fun bt515 => spileref51_Bonds.l1 k L day (bonds ((L.take i).map fun y => (y.f1, gP a l day y))) (i : Int) bt515.1 0 a l := by
      intro k
      rw [spileref51_Bonds.l0, if_pos h1, if_pos h0, rd_get L i hi]
    exact Ev.succ (Ev.bind hq (rscan L hL (gP a l day L[i]) _ i hi _ [] (by simp only [List.length_nil]; omega) ih)) e
end
theorem rG_ev (a : Int) (l : List S60) (x : List S35) (day : Int) : Ev (fun k => spileref51_Greatest.f k a l x day) (GP a l x day) := by
  unfold spileref51_Greatest.f GP
  refine Ev.bind (asked_ev a l x day) ?_
  by_cases h : asksP a l x day = 0
  · obtain ⟨t1, t2, t3⟩ := asks_zero h
    obtain ⟨c1, c2⟩ := lchk_to t2
    simp only [if_pos h]
    exact rGl_ev t1 t3 x c1 c2 x.length 0 [] 0 (by omega) rfl
  · simp only [if_neg h]
    exact Ev.const _
theorem rB_ev (a : Int) (l : List S60) (x : List S35) (day : Int) : Ev (fun k => spileref51_Bonds.f k a l x day) (BP a l x day) := by
  unfold spileref51_Bonds.f BP
  refine Ev.bind (asked_ev a l x day) ?_
  by_cases h : asksP a l x day = 0
  · obtain ⟨t1, t2, t3⟩ := asks_zero h
    obtain ⟨c1, c2⟩ := lchk_to t2
    simp only [if_pos h]
    exact rBl_ev t1 t3 x c1 c2 x.length 0 (by omega)
  · simp only [if_neg h]
    exact Ev.const _
theorem sameIl (L : List Int) (hL : L.length ≤ 1000) : ∀ (d i : Nat), i + d = L.length → Ev (fun k => slices_Equal_int_int.l0 k L L (L.length : Int) (i : Int)) true
  | 0, i, h => Ev.succ (Ev.const _) (fun k => by rw [slices_Equal_int_int.l0, if_neg (by omega)])
  | d + 1, i, h => by
    have hi : i < L.length := by omega
    have h1 : (i : Int) < (L.length : Int) := by omega
    have h0 : (0 : Int) ≤ (i : Int) := by omega
    exact Ev.succ (sameIl L hL d (i + 1) (by omega)) (fun k => by rw [slices_Equal_int_int.l0, if_pos h1, if_pos h0, if_pos h1, if_pos h1, if_pos rfl, w1 hi hL])
theorem sameI (L : List Int) (hL : L.length ≤ 1000) : Ev (fun k => slices_Equal_int_int.f k L L) true := by
  unfold slices_Equal_int_int.f
  simp only [if_true]
  exact sameIl L hL L.length 0 (by omega)
theorem same42l (L : List S42) (hL : L.length ≤ 1000) : ∀ (d i : Nat), i + d = L.length → Ev (fun k => api_Hold.l0 k L L (L.length : Int) (i : Int)) true
  | 0, i, h => Ev.succ (Ev.const _) (fun k => by rw [api_Hold.l0, if_neg (by omega)])
  | d + 1, i, h => by
    have hi : i < L.length := by omega
    have h1 : (i : Int) < (L.length : Int) := by omega
    have h0 : (0 : Int) ≤ (i : Int) := by omega
    exact Ev.succ (same42l L hL d (i + 1) (by omega)) (fun k => by rw [api_Hold.l0, if_pos h1, if_pos h0, if_pos h1, if_pos h1, w1 hi hL]; simp)
theorem same42 (L : List S42) (hL : L.length ≤ 1000) : Ev (fun k => api_Hold.f k L L) true := by
  unfold api_Hold.f
  simp only [if_true]
  exact same42l L hL L.length 0 (by omega)
theorem sums_pure : LiabilitySumsPure := by
  intro x0 x1 x2 _ _ _
  refine Ev.one (g := fun k => spilelaw51_LiabilitySums.f k x0.f0 x0.f1 x1 x2) ?_
  unfold spilelaw51_LiabilitySums.f
  refine Ev.bind awake_ev ?_
  simp only [if_true, few_f, Option.bind_some]
  cases hf : fewB x0.f1 x1 with
  | false => exact Ev.succ (Ev.bind awake_ev (Ev.const _)) (fun k => by rw [spilelaw51_LiabilitySums.j0, if_pos (by rfl)])
  | true =>
    obtain ⟨h1, h2⟩ := few_len hf
    have hg : (GP x0.f0 x0.f1 x1 x2).1.length ≤ 1000 := by
      unfold GP
      split
      · rw [List.length_map]
        omega
      · exact Nat.zero_le _
    have hb : (BP x0.f0 x0.f1 x1 x2).1.length ≤ 1000 := by
      unfold BP
      split
      · have := bonds_len (x1.map fun y => (y.f1, gP x0.f0 x0.f1 x2 y))
        rw [List.length_map] at this
        show (bonds _).length ≤ 1000
        omega
      · exact Nat.zero_le _
    have e : ∀ k, spilelaw51_LiabilitySums.j0 (k + 1) x1 x2 (!true) x0.f0 x0.f1 = (liability_Greatest.f k x0.f0 x0.f1 x1 x2).bind fun bt568 => ((spileref51_Greatest.f k x0.f0 x0.f1 x1 x2).bind fun bt573 => ((liability_Bonds.f k x0.f0 x0.f1 x1 x2).bind fun bt585 => ((spileref51_Bonds.f k x0.f0 x0.f1 x1 x2).bind fun bt589 => ((slices_Equal_int_int.f k bt568.1 bt573.1).bind fun t593 => (if t593 = true then (if bt568.2.1 = bt573.2.1 then (if bt568.2.2 = bt573.2.2 then ((api_Hold.f k bt585.1 bt589.1).bind fun t594 => (if t594 = true then (some (bt585.2 == bt589.2)) else (none))) else (none)) else (none)) else (none)))))) := by
      intro k
      rw [spilelaw51_LiabilitySums.j0, if_neg (by decide)]
      simp only [ct_f x0.f0 x0.f1 (by omega), cl13_f x1 (by omega), Option.bind_some]
    refine Ev.succ (Ev.bind (G_ev _ _ _ _) (Ev.bind (rG_ev _ _ _ _) (Ev.bind (B_ev _ _ _ _) (Ev.bind (rB_ev _ _ _ _) (Ev.bind (sameI _ hg) ?_))))) e
    simp only [if_true]
    refine Ev.bind (same42 _ hb) ?_
    simp only [if_true, beq_self_eq_true]
    exact Ev.const _
end Go.Proofs.Ythboaobgipodiaa.K
namespace Go.Proofs.Ythboaobgipodiaa.Pure
theorem LiabilitySums : K.LiabilitySumsPure := K.sums_pure
end Go.Proofs.Ythboaobgipodiaa.Pure
