/- By hand: seal.Intact: the seals that are intact at a place behind a day, in ascending order. -/
import Derived.Test.YtfjenooajbdcmaaGAsked
import Derived.Test.YtfjenooajbdcmaaGSort
namespace Go.Proofs.Ytfjenooajbdcmaa.K
open Go Go.RowKit Go.Maps Go.Sort Go.Proofs.YtfjenooajbdcmaaW.PrintWords Go.Proofs.YtfjenooajbdcmaaW.PrintLast Go.Proofs.YtfjenooajbdcmaaW.PrintMore Go.Proofs.Ytfjenooajbdcmaa.GM Go.Proofs.Ytfjenooajbdcmaa.GW
set_option linter.unusedVariables false
/-! ### plain -/
def insU (x : Int) : List Int → List Int
  | [] => [x]
  | y :: l => if x < y then x :: y :: l else if x = y then y :: l else y :: insU x l
theorem mem_insU (x z : Int) : ∀ l, z ∈ insU x l ↔ z = x ∨ z ∈ l
  | [] => by simp [insU]
  | y :: l => by
    unfold insU
    have ih := mem_insU x z l
    split
    · simp
    · split
      · rename_i h
        subst h
        simp
      · rw [List.mem_cons, ih, List.mem_cons]
        constructor
        · rintro (h | h | h)
          · exact .inr (.inl h)
          · exact .inl h
          · exact .inr (.inr h)
        · rintro (h | h | h)
          · exact .inr (.inl h)
          · exact .inl h
          · exact .inr (.inr h)
theorem asc_insU (x : Int) : ∀ l : List Int, l.Pairwise (· < ·) → (insU x l).Pairwise (· < ·)
  | [], _ => by simp [insU]
  | y :: l, h => by
    obtain ⟨h1, h2⟩ := List.pairwise_cons.1 h
    unfold insU
    split
    · rename_i hx
      refine List.pairwise_cons.2 ⟨fun z hz => ?_, h⟩
      rcases List.mem_cons.1 hz with rfl | hz
      · exact hx
      · have := h1 z hz
        omega
    · split
      · exact h
      · rename_i hx hne
        refine List.pairwise_cons.2 ⟨fun z hz => ?_, asc_insU x l h2⟩
        rcases (mem_insU x z l).1 hz with rfl | hz
        · omega
        · exact h1 z hz
theorem asc_ext : ∀ a b : List Int, a.Pairwise (· < ·) → b.Pairwise (· < ·) → (∀ x, x ∈ a ↔ x ∈ b) → a = b
  | [], [], _, _, _ => rfl
  | [], y :: b, _, _, h => by have := (h y).2 (by simp); simp at this
  | x :: a, [], _, _, h => by have := (h x).1 (by simp); simp at this
  | x :: a, y :: b, ha, hb, h => by
    obtain ⟨a1, a2⟩ := List.pairwise_cons.1 ha
    obtain ⟨b1, b2⟩ := List.pairwise_cons.1 hb
    have e : x = y := by
      rcases List.mem_cons.1 ((h x).1 (by simp)) with e | hx
      · exact e
      · rcases List.mem_cons.1 ((h y).2 (by simp)) with e | hy
        · exact e.symm
        · have := a1 y hy
          have := b1 x hx
          omega
    subst e
    congr 1
    refine asc_ext a b a2 b2 (fun z => ⟨fun hz => ?_, fun hz => ?_⟩)
    · rcases List.mem_cons.1 ((h z).1 (List.mem_cons_of_mem _ hz)) with e | hz'
      · have := a1 z hz
        omega
      · exact hz'
    · rcases List.mem_cons.1 ((h z).2 (List.mem_cons_of_mem _ hz)) with e | hz'
      · have := b1 z hz
        omega
      · exact hz'
/-- The numbers of the seals, each once, in ascending order. -/
def sids (l : List S34) : List Int := l.foldr (fun x ks => insU x.f2 ks) []
theorem mem_sids (z : Int) : ∀ l : List S34, z ∈ sids l ↔ z ∈ l.map (·.f2)
  | [] => by simp [sids]
  | x :: l => by
    show z ∈ insU x.f2 (sids l) ↔ _
    rw [mem_insU, mem_sids z l, List.map_cons, List.mem_cons]
theorem asc_sids : ∀ l : List S34, (sids l).Pairwise (· < ·)
  | [] => by simp [sids]
  | x :: l => asc_insU _ _ (asc_sids l)
theorem folgo_mem : ∀ (l : List S34) (M : Int → Option St) (p : Option Int) (i : Nat) (z : Int), ((folgo M p i l).1 z).isSome = true → (M z).isSome = true ∨ z ∈ l.map (·.f2)
  | [], M, p, i, z, h => .inl h
  | x :: l, M, p, i, z, h => by
    rw [folgo] at h
    by_cases c : faultP M p x = 0
    · rw [if_pos c] at h
      rcases folgo_mem l _ _ _ z h with h | h
      · unfold stepP mput at h
        by_cases e : z = x.f2
        · exact .inr (by rw [e]; simp)
        · rw [if_neg e] at h
          exact .inl h
      · exact .inr (List.mem_cons_of_mem _ h)
    · rw [if_neg c] at h
      exact .inl h
theorem fol_mem (l : List S34) (z : Int) (h : ((fol l).1 z).isSome = true) : z ∈ sids l := by
  unfold fol at h
  rw [mem_sids]
  by_cases c : l.length > 128
  · rw [if_pos c] at h
    cases h
  · rw [if_neg c] at h
    rcases folgo_mem l _ _ _ z h with h | h
    · cases h
    · exact h
def intactM (l : List S34) (place day : Int) : Int → Option St := fun x => (ownP l place x).filter fun s => !(decide (s.fr > day) || decide (s.tt ≤ day))
def intactL (l : List S34) (place day : Int) : List Int := (sids l).filter fun z => (intactM l place day z).isSome
theorem filter_some {α : Type} {o : Option α} {p : α → Bool} (h : (o.filter p).isSome = true) : o.isSome = true := by
  cases o with
  | none => exact h
  | some a => rfl
theorem mem_intactL (l : List S34) (place day z : Int) : z ∈ intactL l place day ↔ (intactM l place day z).isSome = true := by
  unfold intactL
  rw [List.mem_filter]
  refine ⟨fun h => h.2, fun h => ⟨fol_mem l z ?_, h⟩⟩
  unfold intactM ownP at h
  exact filter_some (filter_some h)
theorem asc_intactL (l : List S34) (place day : Int) : (intactL l place day).Pairwise (· < ·) := (asc_sids l).filter _
def seal_Intact.f (l : List S34) (place day : Int) : Option (List Int × Int) :=
  if (l.all wf34) = true then (if askE l place [day] = 0 then some (intactL l place day, 0) else some ([], askE l place [day])) else none
theorem all_wf {l : List S34} (h : l.all wf34 = true) : ∀ x ∈ l, wf34 x = true := fun x hx => List.all_eq_true.1 h x hx

theorem ask_len {l : List S34} {place : Int} {ds : List Int} (h : askE l place ds = 0) : l.length ≤ 128 := by
  unfold askE at h
  by_cases c : (fol l).2.2 ≠ 0
  · rw [if_pos c] at h
    cases h
  · by_cases b : l.length > 128
    · exfalso
      apply c
      unfold fol
      rw [if_pos b]
      decide
    · omega
/-! ### words -/
theorem AskEnd.bad {l : List S34} {place : Int} {ds : List Int} {w w' : World} {e : Ending} (h : AskEnd l place ds w e w') (hz : askE l place ds ≠ 0) : e = .returned (.tuple #[.map none, .int .i64 (askE l place ds)]) := by
  rcases h with ⟨_, h⟩ | ⟨h, _⟩
  · exact h
  · exact absurd h hz
theorem AskEnd.good {l : List S34} {place : Int} {ds : List Int} {w w' : World} {e : Ending} (h : AskEnd l place ds w e w') (hz : askE l place ds = 0) : ∃ gm, w.heap.size ≤ gm ∧ e = .returned (.tuple #[.map (some gm), .int .i64 0]) ∧ HM w' gm l.length (ownP l place) := by
  rcases h with ⟨h, _⟩ | ⟨_, h⟩
  · exact absurd hz h
  · exact h
theorem R_ints {e : Nat} {w : World} {base : Nat} {v : Value} {xs : List Int} (ho : w.ownsRow base e 1 v xs.length (xs.map (Value.int .i64))) : (Kd.int .i64).R e w base (fun _ => True) v xs := by
  refine ⟨fun _ _ => trivial, xs.map (Value.int .i64), ho, by simp [Kd.int, Kd.scalar], fun j p hj => ?_⟩
  obtain ⟨hl, hp⟩ := List.getElem?_eq_some_iff.1 hj
  have hl' : j < (xs.map (Value.int .i64)).length := by simpa using hl
  show ((xs.map (Value.int .i64)).drop (j * 1)).take 1 = [Value.int .i64 p]
  rw [Nat.mul_one, List.drop_eq_getElem_cons hl']
  simp [hp]
theorem C_new (W : World) (xs : List Int) (hx : 0 < xs.length) (hm : xs.length ≤ maxLen) : Kd.C (Kd.int .i64) (W.alloc (.cells (xs.map (Value.int .i64)).toArray 3)) (some ⟨W.heap.size, 0, none⟩) xs.length xs := by
  have ho : (W.alloc (.cells (xs.map (Value.int .i64)).toArray 3)).ownsRow 0 3 1 (.slice (some ⟨W.heap.size, 0, none⟩) xs.length xs.length) xs.length (xs.map (Value.int .i64)) :=
    ⟨by simp, .inr ⟨W.heap.size, xs.length, (xs.map (Value.int .i64)).toArray, rfl, Nat.zero_le _, blk_new W _, Nat.le_refl _, hm, by simp, by simp [List.take_of_length_le]⟩⟩
  exact (Kd.R_reads' (R_ints ho)).2.2
theorem HM.sorted {w : World} {gm n : Nat} {M : Int → Option St} (h : HM w gm n M) {L : List Int} (hasc : L.Pairwise (· < ·)) (hn : n ≤ 128) (hin : ∀ x, x ∈ L ↔ (M x).isSome = true) :
    Calls Try.prog 40 #[.func (.func 61) #[] #[.pointer (some ⟨w.heap.size, 0, none⟩)]] (w.alloc (.cells #[.map (some gm)] 56)) fun e w' => ∃ v : Value, e = .returned v ∧ Kd.R (Kd.int .i64) 3 w' w.heap.size (fun _ => True) v L ∧ Below w.heap.size w w' := by
  obtain ⟨D, h1, h2⟩ := h.out
  have hle := h1.size_le
  refine (Try.sorted40 gm n D stR w h1 (by unfold maxLen; omega) (by omega)).mono ?_
  rintro e w' ⟨v, ss, rfl, hS, hrow, hb⟩
  refine ⟨v, rfl, ?_, hb⟩
  have hP : L.Perm (intKeys D) := by
    refine CollectedI.perm (left := fun _ => false) ⟨hasc.imp (fun h => Int.ne_of_lt h), fun x => ?_⟩ h1 K3 Try.underlying3 (fun _ => rfl)
    rw [hin x, h2.1 x]
    simp
  have e2 : L.mergeSort leI = L := List.mergeSort_of_pairwise (hasc.imp (fun h => decide_eq_true (Int.le_of_lt h)))
  have hsort : ss.mergeSort (fun x y => decide (x ≤ y)) = L := (mergeSort_of_perm_i (hS.trans hP.symm)).trans e2
  have hlen : ss.length = L.length := (hS.trans hP.symm).length_eq
  rw [hsort, hlen] at hrow
  exact R_ints hrow
end Go.Proofs.Ytfjenooajbdcmaa.K
namespace Go.Proofs.Ytfjenooajbdcmaa.K
open Go Go.RowKit Go.Maps Go.Sort Go.Proofs.YtfjenooajbdcmaaW.PrintWords Go.Proofs.YtfjenooajbdcmaaW.PrintLast Go.Proofs.YtfjenooajbdcmaaW.PrintMore Go.Proofs.Ytfjenooajbdcmaa.GM Go.Proofs.Ytfjenooajbdcmaa.GW
set_option linter.unusedVariables false
set_option maxHeartbeats 2000000 in
set_option maxRecDepth 100000 in
theorem seal_Intact.calls (A0 : Option Addr) (c0 : Nat) (l0 : List S34) (a1 a2 : Int) (r1 : List Int) (r2 : Int) (w : World) (hr0 : Kd.C k34 w A0 l0.length l0) (hc0 : l0.length ≤ c0) (h : seal_Intact.f l0 a1 a2 = some (r1, r2)) :
    Calls Try.prog 13 #[.slice A0 l0.length c0, .int .i64 a1, .int .i64 a2] w fun e w' => ∃ v0_ : Value, e = .returned (.tuple #[v0_, .int .i64 r2]) ∧ Kd.R (Kd.int .i64) 3 w' w.heap.size (fun _ => True) v0_ r1 ∧ Below w.heap.size w w' := by
  unfold seal_Intact.f at h
  by_cases hwf : (l0.all wf34) = true
  · rw [if_pos hwf] at h
    have HR0 := Aside0.mk hr0
    have HC0 := Aside0.mk hc0
    have HW := Aside0.mk (all_wf hwf)
    have HB := Aside0.mk (Below.refl w.heap.size w)
    clear hr0 hc0 hwf
    by_cases ha : askE l0 a1 [a2] = 0
    · rw [if_pos ha] at h
      simp only [Option.some.injEq, Prod.mk.injEq] at h
      obtain ⟨rfl, rfl⟩ := h
      have HA := Aside0.mk ha
      have HLEN : Aside0 (l0.length ≤ 128) := ⟨ask_len ha⟩
      clear ha
      go_enter Try.func13, Try.ntmps13
      go_wp2_with (first
        | ((with_reducible refine gqD (N := 5) rfl ?_); refine GS.bx (N := 5) (cs := #[.int .i64 a2]) (t := 3) ?_; intro g5 hg w1 hbox hb; have n0_ := Aside0.mk (lqT (GS.lB HB.out) hb); have B5 := Aside0.mk hbox; have G5 : Aside0 (w.heap.size ≤ g5) := ⟨by rw [hg]; exact (lqZ (GS.lB HB.out))⟩; clear HB; have HB := n0_; clear n0_ hb hbox hg; obtain ⟨hz5, hf5⟩ := GS.c1 B5.out)
        | ((with_reducible show Calls Try.prog 37 _ _ _); refine (asked_calls A0 c0 l0 a1 _ _ [a2] _ (GS.rC (Kd.C_below HR0.out HB.out)) HC0.out HW.out (C_new _ [a2] (by simp) (by unfold maxLen; simp))).mono ?_; rintro e w3 ⟨hae, hb⟩; obtain ⟨gm, hge, rfl, hm⟩ := hae.good HA.out; have GM_ : Aside0 (w.heap.size ≤ gm) := ⟨Nat.le_trans (lqZ (GS.lB HB.out)) hge⟩; have NG : Aside0 (g5 ≠ gm) := ⟨Nat.ne_of_lt (Nat.lt_of_lt_of_le (blk_lt (GS.bqX B5.out)) hge)⟩; have n0_ := Aside0.mk (lqT (GS.lB HB.out) hb); have n1_ := Aside0.mk (bqB (GS.bqX B5.out) hb); have HM_ := Aside0.mk hm; clear HB B5 hz5 hf5 hae hb hge hm; have HB := n0_; have B5 := n1_; clear n0_ n1_; obtain ⟨hz5, hf5⟩ := GS.c1 B5.out)
        | ((with_reducible show Calls Try.prog 38 _ _ _); refine (deleteFunc gm l0.length (ownP l0 a1) 39 #[.pointer (some ⟨g5, 0, none⟩)] (fun _ s => decide (s.fr > a2) || decide (s.tt ≤ a2)) _ HM_.out (pred39 a2 g5 gm _ NG.out (blk_lt (GS.bqX B5.out)) ((bqC B5.out 0).trans rfl)) eg39).mono ?_; rintro e w5 ⟨rfl, hm5, hg5⟩; have HM5 := Aside0.mk hm5; have n0_ := Aside0.mk (below_past (GS.lB HB.out) hg5 GM_.out); clear HB B5 HM_ hz5 hf5 hm5 hg5; have HB := n0_; clear n0_)
        | ((with_reducible show Calls Try.prog 41 _ _ _); refine (Try.keys41 _ _).mono ?_; rintro e W' ⟨rfl, rfl⟩)
        | ((with_reducible show Calls Try.prog 40 _ _ _); refine (HM.sorted HM5.out (L := intactL l0 a1 a2) (asc_intactL l0 a1 a2) HLEN.out (mem_intactL l0 a1 a2)).mono ?_; rintro e w9 ⟨v, rfl, hro, hb⟩; have HK9 := Aside0.mk (Kd.R_lower hro (lqZ (GS.lB HB.out))); have n0_ := Aside0.mk (lqT (GS.lB HB.out) hb); clear HB HM5 hb hro; have HB := n0_; clear n0_))
      go_ret2
      exact ⟨_, rfl, GS.rR HK9.out, GS.lB HB.out⟩
    · rw [if_neg ha] at h
      simp only [Option.some.injEq, Prod.mk.injEq] at h
      obtain ⟨rfl, rfl⟩ := h
      have HA := Aside0.mk ha
      have cn : (askE l0 a1 [a2] != 0) = true := bne_iff_ne.mpr ha
      clear ha
      go_enter Try.func13, Try.ntmps13
      go_wp2_with (first
        | ((with_reducible refine gqD (N := 5) rfl ?_); refine GS.bx (N := 5) (cs := #[.int .i64 a2]) (t := 3) ?_; intro g5 hg w1 hbox hb; have n0_ := Aside0.mk (lqT (GS.lB HB.out) hb); have B5 := Aside0.mk hbox; have G5 : Aside0 (w.heap.size ≤ g5) := ⟨by rw [hg]; exact (lqZ (GS.lB HB.out))⟩; clear HB; have HB := n0_; clear n0_ hb hbox hg; obtain ⟨hz5, hf5⟩ := GS.c1 B5.out)
        | ((with_reducible show Calls Try.prog 37 _ _ _); refine (asked_calls A0 c0 l0 a1 _ _ [a2] _ (GS.rC (Kd.C_below HR0.out HB.out)) HC0.out HW.out (C_new _ [a2] (by simp) (by unfold maxLen; simp))).mono ?_; rintro e w3 ⟨hae, hb⟩; obtain rfl := hae.bad HA.out; have n0_ := Aside0.mk (lqT (GS.lB HB.out) hb); clear HB B5 hz5 hf5 hae hb; have HB := n0_; clear n0_))
      go_ret2
      exact ⟨_, rfl, Kd.R_nil _ _ _ _ _, GS.lB HB.out⟩
  · rw [if_neg hwf] at h
    cases h
end Go.Proofs.Ytfjenooajbdcmaa.K
