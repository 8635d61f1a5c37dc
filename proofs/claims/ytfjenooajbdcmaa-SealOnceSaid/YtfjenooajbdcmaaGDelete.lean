/- By hand: maps.DeleteFunc at a map of standings, and the two predicates that package seal hands to it. -/
import Derived.Test.YtfjenooajbdcmaaGMapW
import Derived.Test.YtfjenooajbdcmaaGShort
import Derived.KernelRfl
namespace Go.Proofs.Ytfjenooajbdcmaa.GM
open Go Go.RowKit Go.Maps Go.Proofs.YtfjenooajbdcmaaW.PrintWords Go.Proofs.YtfjenooajbdcmaaW.PrintLast Go.Proofs.YtfjenooajbdcmaaW.PrintMore
set_option linter.unusedVariables false
/-- Predicate p as a function value that captures what lies in blocks beside gm. -/
def PredM (g : Nat) (lb : Array Value) (p : Int → St → Bool) (gm : Nat) (w : World) : Prop :=
  ∀ W x s, w.grownBy W (some gm) → Calls Try.prog g (#[.int .i64 x, stV s] ++ lb) W fun e w' => e = .returned (.bool (p x s)) ∧ Below W.heap.size W w'
theorem cell_grown {w W : World} {gm g : Nat} (h : w.grownBy W (some gm)) (hne : g ≠ gm) (hg : g < w.heap.size) (j : Nat) : W.cell? ⟨g, j, none⟩ = w.cell? ⟨g, j, none⟩ := by
  have e : W.heap[g]? = w.heap[g]? := h.block g hg (by simp [hne])
  simp only [World.cell?, e]
theorem pred39 (day : Int) (gb gm : Nat) (w : World) (hne : gb ≠ gm) (hB : gb < w.heap.size) (hc : w.cell? ⟨gb, 0, none⟩ = some (.int .i64 day)) :
    PredM 39 #[.pointer (some ⟨gb, 0, none⟩)] (fun _ s => decide (s.fr > day) || decide (s.tt ≤ day)) gm w := by
  intro W x s hg
  have hcw := (cell_grown hg hne hB 0).trans hc
  have hBW : gb < W.heap.size := Nat.lt_of_lt_of_le hB hg.size
  have hne2 : gb ≠ W.heap.size := by omega
  show Calls Try.prog 39 #[.int .i64 x, .agg #[.int .i64 s.pl, .int .i64 s.fr, .int .i64 s.tt], .pointer (some ⟨gb, 0, none⟩)] W _
  cases c1 : decide (s.fr > day)
  · go_enter Try.func39, Try.ntmps39
    go_wp2
    all_goals (go_ret; exact ⟨by simp_all <;> omega, (Below.refl _ _).alloc (Nat.le_refl _) _⟩)
  · go_enter Try.func39, Try.ntmps39
    go_wp2
    all_goals (go_ret; exact ⟨by simp_all, (Below.refl _ _).alloc (Nat.le_refl _) _⟩)
theorem pred58 (place : Int) (gb gm : Nat) (w : World) (hne : gb ≠ gm) (hB : gb < w.heap.size) (hc : w.cell? ⟨gb, 0, none⟩ = some (.int .i64 place)) :
    PredM 58 #[.pointer (some ⟨gb, 0, none⟩)] (fun _ s => s.pl != place) gm w := by
  intro W x s hg
  have hcw := (cell_grown hg hne hB 0).trans hc
  have hBW : gb < W.heap.size := Nat.lt_of_lt_of_le hB hg.size
  have hne2 : gb ≠ W.heap.size := by omega
  show Calls Try.prog 58 #[.int .i64 x, .agg #[.int .i64 s.pl, .int .i64 s.fr, .int .i64 s.tt], .pointer (some ⟨gb, 0, none⟩)] W _
  go_enter Try.func58, Try.ntmps58
  go_wp2
  all_goals (go_ret; exact ⟨by simp_all, (Below.refl _ _).alloc (Nat.le_refl _) _⟩)
/-- A call of a function value that captures lb. -/
theorem goesV {P : Program} {ops : Array Oper} {rest : List Oper} {oi : Oper} {a : Act} {Q : Exit → Act → World → Prop} {w : World} (N : Option Tmp) (hd : oi.dst = N) (hg : oi.guard = none) (g : Nat) (lb : Array Value) (heg : ∀ args w, (callFunc g args).run P w = .ok (.enter g args) w)
    (fo : Operand) {ar : Array Operand} {ts : Array TypeId} (hop : oi.op = .call { callee := .value fo, args := ar, argTypes := ts }) (hf : a.eval fo = .func (.func g) #[] lb) (args : Array Value) (hargs : ar.map a.eval = args)
    (h : Calls P g (args ++ lb) w fun e w' => ∃ v, e = .returned v ∧ wpList P ops Q rest (a.put N v) w') : wpList P ops Q (oi :: rest) a w := by
  refine wpList_plain hg fun K hK => ?_
  subst hd
  have hrun : (execOp a.eval oi).run P w = .ok (.enter g (args ++ lb)) w := by
    unfold execOp
    simp [hop, resolve, Deferred.ofValue, invoke, hf, hargs, heg]
  unfold Oper.wp
  rw [hrun, Oper.upon_enter]
  refine h.mono fun e w'' hh => ?_
  obtain ⟨v, rfl, hk⟩ := hh
  exact hK _ _ hk
set_option maxHeartbeats 4000000 in
set_option maxRecDepth 100000 in
theorem deleteFunc (gm n : Nat) (M : Int → Option St) (g : Nat) (lb : Array Value) (p : Int → St → Bool) (w : World) (hm : HM w gm n M) (hp : PredM g lb p gm w) (heg : ∀ args w, (callFunc g args).run Try.prog w = .ok (.enter g args) w) :
    Calls Try.prog 38 #[.map (some gm), .func (.func g) #[] lb] w fun e w' => e = .returned (.tuple #[]) ∧ HM w' gm n (fun x => (M x).filter fun s => !p x s) ∧ w.grownBy w' (some gm) := by
  have hlt := hm.lt
  have hu61 := Try.underlying61
  go_enter Try.func38, Try.ntmps38
  go_wp2_with (first | (at_range; refine wp_range (gm := gm) (n := n) (M := M) _ rfl rfl rfl hm ?_; intro w1 left0 cnt0 hr0 hl0 hg0 hs0))
  go_frame
  go_loopg [] cnt0 (fun kq w' => ∃ left cnt, Aside0 (cnt ≤ kq) ∧ Aside0 (HR w' gm w.heap.size n (mleft M p left) left cnt) ∧ Aside0 (w.grownBy w' (some gm)) ∧ Aside0 (w.heap.size < w'.heap.size))
  case atStart => exact ⟨left0, cnt0, ⟨Nat.le_refl _⟩, ⟨hr0.congr (mleft_start hl0)⟩, ⟨hg0.but _⟩, ⟨by omega⟩⟩
  case round =>
    obtain ⟨left, cnt, HK, HR_, HG, HZ⟩ := hrel
    go_wp2_with (first | (at_next; refine wp_next (r := w.heap.size) (gm := gm) (n := n) _ rfl rfl rfl HR_.out ?_ ?_))
    · intro hl0
      have hend : HM wr gm n (fun x => (M x).filter fun s => !p x s) := HR_.out.owns.congr (fun x => by unfold mleft; rw [hl0]; simp)
      go_wp2
      go_end0
      exact ⟨rfl, hend, HG.out⟩
    · intro x s w2 cnt2 hwx hlx hMx hr2 hlt2 hg2 hs2 hen
      have hg3 := HG.out.andThen hg2 (fun j hj => by cases hj; exact Or.inl (Nat.le_refl _))
      have hg4 : ∀ ob : Obj, w.grownBy (w2.alloc ob) (some gm) := fun ob => hg3.andThen (World.grownBy_alloc w2 ob none) (fun j hj => by cases hj)
      have hz2 : w.heap.size < w2.heap.size := by rw [hs2]; exact HZ.out
      have hstep : ∀ (ob : Obj) (w4 : World), Below (w2.alloc ob).heap.size (w2.alloc ob) w4 → w2.grownBy w4 none ∧ w2.heap.size ≤ w4.heap.size := fun ob w4 hb => ⟨(World.grownBy_alloc w2 ob none).andThen (grown_of_below hb none) (fun j hj => by cases hj), Nat.le_trans (World.grownBy_alloc w2 ob none).size hb.size⟩
      cases gk with
      | zero => exact absurd HK.out (by omega)
      | succ gk =>
        cases hps : p x s with
        | false =>
          go_wp2_with (first | (refine (hp _ x s (hg4 _)).mono ?_; rintro e w4 ⟨rfl, hb4⟩; rw [hps]))
          obtain ⟨hk4, hz4⟩ := hstep _ _ hb4
          go_roundg gk
          case measure => omega
          case rel => exact ⟨_, cnt2, ⟨by have := HK.out; omega⟩, ⟨(hr2.kept hk4 (by simp) (by simp)).congr (mleft_keep hlx (mleft_at hlx hMx) hps)⟩, ⟨hg3.andThen hk4 (fun j hj => by cases hj)⟩, ⟨by omega⟩⟩
        | true =>
          go_wp2_with (first | (refine (hp _ x s (hg4 _)).mono ?_; rintro e w4 ⟨rfl, hb4⟩; rw [hps]; obtain ⟨hk4, hz4⟩ := hstep _ _ hb4; have hr4 := hr2.kept hk4 (by simp) (by simp)) | (at_delete; refine wp_delete (r := w.heap.size) (gm := gm) (n := n) _ _ rfl rfl rfl x rfl hr4 hwx ?_; intro w5 cnt5 hr5 hle5 hg5; go_frame))
          go_roundg gk
          case measure => omega
          case rel => exact ⟨_, cnt5, ⟨by have := HK.out; omega⟩, ⟨(hr5.congr (mleft_del hlx (mleft_at hlx hMx) hps)).left_congr (fun z => by cases left z <;> cases z.sameKey (.int .i64 x) <;> rfl)⟩, ⟨(hg3.andThen hk4 (fun j hj => by cases hj)).andThen hg5 (fun j hj => by cases hj; exact Or.inr rfl)⟩, ⟨by have := hg5.size; omega⟩⟩
end Go.Proofs.Ytfjenooajbdcmaa.GM
