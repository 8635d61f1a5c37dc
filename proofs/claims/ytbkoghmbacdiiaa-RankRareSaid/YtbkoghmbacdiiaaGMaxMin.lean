/- By hand: slices.Max and slices.Min at whole numbers. -/
import Derived.Test.YtbkoghmbacdiiaaK0
import Derived.Test.YtbkoghmbacdiiaaGW
import Derived.Test.YtbkoghmbacdiiaaPFault
namespace Go.Proofs.Ytbkoghmbacdiiaa.K
open Go Go.RowKit Go.Proofs.YtbkoghmbacdiiaaW.PrintWords Go.Proofs.YtbkoghmbacdiiaaW.PrintLast Go.Proofs.YtbkoghmbacdiiaaW.PrintMore Go.Proofs.Ytbkoghmbacdiiaa.GW
set_option linter.unusedVariables false
set_option linter.unusedSimpArgs false
def max34.f : List Int → Option Int
  | [] => none
  | x :: t => some (t.foldl mx x)
theorem fold_take (f : Int → Int → Int) (x : Int) (t : List Int) (j : Nat) (h : j < t.length) : (t.take (j + 1)).foldl f x = f ((t.take j).foldl f x) (rd (x :: t) ((j + 1 : Nat) : Int)) := by
  have e : rd (x :: t) ((j + 1 : Nat) : Int) = t[j] := by unfold rd; simp [List.getD_eq_getElem?_getD, h]
  rw [e, ← List.take_append_getElem h, List.foldl_append]
  rfl
set_option maxHeartbeats 1000000 in
set_option maxRecDepth 100000 in
theorem max34.calls (A0 : Option Addr) (c0 : Nat) (l0 : List Int) (r : Int) (w : World) (hr0 : Kd.C (Kd.int .i64) w A0 l0.length l0) (hc0 : l0.length ≤ c0) (h : max34.f l0 = some r) :
    Calls Try.prog 34 #[.slice A0 l0.length c0] w fun e w' => e = .returned (.int .i64 r) ∧ Below w.heap.size w w' := by
  cases l0 with
  | nil => cases h
  | cons x t =>
    obtain rfl := Option.some.inj h
    obtain ⟨l, hl⟩ : ∃ l, l = x :: t := ⟨_, rfl⟩
    have HLL := Aside0.mk hl
    have HT : Aside0 (l.length = t.length + 1) := ⟨by rw [hl]; rfl⟩
    have HM : Aside0 (l.length ≤ 9223372036854775807) := ⟨by rw [hl]; exact hr0.2.1⟩
    rw [← hl] at hr0 ⊢
    have HR0 := Aside0.mk hr0
    have HB := Aside0.mk (Below.refl w.heap.size w)
    have c1 : decide ((l.length : Int) < 1) = false := decide_eq_false (by have := HT.out; omega)
    obtain ⟨ad, e1, x0⟩ := Kd.at_int hr0 0 (by omega) (by have := HT.out; omega)
    cases e1
    have hx : rd l 0 = x := by rw [hl]; rfl
    rw [hx] at x0
    replace x0 : w.cell? ad = some (.int .i64 x) := by simpa [Addr.add] using x0
    have p0 : ((0 : Int) < (l.length : Int)) = True := eq_true (by have := HT.out; omega)
    have p1 : (0 < l.length) = True := eq_true (by have := HT.out; omega)
    have p3 : (l = []) = False := eq_false (by rw [hl]; simp)
    clear hr0 hc0 h hl hx
    go_enter Try.func34, Try.ntmps34
    go_wp2
    try go_frame
    go_loopg [3, 4] t.length (fun kq v3 v4 w' => ∃ (j : Nat) (i : Int), v3 = .int .i64 ((t.take j).foldl mx x) ∧ v4 = .int .i64 i ∧ Aside0 (i = ((j + 1 : Nat) : Int)) ∧ Aside0 (j + kq = t.length) ∧ Aside0 (Below w.heap.size w w'))
    case atStart => exact ⟨0, 1, rfl, rfl, ⟨rfl⟩, ⟨by omega⟩, HB⟩
    case round =>
      clear HB x0
      obtain ⟨j, i, rfl, rfl, HI, HJ, HB⟩ := hrel
      cases gk with
      | zero =>
        have he : j = t.length := by have := HJ.out; omega
        have cz : decide (i < (l.length : Int)) = false := decide_eq_false (by have := HT.out; have := HI.out; omega)
        have HE := Aside0.mk (show t.take j = t by rw [he, List.take_length])
        clear he
        go_wp2
        go_ret
        exact ⟨by rw [HE.out]; rfl, HB.out⟩
      | succ gk =>
        have hj : j < t.length := by have := HJ.out; omega
        have cz : decide (i < (l.length : Int)) = true := decide_eq_true (by have := HT.out; have := HI.out; omega)
        obtain ⟨ad2, e1, x0⟩ := Kd.at_int (Kd.C_below HR0.out HB.out) i (by have := HI.out; omega) (by have := HT.out; have := HI.out; omega)
        cases e1
        have HF : Aside0 ((t.take (j + 1)).foldl mx x = mx ((t.take j).foldl mx x) (rd l i)) := ⟨by rw [HI.out, HLL.out]; exact fold_take mx x t j hj⟩
        have HW : Aside0 (wrap64 (i + 1) = ((j + 1 + 1 : Nat) : Int)) := ⟨by have := HM.out; have := HI.out; have := HT.out; unfold wrap64; omega⟩
        have p2 : (0 ≤ i) = True := eq_true (by have := HI.out; omega)
        have q2 : (i < (l.length : Int)) = True := eq_true (by have := HT.out; have := HI.out; omega)
        clear hj
        go_wp2
        · go_roundg gk
          case measure => omega
          case rel => exact ⟨j + 1, wrap64 (i + 1), by rw [HF.out, show mx (List.foldl mx x (List.take j t)) (rd l i) = rd l i from if_pos h], rfl, ⟨HW.out⟩, ⟨by have := HJ.out; omega⟩, HB⟩
        · go_roundg gk
          case measure => omega
          case rel => exact ⟨j + 1, wrap64 (i + 1), by rw [HF.out, show mx (List.foldl mx x (List.take j t)) (rd l i) = List.foldl mx x (List.take j t) from if_neg (Int.not_lt.2 h)], rfl, ⟨HW.out⟩, ⟨by have := HJ.out; omega⟩, HB⟩
def min35.f : List Int → Option Int
  | [] => none
  | x :: t => some (t.foldl mn x)
set_option maxHeartbeats 1000000 in
set_option maxRecDepth 100000 in
theorem min35.calls (A0 : Option Addr) (c0 : Nat) (l0 : List Int) (r : Int) (w : World) (hr0 : Kd.C (Kd.int .i64) w A0 l0.length l0) (hc0 : l0.length ≤ c0) (h : min35.f l0 = some r) :
    Calls Try.prog 35 #[.slice A0 l0.length c0] w fun e w' => e = .returned (.int .i64 r) ∧ Below w.heap.size w w' := by
  cases l0 with
  | nil => cases h
  | cons x t =>
    obtain rfl := Option.some.inj h
    obtain ⟨l, hl⟩ : ∃ l, l = x :: t := ⟨_, rfl⟩
    have HLL := Aside0.mk hl
    have HT : Aside0 (l.length = t.length + 1) := ⟨by rw [hl]; rfl⟩
    have HM : Aside0 (l.length ≤ 9223372036854775807) := ⟨by rw [hl]; exact hr0.2.1⟩
    rw [← hl] at hr0 ⊢
    have HR0 := Aside0.mk hr0
    have HB := Aside0.mk (Below.refl w.heap.size w)
    have c1 : decide ((l.length : Int) < 1) = false := decide_eq_false (by have := HT.out; omega)
    obtain ⟨ad, e1, x0⟩ := Kd.at_int hr0 0 (by omega) (by have := HT.out; omega)
    cases e1
    have hx : rd l 0 = x := by rw [hl]; rfl
    rw [hx] at x0
    replace x0 : w.cell? ad = some (.int .i64 x) := by simpa [Addr.add] using x0
    have p0 : ((0 : Int) < (l.length : Int)) = True := eq_true (by have := HT.out; omega)
    have p1 : (0 < l.length) = True := eq_true (by have := HT.out; omega)
    have p3 : (l = []) = False := eq_false (by rw [hl]; simp)
    clear hr0 hc0 h hl hx
    go_enter Try.func35, Try.ntmps35
    go_wp2
    try go_frame
    go_loopg [3, 4] t.length (fun kq v3 v4 w' => ∃ (j : Nat) (i : Int), v3 = .int .i64 ((t.take j).foldl mn x) ∧ v4 = .int .i64 i ∧ Aside0 (i = ((j + 1 : Nat) : Int)) ∧ Aside0 (j + kq = t.length) ∧ Aside0 (Below w.heap.size w w'))
    case atStart => exact ⟨0, 1, rfl, rfl, ⟨rfl⟩, ⟨by omega⟩, HB⟩
    case round =>
      clear HB x0
      obtain ⟨j, i, rfl, rfl, HI, HJ, HB⟩ := hrel
      cases gk with
      | zero =>
        have he : j = t.length := by have := HJ.out; omega
        have cz : decide (i < (l.length : Int)) = false := decide_eq_false (by have := HT.out; have := HI.out; omega)
        have HE := Aside0.mk (show t.take j = t by rw [he, List.take_length])
        clear he
        go_wp2
        go_ret
        exact ⟨by rw [HE.out]; rfl, HB.out⟩
      | succ gk =>
        have hj : j < t.length := by have := HJ.out; omega
        have cz : decide (i < (l.length : Int)) = true := decide_eq_true (by have := HT.out; have := HI.out; omega)
        obtain ⟨ad2, e1, x0⟩ := Kd.at_int (Kd.C_below HR0.out HB.out) i (by have := HI.out; omega) (by have := HT.out; have := HI.out; omega)
        cases e1
        have HF : Aside0 ((t.take (j + 1)).foldl mn x = mn ((t.take j).foldl mn x) (rd l i)) := ⟨by rw [HI.out, HLL.out]; exact fold_take mn x t j hj⟩
        have HW : Aside0 (wrap64 (i + 1) = ((j + 1 + 1 : Nat) : Int)) := ⟨by have := HM.out; have := HI.out; have := HT.out; unfold wrap64; omega⟩
        have p2 : (0 ≤ i) = True := eq_true (by have := HI.out; omega)
        have q2 : (i < (l.length : Int)) = True := eq_true (by have := HT.out; have := HI.out; omega)
        clear hj
        go_wp2
        · go_roundg gk
          case measure => omega
          case rel => exact ⟨j + 1, wrap64 (i + 1), by rw [HF.out, show mn (List.foldl mn x (List.take j t)) (rd l i) = rd l i from if_pos h], rfl, ⟨HW.out⟩, ⟨by have := HJ.out; omega⟩, HB⟩
        · go_roundg gk
          case measure => omega
          case rel => exact ⟨j + 1, wrap64 (i + 1), by rw [HF.out, show mn (List.foldl mn x (List.take j t)) (rd l i) = List.foldl mn x (List.take j t) from if_neg (Int.not_lt.2 h)], rfl, ⟨HW.out⟩, ⟨by have := HJ.out; omega⟩, HB⟩
end Go.Proofs.Ytbkoghmbacdiiaa.K
