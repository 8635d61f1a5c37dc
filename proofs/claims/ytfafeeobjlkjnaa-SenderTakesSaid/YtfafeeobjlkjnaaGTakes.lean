/- By hand: a clone, and DeleteFunc over it at the closure of SenderTakes, as one step. -/
import Derived.Test.YtfafeeobjlkjnaaGDf24
import Derived.Test.YtfafeeobjlkjnaaGClone
namespace Go.Proofs.Ytfafeeobjlkjnaa.K
open Go.RowKit Go.Proofs.YtfafeeobjlkjnaaW.PrintWords Go.Proofs.YtfafeeobjlkjnaaW.PrintLast Go.Proofs.YtfafeeobjlkjnaaW.PrintMore Go.Proofs.Ytfafeeobjlkjnaa.GW
set_option linter.unusedVariables false
set_option linter.unusedSimpArgs false

def delf24.f (l : List S33) (h0 h1 : Int) : Option (List S33) := (api_Envelope_21.f l).bind fun m => some (m.filter (fun x => !(x.f2 == h1)))
theorem delf24_open {l t : List S33} {h0 h1 : Int} (h : delf24.f l h0 h1 = some t) : api_Envelope_21.f l = some l ∧ t = l.filter (fun x => !(x.f2 == h1)) := by
  unfold delf24.f api_Envelope_21.f at h
  unfold api_Envelope_21.f
  by_cases hl : l.length < 1759218604441
  · rw [if_pos hl] at h ⊢
    exact ⟨rfl, (Option.some.inj h).symm⟩
  · rw [if_neg hl] at h
    cases h
theorem delf24.calls (g : Nat) (h0 h1 : Int) (A : Option Addr) (c : Nat) (l t : List S33) (W w : World) (ht : t = l.filter (fun x => !(x.f2 == h1))) (ho : Kd.R k33 33 w W.heap.size (fun _ => True) (.slice A l.length c) l) (hb : Below W.heap.size W w)
    (hg : w.heap[g]? = some (.cells #[.int .i64 h0, .int .i64 h1] 44 (0, 0))) :
    Calls Try.prog 23 #[.slice A l.length c, .func (.func 24) #[] #[.pointer (some ⟨g, 0, none⟩)]] w fun e w' => ∃ v1_ : Value, e = .returned v1_ ∧ Kd.R k33 33 w' W.heap.size (fun _ => True) v1_ t ∧ Below W.heap.size W w' := by
  subst ht
  refine (delf23_24.calls (.pointer (some ⟨g, 0, none⟩)) (fun x => x.f2 == h1) A c l W.heap.size (fun _ => True) _ ho (fun W' x hg_ => takes24.calls g h0 h1 x W' (blk_grown hg hg_ (Kd.R_ne ho hg (by decide))))).mono ?_
  rintro e w8 ⟨v', rfl, ho_, hg_⟩
  exact ⟨_, rfl, ho_, hb.grown hg_ hb.size (fun q hq => Kd.R_base ho q hq)⟩
end Go.Proofs.Ytfafeeobjlkjnaa.K
