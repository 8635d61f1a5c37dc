/-
  No cell of these rows narrows 'for every input' (looked for: loops, veiled, ifaces, maps, wideKeys, modest, calm, conditions, laid).
  DERIVED. THE GIVEN ROWS OF THIS SEAT. 7 by the template 'for every input the law returns true; each argument reads behind the call as it read before'; 0 by the template 'total and deterministic' (their statements: YtmcmbjkjilcmeaaTotals.lean).
  GIVEN WITH THE SEED: the statements are not yours to turn. If you find one false, say at which input.
  Laid BY PROGRAM, IN A SANDBOX (cutbox-rows.mjs): the forced cells as the released guide's own fill.sh prints them over the translation 400ae08fd4579a3a… (all of the seat's roots in one cut). By AI agents, Wed Nov 11 2026. No macro, syntax, notation, axiom, sorry.
-/
import Derived.Test.YtmcmbjkjilcmeaaChecked
import GoSem.Claim
import GoSem.ClaimJoined
import GoSem.ClaimMapViews
import Derived.JoinedTies
import Derived.KernelRfl
namespace Go.Proofs.Ytmcmbjkjilcmeaa
/- THE CELL 'sum', in the pinned program and in every row, IS THE sha256 OF THE DUMP (.gsa) THAT YtmcmbjkjilcmeaaProg.lean LOADS. Nothing in Lean hashes anything: it is a label: what it is worth is what the hold of that sum in a sandbox is worth. -/
noncomputable def Try.pinned : Pinned := { name := "ytmcmbjkjilcmeaa", sum := "400ae08fd4579a3ac0b3bf5ddd4515509c3dd7aa0819f5f7b18d0e0044036b7b", checked := Try.checked }
namespace Rows
def none {H : Type} : Left H := { results := [], args := [] }

/-- 'spilelaw12.StandingLevels': WHATEVER THE INPUT: true; the input reads as it did. -/
def standingLevelsSpec : ChangeSpec := { name := "standingLevels", fn := fun _ => fun
  | [d1, d2, d3, d4] => { results := [.lit (.bool true)], args := [d1, d2, d3, d4] }
  | _ => none }
def standingLevelsRow : OpenClaim := { program := "ytmcmbjkjilcmeaa", sum := "400ae08fd4579a3ac0b3bf5ddd4515509c3dd7aa0819f5f7b18d0e0044036b7b", func := "spile/spilelaw12.StandingLevels", spec := "standingLevels", unfollowed := true, recurses := true, apart := false }
def StandingLevelsSaid : Prop := standingLevelsRow.holds Try.pinned (OpenSpec.ofChange standingLevelsSpec)

/-- ITS FALSE NEIGHBOUR: 'it returns false'. Refute it at one input. -/
def standingLevelsWrong : ChangeSpec := { name := "standingLevels", fn := fun _ => fun
  | [d1, d2, d3, d4] => { results := [.lit (.bool false)], args := [d1, d2, d3, d4] }
  | _ => none }
def StandingLevelsWrongFalsely : Prop := standingLevelsRow.holds Try.pinned (OpenSpec.ofChange standingLevelsWrong)

/-- 'spilelaw12.StandingSpaces': WHATEVER THE INPUT: true; the input reads as it did. -/
def standingSpacesSpec : ChangeSpec := { name := "standingSpaces", fn := fun _ => fun
  | [d1, d2] => { results := [.lit (.bool true)], args := [d1, d2] }
  | _ => none }
def standingSpacesRow : OpenClaim := { program := "ytmcmbjkjilcmeaa", sum := "400ae08fd4579a3ac0b3bf5ddd4515509c3dd7aa0819f5f7b18d0e0044036b7b", func := "spile/spilelaw12.StandingSpaces", spec := "standingSpaces", unfollowed := true, recurses := true, apart := false }
def StandingSpacesSaid : Prop := standingSpacesRow.holds Try.pinned (OpenSpec.ofChange standingSpacesSpec)

/-- ITS FALSE NEIGHBOUR: 'it returns false'. Refute it at one input. -/
def standingSpacesWrong : ChangeSpec := { name := "standingSpaces", fn := fun _ => fun
  | [d1, d2] => { results := [.lit (.bool false)], args := [d1, d2] }
  | _ => none }
def StandingSpacesWrongFalsely : Prop := standingSpacesRow.holds Try.pinned (OpenSpec.ofChange standingSpacesWrong)

/-- 'spilelaw12.StandingWets': WHATEVER THE INPUT: true; the input reads as it did. -/
def standingWetsSpec : ChangeSpec := { name := "standingWets", fn := fun _ => fun
  | [d1, d2, d3] => { results := [.lit (.bool true)], args := [d1, d2, d3] }
  | _ => none }
def standingWetsRow : OpenClaim := { program := "ytmcmbjkjilcmeaa", sum := "400ae08fd4579a3ac0b3bf5ddd4515509c3dd7aa0819f5f7b18d0e0044036b7b", func := "spile/spilelaw12.StandingWets", spec := "standingWets", unfollowed := true, recurses := true, apart := false }
def StandingWetsSaid : Prop := standingWetsRow.holds Try.pinned (OpenSpec.ofChange standingWetsSpec)

/-- ITS FALSE NEIGHBOUR: 'it returns false'. Refute it at one input. -/
def standingWetsWrong : ChangeSpec := { name := "standingWets", fn := fun _ => fun
  | [d1, d2, d3] => { results := [.lit (.bool false)], args := [d1, d2, d3] }
  | _ => none }
def StandingWetsWrongFalsely : Prop := standingWetsRow.holds Try.pinned (OpenSpec.ofChange standingWetsWrong)

/-- 'spilelaw12.StandingRises': WHATEVER THE INPUT: true; the input reads as it did. -/
def standingRisesSpec : ChangeSpec := { name := "standingRises", fn := fun _ => fun
  | [d1, d2] => { results := [.lit (.bool true)], args := [d1, d2] }
  | _ => none }
def standingRisesRow : OpenClaim := { program := "ytmcmbjkjilcmeaa", sum := "400ae08fd4579a3ac0b3bf5ddd4515509c3dd7aa0819f5f7b18d0e0044036b7b", func := "spile/spilelaw12.StandingRises", spec := "standingRises", unfollowed := true, recurses := true, apart := false }
def StandingRisesSaid : Prop := standingRisesRow.holds Try.pinned (OpenSpec.ofChange standingRisesSpec)

/-- ITS FALSE NEIGHBOUR: 'it returns false'. Refute it at one input. -/
def standingRisesWrong : ChangeSpec := { name := "standingRises", fn := fun _ => fun
  | [d1, d2] => { results := [.lit (.bool false)], args := [d1, d2] }
  | _ => none }
def StandingRisesWrongFalsely : Prop := standingRisesRow.holds Try.pinned (OpenSpec.ofChange standingRisesWrong)

/-- 'spilelaw12.StandingCylinders': WHATEVER THE INPUT: true; the input reads as it did. -/
def standingCylindersSpec : ChangeSpec := { name := "standingCylinders", fn := fun _ => fun
  | [d1, d2, d3] => { results := [.lit (.bool true)], args := [d1, d2, d3] }
  | _ => none }
def standingCylindersRow : OpenClaim := { program := "ytmcmbjkjilcmeaa", sum := "400ae08fd4579a3ac0b3bf5ddd4515509c3dd7aa0819f5f7b18d0e0044036b7b", func := "spile/spilelaw12.StandingCylinders", spec := "standingCylinders", unfollowed := true, recurses := true, apart := false }
def StandingCylindersSaid : Prop := standingCylindersRow.holds Try.pinned (OpenSpec.ofChange standingCylindersSpec)

/-- ITS FALSE NEIGHBOUR: 'it returns false'. Refute it at one input. -/
def standingCylindersWrong : ChangeSpec := { name := "standingCylinders", fn := fun _ => fun
  | [d1, d2, d3] => { results := [.lit (.bool false)], args := [d1, d2, d3] }
  | _ => none }
def StandingCylindersWrongFalsely : Prop := standingCylindersRow.holds Try.pinned (OpenSpec.ofChange standingCylindersWrong)

/-- 'spilelaw12.StandingFull': WHATEVER THE INPUT: true; the input reads as it did. -/
def standingFullSpec : ChangeSpec := { name := "standingFull", fn := fun _ => fun
  | [d1, d2] => { results := [.lit (.bool true)], args := [d1, d2] }
  | _ => none }
def standingFullRow : OpenClaim := { program := "ytmcmbjkjilcmeaa", sum := "400ae08fd4579a3ac0b3bf5ddd4515509c3dd7aa0819f5f7b18d0e0044036b7b", func := "spile/spilelaw12.StandingFull", spec := "standingFull", unfollowed := true, recurses := true, apart := false }
def StandingFullSaid : Prop := standingFullRow.holds Try.pinned (OpenSpec.ofChange standingFullSpec)

/-- ITS FALSE NEIGHBOUR: 'it returns false'. Refute it at one input. -/
def standingFullWrong : ChangeSpec := { name := "standingFull", fn := fun _ => fun
  | [d1, d2] => { results := [.lit (.bool false)], args := [d1, d2] }
  | _ => none }
def StandingFullWrongFalsely : Prop := standingFullRow.holds Try.pinned (OpenSpec.ofChange standingFullWrong)

/-- 'spilelaw12.StandingFiner': WHATEVER THE INPUT: true; the input reads as it did. -/
def standingFinerSpec : ChangeSpec := { name := "standingFiner", fn := fun _ => fun
  | [d1, d2, d3] => { results := [.lit (.bool true)], args := [d1, d2, d3] }
  | _ => none }
def standingFinerRow : OpenClaim := { program := "ytmcmbjkjilcmeaa", sum := "400ae08fd4579a3ac0b3bf5ddd4515509c3dd7aa0819f5f7b18d0e0044036b7b", func := "spile/spilelaw12.StandingFiner", spec := "standingFiner", inPlace := ["slices.overlaps[int]"], unfollowed := true, recurses := true, apart := false }
def StandingFinerSaid : Prop := standingFinerRow.holds Try.pinned (OpenSpec.ofChange standingFinerSpec)

/-- ITS FALSE NEIGHBOUR: 'it returns false'. Refute it at one input. -/
def standingFinerWrong : ChangeSpec := { name := "standingFiner", fn := fun _ => fun
  | [d1, d2, d3] => { results := [.lit (.bool false)], args := [d1, d2, d3] }
  | _ => none }
def StandingFinerWrongFalsely : Prop := standingFinerRow.holds Try.pinned (OpenSpec.ofChange standingFinerWrong)

/- THE SECOND FORM. 'bulk': how many values and letters a reading holds, each counted each time it is reached (what is shared counts as often as it is met; a slice's spare places count too). A statement '..UptoSaid' is the law's where the arguments, and the package variables that the reading takes, are together of bulk at most 1048576: NARROWER than '..Said'. Prove '..Said' where nothing that the law and all that it calls make is longer than what came in: it says more and counts as full. Else prove '..UptoSaid'. A law counts once. -/
mutual
def uptoBulk {H : Type} : DataW H → Nat
  | .lit (.string bytes) => bytes.length + 1
  | .lit _ => 1
  | .nil => 1
  | .ptr d => uptoBulk d + 1
  | .slice elems spare => uptoBulkAll elems + uptoBulkAll spare + 1
  | .agg parts => uptoBulkAll parts + 1
  | .iface _ d => uptoBulk d + 1
  | .map entries => uptoBulkEntries entries + 1
  | .held _ => 1
def uptoBulkAll {H : Type} : List (DataW H) → Nat
  | [] => 0
  | d :: r => uptoBulk d + uptoBulkAll r
def uptoBulkEntries {H : Type} : List (Lit × DataW H) → Nat
  | [] => 0
  | x :: r => uptoBulkEntry x + uptoBulkEntries r
def uptoBulkEntry {H : Type} : Lit × DataW H → Nat
  | (.string bytes, d) => bytes.length + uptoBulk d + 1
  | (_, d) => uptoBulk d + 1
 end
def uptoSmall : (H : Type) → List (DataW H) → Bool := fun _ ds => decide (uptoBulkAll ds ≤ 1048576)
def OpenSpec.upto (s : _root_.Go.ChangeSpec) : _root_.Go.OpenSpec := { _root_.Go.OpenSpec.ofChange s with cond := some uptoSmall }

/-- 'spilelaw12.StandingLevels', WHERE WHAT IT READS IS OF BULK AT MOST 1048576: true; the input reads as it did. -/
def standingLevelsUptoRow : OpenClaim := { program := "ytmcmbjkjilcmeaa", sum := "400ae08fd4579a3ac0b3bf5ddd4515509c3dd7aa0819f5f7b18d0e0044036b7b", func := "spile/spilelaw12.StandingLevels", spec := "standingLevels", unfollowed := true, recurses := true, apart := false, narrowed := true }
def StandingLevelsUptoSaid : Prop := standingLevelsUptoRow.holds Try.pinned (OpenSpec.upto standingLevelsSpec)

/-- 'spilelaw12.StandingSpaces', WHERE WHAT IT READS IS OF BULK AT MOST 1048576: true; the input reads as it did. -/
def standingSpacesUptoRow : OpenClaim := { program := "ytmcmbjkjilcmeaa", sum := "400ae08fd4579a3ac0b3bf5ddd4515509c3dd7aa0819f5f7b18d0e0044036b7b", func := "spile/spilelaw12.StandingSpaces", spec := "standingSpaces", unfollowed := true, recurses := true, apart := false, narrowed := true }
def StandingSpacesUptoSaid : Prop := standingSpacesUptoRow.holds Try.pinned (OpenSpec.upto standingSpacesSpec)

/-- 'spilelaw12.StandingWets', WHERE WHAT IT READS IS OF BULK AT MOST 1048576: true; the input reads as it did. -/
def standingWetsUptoRow : OpenClaim := { program := "ytmcmbjkjilcmeaa", sum := "400ae08fd4579a3ac0b3bf5ddd4515509c3dd7aa0819f5f7b18d0e0044036b7b", func := "spile/spilelaw12.StandingWets", spec := "standingWets", unfollowed := true, recurses := true, apart := false, narrowed := true }
def StandingWetsUptoSaid : Prop := standingWetsUptoRow.holds Try.pinned (OpenSpec.upto standingWetsSpec)

/-- 'spilelaw12.StandingRises', WHERE WHAT IT READS IS OF BULK AT MOST 1048576: true; the input reads as it did. -/
def standingRisesUptoRow : OpenClaim := { program := "ytmcmbjkjilcmeaa", sum := "400ae08fd4579a3ac0b3bf5ddd4515509c3dd7aa0819f5f7b18d0e0044036b7b", func := "spile/spilelaw12.StandingRises", spec := "standingRises", unfollowed := true, recurses := true, apart := false, narrowed := true }
def StandingRisesUptoSaid : Prop := standingRisesUptoRow.holds Try.pinned (OpenSpec.upto standingRisesSpec)

/-- 'spilelaw12.StandingCylinders', WHERE WHAT IT READS IS OF BULK AT MOST 1048576: true; the input reads as it did. -/
def standingCylindersUptoRow : OpenClaim := { program := "ytmcmbjkjilcmeaa", sum := "400ae08fd4579a3ac0b3bf5ddd4515509c3dd7aa0819f5f7b18d0e0044036b7b", func := "spile/spilelaw12.StandingCylinders", spec := "standingCylinders", unfollowed := true, recurses := true, apart := false, narrowed := true }
def StandingCylindersUptoSaid : Prop := standingCylindersUptoRow.holds Try.pinned (OpenSpec.upto standingCylindersSpec)

/-- 'spilelaw12.StandingFull', WHERE WHAT IT READS IS OF BULK AT MOST 1048576: true; the input reads as it did. -/
def standingFullUptoRow : OpenClaim := { program := "ytmcmbjkjilcmeaa", sum := "400ae08fd4579a3ac0b3bf5ddd4515509c3dd7aa0819f5f7b18d0e0044036b7b", func := "spile/spilelaw12.StandingFull", spec := "standingFull", unfollowed := true, recurses := true, apart := false, narrowed := true }
def StandingFullUptoSaid : Prop := standingFullUptoRow.holds Try.pinned (OpenSpec.upto standingFullSpec)

/-- 'spilelaw12.StandingFiner', WHERE WHAT IT READS IS OF BULK AT MOST 1048576: true; the input reads as it did. -/
def standingFinerUptoRow : OpenClaim := { program := "ytmcmbjkjilcmeaa", sum := "400ae08fd4579a3ac0b3bf5ddd4515509c3dd7aa0819f5f7b18d0e0044036b7b", func := "spile/spilelaw12.StandingFiner", spec := "standingFiner", inPlace := ["slices.overlaps[int]"], unfollowed := true, recurses := true, apart := false, narrowed := true }
def StandingFinerUptoSaid : Prop := standingFinerUptoRow.holds Try.pinned (OpenSpec.upto standingFinerSpec)

end Rows
end Go.Proofs.Ytmcmbjkjilcmeaa
