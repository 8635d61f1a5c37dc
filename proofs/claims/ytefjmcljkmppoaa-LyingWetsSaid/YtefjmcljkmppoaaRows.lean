/-
  No cell of these rows narrows 'for every input' (looked for: loops, veiled, ifaces, maps, wideKeys, modest, calm, conditions, laid).
  DERIVED. THE GIVEN ROWS OF THIS SEAT. 7 by the template 'for every input the law returns true; each argument reads behind the call as it read before'; 0 by the template 'total and deterministic' (their statements: YtefjmcljkmppoaaTotals.lean).
  GIVEN WITH THE SEED: the statements are not yours to turn. If you find one false, say at which input.
  Laid BY PROGRAM, IN A SANDBOX (cutbox-rows.mjs): the forced cells as the released guide's own fill.sh prints them over the translation ce00e0c23c8f145b… (all of the seat's roots in one cut). By AI agents, Wed Nov 11 2026. No macro, syntax, notation, axiom, sorry.
-/
import Derived.Test.YtefjmcljkmppoaaChecked
import GoSem.Claim
import GoSem.ClaimJoined
import GoSem.ClaimMapViews
import Derived.JoinedTies
import Derived.KernelRfl
namespace Go.Proofs.Ytefjmcljkmppoaa
/- THE CELL 'sum', in the pinned program and in every row, IS THE sha256 OF THE DUMP (.gsa) THAT YtefjmcljkmppoaaProg.lean LOADS. Nothing in Lean hashes anything: it is a label: what it is worth is what the hold of that sum in a sandbox is worth. -/
noncomputable def Try.pinned : Pinned := { name := "ytefjmcljkmppoaa", sum := "ce00e0c23c8f145b95455261727f16ad26c28e02b23ccc0030f6f391363c234e", checked := Try.checked }
namespace Rows
def none {H : Type} : Left H := { results := [], args := [] }

/-- 'spilelaw11.LyingWets': WHATEVER THE INPUT: true; the input reads as it did. -/
def lyingWetsSpec : ChangeSpec := { name := "lyingWets", fn := fun _ => fun
  | [d1, d2, d3, d4] => { results := [.lit (.bool true)], args := [d1, d2, d3, d4] }
  | _ => none }
def lyingWetsRow : OpenClaim := { program := "ytefjmcljkmppoaa", sum := "ce00e0c23c8f145b95455261727f16ad26c28e02b23ccc0030f6f391363c234e", func := "spile/spilelaw11.LyingWets", spec := "lyingWets", unfollowed := true, recurses := true, apart := false }
def LyingWetsSaid : Prop := lyingWetsRow.holds Try.pinned (OpenSpec.ofChange lyingWetsSpec)

/-- ITS FALSE NEIGHBOUR: 'it returns false'. Refute it at one input. -/
def lyingWetsWrong : ChangeSpec := { name := "lyingWets", fn := fun _ => fun
  | [d1, d2, d3, d4] => { results := [.lit (.bool false)], args := [d1, d2, d3, d4] }
  | _ => none }
def LyingWetsWrongFalsely : Prop := lyingWetsRow.holds Try.pinned (OpenSpec.ofChange lyingWetsWrong)

/-- 'spilelaw11.LyingSlices': WHATEVER THE INPUT: true; the input reads as it did. -/
def lyingSlicesSpec : ChangeSpec := { name := "lyingSlices", fn := fun _ => fun
  | [d1, d2, d3] => { results := [.lit (.bool true)], args := [d1, d2, d3] }
  | _ => none }
def lyingSlicesRow : OpenClaim := { program := "ytefjmcljkmppoaa", sum := "ce00e0c23c8f145b95455261727f16ad26c28e02b23ccc0030f6f391363c234e", func := "spile/spilelaw11.LyingSlices", spec := "lyingSlices", unfollowed := true, recurses := true, apart := false }
def LyingSlicesSaid : Prop := lyingSlicesRow.holds Try.pinned (OpenSpec.ofChange lyingSlicesSpec)

/-- ITS FALSE NEIGHBOUR: 'it returns false'. Refute it at one input. -/
def lyingSlicesWrong : ChangeSpec := { name := "lyingSlices", fn := fun _ => fun
  | [d1, d2, d3] => { results := [.lit (.bool false)], args := [d1, d2, d3] }
  | _ => none }
def LyingSlicesWrongFalsely : Prop := lyingSlicesRow.holds Try.pinned (OpenSpec.ofChange lyingSlicesWrong)

/-- 'spilelaw11.LyingSpaces': WHATEVER THE INPUT: true; the input reads as it did. -/
def lyingSpacesSpec : ChangeSpec := { name := "lyingSpaces", fn := fun _ => fun
  | [d1, d2, d3] => { results := [.lit (.bool true)], args := [d1, d2, d3] }
  | _ => none }
def lyingSpacesRow : OpenClaim := { program := "ytefjmcljkmppoaa", sum := "ce00e0c23c8f145b95455261727f16ad26c28e02b23ccc0030f6f391363c234e", func := "spile/spilelaw11.LyingSpaces", spec := "lyingSpaces", unfollowed := true, recurses := true, apart := false }
def LyingSpacesSaid : Prop := lyingSpacesRow.holds Try.pinned (OpenSpec.ofChange lyingSpacesSpec)

/-- ITS FALSE NEIGHBOUR: 'it returns false'. Refute it at one input. -/
def lyingSpacesWrong : ChangeSpec := { name := "lyingSpaces", fn := fun _ => fun
  | [d1, d2, d3] => { results := [.lit (.bool false)], args := [d1, d2, d3] }
  | _ => none }
def LyingSpacesWrongFalsely : Prop := lyingSpacesRow.holds Try.pinned (OpenSpec.ofChange lyingSpacesWrong)

/-- 'spilelaw11.LyingCylinders': WHATEVER THE INPUT: true; the input reads as it did. -/
def lyingCylindersSpec : ChangeSpec := { name := "lyingCylinders", fn := fun _ => fun
  | [d1, d2, d3] => { results := [.lit (.bool true)], args := [d1, d2, d3] }
  | _ => none }
def lyingCylindersRow : OpenClaim := { program := "ytefjmcljkmppoaa", sum := "ce00e0c23c8f145b95455261727f16ad26c28e02b23ccc0030f6f391363c234e", func := "spile/spilelaw11.LyingCylinders", spec := "lyingCylinders", unfollowed := true, recurses := true, apart := false }
def LyingCylindersSaid : Prop := lyingCylindersRow.holds Try.pinned (OpenSpec.ofChange lyingCylindersSpec)

/-- ITS FALSE NEIGHBOUR: 'it returns false'. Refute it at one input. -/
def lyingCylindersWrong : ChangeSpec := { name := "lyingCylinders", fn := fun _ => fun
  | [d1, d2, d3] => { results := [.lit (.bool false)], args := [d1, d2, d3] }
  | _ => none }
def LyingCylindersWrongFalsely : Prop := lyingCylindersRow.holds Try.pinned (OpenSpec.ofChange lyingCylindersWrong)

/-- 'spilelaw11.LyingTurned': WHATEVER THE INPUT: true; the input reads as it did. -/
def lyingTurnedSpec : ChangeSpec := { name := "lyingTurned", fn := fun _ => fun
  | [d1, d2, d3] => { results := [.lit (.bool true)], args := [d1, d2, d3] }
  | _ => none }
def lyingTurnedRow : OpenClaim := { program := "ytefjmcljkmppoaa", sum := "ce00e0c23c8f145b95455261727f16ad26c28e02b23ccc0030f6f391363c234e", func := "spile/spilelaw11.LyingTurned", spec := "lyingTurned", unfollowed := true, recurses := true, apart := false }
def LyingTurnedSaid : Prop := lyingTurnedRow.holds Try.pinned (OpenSpec.ofChange lyingTurnedSpec)

/-- ITS FALSE NEIGHBOUR: 'it returns false'. Refute it at one input. -/
def lyingTurnedWrong : ChangeSpec := { name := "lyingTurned", fn := fun _ => fun
  | [d1, d2, d3] => { results := [.lit (.bool false)], args := [d1, d2, d3] }
  | _ => none }
def LyingTurnedWrongFalsely : Prop := lyingTurnedRow.holds Try.pinned (OpenSpec.ofChange lyingTurnedWrong)

/-- 'spilelaw11.LyingTogether': WHATEVER THE INPUT: true; the input reads as it did. -/
def lyingTogetherSpec : ChangeSpec := { name := "lyingTogether", fn := fun _ => fun
  | [d1, d2, d3, d4] => { results := [.lit (.bool true)], args := [d1, d2, d3, d4] }
  | _ => none }
def lyingTogetherRow : OpenClaim := { program := "ytefjmcljkmppoaa", sum := "ce00e0c23c8f145b95455261727f16ad26c28e02b23ccc0030f6f391363c234e", func := "spile/spilelaw11.LyingTogether", spec := "lyingTogether", unfollowed := true, recurses := true, apart := false }
def LyingTogetherSaid : Prop := lyingTogetherRow.holds Try.pinned (OpenSpec.ofChange lyingTogetherSpec)

/-- ITS FALSE NEIGHBOUR: 'it returns false'. Refute it at one input. -/
def lyingTogetherWrong : ChangeSpec := { name := "lyingTogether", fn := fun _ => fun
  | [d1, d2, d3, d4] => { results := [.lit (.bool false)], args := [d1, d2, d3, d4] }
  | _ => none }
def LyingTogetherWrongFalsely : Prop := lyingTogetherRow.holds Try.pinned (OpenSpec.ofChange lyingTogetherWrong)

/-- 'spilelaw11.LyingFiner': WHATEVER THE INPUT: true; the input reads as it did. -/
def lyingFinerSpec : ChangeSpec := { name := "lyingFiner", fn := fun _ => fun
  | [d1, d2, d3, d4] => { results := [.lit (.bool true)], args := [d1, d2, d3, d4] }
  | _ => none }
def lyingFinerRow : OpenClaim := { program := "ytefjmcljkmppoaa", sum := "ce00e0c23c8f145b95455261727f16ad26c28e02b23ccc0030f6f391363c234e", func := "spile/spilelaw11.LyingFiner", spec := "lyingFiner", inPlace := ["slices.overlaps[int]"], unfollowed := true, recurses := true, apart := false }
def LyingFinerSaid : Prop := lyingFinerRow.holds Try.pinned (OpenSpec.ofChange lyingFinerSpec)

/-- ITS FALSE NEIGHBOUR: 'it returns false'. Refute it at one input. -/
def lyingFinerWrong : ChangeSpec := { name := "lyingFiner", fn := fun _ => fun
  | [d1, d2, d3, d4] => { results := [.lit (.bool false)], args := [d1, d2, d3, d4] }
  | _ => none }
def LyingFinerWrongFalsely : Prop := lyingFinerRow.holds Try.pinned (OpenSpec.ofChange lyingFinerWrong)

/- THE SECOND FORM. 'bulk': how many values and letters a reading holds, each counted each time it is reached (what is shared counts as often as it is met; a slice's spare places count too). A statement '..UptoSaid' is the law's where the arguments, and the package variables that the reading takes, are together of bulk at most 1048576: NARROWER than '..Said'. Prove '..Said' where nothing that the law and all that it calls make is longer than what came in: it says more and counts as full. Else prove '..UptoSaid'. A law counts once. -/
mutual
def uptoBulk {H : Type} : DataW H → Nat
  | .lit (.string bytes) => bytes.length + 1
  | .lit _ => 1
  | .nil => 1
  | .ptr d => uptoBulk d + 1
  | .slice elems spare => uptoBulkAll elems + uptoBulkAll spare + 1
  | .agg parts => uptoBulkAll parts + 1
  | .iface _ d => uptoBulk d + 1
  | .map entries => uptoBulkEntries entries + 1
  | .held _ => 1
def uptoBulkAll {H : Type} : List (DataW H) → Nat
  | [] => 0
  | d :: r => uptoBulk d + uptoBulkAll r
def uptoBulkEntries {H : Type} : List (Lit × DataW H) → Nat
  | [] => 0
  | x :: r => uptoBulkEntry x + uptoBulkEntries r
def uptoBulkEntry {H : Type} : Lit × DataW H → Nat
  | (.string bytes, d) => bytes.length + uptoBulk d + 1
  | (_, d) => uptoBulk d + 1
 end
def uptoSmall : (H : Type) → List (DataW H) → Bool := fun _ ds => decide (uptoBulkAll ds ≤ 1048576)
def OpenSpec.upto (s : _root_.Go.ChangeSpec) : _root_.Go.OpenSpec := { _root_.Go.OpenSpec.ofChange s with cond := some uptoSmall }

/-- 'spilelaw11.LyingWets', WHERE WHAT IT READS IS OF BULK AT MOST 1048576: true; the input reads as it did. -/
def lyingWetsUptoRow : OpenClaim := { program := "ytefjmcljkmppoaa", sum := "ce00e0c23c8f145b95455261727f16ad26c28e02b23ccc0030f6f391363c234e", func := "spile/spilelaw11.LyingWets", spec := "lyingWets", unfollowed := true, recurses := true, apart := false, narrowed := true }
def LyingWetsUptoSaid : Prop := lyingWetsUptoRow.holds Try.pinned (OpenSpec.upto lyingWetsSpec)

/-- 'spilelaw11.LyingSlices', WHERE WHAT IT READS IS OF BULK AT MOST 1048576: true; the input reads as it did. -/
def lyingSlicesUptoRow : OpenClaim := { program := "ytefjmcljkmppoaa", sum := "ce00e0c23c8f145b95455261727f16ad26c28e02b23ccc0030f6f391363c234e", func := "spile/spilelaw11.LyingSlices", spec := "lyingSlices", unfollowed := true, recurses := true, apart := false, narrowed := true }
def LyingSlicesUptoSaid : Prop := lyingSlicesUptoRow.holds Try.pinned (OpenSpec.upto lyingSlicesSpec)

/-- 'spilelaw11.LyingSpaces', WHERE WHAT IT READS IS OF BULK AT MOST 1048576: true; the input reads as it did. -/
def lyingSpacesUptoRow : OpenClaim := { program := "ytefjmcljkmppoaa", sum := "ce00e0c23c8f145b95455261727f16ad26c28e02b23ccc0030f6f391363c234e", func := "spile/spilelaw11.LyingSpaces", spec := "lyingSpaces", unfollowed := true, recurses := true, apart := false, narrowed := true }
def LyingSpacesUptoSaid : Prop := lyingSpacesUptoRow.holds Try.pinned (OpenSpec.upto lyingSpacesSpec)

/-- 'spilelaw11.LyingCylinders', WHERE WHAT IT READS IS OF BULK AT MOST 1048576: true; the input reads as it did. -/
def lyingCylindersUptoRow : OpenClaim := { program := "ytefjmcljkmppoaa", sum := "ce00e0c23c8f145b95455261727f16ad26c28e02b23ccc0030f6f391363c234e", func := "spile/spilelaw11.LyingCylinders", spec := "lyingCylinders", unfollowed := true, recurses := true, apart := false, narrowed := true }
def LyingCylindersUptoSaid : Prop := lyingCylindersUptoRow.holds Try.pinned (OpenSpec.upto lyingCylindersSpec)

/-- 'spilelaw11.LyingTurned', WHERE WHAT IT READS IS OF BULK AT MOST 1048576: true; the input reads as it did. -/
def lyingTurnedUptoRow : OpenClaim := { program := "ytefjmcljkmppoaa", sum := "ce00e0c23c8f145b95455261727f16ad26c28e02b23ccc0030f6f391363c234e", func := "spile/spilelaw11.LyingTurned", spec := "lyingTurned", unfollowed := true, recurses := true, apart := false, narrowed := true }
def LyingTurnedUptoSaid : Prop := lyingTurnedUptoRow.holds Try.pinned (OpenSpec.upto lyingTurnedSpec)

/-- 'spilelaw11.LyingTogether', WHERE WHAT IT READS IS OF BULK AT MOST 1048576: true; the input reads as it did. -/
def lyingTogetherUptoRow : OpenClaim := { program := "ytefjmcljkmppoaa", sum := "ce00e0c23c8f145b95455261727f16ad26c28e02b23ccc0030f6f391363c234e", func := "spile/spilelaw11.LyingTogether", spec := "lyingTogether", unfollowed := true, recurses := true, apart := false, narrowed := true }
def LyingTogetherUptoSaid : Prop := lyingTogetherUptoRow.holds Try.pinned (OpenSpec.upto lyingTogetherSpec)

/-- 'spilelaw11.LyingFiner', WHERE WHAT IT READS IS OF BULK AT MOST 1048576: true; the input reads as it did. -/
def lyingFinerUptoRow : OpenClaim := { program := "ytefjmcljkmppoaa", sum := "ce00e0c23c8f145b95455261727f16ad26c28e02b23ccc0030f6f391363c234e", func := "spile/spilelaw11.LyingFiner", spec := "lyingFiner", inPlace := ["slices.overlaps[int]"], unfollowed := true, recurses := true, apart := false, narrowed := true }
def LyingFinerUptoSaid : Prop := lyingFinerUptoRow.holds Try.pinned (OpenSpec.upto lyingFinerSpec)

end Rows
end Go.Proofs.Ytefjmcljkmppoaa
