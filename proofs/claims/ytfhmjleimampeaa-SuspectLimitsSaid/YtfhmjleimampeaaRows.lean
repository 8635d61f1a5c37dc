/-
  No cell of these rows narrows 'for every input' (looked for: loops, veiled, ifaces, maps, wideKeys, modest, calm, conditions, laid).
  DERIVED. THE GIVEN ROWS OF THIS SEAT. 7 by the template 'for every input the law returns true; each argument reads behind the call as it read before'; 0 by the template 'total and deterministic' (their statements: YtfhmjleimampeaaTotals.lean).
  GIVEN WITH THE SEED: the statements are not yours to turn. If you find one false, say at which input.
  Laid BY PROGRAM, IN A SANDBOX (cutbox-rows.mjs): the forced cells as the released guide's own fill.sh prints them over the translation fd610e56b9ce84ed… (all of the seat's roots in one cut). By AI agents, Wed Nov 11 2026. No macro, syntax, notation, axiom, sorry.
-/
import Derived.Test.YtfhmjleimampeaaChecked
import GoSem.Claim
import GoSem.ClaimJoined
import GoSem.ClaimMapViews
import Derived.JoinedTies
import Derived.KernelRfl
namespace Go.Proofs.Ytfhmjleimampeaa
/- THE CELL 'sum', in the pinned program and in every row, IS THE sha256 OF THE DUMP (.gsa) THAT YtfhmjleimampeaaProg.lean LOADS. Nothing in Lean hashes anything: it is a label: what it is worth is what the hold of that sum in a sandbox is worth. -/
noncomputable def Try.pinned : Pinned := { name := "ytfhmjleimampeaa", sum := "fd610e56b9ce84ed29cf2e1b3aaae4d9db96bd96d1a75d4c6b2541e052475e60", checked := Try.checked }
namespace Rows
def none {H : Type} : Left H := { results := [], args := [] }

/-- 'spilelaw34.SuspectParts': WHATEVER THE INPUT: true; the input reads as it did. -/
def suspectPartsSpec : ChangeSpec := { name := "suspectParts", fn := fun _ => fun
  | [d1, d2, d3] => { results := [.lit (.bool true)], args := [d1, d2, d3] }
  | _ => none }
def suspectPartsRow : OpenClaim := { program := "ytfhmjleimampeaa", sum := "fd610e56b9ce84ed29cf2e1b3aaae4d9db96bd96d1a75d4c6b2541e052475e60", func := "spile/spilelaw34.SuspectParts", spec := "suspectParts", unfollowed := true, recurses := true, plainKeys := false, apart := false }
def SuspectPartsSaid : Prop := suspectPartsRow.holds Try.pinned (OpenSpec.ofChange suspectPartsSpec)

/-- ITS FALSE NEIGHBOUR: 'it returns false'. Refute it at one input. -/
def suspectPartsWrong : ChangeSpec := { name := "suspectParts", fn := fun _ => fun
  | [d1, d2, d3] => { results := [.lit (.bool false)], args := [d1, d2, d3] }
  | _ => none }
def SuspectPartsWrongFalsely : Prop := suspectPartsRow.holds Try.pinned (OpenSpec.ofChange suspectPartsWrong)

/-- 'spilelaw34.SuspectTests': WHATEVER THE INPUT: true; the input reads as it did. -/
def suspectTestsSpec : ChangeSpec := { name := "suspectTests", fn := fun _ => fun
  | [d1, d2, d3] => { results := [.lit (.bool true)], args := [d1, d2, d3] }
  | _ => none }
def suspectTestsRow : OpenClaim := { program := "ytfhmjleimampeaa", sum := "fd610e56b9ce84ed29cf2e1b3aaae4d9db96bd96d1a75d4c6b2541e052475e60", func := "spile/spilelaw34.SuspectTests", spec := "suspectTests", unfollowed := true, recurses := true, plainKeys := false, apart := false }
def SuspectTestsSaid : Prop := suspectTestsRow.holds Try.pinned (OpenSpec.ofChange suspectTestsSpec)

/-- ITS FALSE NEIGHBOUR: 'it returns false'. Refute it at one input. -/
def suspectTestsWrong : ChangeSpec := { name := "suspectTests", fn := fun _ => fun
  | [d1, d2, d3] => { results := [.lit (.bool false)], args := [d1, d2, d3] }
  | _ => none }
def SuspectTestsWrongFalsely : Prop := suspectTestsRow.holds Try.pinned (OpenSpec.ofChange suspectTestsWrong)

/-- 'spilelaw34.SuspectNames': WHATEVER THE INPUT: true; the input reads as it did. -/
def suspectNamesSpec : ChangeSpec := { name := "suspectNames", fn := fun _ => fun
  | [d1, d2, d3] => { results := [.lit (.bool true)], args := [d1, d2, d3] }
  | _ => none }
def suspectNamesRow : OpenClaim := { program := "ytfhmjleimampeaa", sum := "fd610e56b9ce84ed29cf2e1b3aaae4d9db96bd96d1a75d4c6b2541e052475e60", func := "spile/spilelaw34.SuspectNames", spec := "suspectNames", unfollowed := true, recurses := true, plainKeys := false, apart := false }
def SuspectNamesSaid : Prop := suspectNamesRow.holds Try.pinned (OpenSpec.ofChange suspectNamesSpec)

/-- ITS FALSE NEIGHBOUR: 'it returns false'. Refute it at one input. -/
def suspectNamesWrong : ChangeSpec := { name := "suspectNames", fn := fun _ => fun
  | [d1, d2, d3] => { results := [.lit (.bool false)], args := [d1, d2, d3] }
  | _ => none }
def SuspectNamesWrongFalsely : Prop := suspectNamesRow.holds Try.pinned (OpenSpec.ofChange suspectNamesWrong)

/-- 'spilelaw34.SuspectEqual': WHATEVER THE INPUT: true; the input reads as it did. -/
def suspectEqualSpec : ChangeSpec := { name := "suspectEqual", fn := fun _ => fun
  | [d1, d2, d3] => { results := [.lit (.bool true)], args := [d1, d2, d3] }
  | _ => none }
def suspectEqualRow : OpenClaim := { program := "ytfhmjleimampeaa", sum := "fd610e56b9ce84ed29cf2e1b3aaae4d9db96bd96d1a75d4c6b2541e052475e60", func := "spile/spilelaw34.SuspectEqual", spec := "suspectEqual", unfollowed := true, recurses := true, plainKeys := false, apart := false }
def SuspectEqualSaid : Prop := suspectEqualRow.holds Try.pinned (OpenSpec.ofChange suspectEqualSpec)

/-- ITS FALSE NEIGHBOUR: 'it returns false'. Refute it at one input. -/
def suspectEqualWrong : ChangeSpec := { name := "suspectEqual", fn := fun _ => fun
  | [d1, d2, d3] => { results := [.lit (.bool false)], args := [d1, d2, d3] }
  | _ => none }
def SuspectEqualWrongFalsely : Prop := suspectEqualRow.holds Try.pinned (OpenSpec.ofChange suspectEqualWrong)

/-- 'spilelaw34.SuspectRenamed': WHATEVER THE INPUT: true; the input reads as it did. -/
def suspectRenamedSpec : ChangeSpec := { name := "suspectRenamed", fn := fun _ => fun
  | [d1, d2, d3, d4] => { results := [.lit (.bool true)], args := [d1, d2, d3, d4] }
  | _ => none }
def suspectRenamedRow : OpenClaim := { program := "ytfhmjleimampeaa", sum := "fd610e56b9ce84ed29cf2e1b3aaae4d9db96bd96d1a75d4c6b2541e052475e60", func := "spile/spilelaw34.SuspectRenamed", spec := "suspectRenamed", unfollowed := true, recurses := true, plainKeys := false, apart := false }
def SuspectRenamedSaid : Prop := suspectRenamedRow.holds Try.pinned (OpenSpec.ofChange suspectRenamedSpec)

/-- ITS FALSE NEIGHBOUR: 'it returns false'. Refute it at one input. -/
def suspectRenamedWrong : ChangeSpec := { name := "suspectRenamed", fn := fun _ => fun
  | [d1, d2, d3, d4] => { results := [.lit (.bool false)], args := [d1, d2, d3, d4] }
  | _ => none }
def SuspectRenamedWrongFalsely : Prop := suspectRenamedRow.holds Try.pinned (OpenSpec.ofChange suspectRenamedWrong)

/-- 'spilelaw34.SuspectWithout': WHATEVER THE INPUT: true; the input reads as it did. -/
def suspectWithoutSpec : ChangeSpec := { name := "suspectWithout", fn := fun _ => fun
  | [d1, d2, d3] => { results := [.lit (.bool true)], args := [d1, d2, d3] }
  | _ => none }
def suspectWithoutRow : OpenClaim := { program := "ytfhmjleimampeaa", sum := "fd610e56b9ce84ed29cf2e1b3aaae4d9db96bd96d1a75d4c6b2541e052475e60", func := "spile/spilelaw34.SuspectWithout", spec := "suspectWithout", unfollowed := true, recurses := true, plainKeys := false, apart := false }
def SuspectWithoutSaid : Prop := suspectWithoutRow.holds Try.pinned (OpenSpec.ofChange suspectWithoutSpec)

/-- ITS FALSE NEIGHBOUR: 'it returns false'. Refute it at one input. -/
def suspectWithoutWrong : ChangeSpec := { name := "suspectWithout", fn := fun _ => fun
  | [d1, d2, d3] => { results := [.lit (.bool false)], args := [d1, d2, d3] }
  | _ => none }
def SuspectWithoutWrongFalsely : Prop := suspectWithoutRow.holds Try.pinned (OpenSpec.ofChange suspectWithoutWrong)

/-- 'spilelaw34.SuspectLimits': WHATEVER THE INPUT: true; the input reads as it did. -/
def suspectLimitsSpec : ChangeSpec := { name := "suspectLimits", fn := fun _ => fun
  | [d1, d2, d3] => { results := [.lit (.bool true)], args := [d1, d2, d3] }
  | _ => none }
def suspectLimitsRow : OpenClaim := { program := "ytfhmjleimampeaa", sum := "fd610e56b9ce84ed29cf2e1b3aaae4d9db96bd96d1a75d4c6b2541e052475e60", func := "spile/spilelaw34.SuspectLimits", spec := "suspectLimits", unfollowed := true, recurses := true, plainKeys := false, apart := false }
def SuspectLimitsSaid : Prop := suspectLimitsRow.holds Try.pinned (OpenSpec.ofChange suspectLimitsSpec)

/-- ITS FALSE NEIGHBOUR: 'it returns false'. Refute it at one input. -/
def suspectLimitsWrong : ChangeSpec := { name := "suspectLimits", fn := fun _ => fun
  | [d1, d2, d3] => { results := [.lit (.bool false)], args := [d1, d2, d3] }
  | _ => none }
def SuspectLimitsWrongFalsely : Prop := suspectLimitsRow.holds Try.pinned (OpenSpec.ofChange suspectLimitsWrong)

/- THE SECOND FORM. 'bulk': how many values and letters a reading holds, each counted each time it is reached (what is shared counts as often as it is met; a slice's spare places count too). A statement '..UptoSaid' is the law's where the arguments, and the package variables that the reading takes, are together of bulk at most 1048576: NARROWER than '..Said'. Prove '..Said' where nothing that the law and all that it calls make is longer than what came in: it says more and counts as full. Else prove '..UptoSaid'. A law counts once. -/
mutual
def uptoBulk {H : Type} : DataW H → Nat
  | .lit (.string bytes) => bytes.length + 1
  | .lit _ => 1
  | .nil => 1
  | .ptr d => uptoBulk d + 1
  | .slice elems spare => uptoBulkAll elems + uptoBulkAll spare + 1
  | .agg parts => uptoBulkAll parts + 1
  | .iface _ d => uptoBulk d + 1
  | .map entries => uptoBulkEntries entries + 1
  | .held _ => 1
def uptoBulkAll {H : Type} : List (DataW H) → Nat
  | [] => 0
  | d :: r => uptoBulk d + uptoBulkAll r
def uptoBulkEntries {H : Type} : List (Lit × DataW H) → Nat
  | [] => 0
  | x :: r => uptoBulkEntry x + uptoBulkEntries r
def uptoBulkEntry {H : Type} : Lit × DataW H → Nat
  | (.string bytes, d) => bytes.length + uptoBulk d + 1
  | (_, d) => uptoBulk d + 1
 end
def uptoSmall : (H : Type) → List (DataW H) → Bool := fun _ ds => decide (uptoBulkAll ds ≤ 1048576)
def OpenSpec.upto (s : _root_.Go.ChangeSpec) : _root_.Go.OpenSpec := { _root_.Go.OpenSpec.ofChange s with cond := some uptoSmall }

/-- 'spilelaw34.SuspectParts', WHERE WHAT IT READS IS OF BULK AT MOST 1048576: true; the input reads as it did. -/
def suspectPartsUptoRow : OpenClaim := { program := "ytfhmjleimampeaa", sum := "fd610e56b9ce84ed29cf2e1b3aaae4d9db96bd96d1a75d4c6b2541e052475e60", func := "spile/spilelaw34.SuspectParts", spec := "suspectParts", unfollowed := true, recurses := true, plainKeys := false, apart := false, narrowed := true }
def SuspectPartsUptoSaid : Prop := suspectPartsUptoRow.holds Try.pinned (OpenSpec.upto suspectPartsSpec)

/-- 'spilelaw34.SuspectTests', WHERE WHAT IT READS IS OF BULK AT MOST 1048576: true; the input reads as it did. -/
def suspectTestsUptoRow : OpenClaim := { program := "ytfhmjleimampeaa", sum := "fd610e56b9ce84ed29cf2e1b3aaae4d9db96bd96d1a75d4c6b2541e052475e60", func := "spile/spilelaw34.SuspectTests", spec := "suspectTests", unfollowed := true, recurses := true, plainKeys := false, apart := false, narrowed := true }
def SuspectTestsUptoSaid : Prop := suspectTestsUptoRow.holds Try.pinned (OpenSpec.upto suspectTestsSpec)

/-- 'spilelaw34.SuspectNames', WHERE WHAT IT READS IS OF BULK AT MOST 1048576: true; the input reads as it did. -/
def suspectNamesUptoRow : OpenClaim := { program := "ytfhmjleimampeaa", sum := "fd610e56b9ce84ed29cf2e1b3aaae4d9db96bd96d1a75d4c6b2541e052475e60", func := "spile/spilelaw34.SuspectNames", spec := "suspectNames", unfollowed := true, recurses := true, plainKeys := false, apart := false, narrowed := true }
def SuspectNamesUptoSaid : Prop := suspectNamesUptoRow.holds Try.pinned (OpenSpec.upto suspectNamesSpec)

/-- 'spilelaw34.SuspectEqual', WHERE WHAT IT READS IS OF BULK AT MOST 1048576: true; the input reads as it did. -/
def suspectEqualUptoRow : OpenClaim := { program := "ytfhmjleimampeaa", sum := "fd610e56b9ce84ed29cf2e1b3aaae4d9db96bd96d1a75d4c6b2541e052475e60", func := "spile/spilelaw34.SuspectEqual", spec := "suspectEqual", unfollowed := true, recurses := true, plainKeys := false, apart := false, narrowed := true }
def SuspectEqualUptoSaid : Prop := suspectEqualUptoRow.holds Try.pinned (OpenSpec.upto suspectEqualSpec)

/-- 'spilelaw34.SuspectRenamed', WHERE WHAT IT READS IS OF BULK AT MOST 1048576: true; the input reads as it did. -/
def suspectRenamedUptoRow : OpenClaim := { program := "ytfhmjleimampeaa", sum := "fd610e56b9ce84ed29cf2e1b3aaae4d9db96bd96d1a75d4c6b2541e052475e60", func := "spile/spilelaw34.SuspectRenamed", spec := "suspectRenamed", unfollowed := true, recurses := true, plainKeys := false, apart := false, narrowed := true }
def SuspectRenamedUptoSaid : Prop := suspectRenamedUptoRow.holds Try.pinned (OpenSpec.upto suspectRenamedSpec)

/-- 'spilelaw34.SuspectWithout', WHERE WHAT IT READS IS OF BULK AT MOST 1048576: true; the input reads as it did. -/
def suspectWithoutUptoRow : OpenClaim := { program := "ytfhmjleimampeaa", sum := "fd610e56b9ce84ed29cf2e1b3aaae4d9db96bd96d1a75d4c6b2541e052475e60", func := "spile/spilelaw34.SuspectWithout", spec := "suspectWithout", unfollowed := true, recurses := true, plainKeys := false, apart := false, narrowed := true }
def SuspectWithoutUptoSaid : Prop := suspectWithoutUptoRow.holds Try.pinned (OpenSpec.upto suspectWithoutSpec)

/-- 'spilelaw34.SuspectLimits', WHERE WHAT IT READS IS OF BULK AT MOST 1048576: true; the input reads as it did. -/
def suspectLimitsUptoRow : OpenClaim := { program := "ytfhmjleimampeaa", sum := "fd610e56b9ce84ed29cf2e1b3aaae4d9db96bd96d1a75d4c6b2541e052475e60", func := "spile/spilelaw34.SuspectLimits", spec := "suspectLimits", unfollowed := true, recurses := true, plainKeys := false, apart := false, narrowed := true }
def SuspectLimitsUptoSaid : Prop := suspectLimitsUptoRow.holds Try.pinned (OpenSpec.upto suspectLimitsSpec)

end Rows
end Go.Proofs.Ytfhmjleimampeaa
