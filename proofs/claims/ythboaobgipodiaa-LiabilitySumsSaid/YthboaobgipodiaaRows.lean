/-
  No cell of these rows narrows 'for every input' (looked for: loops, veiled, ifaces, maps, wideKeys, modest, calm, conditions, laid).
  DERIVED. THE GIVEN ROWS OF THIS SEAT. 6 by the template 'for every input the law returns true; each argument reads behind the call as it read before'; 0 by the template 'total and deterministic' (their statements: YthboaobgipodiaaTotals.lean).
  GIVEN WITH THE SEED: the statements are not yours to turn. If you find one false, say at which input.
  Laid BY PROGRAM, IN A SANDBOX (cutbox-rows.mjs): the forced cells as the released guide's own fill.sh prints them over the translation ce3cecc0ebbc4061… (all of the seat's roots in one cut). By AI agents, Wed Nov 11 2026. No macro, syntax, notation, axiom, sorry.
-/
import Derived.Test.YthboaobgipodiaaChecked
import GoSem.Claim
import GoSem.ClaimJoined
import GoSem.ClaimMapViews
import Derived.JoinedTies
import Derived.KernelRfl
namespace Go.Proofs.Ythboaobgipodiaa
/- THE CELL 'sum', in the pinned program and in every row, IS THE sha256 OF THE DUMP (.gsa) THAT YthboaobgipodiaaProg.lean LOADS. Nothing in Lean hashes anything: it is a label: what it is worth is what the hold of that sum in a sandbox is worth. -/
noncomputable def Try.pinned : Pinned := { name := "ythboaobgipodiaa", sum := "ce3cecc0ebbc40614ad6b06a8eef2b52c67e94a709230809131ffa4209891af2", checked := Try.checked }
namespace Rows
def none {H : Type} : Left H := { results := [], args := [] }

/-- 'spilelaw51.LiabilitySums': WHATEVER THE INPUT: true; the input reads as it did. -/
def liabilitySumsSpec : ChangeSpec := { name := "liabilitySums", fn := fun _ => fun
  | [d1, d2, d3] => { results := [.lit (.bool true)], args := [d1, d2, d3] }
  | _ => none }
def liabilitySumsRow : OpenClaim := { program := "ythboaobgipodiaa", sum := "ce3cecc0ebbc40614ad6b06a8eef2b52c67e94a709230809131ffa4209891af2", func := "spile/spilelaw51.LiabilitySums", spec := "liabilitySums", unfollowed := true, recurses := true, apart := false }
def LiabilitySumsSaid : Prop := liabilitySumsRow.holds Try.pinned (OpenSpec.ofChange liabilitySumsSpec)

/-- ITS FALSE NEIGHBOUR: 'it returns false'. Refute it at one input. -/
def liabilitySumsWrong : ChangeSpec := { name := "liabilitySums", fn := fun _ => fun
  | [d1, d2, d3] => { results := [.lit (.bool false)], args := [d1, d2, d3] }
  | _ => none }
def LiabilitySumsWrongFalsely : Prop := liabilitySumsRow.holds Try.pinned (OpenSpec.ofChange liabilitySumsWrong)

/-- 'spilelaw51.LiabilityOutcomes': WHATEVER THE INPUT: true; the input reads as it did. -/
def liabilityOutcomesSpec : ChangeSpec := { name := "liabilityOutcomes", fn := fun _ => fun
  | [d1, d2, d3, d4] => { results := [.lit (.bool true)], args := [d1, d2, d3, d4] }
  | _ => none }
def liabilityOutcomesRow : OpenClaim := { program := "ythboaobgipodiaa", sum := "ce3cecc0ebbc40614ad6b06a8eef2b52c67e94a709230809131ffa4209891af2", func := "spile/spilelaw51.LiabilityOutcomes", spec := "liabilityOutcomes", unfollowed := true, recurses := true, apart := false }
def LiabilityOutcomesSaid : Prop := liabilityOutcomesRow.holds Try.pinned (OpenSpec.ofChange liabilityOutcomesSpec)

/-- ITS FALSE NEIGHBOUR: 'it returns false'. Refute it at one input. -/
def liabilityOutcomesWrong : ChangeSpec := { name := "liabilityOutcomes", fn := fun _ => fun
  | [d1, d2, d3, d4] => { results := [.lit (.bool false)], args := [d1, d2, d3, d4] }
  | _ => none }
def LiabilityOutcomesWrongFalsely : Prop := liabilityOutcomesRow.holds Try.pinned (OpenSpec.ofChange liabilityOutcomesWrong)

/-- 'spilelaw51.LiabilitySuffices': WHATEVER THE INPUT: true; the input reads as it did. -/
def liabilitySufficesSpec : ChangeSpec := { name := "liabilitySuffices", fn := fun _ => fun
  | [d1, d2, d3, d4] => { results := [.lit (.bool true)], args := [d1, d2, d3, d4] }
  | _ => none }
def liabilitySufficesRow : OpenClaim := { program := "ythboaobgipodiaa", sum := "ce3cecc0ebbc40614ad6b06a8eef2b52c67e94a709230809131ffa4209891af2", func := "spile/spilelaw51.LiabilitySuffices", spec := "liabilitySuffices", unfollowed := true, recurses := true, apart := false }
def LiabilitySufficesSaid : Prop := liabilitySufficesRow.holds Try.pinned (OpenSpec.ofChange liabilitySufficesSpec)

/-- ITS FALSE NEIGHBOUR: 'it returns false'. Refute it at one input. -/
def liabilitySufficesWrong : ChangeSpec := { name := "liabilitySuffices", fn := fun _ => fun
  | [d1, d2, d3, d4] => { results := [.lit (.bool false)], args := [d1, d2, d3, d4] }
  | _ => none }
def LiabilitySufficesWrongFalsely : Prop := liabilitySufficesRow.holds Try.pinned (OpenSpec.ofChange liabilitySufficesWrong)

/-- 'spilelaw51.LiabilityReached': WHATEVER THE INPUT: true; the input reads as it did. -/
def liabilityReachedSpec : ChangeSpec := { name := "liabilityReached", fn := fun _ => fun
  | [d1, d2, d3] => { results := [.lit (.bool true)], args := [d1, d2, d3] }
  | _ => none }
def liabilityReachedRow : OpenClaim := { program := "ythboaobgipodiaa", sum := "ce3cecc0ebbc40614ad6b06a8eef2b52c67e94a709230809131ffa4209891af2", func := "spile/spilelaw51.LiabilityReached", spec := "liabilityReached", unfollowed := true, recurses := true, apart := false }
def LiabilityReachedSaid : Prop := liabilityReachedRow.holds Try.pinned (OpenSpec.ofChange liabilityReachedSpec)

/-- ITS FALSE NEIGHBOUR: 'it returns false'. Refute it at one input. -/
def liabilityReachedWrong : ChangeSpec := { name := "liabilityReached", fn := fun _ => fun
  | [d1, d2, d3] => { results := [.lit (.bool false)], args := [d1, d2, d3] }
  | _ => none }
def LiabilityReachedWrongFalsely : Prop := liabilityReachedRow.holds Try.pinned (OpenSpec.ofChange liabilityReachedWrong)

/-- 'spilelaw51.LiabilityEnumerated': WHATEVER THE INPUT: true; the input reads as it did. -/
def liabilityEnumeratedSpec : ChangeSpec := { name := "liabilityEnumerated", fn := fun _ => fun
  | [d1, d2, d3] => { results := [.lit (.bool true)], args := [d1, d2, d3] }
  | _ => none }
def liabilityEnumeratedRow : OpenClaim := { program := "ythboaobgipodiaa", sum := "ce3cecc0ebbc40614ad6b06a8eef2b52c67e94a709230809131ffa4209891af2", func := "spile/spilelaw51.LiabilityEnumerated", spec := "liabilityEnumerated", unfollowed := true, recurses := true, apart := false }
def LiabilityEnumeratedSaid : Prop := liabilityEnumeratedRow.holds Try.pinned (OpenSpec.ofChange liabilityEnumeratedSpec)

/-- ITS FALSE NEIGHBOUR: 'it returns false'. Refute it at one input. -/
def liabilityEnumeratedWrong : ChangeSpec := { name := "liabilityEnumerated", fn := fun _ => fun
  | [d1, d2, d3] => { results := [.lit (.bool false)], args := [d1, d2, d3] }
  | _ => none }
def LiabilityEnumeratedWrongFalsely : Prop := liabilityEnumeratedRow.holds Try.pinned (OpenSpec.ofChange liabilityEnumeratedWrong)

/-- 'spilelaw51.LiabilityGrows': WHATEVER THE INPUT: true; the input reads as it did. -/
def liabilityGrowsSpec : ChangeSpec := { name := "liabilityGrows", fn := fun _ => fun
  | [d1, d2, d3, d4, d5] => { results := [.lit (.bool true)], args := [d1, d2, d3, d4, d5] }
  | _ => none }
def liabilityGrowsRow : OpenClaim := { program := "ythboaobgipodiaa", sum := "ce3cecc0ebbc40614ad6b06a8eef2b52c67e94a709230809131ffa4209891af2", func := "spile/spilelaw51.LiabilityGrows", spec := "liabilityGrows", unfollowed := true, recurses := true, apart := false }
def LiabilityGrowsSaid : Prop := liabilityGrowsRow.holds Try.pinned (OpenSpec.ofChange liabilityGrowsSpec)

/-- ITS FALSE NEIGHBOUR: 'it returns false'. Refute it at one input. -/
def liabilityGrowsWrong : ChangeSpec := { name := "liabilityGrows", fn := fun _ => fun
  | [d1, d2, d3, d4, d5] => { results := [.lit (.bool false)], args := [d1, d2, d3, d4, d5] }
  | _ => none }
def LiabilityGrowsWrongFalsely : Prop := liabilityGrowsRow.holds Try.pinned (OpenSpec.ofChange liabilityGrowsWrong)

/- THE SECOND FORM. 'bulk': how many values and letters a reading holds, each counted each time it is reached (what is shared counts as often as it is met; a slice's spare places count too). A statement '..UptoSaid' is the law's where the arguments, and the package variables that the reading takes, are together of bulk at most 1048576: NARROWER than '..Said'. Prove '..Said' where nothing that the law and all that it calls make is longer than what came in: it says more and counts as full. Else prove '..UptoSaid'. A law counts once. -/
mutual
def uptoBulk {H : Type} : DataW H → Nat
  | .lit (.string bytes) => bytes.length + 1
  | .lit _ => 1
  | .nil => 1
  | .ptr d => uptoBulk d + 1
  | .slice elems spare => uptoBulkAll elems + uptoBulkAll spare + 1
  | .agg parts => uptoBulkAll parts + 1
  | .iface _ d => uptoBulk d + 1
  | .map entries => uptoBulkEntries entries + 1
  | .held _ => 1
def uptoBulkAll {H : Type} : List (DataW H) → Nat
  | [] => 0
  | d :: r => uptoBulk d + uptoBulkAll r
def uptoBulkEntries {H : Type} : List (Lit × DataW H) → Nat
  | [] => 0
  | x :: r => uptoBulkEntry x + uptoBulkEntries r
def uptoBulkEntry {H : Type} : Lit × DataW H → Nat
  | (.string bytes, d) => bytes.length + uptoBulk d + 1
  | (_, d) => uptoBulk d + 1
 end
def uptoSmall : (H : Type) → List (DataW H) → Bool := fun _ ds => decide (uptoBulkAll ds ≤ 1048576)
def OpenSpec.upto (s : _root_.Go.ChangeSpec) : _root_.Go.OpenSpec := { _root_.Go.OpenSpec.ofChange s with cond := some uptoSmall }

/-- 'spilelaw51.LiabilitySums', WHERE WHAT IT READS IS OF BULK AT MOST 1048576: true; the input reads as it did. -/
def liabilitySumsUptoRow : OpenClaim := { program := "ythboaobgipodiaa", sum := "ce3cecc0ebbc40614ad6b06a8eef2b52c67e94a709230809131ffa4209891af2", func := "spile/spilelaw51.LiabilitySums", spec := "liabilitySums", unfollowed := true, recurses := true, apart := false, narrowed := true }
def LiabilitySumsUptoSaid : Prop := liabilitySumsUptoRow.holds Try.pinned (OpenSpec.upto liabilitySumsSpec)

/-- 'spilelaw51.LiabilityOutcomes', WHERE WHAT IT READS IS OF BULK AT MOST 1048576: true; the input reads as it did. -/
def liabilityOutcomesUptoRow : OpenClaim := { program := "ythboaobgipodiaa", sum := "ce3cecc0ebbc40614ad6b06a8eef2b52c67e94a709230809131ffa4209891af2", func := "spile/spilelaw51.LiabilityOutcomes", spec := "liabilityOutcomes", unfollowed := true, recurses := true, apart := false, narrowed := true }
def LiabilityOutcomesUptoSaid : Prop := liabilityOutcomesUptoRow.holds Try.pinned (OpenSpec.upto liabilityOutcomesSpec)

/-- 'spilelaw51.LiabilitySuffices', WHERE WHAT IT READS IS OF BULK AT MOST 1048576: true; the input reads as it did. -/
def liabilitySufficesUptoRow : OpenClaim := { program := "ythboaobgipodiaa", sum := "ce3cecc0ebbc40614ad6b06a8eef2b52c67e94a709230809131ffa4209891af2", func := "spile/spilelaw51.LiabilitySuffices", spec := "liabilitySuffices", unfollowed := true, recurses := true, apart := false, narrowed := true }
def LiabilitySufficesUptoSaid : Prop := liabilitySufficesUptoRow.holds Try.pinned (OpenSpec.upto liabilitySufficesSpec)

/-- 'spilelaw51.LiabilityReached', WHERE WHAT IT READS IS OF BULK AT MOST 1048576: true; the input reads as it did. -/
def liabilityReachedUptoRow : OpenClaim := { program := "ythboaobgipodiaa", sum := "ce3cecc0ebbc40614ad6b06a8eef2b52c67e94a709230809131ffa4209891af2", func := "spile/spilelaw51.LiabilityReached", spec := "liabilityReached", unfollowed := true, recurses := true, apart := false, narrowed := true }
def LiabilityReachedUptoSaid : Prop := liabilityReachedUptoRow.holds Try.pinned (OpenSpec.upto liabilityReachedSpec)

/-- 'spilelaw51.LiabilityEnumerated', WHERE WHAT IT READS IS OF BULK AT MOST 1048576: true; the input reads as it did. -/
def liabilityEnumeratedUptoRow : OpenClaim := { program := "ythboaobgipodiaa", sum := "ce3cecc0ebbc40614ad6b06a8eef2b52c67e94a709230809131ffa4209891af2", func := "spile/spilelaw51.LiabilityEnumerated", spec := "liabilityEnumerated", unfollowed := true, recurses := true, apart := false, narrowed := true }
def LiabilityEnumeratedUptoSaid : Prop := liabilityEnumeratedUptoRow.holds Try.pinned (OpenSpec.upto liabilityEnumeratedSpec)

/-- 'spilelaw51.LiabilityGrows', WHERE WHAT IT READS IS OF BULK AT MOST 1048576: true; the input reads as it did. -/
def liabilityGrowsUptoRow : OpenClaim := { program := "ythboaobgipodiaa", sum := "ce3cecc0ebbc40614ad6b06a8eef2b52c67e94a709230809131ffa4209891af2", func := "spile/spilelaw51.LiabilityGrows", spec := "liabilityGrows", unfollowed := true, recurses := true, apart := false, narrowed := true }
def LiabilityGrowsUptoSaid : Prop := liabilityGrowsUptoRow.holds Try.pinned (OpenSpec.upto liabilityGrowsSpec)

end Rows
end Go.Proofs.Ythboaobgipodiaa
