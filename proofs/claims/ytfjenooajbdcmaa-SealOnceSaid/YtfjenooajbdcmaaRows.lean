/-
  No cell of these rows narrows 'for every input' (looked for: loops, veiled, ifaces, maps, wideKeys, modest, calm, conditions, laid).
  DERIVED. THE GIVEN ROWS OF THIS SEAT. 7 by the template 'for every input the law returns true; each argument reads behind the call as it read before'; 0 by the template 'total and deterministic' (their statements: YtfjenooajbdcmaaTotals.lean).
  GIVEN WITH THE SEED: the statements are not yours to turn. If you find one false, say at which input.
  Laid BY PROGRAM, IN A SANDBOX (cutbox-rows.mjs): the forced cells as the released guide's own fill.sh prints them over the translation 1a04799215bc68e4… (all of the seat's roots in one cut). By AI agents, Wed Nov 11 2026. No macro, syntax, notation, axiom, sorry.
-/
import Derived.Test.YtfjenooajbdcmaaChecked
import GoSem.Claim
import GoSem.ClaimJoined
import GoSem.ClaimMapViews
import Derived.JoinedTies
import Derived.KernelRfl
namespace Go.Proofs.Ytfjenooajbdcmaa
/- THE CELL 'sum', in the pinned program and in every row, IS THE sha256 OF THE DUMP (.gsa) THAT YtfjenooajbdcmaaProg.lean LOADS. Nothing in Lean hashes anything: it is a label: what it is worth is what the hold of that sum in a sandbox is worth. -/
noncomputable def Try.pinned : Pinned := { name := "ytfjenooajbdcmaa", sum := "1a04799215bc68e423be68567898c0e8d66f7192a6ebdf213a2e27f41d68bb16", checked := Try.checked }
namespace Rows
def none {H : Type} : Left H := { results := [], args := [] }

/-- 'spilelaw39.SealTimes': WHATEVER THE INPUT: true; the input reads as it did. -/
def sealTimesSpec : ChangeSpec := { name := "sealTimes", fn := fun _ => fun
  | [d1, d2] => { results := [.lit (.bool true)], args := [d1, d2] }
  | _ => none }
def sealTimesRow : OpenClaim := { program := "ytfjenooajbdcmaa", sum := "1a04799215bc68e423be68567898c0e8d66f7192a6ebdf213a2e27f41d68bb16", func := "spile/spilelaw39.SealTimes", spec := "sealTimes", unfollowed := true, recurses := true, apart := false }
def SealTimesSaid : Prop := sealTimesRow.holds Try.pinned (OpenSpec.ofChange sealTimesSpec)

/-- ITS FALSE NEIGHBOUR: 'it returns false'. Refute it at one input. -/
def sealTimesWrong : ChangeSpec := { name := "sealTimes", fn := fun _ => fun
  | [d1, d2] => { results := [.lit (.bool false)], args := [d1, d2] }
  | _ => none }
def SealTimesWrongFalsely : Prop := sealTimesRow.holds Try.pinned (OpenSpec.ofChange sealTimesWrong)

/-- 'spilelaw39.SealParts': WHATEVER THE INPUT: true; the input reads as it did. -/
def sealPartsSpec : ChangeSpec := { name := "sealParts", fn := fun _ => fun
  | [d1, d2, d3] => { results := [.lit (.bool true)], args := [d1, d2, d3] }
  | _ => none }
def sealPartsRow : OpenClaim := { program := "ytfjenooajbdcmaa", sum := "1a04799215bc68e423be68567898c0e8d66f7192a6ebdf213a2e27f41d68bb16", func := "spile/spilelaw39.SealParts", spec := "sealParts", unfollowed := true, recurses := true, apart := false }
def SealPartsSaid : Prop := sealPartsRow.holds Try.pinned (OpenSpec.ofChange sealPartsSpec)

/-- ITS FALSE NEIGHBOUR: 'it returns false'. Refute it at one input. -/
def sealPartsWrong : ChangeSpec := { name := "sealParts", fn := fun _ => fun
  | [d1, d2, d3] => { results := [.lit (.bool false)], args := [d1, d2, d3] }
  | _ => none }
def SealPartsWrongFalsely : Prop := sealPartsRow.holds Try.pinned (OpenSpec.ofChange sealPartsWrong)

/-- 'spilelaw39.SealOnce': WHATEVER THE INPUT: true; the input reads as it did. -/
def sealOnceSpec : ChangeSpec := { name := "sealOnce", fn := fun _ => fun
  | [d1, d2, d3, d4] => { results := [.lit (.bool true)], args := [d1, d2, d3, d4] }
  | _ => none }
def sealOnceRow : OpenClaim := { program := "ytfjenooajbdcmaa", sum := "1a04799215bc68e423be68567898c0e8d66f7192a6ebdf213a2e27f41d68bb16", func := "spile/spilelaw39.SealOnce", spec := "sealOnce", unfollowed := true, recurses := true, apart := false }
def SealOnceSaid : Prop := sealOnceRow.holds Try.pinned (OpenSpec.ofChange sealOnceSpec)

/-- ITS FALSE NEIGHBOUR: 'it returns false'. Refute it at one input. -/
def sealOnceWrong : ChangeSpec := { name := "sealOnce", fn := fun _ => fun
  | [d1, d2, d3, d4] => { results := [.lit (.bool false)], args := [d1, d2, d3, d4] }
  | _ => none }
def SealOnceWrongFalsely : Prop := sealOnceRow.holds Try.pinned (OpenSpec.ofChange sealOnceWrong)

/-- 'spilelaw39.SealEnds': WHATEVER THE INPUT: true; the input reads as it did. -/
def sealEndsSpec : ChangeSpec := { name := "sealEnds", fn := fun _ => fun
  | [d1, d2, d3] => { results := [.lit (.bool true)], args := [d1, d2, d3] }
  | _ => none }
def sealEndsRow : OpenClaim := { program := "ytfjenooajbdcmaa", sum := "1a04799215bc68e423be68567898c0e8d66f7192a6ebdf213a2e27f41d68bb16", func := "spile/spilelaw39.SealEnds", spec := "sealEnds", unfollowed := true, recurses := true, apart := false }
def SealEndsSaid : Prop := sealEndsRow.holds Try.pinned (OpenSpec.ofChange sealEndsSpec)

/-- ITS FALSE NEIGHBOUR: 'it returns false'. Refute it at one input. -/
def sealEndsWrong : ChangeSpec := { name := "sealEnds", fn := fun _ => fun
  | [d1, d2, d3] => { results := [.lit (.bool false)], args := [d1, d2, d3] }
  | _ => none }
def SealEndsWrongFalsely : Prop := sealEndsRow.holds Try.pinned (OpenSpec.ofChange sealEndsWrong)

/-- 'spilelaw39.SealSame': WHATEVER THE INPUT: true; the input reads as it did. -/
def sealSameSpec : ChangeSpec := { name := "sealSame", fn := fun _ => fun
  | [d1, d2] => { results := [.lit (.bool true)], args := [d1, d2] }
  | _ => none }
def sealSameRow : OpenClaim := { program := "ytfjenooajbdcmaa", sum := "1a04799215bc68e423be68567898c0e8d66f7192a6ebdf213a2e27f41d68bb16", func := "spile/spilelaw39.SealSame", spec := "sealSame", unfollowed := true, recurses := true, apart := false }
def SealSameSaid : Prop := sealSameRow.holds Try.pinned (OpenSpec.ofChange sealSameSpec)

/-- ITS FALSE NEIGHBOUR: 'it returns false'. Refute it at one input. -/
def sealSameWrong : ChangeSpec := { name := "sealSame", fn := fun _ => fun
  | [d1, d2] => { results := [.lit (.bool false)], args := [d1, d2] }
  | _ => none }
def SealSameWrongFalsely : Prop := sealSameRow.holds Try.pinned (OpenSpec.ofChange sealSameWrong)

/-- 'spilelaw39.SealChecks': WHATEVER THE INPUT: true; the input reads as it did. -/
def sealChecksSpec : ChangeSpec := { name := "sealChecks", fn := fun _ => fun
  | [d1, d2, d3] => { results := [.lit (.bool true)], args := [d1, d2, d3] }
  | _ => none }
def sealChecksRow : OpenClaim := { program := "ytfjenooajbdcmaa", sum := "1a04799215bc68e423be68567898c0e8d66f7192a6ebdf213a2e27f41d68bb16", func := "spile/spilelaw39.SealChecks", spec := "sealChecks", unfollowed := true, recurses := true, apart := false }
def SealChecksSaid : Prop := sealChecksRow.holds Try.pinned (OpenSpec.ofChange sealChecksSpec)

/-- ITS FALSE NEIGHBOUR: 'it returns false'. Refute it at one input. -/
def sealChecksWrong : ChangeSpec := { name := "sealChecks", fn := fun _ => fun
  | [d1, d2, d3] => { results := [.lit (.bool false)], args := [d1, d2, d3] }
  | _ => none }
def SealChecksWrongFalsely : Prop := sealChecksRow.holds Try.pinned (OpenSpec.ofChange sealChecksWrong)

/-- 'spilelaw39.SealHistory': WHATEVER THE INPUT: true; the input reads as it did. -/
def sealHistorySpec : ChangeSpec := { name := "sealHistory", fn := fun _ => fun
  | [d1, d2] => { results := [.lit (.bool true)], args := [d1, d2] }
  | _ => none }
def sealHistoryRow : OpenClaim := { program := "ytfjenooajbdcmaa", sum := "1a04799215bc68e423be68567898c0e8d66f7192a6ebdf213a2e27f41d68bb16", func := "spile/spilelaw39.SealHistory", spec := "sealHistory", unfollowed := true, recurses := true, apart := false }
def SealHistorySaid : Prop := sealHistoryRow.holds Try.pinned (OpenSpec.ofChange sealHistorySpec)

/-- ITS FALSE NEIGHBOUR: 'it returns false'. Refute it at one input. -/
def sealHistoryWrong : ChangeSpec := { name := "sealHistory", fn := fun _ => fun
  | [d1, d2] => { results := [.lit (.bool false)], args := [d1, d2] }
  | _ => none }
def SealHistoryWrongFalsely : Prop := sealHistoryRow.holds Try.pinned (OpenSpec.ofChange sealHistoryWrong)

/- THE SECOND FORM. 'bulk': how many values and letters a reading holds, each counted each time it is reached (what is shared counts as often as it is met; a slice's spare places count too). A statement '..UptoSaid' is the law's where the arguments, and the package variables that the reading takes, are together of bulk at most 1048576: NARROWER than '..Said'. Prove '..Said' where nothing that the law and all that it calls make is longer than what came in: it says more and counts as full. Else prove '..UptoSaid'. A law counts once. -/
mutual
def uptoBulk {H : Type} : DataW H → Nat
  | .lit (.string bytes) => bytes.length + 1
  | .lit _ => 1
  | .nil => 1
  | .ptr d => uptoBulk d + 1
  | .slice elems spare => uptoBulkAll elems + uptoBulkAll spare + 1
  | .agg parts => uptoBulkAll parts + 1
  | .iface _ d => uptoBulk d + 1
  | .map entries => uptoBulkEntries entries + 1
  | .held _ => 1
def uptoBulkAll {H : Type} : List (DataW H) → Nat
  | [] => 0
  | d :: r => uptoBulk d + uptoBulkAll r
def uptoBulkEntries {H : Type} : List (Lit × DataW H) → Nat
  | [] => 0
  | x :: r => uptoBulkEntry x + uptoBulkEntries r
def uptoBulkEntry {H : Type} : Lit × DataW H → Nat
  | (.string bytes, d) => bytes.length + uptoBulk d + 1
  | (_, d) => uptoBulk d + 1
 end
def uptoSmall : (H : Type) → List (DataW H) → Bool := fun _ ds => decide (uptoBulkAll ds ≤ 1048576)
def OpenSpec.upto (s : _root_.Go.ChangeSpec) : _root_.Go.OpenSpec := { _root_.Go.OpenSpec.ofChange s with cond := some uptoSmall }

/-- 'spilelaw39.SealTimes', WHERE WHAT IT READS IS OF BULK AT MOST 1048576: true; the input reads as it did. -/
def sealTimesUptoRow : OpenClaim := { program := "ytfjenooajbdcmaa", sum := "1a04799215bc68e423be68567898c0e8d66f7192a6ebdf213a2e27f41d68bb16", func := "spile/spilelaw39.SealTimes", spec := "sealTimes", unfollowed := true, recurses := true, apart := false, narrowed := true }
def SealTimesUptoSaid : Prop := sealTimesUptoRow.holds Try.pinned (OpenSpec.upto sealTimesSpec)

/-- 'spilelaw39.SealParts', WHERE WHAT IT READS IS OF BULK AT MOST 1048576: true; the input reads as it did. -/
def sealPartsUptoRow : OpenClaim := { program := "ytfjenooajbdcmaa", sum := "1a04799215bc68e423be68567898c0e8d66f7192a6ebdf213a2e27f41d68bb16", func := "spile/spilelaw39.SealParts", spec := "sealParts", unfollowed := true, recurses := true, apart := false, narrowed := true }
def SealPartsUptoSaid : Prop := sealPartsUptoRow.holds Try.pinned (OpenSpec.upto sealPartsSpec)

/-- 'spilelaw39.SealOnce', WHERE WHAT IT READS IS OF BULK AT MOST 1048576: true; the input reads as it did. -/
def sealOnceUptoRow : OpenClaim := { program := "ytfjenooajbdcmaa", sum := "1a04799215bc68e423be68567898c0e8d66f7192a6ebdf213a2e27f41d68bb16", func := "spile/spilelaw39.SealOnce", spec := "sealOnce", unfollowed := true, recurses := true, apart := false, narrowed := true }
def SealOnceUptoSaid : Prop := sealOnceUptoRow.holds Try.pinned (OpenSpec.upto sealOnceSpec)

/-- 'spilelaw39.SealEnds', WHERE WHAT IT READS IS OF BULK AT MOST 1048576: true; the input reads as it did. -/
def sealEndsUptoRow : OpenClaim := { program := "ytfjenooajbdcmaa", sum := "1a04799215bc68e423be68567898c0e8d66f7192a6ebdf213a2e27f41d68bb16", func := "spile/spilelaw39.SealEnds", spec := "sealEnds", unfollowed := true, recurses := true, apart := false, narrowed := true }
def SealEndsUptoSaid : Prop := sealEndsUptoRow.holds Try.pinned (OpenSpec.upto sealEndsSpec)

/-- 'spilelaw39.SealSame', WHERE WHAT IT READS IS OF BULK AT MOST 1048576: true; the input reads as it did. -/
def sealSameUptoRow : OpenClaim := { program := "ytfjenooajbdcmaa", sum := "1a04799215bc68e423be68567898c0e8d66f7192a6ebdf213a2e27f41d68bb16", func := "spile/spilelaw39.SealSame", spec := "sealSame", unfollowed := true, recurses := true, apart := false, narrowed := true }
def SealSameUptoSaid : Prop := sealSameUptoRow.holds Try.pinned (OpenSpec.upto sealSameSpec)

/-- 'spilelaw39.SealChecks', WHERE WHAT IT READS IS OF BULK AT MOST 1048576: true; the input reads as it did. -/
def sealChecksUptoRow : OpenClaim := { program := "ytfjenooajbdcmaa", sum := "1a04799215bc68e423be68567898c0e8d66f7192a6ebdf213a2e27f41d68bb16", func := "spile/spilelaw39.SealChecks", spec := "sealChecks", unfollowed := true, recurses := true, apart := false, narrowed := true }
def SealChecksUptoSaid : Prop := sealChecksUptoRow.holds Try.pinned (OpenSpec.upto sealChecksSpec)

/-- 'spilelaw39.SealHistory', WHERE WHAT IT READS IS OF BULK AT MOST 1048576: true; the input reads as it did. -/
def sealHistoryUptoRow : OpenClaim := { program := "ytfjenooajbdcmaa", sum := "1a04799215bc68e423be68567898c0e8d66f7192a6ebdf213a2e27f41d68bb16", func := "spile/spilelaw39.SealHistory", spec := "sealHistory", unfollowed := true, recurses := true, apart := false, narrowed := true }
def SealHistoryUptoSaid : Prop := sealHistoryUptoRow.holds Try.pinned (OpenSpec.upto sealHistorySpec)

end Rows
end Go.Proofs.Ytfjenooajbdcmaa
