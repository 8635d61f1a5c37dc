/-
  No cell of these rows narrows 'for every input' (looked for: loops, veiled, ifaces, maps, wideKeys, modest, calm, conditions, laid).
  DERIVED. THE GIVEN ROWS OF THIS SEAT. 7 by the template 'for every input the law returns true; each argument reads behind the call as it read before'; 0 by the template 'total and deterministic' (their statements: YtbkoghmbacdiiaaTotals.lean).
  GIVEN WITH THE SEED: the statements are not yours to turn. If you find one false, say at which input.
  Laid BY PROGRAM, IN A SANDBOX (cutbox-rows.mjs): the forced cells as the released guide's own fill.sh prints them over the translation 8dcf94e417035029… (all of the seat's roots in one cut). By AI agents, Wed Nov 11 2026. No macro, syntax, notation, axiom, sorry.
-/
import Derived.Test.YtbkoghmbacdiiaaChecked
import GoSem.Claim
import GoSem.ClaimJoined
import GoSem.ClaimMapViews
import Derived.JoinedTies
import Derived.KernelRfl
namespace Go.Proofs.Ytbkoghmbacdiiaa
/- THE CELL 'sum', in the pinned program and in every row, IS THE sha256 OF THE DUMP (.gsa) THAT YtbkoghmbacdiiaaProg.lean LOADS. Nothing in Lean hashes anything: it is a label: what it is worth is what the hold of that sum in a sandbox is worth. -/
noncomputable def Try.pinned : Pinned := { name := "ytbkoghmbacdiiaa", sum := "8dcf94e4170350296e9d153a7d6a7a3347ecd140b1a3f9e07d4d27b619408604", checked := Try.checked }
namespace Rows
def none {H : Type} : Left H := { results := [], args := [] }

/-- 'spilelaw33.RankComplements': WHATEVER THE INPUT: true; the input reads as it did. -/
def rankComplementsSpec : ChangeSpec := { name := "rankComplements", fn := fun _ => fun
  | [d1, d2] => { results := [.lit (.bool true)], args := [d1, d2] }
  | _ => none }
def rankComplementsRow : OpenClaim := { program := "ytbkoghmbacdiiaa", sum := "8dcf94e4170350296e9d153a7d6a7a3347ecd140b1a3f9e07d4d27b619408604", func := "spile/spilelaw33.RankComplements", spec := "rankComplements", unfollowed := true, recurses := true, plainKeys := false, apart := false }
def RankComplementsSaid : Prop := rankComplementsRow.holds Try.pinned (OpenSpec.ofChange rankComplementsSpec)

/-- ITS FALSE NEIGHBOUR: 'it returns false'. Refute it at one input. -/
def rankComplementsWrong : ChangeSpec := { name := "rankComplements", fn := fun _ => fun
  | [d1, d2] => { results := [.lit (.bool false)], args := [d1, d2] }
  | _ => none }
def RankComplementsWrongFalsely : Prop := rankComplementsRow.holds Try.pinned (OpenSpec.ofChange rankComplementsWrong)

/-- 'spilelaw33.RankSorts': WHATEVER THE INPUT: true; the input reads as it did. -/
def rankSortsSpec : ChangeSpec := { name := "rankSorts", fn := fun _ => fun
  | [d1, d2, d3] => { results := [.lit (.bool true)], args := [d1, d2, d3] }
  | _ => none }
def rankSortsRow : OpenClaim := { program := "ytbkoghmbacdiiaa", sum := "8dcf94e4170350296e9d153a7d6a7a3347ecd140b1a3f9e07d4d27b619408604", func := "spile/spilelaw33.RankSorts", spec := "rankSorts", unfollowed := true, recurses := true, plainKeys := false, apart := false }
def RankSortsSaid : Prop := rankSortsRow.holds Try.pinned (OpenSpec.ofChange rankSortsSpec)

/-- ITS FALSE NEIGHBOUR: 'it returns false'. Refute it at one input. -/
def rankSortsWrong : ChangeSpec := { name := "rankSorts", fn := fun _ => fun
  | [d1, d2, d3] => { results := [.lit (.bool false)], args := [d1, d2, d3] }
  | _ => none }
def RankSortsWrongFalsely : Prop := rankSortsRow.holds Try.pinned (OpenSpec.ofChange rankSortsWrong)

/-- 'spilelaw33.RankCounts': WHATEVER THE INPUT: true; the input reads as it did. -/
def rankCountsSpec : ChangeSpec := { name := "rankCounts", fn := fun _ => fun
  | [d1, d2] => { results := [.lit (.bool true)], args := [d1, d2] }
  | _ => none }
def rankCountsRow : OpenClaim := { program := "ytbkoghmbacdiiaa", sum := "8dcf94e4170350296e9d153a7d6a7a3347ecd140b1a3f9e07d4d27b619408604", func := "spile/spilelaw33.RankCounts", spec := "rankCounts", unfollowed := true, recurses := true, plainKeys := false, apart := false }
def RankCountsSaid : Prop := rankCountsRow.holds Try.pinned (OpenSpec.ofChange rankCountsSpec)

/-- ITS FALSE NEIGHBOUR: 'it returns false'. Refute it at one input. -/
def rankCountsWrong : ChangeSpec := { name := "rankCounts", fn := fun _ => fun
  | [d1, d2] => { results := [.lit (.bool false)], args := [d1, d2] }
  | _ => none }
def RankCountsWrongFalsely : Prop := rankCountsRow.holds Try.pinned (OpenSpec.ofChange rankCountsWrong)

/-- 'spilelaw33.RankOrders': WHATEVER THE INPUT: true; the input reads as it did. -/
def rankOrdersSpec : ChangeSpec := { name := "rankOrders", fn := fun _ => fun
  | [d1, d2] => { results := [.lit (.bool true)], args := [d1, d2] }
  | _ => none }
def rankOrdersRow : OpenClaim := { program := "ytbkoghmbacdiiaa", sum := "8dcf94e4170350296e9d153a7d6a7a3347ecd140b1a3f9e07d4d27b619408604", func := "spile/spilelaw33.RankOrders", spec := "rankOrders", unfollowed := true, recurses := true, plainKeys := false, apart := false }
def RankOrdersSaid : Prop := rankOrdersRow.holds Try.pinned (OpenSpec.ofChange rankOrdersSpec)

/-- ITS FALSE NEIGHBOUR: 'it returns false'. Refute it at one input. -/
def rankOrdersWrong : ChangeSpec := { name := "rankOrders", fn := fun _ => fun
  | [d1, d2] => { results := [.lit (.bool false)], args := [d1, d2] }
  | _ => none }
def RankOrdersWrongFalsely : Prop := rankOrdersRow.holds Try.pinned (OpenSpec.ofChange rankOrdersWrong)

/-- 'spilelaw33.RankSums': WHATEVER THE INPUT: true; the input reads as it did. -/
def rankSumsSpec : ChangeSpec := { name := "rankSums", fn := fun _ => fun
  | [d] => { results := [.lit (.bool true)], args := [d] }
  | _ => none }
def rankSumsRow : OpenClaim := { program := "ytbkoghmbacdiiaa", sum := "8dcf94e4170350296e9d153a7d6a7a3347ecd140b1a3f9e07d4d27b619408604", func := "spile/spilelaw33.RankSums", spec := "rankSums", unfollowed := true, recurses := true, plainKeys := false, apart := false }
def RankSumsSaid : Prop := rankSumsRow.holds Try.pinned (OpenSpec.ofChange rankSumsSpec)

/-- ITS FALSE NEIGHBOUR: 'it returns false'. Refute it at one input. -/
def rankSumsWrong : ChangeSpec := { name := "rankSums", fn := fun _ => fun
  | [d] => { results := [.lit (.bool false)], args := [d] }
  | _ => none }
def RankSumsWrongFalsely : Prop := rankSumsRow.holds Try.pinned (OpenSpec.ofChange rankSumsWrong)

/-- 'spilelaw33.RankQuantiles': WHATEVER THE INPUT: true; the input reads as it did. -/
def rankQuantilesSpec : ChangeSpec := { name := "rankQuantiles", fn := fun _ => fun
  | [d1, d2, d3] => { results := [.lit (.bool true)], args := [d1, d2, d3] }
  | _ => none }
def rankQuantilesRow : OpenClaim := { program := "ytbkoghmbacdiiaa", sum := "8dcf94e4170350296e9d153a7d6a7a3347ecd140b1a3f9e07d4d27b619408604", func := "spile/spilelaw33.RankQuantiles", spec := "rankQuantiles", unfollowed := true, recurses := true, plainKeys := false, apart := false }
def RankQuantilesSaid : Prop := rankQuantilesRow.holds Try.pinned (OpenSpec.ofChange rankQuantilesSpec)

/-- ITS FALSE NEIGHBOUR: 'it returns false'. Refute it at one input. -/
def rankQuantilesWrong : ChangeSpec := { name := "rankQuantiles", fn := fun _ => fun
  | [d1, d2, d3] => { results := [.lit (.bool false)], args := [d1, d2, d3] }
  | _ => none }
def RankQuantilesWrongFalsely : Prop := rankQuantilesRow.holds Try.pinned (OpenSpec.ofChange rankQuantilesWrong)

/-- 'spilelaw33.RankRare': WHATEVER THE INPUT: true; the input reads as it did. -/
def rankRareSpec : ChangeSpec := { name := "rankRare", fn := fun _ => fun
  | [d1, d2, d3, d4] => { results := [.lit (.bool true)], args := [d1, d2, d3, d4] }
  | _ => none }
def rankRareRow : OpenClaim := { program := "ytbkoghmbacdiiaa", sum := "8dcf94e4170350296e9d153a7d6a7a3347ecd140b1a3f9e07d4d27b619408604", func := "spile/spilelaw33.RankRare", spec := "rankRare", unfollowed := true, recurses := true, plainKeys := false, apart := false }
def RankRareSaid : Prop := rankRareRow.holds Try.pinned (OpenSpec.ofChange rankRareSpec)

/-- ITS FALSE NEIGHBOUR: 'it returns false'. Refute it at one input. -/
def rankRareWrong : ChangeSpec := { name := "rankRare", fn := fun _ => fun
  | [d1, d2, d3, d4] => { results := [.lit (.bool false)], args := [d1, d2, d3, d4] }
  | _ => none }
def RankRareWrongFalsely : Prop := rankRareRow.holds Try.pinned (OpenSpec.ofChange rankRareWrong)

/- THE SECOND FORM. 'bulk': how many values and letters a reading holds, each counted each time it is reached (what is shared counts as often as it is met; a slice's spare places count too). A statement '..UptoSaid' is the law's where the arguments, and the package variables that the reading takes, are together of bulk at most 1048576: NARROWER than '..Said'. Prove '..Said' where nothing that the law and all that it calls make is longer than what came in: it says more and counts as full. Else prove '..UptoSaid'. A law counts once. -/
mutual
def uptoBulk {H : Type} : DataW H → Nat
  | .lit (.string bytes) => bytes.length + 1
  | .lit _ => 1
  | .nil => 1
  | .ptr d => uptoBulk d + 1
  | .slice elems spare => uptoBulkAll elems + uptoBulkAll spare + 1
  | .agg parts => uptoBulkAll parts + 1
  | .iface _ d => uptoBulk d + 1
  | .map entries => uptoBulkEntries entries + 1
  | .held _ => 1
def uptoBulkAll {H : Type} : List (DataW H) → Nat
  | [] => 0
  | d :: r => uptoBulk d + uptoBulkAll r
def uptoBulkEntries {H : Type} : List (Lit × DataW H) → Nat
  | [] => 0
  | x :: r => uptoBulkEntry x + uptoBulkEntries r
def uptoBulkEntry {H : Type} : Lit × DataW H → Nat
  | (.string bytes, d) => bytes.length + uptoBulk d + 1
  | (_, d) => uptoBulk d + 1
 end
def uptoSmall : (H : Type) → List (DataW H) → Bool := fun _ ds => decide (uptoBulkAll ds ≤ 1048576)
def OpenSpec.upto (s : _root_.Go.ChangeSpec) : _root_.Go.OpenSpec := { _root_.Go.OpenSpec.ofChange s with cond := some uptoSmall }

/-- 'spilelaw33.RankComplements', WHERE WHAT IT READS IS OF BULK AT MOST 1048576: true; the input reads as it did. -/
def rankComplementsUptoRow : OpenClaim := { program := "ytbkoghmbacdiiaa", sum := "8dcf94e4170350296e9d153a7d6a7a3347ecd140b1a3f9e07d4d27b619408604", func := "spile/spilelaw33.RankComplements", spec := "rankComplements", unfollowed := true, recurses := true, plainKeys := false, apart := false, narrowed := true }
def RankComplementsUptoSaid : Prop := rankComplementsUptoRow.holds Try.pinned (OpenSpec.upto rankComplementsSpec)

/-- 'spilelaw33.RankSorts', WHERE WHAT IT READS IS OF BULK AT MOST 1048576: true; the input reads as it did. -/
def rankSortsUptoRow : OpenClaim := { program := "ytbkoghmbacdiiaa", sum := "8dcf94e4170350296e9d153a7d6a7a3347ecd140b1a3f9e07d4d27b619408604", func := "spile/spilelaw33.RankSorts", spec := "rankSorts", unfollowed := true, recurses := true, plainKeys := false, apart := false, narrowed := true }
def RankSortsUptoSaid : Prop := rankSortsUptoRow.holds Try.pinned (OpenSpec.upto rankSortsSpec)

/-- 'spilelaw33.RankCounts', WHERE WHAT IT READS IS OF BULK AT MOST 1048576: true; the input reads as it did. -/
def rankCountsUptoRow : OpenClaim := { program := "ytbkoghmbacdiiaa", sum := "8dcf94e4170350296e9d153a7d6a7a3347ecd140b1a3f9e07d4d27b619408604", func := "spile/spilelaw33.RankCounts", spec := "rankCounts", unfollowed := true, recurses := true, plainKeys := false, apart := false, narrowed := true }
def RankCountsUptoSaid : Prop := rankCountsUptoRow.holds Try.pinned (OpenSpec.upto rankCountsSpec)

/-- 'spilelaw33.RankOrders', WHERE WHAT IT READS IS OF BULK AT MOST 1048576: true; the input reads as it did. -/
def rankOrdersUptoRow : OpenClaim := { program := "ytbkoghmbacdiiaa", sum := "8dcf94e4170350296e9d153a7d6a7a3347ecd140b1a3f9e07d4d27b619408604", func := "spile/spilelaw33.RankOrders", spec := "rankOrders", unfollowed := true, recurses := true, plainKeys := false, apart := false, narrowed := true }
def RankOrdersUptoSaid : Prop := rankOrdersUptoRow.holds Try.pinned (OpenSpec.upto rankOrdersSpec)

/-- 'spilelaw33.RankSums', WHERE WHAT IT READS IS OF BULK AT MOST 1048576: true; the input reads as it did. -/
def rankSumsUptoRow : OpenClaim := { program := "ytbkoghmbacdiiaa", sum := "8dcf94e4170350296e9d153a7d6a7a3347ecd140b1a3f9e07d4d27b619408604", func := "spile/spilelaw33.RankSums", spec := "rankSums", unfollowed := true, recurses := true, plainKeys := false, apart := false, narrowed := true }
def RankSumsUptoSaid : Prop := rankSumsUptoRow.holds Try.pinned (OpenSpec.upto rankSumsSpec)

/-- 'spilelaw33.RankQuantiles', WHERE WHAT IT READS IS OF BULK AT MOST 1048576: true; the input reads as it did. -/
def rankQuantilesUptoRow : OpenClaim := { program := "ytbkoghmbacdiiaa", sum := "8dcf94e4170350296e9d153a7d6a7a3347ecd140b1a3f9e07d4d27b619408604", func := "spile/spilelaw33.RankQuantiles", spec := "rankQuantiles", unfollowed := true, recurses := true, plainKeys := false, apart := false, narrowed := true }
def RankQuantilesUptoSaid : Prop := rankQuantilesUptoRow.holds Try.pinned (OpenSpec.upto rankQuantilesSpec)

/-- 'spilelaw33.RankRare', WHERE WHAT IT READS IS OF BULK AT MOST 1048576: true; the input reads as it did. -/
def rankRareUptoRow : OpenClaim := { program := "ytbkoghmbacdiiaa", sum := "8dcf94e4170350296e9d153a7d6a7a3347ecd140b1a3f9e07d4d27b619408604", func := "spile/spilelaw33.RankRare", spec := "rankRare", unfollowed := true, recurses := true, plainKeys := false, apart := false, narrowed := true }
def RankRareUptoSaid : Prop := rankRareUptoRow.holds Try.pinned (OpenSpec.upto rankRareSpec)

end Rows
end Go.Proofs.Ytbkoghmbacdiiaa
