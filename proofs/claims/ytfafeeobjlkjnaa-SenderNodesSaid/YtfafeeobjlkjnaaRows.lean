/-
  No cell of these rows narrows 'for every input' (looked for: loops, veiled, ifaces, maps, wideKeys, modest, calm, conditions, laid).
  DERIVED. THE GIVEN ROWS OF THIS SEAT. 7 by the template 'for every input the law returns true; each argument reads behind the call as it read before'; 0 by the template 'total and deterministic' (their statements: YtfafeeobjlkjnaaTotals.lean).
  GIVEN WITH THE SEED: the statements are not yours to turn. If you find one false, say at which input.
  Laid BY PROGRAM, IN A SANDBOX (cutbox-rows.mjs): the forced cells as the released guide's own fill.sh prints them over the translation 838ec7fec2dad27b… (all of the seat's roots in one cut). By AI agents, Wed Nov 11 2026. No macro, syntax, notation, axiom, sorry.
-/
import Derived.Test.YtfafeeobjlkjnaaChecked
import GoSem.Claim
import GoSem.ClaimJoined
import GoSem.ClaimMapViews
import Derived.JoinedTies
import Derived.KernelRfl
namespace Go.Proofs.Ytfafeeobjlkjnaa
/- THE CELL 'sum', in the pinned program and in every row, IS THE sha256 OF THE DUMP (.gsa) THAT YtfafeeobjlkjnaaProg.lean LOADS. Nothing in Lean hashes anything: it is a label: what it is worth is what the hold of that sum in a sandbox is worth. -/
noncomputable def Try.pinned : Pinned := { name := "ytfafeeobjlkjnaa", sum := "838ec7fec2dad27b5570e1008398cc861def2e86c1eeb722c6e04158f1b584d4", checked := Try.checked }
namespace Rows
def none {H : Type} : Left H := { results := [], args := [] }

/-- 'spilelaw42.SenderSends': WHATEVER THE INPUT: true; the input reads as it did. -/
def senderSendsSpec : ChangeSpec := { name := "senderSends", fn := fun _ => fun
  | [d1, d2, d3] => { results := [.lit (.bool true)], args := [d1, d2, d3] }
  | _ => none }
def senderSendsRow : OpenClaim := { program := "ytfafeeobjlkjnaa", sum := "838ec7fec2dad27b5570e1008398cc861def2e86c1eeb722c6e04158f1b584d4", func := "spile/spilelaw42.SenderSends", spec := "senderSends", unfollowed := true, recurses := true, plainKeys := false, apart := false }
def SenderSendsSaid : Prop := senderSendsRow.holds Try.pinned (OpenSpec.ofChange senderSendsSpec)

/-- ITS FALSE NEIGHBOUR: 'it returns false'. Refute it at one input. -/
def senderSendsWrong : ChangeSpec := { name := "senderSends", fn := fun _ => fun
  | [d1, d2, d3] => { results := [.lit (.bool false)], args := [d1, d2, d3] }
  | _ => none }
def SenderSendsWrongFalsely : Prop := senderSendsRow.holds Try.pinned (OpenSpec.ofChange senderSendsWrong)

/-- 'spilelaw42.SenderPends': WHATEVER THE INPUT: true; the input reads as it did. -/
def senderPendsSpec : ChangeSpec := { name := "senderPends", fn := fun _ => fun
  | [d1, d2, d3] => { results := [.lit (.bool true)], args := [d1, d2, d3] }
  | _ => none }
def senderPendsRow : OpenClaim := { program := "ytfafeeobjlkjnaa", sum := "838ec7fec2dad27b5570e1008398cc861def2e86c1eeb722c6e04158f1b584d4", func := "spile/spilelaw42.SenderPends", spec := "senderPends", unfollowed := true, recurses := true, plainKeys := false, apart := false }
def SenderPendsSaid : Prop := senderPendsRow.holds Try.pinned (OpenSpec.ofChange senderPendsSpec)

/-- ITS FALSE NEIGHBOUR: 'it returns false'. Refute it at one input. -/
def senderPendsWrong : ChangeSpec := { name := "senderPends", fn := fun _ => fun
  | [d1, d2, d3] => { results := [.lit (.bool false)], args := [d1, d2, d3] }
  | _ => none }
def SenderPendsWrongFalsely : Prop := senderPendsRow.holds Try.pinned (OpenSpec.ofChange senderPendsWrong)

/-- 'spilelaw42.SenderTakes': WHATEVER THE INPUT: true; the input reads as it did. -/
def senderTakesSpec : ChangeSpec := { name := "senderTakes", fn := fun _ => fun
  | [d1, d2] => { results := [.lit (.bool true)], args := [d1, d2] }
  | _ => none }
def senderTakesRow : OpenClaim := { program := "ytfafeeobjlkjnaa", sum := "838ec7fec2dad27b5570e1008398cc861def2e86c1eeb722c6e04158f1b584d4", func := "spile/spilelaw42.SenderTakes", spec := "senderTakes", unfollowed := true, recurses := true, plainKeys := false, apart := false }
def SenderTakesSaid : Prop := senderTakesRow.holds Try.pinned (OpenSpec.ofChange senderTakesSpec)

/-- ITS FALSE NEIGHBOUR: 'it returns false'. Refute it at one input. -/
def senderTakesWrong : ChangeSpec := { name := "senderTakes", fn := fun _ => fun
  | [d1, d2] => { results := [.lit (.bool false)], args := [d1, d2] }
  | _ => none }
def SenderTakesWrongFalsely : Prop := senderTakesRow.holds Try.pinned (OpenSpec.ofChange senderTakesWrong)

/-- 'spilelaw42.SenderCounts': WHATEVER THE INPUT: true; the input reads as it did. -/
def senderCountsSpec : ChangeSpec := { name := "senderCounts", fn := fun _ => fun
  | [d1, d2, d3] => { results := [.lit (.bool true)], args := [d1, d2, d3] }
  | _ => none }
def senderCountsRow : OpenClaim := { program := "ytfafeeobjlkjnaa", sum := "838ec7fec2dad27b5570e1008398cc861def2e86c1eeb722c6e04158f1b584d4", func := "spile/spilelaw42.SenderCounts", spec := "senderCounts", unfollowed := true, recurses := true, plainKeys := false, apart := false }
def SenderCountsSaid : Prop := senderCountsRow.holds Try.pinned (OpenSpec.ofChange senderCountsSpec)

/-- ITS FALSE NEIGHBOUR: 'it returns false'. Refute it at one input. -/
def senderCountsWrong : ChangeSpec := { name := "senderCounts", fn := fun _ => fun
  | [d1, d2, d3] => { results := [.lit (.bool false)], args := [d1, d2, d3] }
  | _ => none }
def SenderCountsWrongFalsely : Prop := senderCountsRow.holds Try.pinned (OpenSpec.ofChange senderCountsWrong)

/-- 'spilelaw42.SenderOrder': WHATEVER THE INPUT: true; the input reads as it did. -/
def senderOrderSpec : ChangeSpec := { name := "senderOrder", fn := fun _ => fun
  | [d1, d2] => { results := [.lit (.bool true)], args := [d1, d2] }
  | _ => none }
def senderOrderRow : OpenClaim := { program := "ytfafeeobjlkjnaa", sum := "838ec7fec2dad27b5570e1008398cc861def2e86c1eeb722c6e04158f1b584d4", func := "spile/spilelaw42.SenderOrder", spec := "senderOrder", unfollowed := true, recurses := true, plainKeys := false, apart := false }
def SenderOrderSaid : Prop := senderOrderRow.holds Try.pinned (OpenSpec.ofChange senderOrderSpec)

/-- ITS FALSE NEIGHBOUR: 'it returns false'. Refute it at one input. -/
def senderOrderWrong : ChangeSpec := { name := "senderOrder", fn := fun _ => fun
  | [d1, d2] => { results := [.lit (.bool false)], args := [d1, d2] }
  | _ => none }
def SenderOrderWrongFalsely : Prop := senderOrderRow.holds Try.pinned (OpenSpec.ofChange senderOrderWrong)

/-- 'spilelaw42.SenderHears': WHATEVER THE INPUT: true; the input reads as it did. -/
def senderHearsSpec : ChangeSpec := { name := "senderHears", fn := fun _ => fun
  | [d1, d2, d3] => { results := [.lit (.bool true)], args := [d1, d2, d3] }
  | _ => none }
def senderHearsRow : OpenClaim := { program := "ytfafeeobjlkjnaa", sum := "838ec7fec2dad27b5570e1008398cc861def2e86c1eeb722c6e04158f1b584d4", func := "spile/spilelaw42.SenderHears", spec := "senderHears", unfollowed := true, recurses := true, plainKeys := false, apart := false }
def SenderHearsSaid : Prop := senderHearsRow.holds Try.pinned (OpenSpec.ofChange senderHearsSpec)

/-- ITS FALSE NEIGHBOUR: 'it returns false'. Refute it at one input. -/
def senderHearsWrong : ChangeSpec := { name := "senderHears", fn := fun _ => fun
  | [d1, d2, d3] => { results := [.lit (.bool false)], args := [d1, d2, d3] }
  | _ => none }
def SenderHearsWrongFalsely : Prop := senderHearsRow.holds Try.pinned (OpenSpec.ofChange senderHearsWrong)

/-- 'spilelaw42.SenderNodes': WHATEVER THE INPUT: true; the input reads as it did. -/
def senderNodesSpec : ChangeSpec := { name := "senderNodes", fn := fun _ => fun
  | [d1, d2] => { results := [.lit (.bool true)], args := [d1, d2] }
  | _ => none }
def senderNodesRow : OpenClaim := { program := "ytfafeeobjlkjnaa", sum := "838ec7fec2dad27b5570e1008398cc861def2e86c1eeb722c6e04158f1b584d4", func := "spile/spilelaw42.SenderNodes", spec := "senderNodes", unfollowed := true, recurses := true, plainKeys := false, apart := false }
def SenderNodesSaid : Prop := senderNodesRow.holds Try.pinned (OpenSpec.ofChange senderNodesSpec)

/-- ITS FALSE NEIGHBOUR: 'it returns false'. Refute it at one input. -/
def senderNodesWrong : ChangeSpec := { name := "senderNodes", fn := fun _ => fun
  | [d1, d2] => { results := [.lit (.bool false)], args := [d1, d2] }
  | _ => none }
def SenderNodesWrongFalsely : Prop := senderNodesRow.holds Try.pinned (OpenSpec.ofChange senderNodesWrong)

/- THE SECOND FORM. 'bulk': how many values and letters a reading holds, each counted each time it is reached (what is shared counts as often as it is met; a slice's spare places count too). A statement '..UptoSaid' is the law's where the arguments, and the package variables that the reading takes, are together of bulk at most 1048576: NARROWER than '..Said'. Prove '..Said' where nothing that the law and all that it calls make is longer than what came in: it says more and counts as full. Else prove '..UptoSaid'. A law counts once. -/
mutual
def uptoBulk {H : Type} : DataW H → Nat
  | .lit (.string bytes) => bytes.length + 1
  | .lit _ => 1
  | .nil => 1
  | .ptr d => uptoBulk d + 1
  | .slice elems spare => uptoBulkAll elems + uptoBulkAll spare + 1
  | .agg parts => uptoBulkAll parts + 1
  | .iface _ d => uptoBulk d + 1
  | .map entries => uptoBulkEntries entries + 1
  | .held _ => 1
def uptoBulkAll {H : Type} : List (DataW H) → Nat
  | [] => 0
  | d :: r => uptoBulk d + uptoBulkAll r
def uptoBulkEntries {H : Type} : List (Lit × DataW H) → Nat
  | [] => 0
  | x :: r => uptoBulkEntry x + uptoBulkEntries r
def uptoBulkEntry {H : Type} : Lit × DataW H → Nat
  | (.string bytes, d) => bytes.length + uptoBulk d + 1
  | (_, d) => uptoBulk d + 1
 end
def uptoSmall : (H : Type) → List (DataW H) → Bool := fun _ ds => decide (uptoBulkAll ds ≤ 1048576)
def OpenSpec.upto (s : _root_.Go.ChangeSpec) : _root_.Go.OpenSpec := { _root_.Go.OpenSpec.ofChange s with cond := some uptoSmall }

/-- 'spilelaw42.SenderSends', WHERE WHAT IT READS IS OF BULK AT MOST 1048576: true; the input reads as it did. -/
def senderSendsUptoRow : OpenClaim := { program := "ytfafeeobjlkjnaa", sum := "838ec7fec2dad27b5570e1008398cc861def2e86c1eeb722c6e04158f1b584d4", func := "spile/spilelaw42.SenderSends", spec := "senderSends", unfollowed := true, recurses := true, plainKeys := false, apart := false, narrowed := true }
def SenderSendsUptoSaid : Prop := senderSendsUptoRow.holds Try.pinned (OpenSpec.upto senderSendsSpec)

/-- 'spilelaw42.SenderPends', WHERE WHAT IT READS IS OF BULK AT MOST 1048576: true; the input reads as it did. -/
def senderPendsUptoRow : OpenClaim := { program := "ytfafeeobjlkjnaa", sum := "838ec7fec2dad27b5570e1008398cc861def2e86c1eeb722c6e04158f1b584d4", func := "spile/spilelaw42.SenderPends", spec := "senderPends", unfollowed := true, recurses := true, plainKeys := false, apart := false, narrowed := true }
def SenderPendsUptoSaid : Prop := senderPendsUptoRow.holds Try.pinned (OpenSpec.upto senderPendsSpec)

/-- 'spilelaw42.SenderTakes', WHERE WHAT IT READS IS OF BULK AT MOST 1048576: true; the input reads as it did. -/
def senderTakesUptoRow : OpenClaim := { program := "ytfafeeobjlkjnaa", sum := "838ec7fec2dad27b5570e1008398cc861def2e86c1eeb722c6e04158f1b584d4", func := "spile/spilelaw42.SenderTakes", spec := "senderTakes", unfollowed := true, recurses := true, plainKeys := false, apart := false, narrowed := true }
def SenderTakesUptoSaid : Prop := senderTakesUptoRow.holds Try.pinned (OpenSpec.upto senderTakesSpec)

/-- 'spilelaw42.SenderCounts', WHERE WHAT IT READS IS OF BULK AT MOST 1048576: true; the input reads as it did. -/
def senderCountsUptoRow : OpenClaim := { program := "ytfafeeobjlkjnaa", sum := "838ec7fec2dad27b5570e1008398cc861def2e86c1eeb722c6e04158f1b584d4", func := "spile/spilelaw42.SenderCounts", spec := "senderCounts", unfollowed := true, recurses := true, plainKeys := false, apart := false, narrowed := true }
def SenderCountsUptoSaid : Prop := senderCountsUptoRow.holds Try.pinned (OpenSpec.upto senderCountsSpec)

/-- 'spilelaw42.SenderOrder', WHERE WHAT IT READS IS OF BULK AT MOST 1048576: true; the input reads as it did. -/
def senderOrderUptoRow : OpenClaim := { program := "ytfafeeobjlkjnaa", sum := "838ec7fec2dad27b5570e1008398cc861def2e86c1eeb722c6e04158f1b584d4", func := "spile/spilelaw42.SenderOrder", spec := "senderOrder", unfollowed := true, recurses := true, plainKeys := false, apart := false, narrowed := true }
def SenderOrderUptoSaid : Prop := senderOrderUptoRow.holds Try.pinned (OpenSpec.upto senderOrderSpec)

/-- 'spilelaw42.SenderHears', WHERE WHAT IT READS IS OF BULK AT MOST 1048576: true; the input reads as it did. -/
def senderHearsUptoRow : OpenClaim := { program := "ytfafeeobjlkjnaa", sum := "838ec7fec2dad27b5570e1008398cc861def2e86c1eeb722c6e04158f1b584d4", func := "spile/spilelaw42.SenderHears", spec := "senderHears", unfollowed := true, recurses := true, plainKeys := false, apart := false, narrowed := true }
def SenderHearsUptoSaid : Prop := senderHearsUptoRow.holds Try.pinned (OpenSpec.upto senderHearsSpec)

/-- 'spilelaw42.SenderNodes', WHERE WHAT IT READS IS OF BULK AT MOST 1048576: true; the input reads as it did. -/
def senderNodesUptoRow : OpenClaim := { program := "ytfafeeobjlkjnaa", sum := "838ec7fec2dad27b5570e1008398cc861def2e86c1eeb722c6e04158f1b584d4", func := "spile/spilelaw42.SenderNodes", spec := "senderNodes", unfollowed := true, recurses := true, plainKeys := false, apart := false, narrowed := true }
def SenderNodesUptoSaid : Prop := senderNodesUptoRow.holds Try.pinned (OpenSpec.upto senderNodesSpec)

end Rows
end Go.Proofs.Ytfafeeobjlkjnaa
