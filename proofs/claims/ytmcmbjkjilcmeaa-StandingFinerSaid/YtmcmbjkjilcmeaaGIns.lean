/- PRINTED by the kit's lay-plain: the shelf's contract of slices.Insert at this program. -/
import Derived.Ground.Names2Prog
import Derived.Shelf.Spec.SlicesInsertGrow
import Derived.Test.YtmcmbjkjilcmeaaProg
namespace Go.Proofs
open Go.Shelf
def Try.insA_ren : Go.Shelf.Ren := ⟨fun | 21 => 31 | 27 => 51 | 28 => 52 | 35 => 67 | 39 => 78 | n => n, fun | 22 => 25 | 3 => 3 | 4 => 4 | 0 => 0 | n => n, fun | n => n⟩
theorem Try.insA : Go.Proofs.Lays2.n21 Try.prog Try.insA_ren := {
  mixed := by kernel_rfl
  f21 := Try.func31.trans (congrArg some (by kernel_rfl))
  f27 := Try.func51.trans (congrArg some (by kernel_rfl))
  f28 := Try.func52.trans (congrArg some (by kernel_rfl))
  f35 := Try.func67.trans (congrArg some (by kernel_rfl))
  f39 := Try.func78.trans (congrArg some (by kernel_rfl))
  t0 := Try.underlying0
  a0 := Try.isAgg0
  z0 := Try.sizeOf0
  v0 := Try.zeroValue0
  t3 := Try.underlying3
  a3 := Try.isAgg3
  z3 := Try.sizeOf3
  v3 := Try.zeroValue3
  t4 := Try.underlying4
  a4 := Try.isAgg4
  z4 := Try.sizeOf4
  v4 := Try.zeroValue4
  t22 := Try.underlying25
  a22 := Try.isAgg25
  z22 := Try.sizeOf25
  v22 := Try.zeroValue25
  i3 := by kernel_rfl }
end Go.Proofs
