/- PRINTED by the kit's lay-plain: the shelf's contracts of slices.Sort and slices.Compact at this program. -/
import Derived.Shelf.SlIterI.Nil
import Derived.Shelf.SortM.Plain
import Derived.Shelf.SortM.SortNone
import Derived.Ground.GgzProg
import Derived.Ground.SlgmProg
import Derived.Ground.SlgnProg
import Derived.Shelf.SlicesG.CompactI
import Derived.Test.YtmcmbjkjilcmeaaProg
namespace Go.Proofs
open Go.Shelf
def Try.sortA_ren : Go.Shelf.Ren := ⟨fun | 5 => 56 | 8 => 74 | 7 => 73 | 19 => 89 | 20 => 90 | 10 => 81 | 11 => 82 | 12 => 83 | 13 => 84 | 14 => 85 | 15 => 86 | 16 => 49 | 17 => 87 | 18 => 88 | 30 => 91 | 31 => 92 | 32 => 93 | 33 => 94 | 34 => 95 | 35 => 66 | 40 => 96 | n => n, fun | 23 => 25 | 25 => 3 | 3 => 3 | 32 => 72 | 22 => 25 | 0 => 0 | 44 => 103 | 46 => 105 | 4 => 4 | 36 => 97 | 35 => 96 | 41 => 54 | 5 => 5 | 9 => 9 | 53 => 106 | 57 => 110 | 63 => 112 | 64 => 91 | n => n, fun | n => n⟩
theorem Try.sortA : Go.Proofs.SlLaysM.n5 Try.prog Try.sortA_ren := {
  mixed := by kernel_rfl
  f5 := ⟨Try.f56.name, by decide, Try.func56.trans (congrArg some (by kernel_rfl))⟩
  f7 := ⟨Try.f73.name, by decide, Try.func73.trans (congrArg some (by kernel_rfl))⟩
  f8 := Try.func74.trans (congrArg some (by kernel_rfl))
  f10 := ⟨Try.f81.name, by decide, Try.func81.trans (congrArg some (by kernel_rfl))⟩
  f11 := ⟨Try.f82.name, by decide, Try.func82.trans (congrArg some (by kernel_rfl))⟩
  f12 := ⟨Try.f83.name, by decide, Try.func83.trans (congrArg some (by kernel_rfl))⟩
  f13 := ⟨Try.f84.name, by decide, Try.func84.trans (congrArg some (by kernel_rfl))⟩
  f14 := ⟨Try.f85.name, by decide, Try.func85.trans (congrArg some (by kernel_rfl))⟩
  f15 := ⟨Try.f86.name, by decide, Try.func86.trans (congrArg some (by kernel_rfl))⟩
  f16 := ⟨Try.f49.name, by decide, Try.func49.trans (congrArg some (by kernel_rfl))⟩
  f17 := ⟨Try.f87.name, by decide, Try.func87.trans (congrArg some (by kernel_rfl))⟩
  f18 := ⟨Try.f88.name, by decide, Try.func88.trans (congrArg some (by kernel_rfl))⟩
  f19 := Try.func89.trans (congrArg some (by kernel_rfl))
  f20 := Try.func90.trans (congrArg some (by kernel_rfl))
  f30 := ⟨Try.f91.name, by decide, Try.func91.trans (congrArg some (by kernel_rfl))⟩
  f31 := Try.func92.trans (congrArg some (by kernel_rfl))
  f32 := Try.func93.trans (congrArg some (by kernel_rfl))
  f33 := ⟨Try.f94.name, by decide, Try.func94.trans (congrArg some (by kernel_rfl))⟩
  f34 := ⟨Try.f95.name, by decide, Try.func95.trans (congrArg some (by kernel_rfl))⟩
  f35 := ⟨Try.f66.name, by decide, Try.func66.trans (congrArg some (by kernel_rfl))⟩
  f40 := ⟨Try.f96.name, by decide, Try.func96.trans (congrArg some (by kernel_rfl))⟩
  t0 := Try.underlying0
  a0 := Try.isAgg0
  z0 := Try.sizeOf0
  v0 := Try.zeroValue0
  t3 := Try.underlying3
  a3 := Try.isAgg3
  z3 := Try.sizeOf3
  v3 := Try.zeroValue3
  t4 := Try.underlying4
  a4 := Try.isAgg4
  z4 := Try.sizeOf4
  v4 := Try.zeroValue4
  t5 := Try.underlying5
  a5 := Try.isAgg5
  z5 := Try.sizeOf5
  v5 := Try.zeroValue5
  t9 := Try.underlying9
  a9 := Try.isAgg9
  z9 := Try.sizeOf9
  v9 := Try.zeroValue9
  t22 := Try.underlying25
  a22 := Try.isAgg25
  z22 := Try.sizeOf25
  v22 := Try.zeroValue25
  t23 := Try.underlying25
  a23 := Try.isAgg25
  z23 := Try.sizeOf25
  v23 := Try.zeroValue25
  t25 := Try.underlying3
  a25 := Try.isAgg3
  z25 := Try.sizeOf3
  v25 := Try.zeroValue3
  t32 := Try.underlying72
  a32 := Try.isAgg72
  z32 := Try.sizeOf72
  v32 := Try.zeroValue72
  t35 := Try.underlying96
  a35 := Try.isAgg96
  z35 := Try.sizeOf96
  v35 := Try.zeroValue96
  t36 := Try.underlying97
  a36 := Try.isAgg97
  z36 := Try.sizeOf97
  v36 := Try.zeroValue97
  t41 := Try.underlying54
  a41 := Try.isAgg54
  z41 := Try.sizeOf54
  v41 := Try.zeroValue54
  t44 := Try.underlying103
  a44 := Try.isAgg103
  z44 := Try.sizeOf103
  v44 := Try.zeroValue103
  t46 := Try.underlying105
  a46 := Try.isAgg105
  z46 := Try.sizeOf105
  v46 := Try.zeroValue105
  t53 := Try.underlying106
  a53 := Try.isAgg106
  z53 := Try.sizeOf106
  v53 := Try.zeroValue106
  t57 := Try.underlying110
  a57 := Try.isAgg110
  z57 := Try.sizeOf110
  v57 := Try.zeroValue110
  t63 := Try.underlying112
  a63 := Try.isAgg112
  z63 := Try.sizeOf112
  v63 := Try.zeroValue112
  t64 := Try.underlying91
  a64 := Try.isAgg91
  z64 := Try.sizeOf91
  v64 := Try.zeroValue91 }
def Try.compA_ren : Go.Shelf.Ren := ⟨fun | 43 => 57 | n => n, fun | 22 => 25 | 23 => 3 | 3 => 3 | 4 => 4 | 0 => 0 | n => n, fun | n => n⟩
theorem Try.compA : Go.Proofs.SlLaysN.n43 Try.prog Try.compA_ren := {
  mixed := by kernel_rfl
  f43 := ⟨Try.f57.name, by decide, Try.func57.trans (congrArg some (by kernel_rfl))⟩
  t0 := Try.underlying0
  a0 := Try.isAgg0
  z0 := Try.sizeOf0
  v0 := Try.zeroValue0
  t3 := Try.underlying3
  a3 := Try.isAgg3
  z3 := Try.sizeOf3
  v3 := Try.zeroValue3
  t4 := Try.underlying4
  a4 := Try.isAgg4
  z4 := Try.sizeOf4
  v4 := Try.zeroValue4
  t22 := Try.underlying25
  a22 := Try.isAgg25
  z22 := Try.sizeOf25
  v22 := Try.zeroValue25
  t23 := Try.underlying3
  a23 := Try.isAgg3
  z23 := Try.sizeOf3
  v23 := Try.zeroValue3
  i23 := by kernel_rfl }
end Go.Proofs
