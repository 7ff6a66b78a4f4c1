/-
  DERIVED: THE SHELF's CONTRACTS AT THIS DUMP, IN PLAIN WORDS (tools/lay-plain.mjs out of 'YtjmnokbbodcaaaaSort0.lean', which tools/lay-shelf.mjs wrote): THE SAME DECLARATIONS UNDER THE SAME NAMES: 'import', 'namespace', 'open', 'def', 'theorem' AND NOTHING ELSE: no command of the shelf's: FOR A HAND-IN. Each laying: the table of numbers ('.._ren') and one theorem, a field a fact of the dump's own or the kernel's comparison; each contract: ONE APPLICATION.
-/
import Derived.Shelf.SlGeneric
import Derived.Shelf.SlSortCmp.NoneTotal
import Derived.Ground.SlsfProg
import Derived.Test.YtjmnokbbodcaaaaProg
namespace Go.Proofs
open Go.Shelf
def Try.sortKey_ren : Go.Shelf.Ren := ⟨fun | 6 => 37 | 15 => 54 | 14 => 53 | 28 => 68 | 29 => 69 | 20 => 60 | 21 => 61 | 22 => 62 | 23 => 63 | 24 => 64 | 25 => 65 | 26 => 66 | 27 => 67 | 46 => 73 | 47 => 74 | 48 => 75 | 49 => 76 | 50 => 77 | 57 => 79 | n => n, fun | 22 => 32 | 24 => 38 | 25 => 44 | 3 => 3 | 39 => 98 | 0 => 0 | 53 => 113 | 55 => 115 | 4 => 4 | 46 => 106 | 45 => 105 | 50 => 110 | 5 => 5 | 9 => 9 | 66 => 117 | 70 => 121 | 76 => 125 | 77 => 126 | n => n, fun | n => n⟩
theorem Try.sortKey : Go.Proofs.SlLaysF0.n6 Try.prog Try.sortKey_ren := {
  mixed := by kernel_rfl
  f6 := ⟨Try.f37.name, by decide, Try.func37.trans (congrArg some (by kernel_rfl))⟩
  f14 := ⟨Try.f53.name, by decide, Try.func53.trans (congrArg some (by kernel_rfl))⟩
  f15 := Try.func54.trans (congrArg some (by kernel_rfl))
  f20 := ⟨Try.f60.name, by decide, Try.func60.trans (congrArg some (by kernel_rfl))⟩
  f21 := ⟨Try.f61.name, by decide, Try.func61.trans (congrArg some (by kernel_rfl))⟩
  f22 := ⟨Try.f62.name, by decide, Try.func62.trans (congrArg some (by kernel_rfl))⟩
  f23 := ⟨Try.f63.name, by decide, Try.func63.trans (congrArg some (by kernel_rfl))⟩
  f24 := ⟨Try.f64.name, by decide, Try.func64.trans (congrArg some (by kernel_rfl))⟩
  f25 := ⟨Try.f65.name, by decide, Try.func65.trans (congrArg some (by kernel_rfl))⟩
  f26 := ⟨Try.f66.name, by decide, Try.func66.trans (congrArg some (by kernel_rfl))⟩
  f27 := ⟨Try.f67.name, by decide, Try.func67.trans (congrArg some (by kernel_rfl))⟩
  f28 := Try.func68.trans (congrArg some (by kernel_rfl))
  f29 := Try.func69.trans (congrArg some (by kernel_rfl))
  f46 := ⟨Try.f73.name, by decide, Try.func73.trans (congrArg some (by kernel_rfl))⟩
  f47 := Try.func74.trans (congrArg some (by kernel_rfl))
  f48 := Try.func75.trans (congrArg some (by kernel_rfl))
  f49 := ⟨Try.f76.name, by decide, Try.func76.trans (congrArg some (by kernel_rfl))⟩
  f50 := ⟨Try.f77.name, by decide, Try.func77.trans (congrArg some (by kernel_rfl))⟩
  f57 := ⟨Try.f79.name, by decide, Try.func79.trans (congrArg some (by kernel_rfl))⟩
  t0 := Try.underlying0
  a0 := Try.isAgg0
  z0 := Try.sizeOf0
  v0 := Try.zeroValue0
  t3 := Try.underlying3
  a3 := Try.isAgg3
  z3 := Try.sizeOf3
  v3 := Try.zeroValue3
  t4 := Try.underlying4
  a4 := Try.isAgg4
  z4 := Try.sizeOf4
  v4 := Try.zeroValue4
  t5 := Try.underlying5
  a5 := Try.isAgg5
  z5 := Try.sizeOf5
  v5 := Try.zeroValue5
  t9 := Try.underlying9
  a9 := Try.isAgg9
  z9 := Try.sizeOf9
  v9 := Try.zeroValue9
  t22 := Try.underlying32
  a22 := Try.isAgg32
  z22 := Try.sizeOf32
  v22 := Try.zeroValue32
  t25 := Try.underlying44
  a25 := Try.isAgg44
  z25 := Try.sizeOf44
  v25 := Try.zeroValue44
  t39 := Try.underlying98
  a39 := Try.isAgg98
  z39 := Try.sizeOf98
  v39 := Try.zeroValue98
  t45 := Try.underlying105
  a45 := Try.isAgg105
  z45 := Try.sizeOf105
  v45 := Try.zeroValue105
  t46 := Try.underlying106
  a46 := Try.isAgg106
  z46 := Try.sizeOf106
  v46 := Try.zeroValue106
  t50 := Try.underlying110
  a50 := Try.isAgg110
  z50 := Try.sizeOf110
  v50 := Try.zeroValue110
  t53 := Try.underlying113
  a53 := Try.isAgg113
  z53 := Try.sizeOf113
  v53 := Try.zeroValue113
  t55 := Try.underlying115
  a55 := Try.isAgg115
  z55 := Try.sizeOf115
  v55 := Try.zeroValue115
  t66 := Try.underlying117
  a66 := Try.isAgg117
  z66 := Try.sizeOf117
  v66 := Try.zeroValue117
  t70 := Try.underlying121
  a70 := Try.isAgg121
  z70 := Try.sizeOf121
  v70 := Try.zeroValue121
  t76 := Try.underlying125
  a76 := Try.isAgg125
  z76 := Try.sizeOf125
  v76 := Try.zeroValue125
  t77 := Try.underlying126
  a77 := Try.isAgg126
  z77 := Try.sizeOf126
  v77 := Try.zeroValue126 }
end Go.Proofs
