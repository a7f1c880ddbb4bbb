/-
  DERIVED: THE SHELF's CONTRACTS AT THIS DUMP, IN PLAIN WORDS (tools/lay-plain.mjs out of 'YtplpklikapkloaaSl.lean', which tools/lay-shelf.mjs wrote): THE SAME DECLARATIONS UNDER THE SAME NAMES: 'import', 'namespace', 'open', 'def', 'theorem' AND NOTHING ELSE: no command of the shelf's: FOR A HAND-IN. Each laying: the table of numbers ('.._ren') and one theorem, a field a fact of the dump's own or the kernel's comparison; each contract: ONE APPLICATION.
-/
import Derived.Shelf.SlGeneric
import Derived.Shelf.SlSortCmp.WholeK
import Derived.Ground.SlsfProg
import Derived.Test.YtplpklikapkloaaProg
namespace Go.Proofs
open Go.Shelf
def Try.sortRule_ren : Go.Shelf.Ren := ⟨fun | 6 => 64 | 15 => 71 | 14 => 70 | 28 => 80 | 29 => 81 | 20 => 72 | 21 => 73 | 22 => 74 | 23 => 75 | 24 => 76 | 25 => 77 | 26 => 78 | 27 => 79 | 46 => 82 | 47 => 83 | 48 => 84 | 49 => 85 | 50 => 86 | 57 => 87 | n => n, fun | 22 => 22 | 24 => 28 | 25 => 81 | 3 => 3 | 39 => 86 | 0 => 0 | 53 => 96 | 55 => 98 | 4 => 4 | 46 => 89 | 45 => 88 | 50 => 93 | 5 => 5 | 9 => 9 | 66 => 99 | 70 => 103 | 76 => 105 | 77 => 106 | n => n, fun | n => n⟩
theorem Try.sortRule : Go.Proofs.SlLaysF0.n6 Try.prog Try.sortRule_ren := {
  mixed := by kernel_rfl
  f6 := ⟨Try.f64.name, by decide, Try.func64.trans (congrArg some (by kernel_rfl))⟩
  f14 := ⟨Try.f70.name, by decide, Try.func70.trans (congrArg some (by kernel_rfl))⟩
  f15 := Try.func71.trans (congrArg some (by kernel_rfl))
  f20 := ⟨Try.f72.name, by decide, Try.func72.trans (congrArg some (by kernel_rfl))⟩
  f21 := ⟨Try.f73.name, by decide, Try.func73.trans (congrArg some (by kernel_rfl))⟩
  f22 := ⟨Try.f74.name, by decide, Try.func74.trans (congrArg some (by kernel_rfl))⟩
  f23 := ⟨Try.f75.name, by decide, Try.func75.trans (congrArg some (by kernel_rfl))⟩
  f24 := ⟨Try.f76.name, by decide, Try.func76.trans (congrArg some (by kernel_rfl))⟩
  f25 := ⟨Try.f77.name, by decide, Try.func77.trans (congrArg some (by kernel_rfl))⟩
  f26 := ⟨Try.f78.name, by decide, Try.func78.trans (congrArg some (by kernel_rfl))⟩
  f27 := ⟨Try.f79.name, by decide, Try.func79.trans (congrArg some (by kernel_rfl))⟩
  f28 := Try.func80.trans (congrArg some (by kernel_rfl))
  f29 := Try.func81.trans (congrArg some (by kernel_rfl))
  f46 := ⟨Try.f82.name, by decide, Try.func82.trans (congrArg some (by kernel_rfl))⟩
  f47 := Try.func83.trans (congrArg some (by kernel_rfl))
  f48 := Try.func84.trans (congrArg some (by kernel_rfl))
  f49 := ⟨Try.f85.name, by decide, Try.func85.trans (congrArg some (by kernel_rfl))⟩
  f50 := ⟨Try.f86.name, by decide, Try.func86.trans (congrArg some (by kernel_rfl))⟩
  f57 := ⟨Try.f87.name, by decide, Try.func87.trans (congrArg some (by kernel_rfl))⟩
  t0 := Try.underlying0
  a0 := Try.isAgg0
  z0 := Try.sizeOf0
  v0 := Try.zeroValue0
  t3 := Try.underlying3
  a3 := Try.isAgg3
  z3 := Try.sizeOf3
  v3 := Try.zeroValue3
  t4 := Try.underlying4
  a4 := Try.isAgg4
  z4 := Try.sizeOf4
  v4 := Try.zeroValue4
  t5 := Try.underlying5
  a5 := Try.isAgg5
  z5 := Try.sizeOf5
  v5 := Try.zeroValue5
  t9 := Try.underlying9
  a9 := Try.isAgg9
  z9 := Try.sizeOf9
  v9 := Try.zeroValue9
  t22 := Try.underlying22
  a22 := Try.isAgg22
  z22 := Try.sizeOf22
  v22 := Try.zeroValue22
  t25 := Try.underlying81
  a25 := Try.isAgg81
  z25 := Try.sizeOf81
  v25 := Try.zeroValue81
  t39 := Try.underlying86
  a39 := Try.isAgg86
  z39 := Try.sizeOf86
  v39 := Try.zeroValue86
  t45 := Try.underlying88
  a45 := Try.isAgg88
  z45 := Try.sizeOf88
  v45 := Try.zeroValue88
  t46 := Try.underlying89
  a46 := Try.isAgg89
  z46 := Try.sizeOf89
  v46 := Try.zeroValue89
  t50 := Try.underlying93
  a50 := Try.isAgg93
  z50 := Try.sizeOf93
  v50 := Try.zeroValue93
  t53 := Try.underlying96
  a53 := Try.isAgg96
  z53 := Try.sizeOf96
  v53 := Try.zeroValue96
  t55 := Try.underlying98
  a55 := Try.isAgg98
  z55 := Try.sizeOf98
  v55 := Try.zeroValue98
  t66 := Try.underlying99
  a66 := Try.isAgg99
  z66 := Try.sizeOf99
  v66 := Try.zeroValue99
  t70 := Try.underlying103
  a70 := Try.isAgg103
  z70 := Try.sizeOf103
  v70 := Try.zeroValue103
  t76 := Try.underlying105
  a76 := Try.isAgg105
  z76 := Try.sizeOf105
  v76 := Try.zeroValue105
  t77 := Try.underlying106
  a77 := Try.isAgg106
  z77 := Try.sizeOf106
  v77 := Try.zeroValue106 }
end Go.Proofs
