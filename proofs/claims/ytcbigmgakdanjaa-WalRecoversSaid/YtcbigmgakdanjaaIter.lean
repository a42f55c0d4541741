/-
  DERIVED: THE SHELF's CONTRACTS AT THIS DUMP, IN PLAIN WORDS (tools/lay-plain.mjs out of 'TryIter.lean', which tools/lay-shelf.mjs wrote): THE SAME DECLARATIONS UNDER THE SAME NAMES: 'import', 'namespace', 'open', 'def', 'theorem' AND NOTHING ELSE: no command of the shelf's: FOR A HAND-IN. Each laying: the table of numbers ('.._ren') and one theorem, a field a fact of the dump's own or the kernel's comparison; each contract: ONE APPLICATION.
-/
import Derived.Shelf.SlIter.Sorted
import Derived.Shelf.SlIter.Nil
import Derived.Ground.GgzProg
import Derived.Test.YtcbigmgakdanjaaProg
namespace Go.Proofs
open Go.Shelf
def Try.keys61_ren : Go.Shelf.Ren := ⟨fun | 7 => 61 | 10 => 79 | n => n, fun | 23 => 88 | 26 => 9 | 3 => 93 | 28 => 101 | 0 => 0 | 27 => 100 | 33 => 83 | 4 => 4 | n => n, fun | n => n⟩
theorem Try.keys61 : Go.Proofs.SlLaysZ.n7 Try.prog Try.keys61_ren := {
  mixed := by kernel_rfl
  f7 := ⟨Try.f61.name, by decide, Try.func61.trans (congrArg some (by kernel_rfl))⟩
  f10 := ⟨Try.f79.name, by decide, Try.func79.trans (congrArg some (by kernel_rfl))⟩
  t0 := Try.underlying0
  a0 := Try.isAgg0
  z0 := Try.sizeOf0
  v0 := Try.zeroValue0
  t4 := Try.underlying4
  a4 := Try.isAgg4
  z4 := Try.sizeOf4
  v4 := Try.zeroValue4
  t23 := Try.underlying88
  a23 := Try.isAgg88
  z23 := Try.sizeOf88
  v23 := Try.zeroValue88
  t26 := Try.underlying9
  a26 := Try.isAgg9
  z26 := Try.sizeOf9
  v26 := Try.zeroValue9
  t27 := Try.underlying100
  a27 := Try.isAgg100
  z27 := Try.sizeOf100
  v27 := Try.zeroValue100
  t28 := Try.underlying101
  a28 := Try.isAgg101
  z28 := Try.sizeOf101
  v28 := Try.zeroValue101
  t33 := Try.underlying83
  a33 := Try.isAgg83
  z33 := Try.sizeOf83
  v33 := Try.zeroValue83 }
def Try.sorted60_ren : Go.Shelf.Ren := ⟨fun | 6 => 60 | 8 => 77 | 9 => 78 | 11 => 88 | 13 => 90 | 12 => 89 | 23 => 106 | 24 => 107 | 14 => 97 | 15 => 98 | 16 => 99 | 17 => 100 | 18 => 101 | 19 => 102 | 20 => 103 | 21 => 104 | 22 => 105 | 25 => 108 | 26 => 109 | 27 => 110 | 28 => 111 | 29 => 112 | 30 => 113 | 31 => 114 | n => n, fun | 26 => 9 | 28 => 101 | 24 => 35 | 0 => 0 | 3 => 3 | 37 => 127 | 48 => 110 | 50 => 125 | 4 => 4 | 40 => 144 | 39 => 143 | 45 => 84 | 5 => 5 | 9 => 9 | 51 => 151 | 55 => 155 | 57 => 157 | 58 => 158 | 33 => 83 | n => n, fun | n => n⟩
theorem Try.sorted60 : Go.Proofs.SlLaysZ.n6 Try.prog Try.sorted60_ren := {
  mixed := by kernel_rfl
  f6 := ⟨Try.f60.name, by decide, Try.func60.trans (congrArg some (by kernel_rfl))⟩
  f8 := ⟨Try.f77.name, by decide, Try.func77.trans (congrArg some (by kernel_rfl))⟩
  f11 := ⟨Try.f88.name, by decide, Try.func88.trans (congrArg some (by kernel_rfl))⟩
  t0 := Try.underlying0
  a0 := Try.isAgg0
  z0 := Try.sizeOf0
  v0 := Try.zeroValue0
  t24 := Try.underlying35
  a24 := Try.isAgg35
  z24 := Try.sizeOf35
  v24 := Try.zeroValue35
  t26 := Try.underlying9
  a26 := Try.isAgg9
  z26 := Try.sizeOf9
  v26 := Try.zeroValue9
  t28 := Try.underlying101
  a28 := Try.isAgg101
  z28 := Try.sizeOf101
  v28 := Try.zeroValue101
  i26 := by kernel_rfl }
end Go.Proofs
