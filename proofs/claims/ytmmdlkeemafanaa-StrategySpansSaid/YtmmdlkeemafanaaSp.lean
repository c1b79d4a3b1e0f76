/-
  DERIVED: THE SHELF's CONTRACTS AT THIS DUMP, IN PLAIN WORDS (tools/lay-plain.mjs out of 'YtmmdlkeemafanaaSh.lean', which tools/lay-shelf.mjs wrote): THE SAME DECLARATIONS UNDER THE SAME NAMES: 'import', 'namespace', 'open', 'def', 'theorem' AND NOTHING ELSE: no command of the shelf's: FOR A HAND-IN. Each laying: the table of numbers ('.._ren') and one theorem, a field a fact of the dump's own or the kernel's comparison; each contract: ONE APPLICATION.
-/
import Derived.Shelf.SlSortCmp.NoneTotal
import Derived.Shelf.SlicesE.Clone
import Derived.Shelf.SlicesG.Cmp
import Derived.Shelf.SlicesQ.Reverse
import Derived.Shelf.SlGeneric
import Derived.Test.YtmmdlkeemafanaaProg
namespace Go.Proofs
open Go.Shelf
def Try.sortSpan_ren : Go.Shelf.Ren := ⟨fun | 6 => 33 | 15 => 42 | 14 => 41 | 28 => 52 | 29 => 53 | 20 => 44 | 21 => 45 | 22 => 46 | 23 => 47 | 24 => 48 | 25 => 49 | 26 => 50 | 27 => 51 | 46 => 54 | 47 => 55 | 48 => 56 | 49 => 57 | 50 => 58 | 57 => 59 | n => n, fun | 22 => 31 | 24 => 40 | 25 => 55 | 3 => 3 | 39 => 67 | 0 => 0 | 53 => 79 | 55 => 81 | 4 => 4 | 46 => 73 | 45 => 72 | 50 => 52 | 5 => 5 | 9 => 9 | 66 => 82 | 70 => 86 | 76 => 88 | 77 => 89 | n => n, fun | n => n⟩
theorem Try.sortSpan : Go.Proofs.SlLaysF0.n6 Try.prog Try.sortSpan_ren := {
  mixed := by kernel_rfl
  f6 := ⟨Try.f33.name, by decide, Try.func33.trans (congrArg some (by kernel_rfl))⟩
  f14 := ⟨Try.f41.name, by decide, Try.func41.trans (congrArg some (by kernel_rfl))⟩
  f15 := Try.func42.trans (congrArg some (by kernel_rfl))
  f20 := ⟨Try.f44.name, by decide, Try.func44.trans (congrArg some (by kernel_rfl))⟩
  f21 := ⟨Try.f45.name, by decide, Try.func45.trans (congrArg some (by kernel_rfl))⟩
  f22 := ⟨Try.f46.name, by decide, Try.func46.trans (congrArg some (by kernel_rfl))⟩
  f23 := ⟨Try.f47.name, by decide, Try.func47.trans (congrArg some (by kernel_rfl))⟩
  f24 := ⟨Try.f48.name, by decide, Try.func48.trans (congrArg some (by kernel_rfl))⟩
  f25 := ⟨Try.f49.name, by decide, Try.func49.trans (congrArg some (by kernel_rfl))⟩
  f26 := ⟨Try.f50.name, by decide, Try.func50.trans (congrArg some (by kernel_rfl))⟩
  f27 := ⟨Try.f51.name, by decide, Try.func51.trans (congrArg some (by kernel_rfl))⟩
  f28 := Try.func52.trans (congrArg some (by kernel_rfl))
  f29 := Try.func53.trans (congrArg some (by kernel_rfl))
  f46 := ⟨Try.f54.name, by decide, Try.func54.trans (congrArg some (by kernel_rfl))⟩
  f47 := Try.func55.trans (congrArg some (by kernel_rfl))
  f48 := Try.func56.trans (congrArg some (by kernel_rfl))
  f49 := ⟨Try.f57.name, by decide, Try.func57.trans (congrArg some (by kernel_rfl))⟩
  f50 := ⟨Try.f58.name, by decide, Try.func58.trans (congrArg some (by kernel_rfl))⟩
  f57 := ⟨Try.f59.name, by decide, Try.func59.trans (congrArg some (by kernel_rfl))⟩
  t0 := Try.underlying0
  a0 := Try.isAgg0
  z0 := Try.sizeOf0
  v0 := Try.zeroValue0
  t3 := Try.underlying3
  a3 := Try.isAgg3
  z3 := Try.sizeOf3
  v3 := Try.zeroValue3
  t4 := Try.underlying4
  a4 := Try.isAgg4
  z4 := Try.sizeOf4
  v4 := Try.zeroValue4
  t5 := Try.underlying5
  a5 := Try.isAgg5
  z5 := Try.sizeOf5
  v5 := Try.zeroValue5
  t9 := Try.underlying9
  a9 := Try.isAgg9
  z9 := Try.sizeOf9
  v9 := Try.zeroValue9
  t22 := Try.underlying31
  a22 := Try.isAgg31
  z22 := Try.sizeOf31
  v22 := Try.zeroValue31
  t25 := Try.underlying55
  a25 := Try.isAgg55
  z25 := Try.sizeOf55
  v25 := Try.zeroValue55
  t39 := Try.underlying67
  a39 := Try.isAgg67
  z39 := Try.sizeOf67
  v39 := Try.zeroValue67
  t45 := Try.underlying72
  a45 := Try.isAgg72
  z45 := Try.sizeOf72
  v45 := Try.zeroValue72
  t46 := Try.underlying73
  a46 := Try.isAgg73
  z46 := Try.sizeOf73
  v46 := Try.zeroValue73
  t50 := Try.underlying52
  a50 := Try.isAgg52
  z50 := Try.sizeOf52
  v50 := Try.zeroValue52
  t53 := Try.underlying79
  a53 := Try.isAgg79
  z53 := Try.sizeOf79
  v53 := Try.zeroValue79
  t55 := Try.underlying81
  a55 := Try.isAgg81
  z55 := Try.sizeOf81
  v55 := Try.zeroValue81
  t66 := Try.underlying82
  a66 := Try.isAgg82
  z66 := Try.sizeOf82
  v66 := Try.zeroValue82
  t70 := Try.underlying86
  a70 := Try.isAgg86
  z70 := Try.sizeOf86
  v70 := Try.zeroValue86
  t76 := Try.underlying88
  a76 := Try.isAgg88
  z76 := Try.sizeOf88
  v76 := Try.zeroValue88
  t77 := Try.underlying89
  a77 := Try.isAgg89
  z77 := Try.sizeOf89
  v77 := Try.zeroValue89 }
def Try.cloneInt_ren : Go.Shelf.Ren := ⟨fun | 41 => 31 | n => n, fun | 22 => 22 | 23 => 3 | 4 => 4 | n => n, fun | n => n⟩
theorem Try.cloneInt : Go.Proofs.SlLaysE0.n41 Try.prog Try.cloneInt_ren := {
  mixed := by kernel_rfl
  f41 := ⟨Try.f31.name, by decide, Try.func31.trans (congrArg some (by kernel_rfl))⟩
  t4 := Try.underlying4
  a4 := Try.isAgg4
  z4 := Try.sizeOf4
  v4 := Try.zeroValue4
  t22 := Try.underlying22
  a22 := Try.isAgg22
  z22 := Try.sizeOf22
  v22 := Try.zeroValue22 }
def Try.cmpInt_ren : Go.Shelf.Ren := ⟨fun | 5 => 38 | 7 => 43 | n => n, fun | 22 => 3 | 3 => 3 | 4 => 4 | n => n, fun | n => n⟩
theorem Try.cmpInt : Go.Proofs.SlLaysC2.n5 Try.prog Try.cmpInt_ren := {
  mixed := by kernel_rfl
  f5 := ⟨Try.f38.name, by decide, Try.func38.trans (congrArg some (by kernel_rfl))⟩
  f7 := ⟨Try.f43.name, by decide, Try.func43.trans (congrArg some (by kernel_rfl))⟩
  t3 := Try.underlying3
  a3 := Try.isAgg3
  z3 := Try.sizeOf3
  v3 := Try.zeroValue3
  t4 := Try.underlying4
  a4 := Try.isAgg4
  z4 := Try.sizeOf4
  v4 := Try.zeroValue4
  t22 := Try.underlying3
  a22 := Try.isAgg3
  z22 := Try.sizeOf3
  v22 := Try.zeroValue3 }
def Try.revSpan_ren : Go.Shelf.Ren := ⟨fun | 35 => 40 | n => n, fun | 22 => 31 | 23 => 40 | 3 => 3 | 4 => 4 | 0 => 0 | n => n, fun | n => n⟩
theorem Try.revSpan : Go.Proofs.SlLaysE0.n35 Try.prog Try.revSpan_ren := {
  mixed := by kernel_rfl
  f35 := ⟨Try.f40.name, by decide, Try.func40.trans (congrArg some (by kernel_rfl))⟩
  t0 := Try.underlying0
  a0 := Try.isAgg0
  z0 := Try.sizeOf0
  v0 := Try.zeroValue0
  t3 := Try.underlying3
  a3 := Try.isAgg3
  z3 := Try.sizeOf3
  v3 := Try.zeroValue3
  t4 := Try.underlying4
  a4 := Try.isAgg4
  z4 := Try.sizeOf4
  v4 := Try.zeroValue4
  t22 := Try.underlying31
  a22 := Try.isAgg31
  z22 := Try.sizeOf31
  v22 := Try.zeroValue31 }
end Go.Proofs
