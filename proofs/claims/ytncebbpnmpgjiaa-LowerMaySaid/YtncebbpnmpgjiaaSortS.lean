/-
  DERIVED: THE SHELF's CONTRACTS AT THIS DUMP, IN PLAIN WORDS (tools/lay-plain.mjs out of 'TrySortSrc.lean', which tools/lay-shelf.mjs wrote): THE SAME DECLARATIONS UNDER THE SAME NAMES: 'import', 'namespace', 'open', 'def', 'theorem' AND NOTHING ELSE: no command of the shelf's: FOR A HAND-IN. Each laying: the table of numbers ('.._ren') and one theorem, a field a fact of the dump's own or the kernel's comparison; each contract: ONE APPLICATION.
-/
import Derived.Shelf.SlSortCmp.NoneTotal
import Derived.Test.YtncebbpnmpgjiaaProg
namespace Go.Proofs
open Go.Shelf
def Try.sortPfx_ren : Go.Shelf.Ren := ⟨fun | 6 => 14 | 15 => 23 | 14 => 22 | 28 => 34 | 29 => 35 | 20 => 26 | 21 => 27 | 22 => 28 | 23 => 29 | 24 => 30 | 25 => 31 | 26 => 32 | 27 => 33 | 46 => 38 | 47 => 39 | 48 => 40 | 49 => 41 | 50 => 42 | 57 => 43 | n => n, fun | 22 => 32 | 24 => 36 | 25 => 66 | 3 => 3 | 39 => 79 | 0 => 0 | 53 => 34 | 55 => 93 | 4 => 4 | 46 => 86 | 45 => 85 | 50 => 70 | 5 => 5 | 9 => 9 | 66 => 96 | 70 => 100 | 76 => 102 | 77 => 103 | n => n, fun | n => n⟩
theorem Try.sortPfx : Go.Proofs.SlLaysF0.n6 Try.prog Try.sortPfx_ren := {
  mixed := by kernel_rfl
  f6 := ⟨Try.f14.name, by decide, Try.func14.trans (congrArg some (by kernel_rfl))⟩
  f14 := ⟨Try.f22.name, by decide, Try.func22.trans (congrArg some (by kernel_rfl))⟩
  f15 := Try.func23.trans (congrArg some (by kernel_rfl))
  f20 := ⟨Try.f26.name, by decide, Try.func26.trans (congrArg some (by kernel_rfl))⟩
  f21 := ⟨Try.f27.name, by decide, Try.func27.trans (congrArg some (by kernel_rfl))⟩
  f22 := ⟨Try.f28.name, by decide, Try.func28.trans (congrArg some (by kernel_rfl))⟩
  f23 := ⟨Try.f29.name, by decide, Try.func29.trans (congrArg some (by kernel_rfl))⟩
  f24 := ⟨Try.f30.name, by decide, Try.func30.trans (congrArg some (by kernel_rfl))⟩
  f25 := ⟨Try.f31.name, by decide, Try.func31.trans (congrArg some (by kernel_rfl))⟩
  f26 := ⟨Try.f32.name, by decide, Try.func32.trans (congrArg some (by kernel_rfl))⟩
  f27 := ⟨Try.f33.name, by decide, Try.func33.trans (congrArg some (by kernel_rfl))⟩
  f28 := Try.func34.trans (congrArg some (by kernel_rfl))
  f29 := Try.func35.trans (congrArg some (by kernel_rfl))
  f46 := ⟨Try.f38.name, by decide, Try.func38.trans (congrArg some (by kernel_rfl))⟩
  f47 := Try.func39.trans (congrArg some (by kernel_rfl))
  f48 := Try.func40.trans (congrArg some (by kernel_rfl))
  f49 := ⟨Try.f41.name, by decide, Try.func41.trans (congrArg some (by kernel_rfl))⟩
  f50 := ⟨Try.f42.name, by decide, Try.func42.trans (congrArg some (by kernel_rfl))⟩
  f57 := ⟨Try.f43.name, by decide, Try.func43.trans (congrArg some (by kernel_rfl))⟩
  t0 := Try.underlying0
  a0 := Try.isAgg0
  z0 := Try.sizeOf0
  v0 := Try.zeroValue0
  t3 := Try.underlying3
  a3 := Try.isAgg3
  z3 := Try.sizeOf3
  v3 := Try.zeroValue3
  t4 := Try.underlying4
  a4 := Try.isAgg4
  z4 := Try.sizeOf4
  v4 := Try.zeroValue4
  t5 := Try.underlying5
  a5 := Try.isAgg5
  z5 := Try.sizeOf5
  v5 := Try.zeroValue5
  t9 := Try.underlying9
  a9 := Try.isAgg9
  z9 := Try.sizeOf9
  v9 := Try.zeroValue9
  t22 := Try.underlying32
  a22 := Try.isAgg32
  z22 := Try.sizeOf32
  v22 := Try.zeroValue32
  t25 := Try.underlying66
  a25 := Try.isAgg66
  z25 := Try.sizeOf66
  v25 := Try.zeroValue66
  t39 := Try.underlying79
  a39 := Try.isAgg79
  z39 := Try.sizeOf79
  v39 := Try.zeroValue79
  t45 := Try.underlying85
  a45 := Try.isAgg85
  z45 := Try.sizeOf85
  v45 := Try.zeroValue85
  t46 := Try.underlying86
  a46 := Try.isAgg86
  z46 := Try.sizeOf86
  v46 := Try.zeroValue86
  t50 := Try.underlying70
  a50 := Try.isAgg70
  z50 := Try.sizeOf70
  v50 := Try.zeroValue70
  t53 := Try.underlying34
  a53 := Try.isAgg34
  z53 := Try.sizeOf34
  v53 := Try.zeroValue34
  t55 := Try.underlying93
  a55 := Try.isAgg93
  z55 := Try.sizeOf93
  v55 := Try.zeroValue93
  t66 := Try.underlying96
  a66 := Try.isAgg96
  z66 := Try.sizeOf96
  v66 := Try.zeroValue96
  t70 := Try.underlying100
  a70 := Try.isAgg100
  z70 := Try.sizeOf100
  v70 := Try.zeroValue100
  t76 := Try.underlying102
  a76 := Try.isAgg102
  z76 := Try.sizeOf102
  v76 := Try.zeroValue102
  t77 := Try.underlying103
  a77 := Try.isAgg103
  z77 := Try.sizeOf103
  v77 := Try.zeroValue103 }
end Go.Proofs
