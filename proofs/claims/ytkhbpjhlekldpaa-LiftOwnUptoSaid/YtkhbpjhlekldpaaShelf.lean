/-
  DERIVED: THE SHELF's CONTRACTS AT THIS DUMP, IN PLAIN WORDS (tools/lay-plain.mjs out of 'TryShelf.lean', which tools/lay-shelf.mjs wrote): THE SAME DECLARATIONS UNDER THE SAME NAMES: 'import', 'namespace', 'open', 'def', 'theorem' AND NOTHING ELSE: no command of the shelf's: FOR A HAND-IN. Each laying: the table of numbers ('.._ren') and one theorem, a field a fact of the dump's own or the kernel's comparison; each contract: ONE APPLICATION.
-/
import Derived.Shelf.Sort.Plain
import Derived.Shelf.Slices.In.SortNone
import Derived.Test.YtkhbpjhlekldpaaProg
namespace Go.Proofs
open Go.Shelf
def Try.lays189_ren : Go.Shelf.Ren := ⟨fun | 189 => 31 | 125 => 48 | 257 => 47 | 128 => 64 | 129 => 65 | 294 => 55 | 295 => 56 | 296 => 57 | 297 => 58 | 298 => 59 | 299 => 60 | 216 => 61 | 300 => 62 | 301 => 63 | 328 => 77 | 329 => 78 | 330 => 79 | 331 => 80 | 332 => 81 | 215 => 82 | 343 => 86 | n => n, fun | 28 => 29 | 3 => 3 | 46 => 114 | 0 => 0 | 51 => 33 | 53 => 134 | 4 => 4 | 183 => 126 | 182 => 125 | 131 => 108 | 5 => 5 | 9 => 9 | 218 => 143 | 222 => 147 | 228 => 152 | 229 => 153 | n => n, fun | n => n⟩
theorem Try.lays189 : Go.Proofs.Lays.n189 Try.prog Try.lays189_ren := {
  mixed := by kernel_rfl
  f125 := Try.func48.trans (congrArg some (by kernel_rfl))
  f128 := Try.func64.trans (congrArg some (by kernel_rfl))
  f129 := Try.func65.trans (congrArg some (by kernel_rfl))
  f189 := Try.func31.trans (congrArg some (by kernel_rfl))
  f215 := Try.func82.trans (congrArg some (by kernel_rfl))
  f216 := Try.func61.trans (congrArg some (by kernel_rfl))
  f257 := Try.func47.trans (congrArg some (by kernel_rfl))
  f294 := Try.func55.trans (congrArg some (by kernel_rfl))
  f295 := Try.func56.trans (congrArg some (by kernel_rfl))
  f296 := Try.func57.trans (congrArg some (by kernel_rfl))
  f297 := Try.func58.trans (congrArg some (by kernel_rfl))
  f298 := Try.func59.trans (congrArg some (by kernel_rfl))
  f299 := Try.func60.trans (congrArg some (by kernel_rfl))
  f300 := Try.func62.trans (congrArg some (by kernel_rfl))
  f301 := Try.func63.trans (congrArg some (by kernel_rfl))
  f328 := Try.func77.trans (congrArg some (by kernel_rfl))
  f329 := Try.func78.trans (congrArg some (by kernel_rfl))
  f330 := Try.func79.trans (congrArg some (by kernel_rfl))
  f331 := Try.func80.trans (congrArg some (by kernel_rfl))
  f332 := Try.func81.trans (congrArg some (by kernel_rfl))
  f343 := Try.func86.trans (congrArg some (by kernel_rfl))
  t0 := Try.underlying0
  a0 := Try.isAgg0
  z0 := Try.sizeOf0
  v0 := Try.zeroValue0
  t3 := Try.underlying3
  a3 := Try.isAgg3
  z3 := Try.sizeOf3
  v3 := Try.zeroValue3
  t4 := Try.underlying4
  a4 := Try.isAgg4
  z4 := Try.sizeOf4
  v4 := Try.zeroValue4
  t5 := Try.underlying5
  a5 := Try.isAgg5
  z5 := Try.sizeOf5
  v5 := Try.zeroValue5
  t9 := Try.underlying9
  a9 := Try.isAgg9
  z9 := Try.sizeOf9
  v9 := Try.zeroValue9
  t28 := Try.underlying29
  a28 := Try.isAgg29
  z28 := Try.sizeOf29
  v28 := Try.zeroValue29
  t46 := Try.underlying114
  a46 := Try.isAgg114
  z46 := Try.sizeOf114
  v46 := Try.zeroValue114
  t51 := Try.underlying33
  a51 := Try.isAgg33
  z51 := Try.sizeOf33
  v51 := Try.zeroValue33
  t53 := Try.underlying134
  a53 := Try.isAgg134
  z53 := Try.sizeOf134
  v53 := Try.zeroValue134
  t131 := Try.underlying108
  a131 := Try.isAgg108
  z131 := Try.sizeOf108
  v131 := Try.zeroValue108
  t182 := Try.underlying125
  a182 := Try.isAgg125
  z182 := Try.sizeOf125
  v182 := Try.zeroValue125
  t183 := Try.underlying126
  a183 := Try.isAgg126
  z183 := Try.sizeOf126
  v183 := Try.zeroValue126
  t218 := Try.underlying143
  a218 := Try.isAgg143
  z218 := Try.sizeOf143
  v218 := Try.zeroValue143
  t222 := Try.underlying147
  a222 := Try.isAgg147
  z222 := Try.sizeOf147
  v222 := Try.zeroValue147
  t228 := Try.underlying152
  a228 := Try.isAgg152
  z228 := Try.sizeOf152
  v228 := Try.zeroValue152
  t229 := Try.underlying153
  a229 := Try.isAgg153
  z229 := Try.sizeOf153
  v229 := Try.zeroValue153 }
open Go.Sort Go.RowKit in
theorem Try.slices_Sort_int (blk off cap : Nat) (zs : List Int) (w : World) (hH : Holds (Value.int .i64) w blk off zs.toArray) (hblk : blk < w.heap.size) (hsz : zs.length < 4611686018427387904) :
    Calls Try.prog 31 #[.slice (some ⟨blk, off, none⟩) zs.length cap] w fun e w' =>
      e = .returned (.tuple #[]) ∧ ∃ n os, w' = grow (putRow (Value.int .i64) (Sort.ahead w n) blk off (zs.mergeSort fun x y => decide (x ≤ y)).toArray) os := Any.slices_Sort_int Try.lays189 blk off cap zs w hH hblk hsz
open Go.RowKit Go.Sort in
/-- .. and plain. (LAID: no walk: one application.) -/
theorem Try.slices_Sort_int_none (p : Option Addr) (cap : Nat) (w : World) :
    Calls Try.prog 31 #[.slice p 0 cap] w fun e w' => e = .returned (.tuple #[]) ∧ w' = w := Any.slices_Sort_int_none Try.lays189 p cap w
end Go.Proofs
