-- Written by wip/xprint.py of this work: the printer of the kit, with contracts of this work beside it, shortened.
import Derived.Test.YtbclogifkifaaaaDoorShort
import Derived.Test.YtbclogifkifaaaaDoorPPrex0
namespace Go.Proofs.YtbclogifkifaaaaDoor.PPre
open Go.RowKit Go.Proofs.YtbclogifkifaaaaDoor.Short Go.Proofs.YtbclogifkifaaaaDoorW.PrintWords Go.Proofs.YtbclogifkifaaaaDoorW.PrintLast Go.Proofs.YtbclogifkifaaaaDoorW.PrintMore
attribute [local go_sem] max2_int min2_int max_two min_two max_three min_three max_four min_four   -- for this text's walks alone
set_option linter.unusedVariables false
set_option linter.unusedSimpArgs false

/-! ### prefix_number: function 12 -/
def prefix_number.f (a0 : ByteArray) (a1 : Int) : Option (Int × Bool) := if a0.size ≤ 281474976710656 then some (Go.Proofs.YtbclogifkifaaaaDoor.Libs.numb a0, Go.Proofs.YtbclogifkifaaaaDoor.Libs.numOk a0 a1) else none
theorem prefix_number.calls (a0 : ByteArray) (a1 : Int) (r1 : Int) (r2 : Bool) (w : World) (h : prefix_number.f a0 a1 = some (r1, r2)) (hInv : Go.Proofs.YtbclogifkifaaaaDoor.Inv.Inv w) :
  Calls Tryd.prog 12 #[.string a0, .int .i64 a1] w fun e w' => e = .returned (.tuple #[.int .i64 r1, .bool r2]) ∧ Below w.heap.size w w' := by
 unfold prefix_number.f at h
 split at h
 ·rename_i h1
  simp only [Option.some.injEq, Prod.mk.injEq] at h
  obtain ⟨rfl, rfl⟩ := h
  exact Go.Proofs.YtbclogifkifaaaaDoor.Libs.number_calls a0 a1 h1 w hInv
 ·cases h

end Go.Proofs.YtbclogifkifaaaaDoor.PPre
