-- Written by wip/xprint.py of this work: the printer of the kit, with contracts of this work beside it, shortened.
import Derived.Test.YtbclogifkifaaaaDoorShort
import Derived.Test.YtbclogifkifaaaaDoorPPrex0
namespace Go.Proofs.YtbclogifkifaaaaDoor.PPre
open Go.RowKit Go.Proofs.YtbclogifkifaaaaDoor.Short Go.Proofs.YtbclogifkifaaaaDoorW.PrintWords Go.Proofs.YtbclogifkifaaaaDoorW.PrintLast Go.Proofs.YtbclogifkifaaaaDoorW.PrintMore
attribute [local go_sem] max2_int min2_int max_two min_two max_three min_three max_four min_four   -- for this text's walks alone
set_option linter.unusedVariables false
set_option linter.unusedSimpArgs false

/-! ### strconv_Itoa: function 16 -/
def strconv_Itoa.f (a0 : Int) : Option ByteArray := if -9223372036854775808 ≤ a0 ∧ a0 ≤ 9223372036854775807 then some ⟨(Go.Lib.itoa a0).toArray⟩ else none
theorem strconv_Itoa.calls (a0 : Int) (r : ByteArray) (w : World) (h : strconv_Itoa.f a0 = some r) (hInv : Go.Proofs.YtbclogifkifaaaaDoor.Inv.Inv w) :
  Calls Tryd.prog 16 #[.int .i64 a0] w fun e w' => e = .returned (.string r) ∧ Below w.heap.size w w' := by
 unfold strconv_Itoa.f at h
 split at h
 ·rename_i h1
  obtain rfl := Option.some.inj h
  exact Go.Proofs.YtbclogifkifaaaaDoor.Libs.itoa_calls a0 h1.1 h1.2 w hInv
 ·cases h

end Go.Proofs.YtbclogifkifaaaaDoor.PPre
