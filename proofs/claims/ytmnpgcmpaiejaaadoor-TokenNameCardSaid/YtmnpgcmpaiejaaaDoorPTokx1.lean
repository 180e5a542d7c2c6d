-- Written by wip/xprint.py of this work: the printer of the kit, with contracts of this work beside it, shortened.
import Derived.Test.YtmnpgcmpaiejaaaDoorShort
import Derived.Test.YtmnpgcmpaiejaaaDoorPTokx0
namespace Go.Proofs.YtmnpgcmpaiejaaaDoor.PTok
open Go.RowKit Go.Proofs.YtmnpgcmpaiejaaaDoor.Short Go.Proofs.YtmnpgcmpaiejaaaDoorW.PrintWords Go.Proofs.YtmnpgcmpaiejaaaDoorW.PrintLast Go.Proofs.YtmnpgcmpaiejaaaDoorW.PrintMore
attribute [local go_sem] max2_int min2_int max_two min_two max_three min_three max_four min_four   -- for this text's walks alone
set_option linter.unusedVariables false
set_option linter.unusedSimpArgs false

/-! ### api_Wrap: function 10 -/
def api_Wrap.f (a0 : Int) (a1 : Int) : Option (Option Int) := none
theorem api_Wrap.calls (a0 : Int) (a1 : Int) (r : Option Int) (w : World) (h : api_Wrap.f a0 a1 = some r) :
  Calls Tryd.prog 10 #[.int .i64 a0, .int .i64 a1] w fun e w' => e = .returned (errW r) ∧ Below w.heap.size w w' := by
 cases h

end Go.Proofs.YtmnpgcmpaiejaaaDoor.PTok
