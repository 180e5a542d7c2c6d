-- Written by wip/xprint.py of this work: the printer of the kit, with contracts of this work beside it, shortened.
import Derived.Test.YthodilggomedgaaDoorShort
import Derived.Test.YthodilggomedgaaDoorPTkx0
namespace Go.Proofs.YthodilggomedgaaDoor.PTk
open Go.RowKit Go.Proofs.YthodilggomedgaaDoor.Short Go.Proofs.YthodilggomedgaaDoorW.PrintWords Go.Proofs.YthodilggomedgaaDoorW.PrintLast Go.Proofs.YthodilggomedgaaDoorW.PrintMore
attribute [local go_sem] max2_int min2_int max_two min_two max_three min_three max_four min_four   -- for this text's walks alone
set_option linter.unusedVariables false
set_option linter.unusedSimpArgs false

/-! ### api_Wrap: function 14 -/
def api_Wrap.f (a0 : Int) (a1 : Int) : Option (Option Int) := if 0 ≤ a0 ∧ a0 < 16 then some (some (a1 * 16 + a0)) else none
theorem api_Wrap.calls (a0 : Int) (a1 : Int) (r : Option Int) (w : World) (h : api_Wrap.f a0 a1 = some r) :
  Calls Tryd.prog 14 #[.int .i64 a0, .int .i64 a1] w fun e w' => e = .returned (errW r) ∧ Below w.heap.size w w' := by
 unfold api_Wrap.f at h
 split at h
 ·rename_i h1
  obtain rfl := Option.some.inj h
  have e1 : (a1 * 16 + a0) % 16 = a0 := by omega
  have e2 : (a1 * 16 + a0) / 16 = a1 := by omega
  rw [errW_some, e1, e2]
  exact Go.Proofs.YthodilggomedgaaDoor.As.wrap_calls a0 a1 w
 ·cases h

end Go.Proofs.YthodilggomedgaaDoor.PTk
