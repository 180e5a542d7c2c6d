/- Texts of this work, joined: TokR, PTkx2. -/
import Derived.Test.YthodilggomedgaaDoorJ2
import Derived.Test.YthodilggomedgaaDoorJ4
import Derived.Test.YthodilggomedgaaDoorPTkx15
import Derived.Test.YthodilggomedgaaDoorPTkx22
import Derived.Test.YthodilggomedgaaDoorShort
import Derived.Test.YthodilggomedgaaDoorPTkx0
section
namespace Go.Proofs.YthodilggomedgaaDoor.TokP
open Go.RowKit Go.Proofs.YthodilggomedgaaDoor.PTk Go.Proofs.YthodilggomedgaaDoorW.PrintWords Go.Proofs.YthodilggomedgaaDoorW.PrintLast Go.Proofs.YthodilggomedgaaDoorW.PrintMore Go.Proofs.YthodilggomedgaaDoor.Dec Go.Proofs.YthodilggomedgaaDoor.TokM
set_option linter.unusedVariables false
set_option linter.unusedSimpArgs false
end Go.Proofs.YthodilggomedgaaDoor.TokP
end
section
namespace Go.Proofs.YthodilggomedgaaDoor.PTk
open Go.RowKit Go.Proofs.YthodilggomedgaaDoor.Short Go.Proofs.YthodilggomedgaaDoorW.PrintWords Go.Proofs.YthodilggomedgaaDoorW.PrintLast Go.Proofs.YthodilggomedgaaDoorW.PrintMore
attribute [local go_sem] max2_int min2_int max_two min_two max_three min_three max_four min_four   -- for this text's walks alone
set_option linter.unusedVariables false
set_option linter.unusedSimpArgs false

/-! ### api_Wrap: function 14 -/
def api_Wrap.f (a0 : Int) (a1 : Int) : Option (Option Int) := if 0 ≤ a0 ∧ a0 < 16 then some (some (a1 * 16 + a0)) else none
theorem api_Wrap.calls (a0 : Int) (a1 : Int) (r : Option Int) (w : World) (h : api_Wrap.f a0 a1 = some r) :
  Calls Tryd.prog 14 #[.int .i64 a0, .int .i64 a1] w fun e w' => e = .returned (errW r) ∧ Below w.heap.size w w' := by
 unfold api_Wrap.f at h
 split at h
 ·rename_i h1
  obtain rfl := Option.some.inj h
  have e1 : (a1 * 16 + a0) % 16 = a0 := by omega
  have e2 : (a1 * 16 + a0) / 16 = a1 := by omega
  rw [errW_some, e1, e2]
  exact Go.Proofs.YthodilggomedgaaDoor.As.wrap_calls a0 a1 w
 ·cases h

end Go.Proofs.YthodilggomedgaaDoor.PTk
end
