/- Texts of this work, joined: AsN, AsP. -/
import Derived.Test.YthodilggomedgaaDoorAs
import Derived.Test.YthodilggomedgaaDoorShort
import Derived.Test.YthodilggomedgaaDoorMq
section
namespace Go.Proofs.YthodilggomedgaaDoor.As
open Go.RowKit Go.Extern.Stop Go.Stop Go.Extern Go.Proofs.YthodilggomedgaaDoorW.PrintWords
set_option linter.unusedVariables false
set_option linter.unusedSimpArgs false
end Go.Proofs.YthodilggomedgaaDoor.As
end
section
namespace Go.Proofs.YthodilggomedgaaDoor.As
open Go.RowKit Go.Extern.Stop Go.Stop Go.Extern Go.Proofs.YthodilggomedgaaDoorW.PrintWords Go.Proofs.YthodilggomedgaaDoor.Mq
set_option linter.unusedVariables false
set_option linter.unusedSimpArgs false
theorem wrap_calls (n k : Int) (w : World) : Calls Tryd.prog 14 #[.int .i64 n, .int .i64 k] w fun e w' => e = .returned (.iface 48 (.agg #[.int .i64 n, .int .i64 k])) ∧ Below w.heap.size w w' := by
  go_enter Tryd.func14, Tryd.ntmps14
  go_wp2
  go_ret
  exact ⟨rfl, Below.refl _ w⟩
end Go.Proofs.YthodilggomedgaaDoor.As
end
