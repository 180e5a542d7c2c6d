/- Texts of this work, joined: TokM, Dec, PTkx7. -/
import Derived.Test.YthodilggomedgaaDoorPTkx6
import Derived.Test.YthodilggomedgaaDoorPTkx21
import Derived.Lib.AtoiAllCases
import Derived.Lib.ItoaNum
import Derived.Test.YthodilggomedgaaDoorProg
import Derived.Test.YthodilggomedgaaDoorShort
import Derived.Test.YthodilggomedgaaDoorPTkx0
section
namespace Go.Proofs.YthodilggomedgaaDoor.TokM
open Go.RowKit Go.Proofs.YthodilggomedgaaDoor.PTk Go.Proofs.YthodilggomedgaaDoorW.PrintWords Go.Proofs.YthodilggomedgaaDoorW.PrintLast Go.Proofs.YthodilggomedgaaDoorW.PrintMore
set_option linter.unusedVariables false
set_option linter.unusedSimpArgs false
def lt (c : Int) : Bool := decide (97 ≤ c ∧ c ≤ 122)
end Go.Proofs.YthodilggomedgaaDoor.TokM
end
section
namespace Go.Proofs.YthodilggomedgaaDoor.Dec
open Go.Lib
end Go.Proofs.YthodilggomedgaaDoor.Dec
end
section
namespace Go.Proofs.YthodilggomedgaaDoor.PTk
open Go.RowKit Go.Proofs.YthodilggomedgaaDoor.Short Go.Proofs.YthodilggomedgaaDoorW.PrintWords Go.Proofs.YthodilggomedgaaDoorW.PrintLast Go.Proofs.YthodilggomedgaaDoorW.PrintMore
attribute [local go_sem] max2_int min2_int max_two min_two max_three min_three max_four min_four   -- for this text's walks alone
set_option linter.unusedVariables false
set_option linter.unusedSimpArgs false

/-! ### strings_Cut: function 31 -/
def strings_Cut.f (a0 : ByteArray) (a1 : ByteArray) : Option (ByteArray × ByteArray × Bool) := if a0.size < 4294967281 then some (⟨(Go.Lib.cut a0.data.toList a1.data.toList).1.toArray⟩, ⟨(Go.Lib.cut a0.data.toList a1.data.toList).2.1.toArray⟩, (Go.Lib.cut a0.data.toList a1.data.toList).2.2) else none
theorem strings_Cut.calls (a0 : ByteArray) (a1 : ByteArray) (r1 : ByteArray) (r2 : ByteArray) (r3 : Bool) (w : World) (h : strings_Cut.f a0 a1 = some (r1, r2, r3)) (hInv : Go.Proofs.YthodilggomedgaaDoor.InvE.Inv w) :
  Calls Tryd.prog 31 #[.string a0, .string a1] w fun e w' => e = .returned (.tuple #[.string r1, .string r2, .bool r3]) ∧ Below w.heap.size w w' := by
 unfold strings_Cut.f at h
 split at h
 ·rename_i h1
  simp only [Option.some.injEq, Prod.mk.injEq] at h
  obtain ⟨rfl, rfl, rfl⟩ := h
  exact Go.Proofs.YthodilggomedgaaDoor.Libs.cut_calls a0 a1 h1 w hInv.base
 ·cases h

end Go.Proofs.YthodilggomedgaaDoor.PTk
end
