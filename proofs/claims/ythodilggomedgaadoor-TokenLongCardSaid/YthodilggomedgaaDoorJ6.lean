/- Texts of this work, joined: PTkx18, PTkx24. -/
import Derived.Test.YthodilggomedgaaDoorShort
import Derived.Test.YthodilggomedgaaDoorPTkx0
section
namespace Go.Proofs.YthodilggomedgaaDoor.PTk
open Go.RowKit Go.Proofs.YthodilggomedgaaDoor.Short Go.Proofs.YthodilggomedgaaDoorW.PrintWords Go.Proofs.YthodilggomedgaaDoorW.PrintLast Go.Proofs.YthodilggomedgaaDoorW.PrintMore
attribute [local go_sem] max2_int min2_int max_two min_two max_three min_three max_four min_four   -- for this text's walks alone
set_option linter.unusedVariables false
set_option linter.unusedSimpArgs false

/-! ### api_Place: function 10 -/
def api_Place.f (a0 : Option Int) : Option Int := match a0 with
 | none => some (-1)
 | some c => some (c / 16)
theorem api_Place.calls (a0 : Option Int) (r : Int) (w : World) (h : api_Place.f a0 = some r) (hInv : Go.Proofs.YthodilggomedgaaDoor.InvE.Inv w) :
  Calls Tryd.prog 10 #[errW a0] w fun e w' => e = .returned (.int .i64 r) ∧ Below w.heap.size w w' := by
 cases a0 with
 | none =>
  obtain rfl := Option.some.inj h
  exact Go.Proofs.YthodilggomedgaaDoor.As.place_nil w
 | some c =>
  obtain rfl := Option.some.inj h
  exact Go.Proofs.YthodilggomedgaaDoor.As.place_F _ _ w hInv.et

end Go.Proofs.YthodilggomedgaaDoor.PTk
end
section
namespace Go.Proofs.YthodilggomedgaaDoor.PTk
open Go.RowKit Go.Proofs.YthodilggomedgaaDoor.Short Go.Proofs.YthodilggomedgaaDoorW.PrintWords Go.Proofs.YthodilggomedgaaDoorW.PrintLast Go.Proofs.YthodilggomedgaaDoorW.PrintMore
attribute [local go_sem] max2_int min2_int max_two min_two max_three min_three max_four min_four   -- for this text's walks alone
set_option linter.unusedVariables false
set_option linter.unusedSimpArgs false

/-! ### api_Number: function 12 -/
def api_Number.f (a0 : Option Int) : Option Int := match a0 with
 | none => some 0
 | some c => some (c % 16)
theorem api_Number.calls (a0 : Option Int) (r : Int) (w : World) (h : api_Number.f a0 = some r) (hInv : Go.Proofs.YthodilggomedgaaDoor.InvE.Inv w) :
  Calls Tryd.prog 12 #[errW a0] w fun e w' => e = .returned (.int .i64 r) ∧ Below w.heap.size w w' := by
 cases a0 with
 | none =>
  obtain rfl := Option.some.inj h
  exact Go.Proofs.YthodilggomedgaaDoor.As.number_nil w
 | some c =>
  obtain rfl := Option.some.inj h
  exact Go.Proofs.YthodilggomedgaaDoor.As.number_F _ _ w hInv.et

end Go.Proofs.YthodilggomedgaaDoor.PTk
end
