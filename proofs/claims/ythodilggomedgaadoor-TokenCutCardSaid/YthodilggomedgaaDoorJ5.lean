/- Texts of this work, joined: PTkx18, PTkx24, PTkx1. -/
import Derived.Test.YthodilggomedgaaDoorShort
import Derived.Test.YthodilggomedgaaDoorPTkx0
section
namespace Go.Proofs.YthodilggomedgaaDoor.PTk
open Go.RowKit Go.Proofs.YthodilggomedgaaDoor.Short Go.Proofs.YthodilggomedgaaDoorW.PrintWords Go.Proofs.YthodilggomedgaaDoorW.PrintLast Go.Proofs.YthodilggomedgaaDoorW.PrintMore
attribute [local go_sem] max2_int min2_int max_two min_two max_three min_three max_four min_four   -- for this text's walks alone
set_option linter.unusedVariables false
set_option linter.unusedSimpArgs false

/-! ### api_Place: function 10 -/
def api_Place.f (a0 : Option Int) : Option Int := match a0 with
 | none => some (-1)
 | some c => some (c / 16)
theorem api_Place.calls (a0 : Option Int) (r : Int) (w : World) (h : api_Place.f a0 = some r) (hInv : Go.Proofs.YthodilggomedgaaDoor.InvE.Inv w) :
  Calls Tryd.prog 10 #[errW a0] w fun e w' => e = .returned (.int .i64 r) ∧ Below w.heap.size w w' := by
 cases a0 with
 | none =>
  obtain rfl := Option.some.inj h
  exact Go.Proofs.YthodilggomedgaaDoor.As.place_nil w
 | some c =>
  obtain rfl := Option.some.inj h
  exact Go.Proofs.YthodilggomedgaaDoor.As.place_F _ _ w hInv.et

end Go.Proofs.YthodilggomedgaaDoor.PTk
end
section
namespace Go.Proofs.YthodilggomedgaaDoor.PTk
open Go.RowKit Go.Proofs.YthodilggomedgaaDoor.Short Go.Proofs.YthodilggomedgaaDoorW.PrintWords Go.Proofs.YthodilggomedgaaDoorW.PrintLast Go.Proofs.YthodilggomedgaaDoorW.PrintMore
attribute [local go_sem] max2_int min2_int max_two min_two max_three min_three max_four min_four   -- for this text's walks alone
set_option linter.unusedVariables false
set_option linter.unusedSimpArgs false

/-! ### api_Number: function 12 -/
def api_Number.f (a0 : Option Int) : Option Int := match a0 with
 | none => some 0
 | some c => some (c % 16)
theorem api_Number.calls (a0 : Option Int) (r : Int) (w : World) (h : api_Number.f a0 = some r) (hInv : Go.Proofs.YthodilggomedgaaDoor.InvE.Inv w) :
  Calls Tryd.prog 12 #[errW a0] w fun e w' => e = .returned (.int .i64 r) ∧ Below w.heap.size w w' := by
 cases a0 with
 | none =>
  obtain rfl := Option.some.inj h
  exact Go.Proofs.YthodilggomedgaaDoor.As.number_nil w
 | some c =>
  obtain rfl := Option.some.inj h
  exact Go.Proofs.YthodilggomedgaaDoor.As.number_F _ _ w hInv.et

end Go.Proofs.YthodilggomedgaaDoor.PTk
end
section
namespace Go.Proofs.YthodilggomedgaaDoor.PTk
open Go.RowKit Go.Proofs.YthodilggomedgaaDoorW.PrintWords Go.Proofs.YthodilggomedgaaDoorW.PrintLast Go.Proofs.YthodilggomedgaaDoorW.PrintMore
attribute [local go_sem] max2_int min2_int max_two min_two max_three min_three max_four min_four   -- for this text's walks alone
set_option linter.unusedVariables false
set_option linter.unusedSimpArgs false

theorem eqA31 (d : Nat) (w : World) (x0 y0 : Int) (x1 y1 : Int) :
    (Op.equalIn (d + 2) 31 (.agg #[.int .u32 x0, .int .i64 x1]) (.agg #[.int .u32 y0, .int .i64 y1])).run Tryd.prog w = .ok (x0 == y0 && (x1 == y1)) w := by
  refine eqA_of Tryd.underlying31 (by kernel_rfl) ?_
  refine eqf_cons (by rfl) (by go_simp; rfl) (by go_simp; rfl) (by go_simp) ?_
  exact eqf_last (by rfl) (by go_simp; rfl) (by go_simp; rfl) (by go_simp)
theorem eqA33 (d : Nat) (w : World) (x0 y0 : Int) (x1 y1 : ByteArray) (x2 y2 : Int) (x3 y3 : Int) (x4 y4 : Int) (x5 y5 : Int) :
    (Op.equalIn (d + 3) 33 (.agg #[.int .i64 x0, .string x1, .int .i64 x2, .int .u32 x3, .int .i64 x4, .int .i64 x5]) (.agg #[.int .i64 y0, .string y1, .int .i64 y2, .int .u32 y3, .int .i64 y4, .int .i64 y5])).run Tryd.prog w = .ok (x0 == y0 && (x1.toList == y1.toList && (x2 == y2 && ((x3 == y3 && (x4 == y4)) && (x5 == y5))))) w := by
  refine eqA_of Tryd.underlying33 (by kernel_rfl) ?_
  refine eqf_cons (by rfl) (by go_simp; rfl) (by go_simp; rfl) (by go_simp) ?_
  refine eqf_cons (by rfl) (by go_simp; rfl) (by go_simp; rfl) (by go_simp) ?_
  refine eqf_cons (by rfl) (by go_simp; rfl) (by go_simp; rfl) (by go_simp) ?_
  refine eqf_cons (by rfl) (by go_simp) (by go_simp) (eqA31 (d + 0) w _ _ _ _) ?_
  exact eqf_last (by rfl) (by go_simp; rfl) (by go_simp; rfl) (by go_simp)
end Go.Proofs.YthodilggomedgaaDoor.PTk
end
