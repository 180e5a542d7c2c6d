/- What a row of this seat gives that lists errors.errorType, too. -/
import Derived.Test.YthodilggomedgaaDoorDoor
import Derived.Test.YthodilggomedgaaDoorJ0
import Derived.LaidHandle
namespace Go.Proofs.YthodilggomedgaaDoor.Door
open Go.ChangeShapes Go.WideShapes Go.ChangeAt Go.RowKit Go.Proofs.YthodilggomedgaaDoor.Open Go.Proofs.YthodilggomedgaaDoor.Inv
set_option linter.unusedVariables false
abbrev laidE : List (String × DataW Unit) := Rows.tokenCutRow.laid
theorem gErr : Tryd.prog.globalNamed "errors.errorType" = some 0 := by kernel_rfl
theorem rtE : (Tryd.prog.cutTypes.find? (·.1 == "internal/reflectlite.rtype")).map (·.2) = some 79 := by kernel_rfl
theorem oneRow : ((List.range 167).filter fun t => Tryd.prog.rowNamed t [101, 114, 114, 111, 114]) = [25] := by kernel_rfl
theorem sizeT : Tryd.prog.types.size = 167 := by kernel_rfl
theorem handlesE : (laidE.filter fun x => x.2.handleName?.isSome) = [("errors.errorType", Rows.laid_errors_errorType)] := by kernel_rfl
theorem plainE : (laidE.filter fun x => x.2.handleName?.isNone) = laidL := by kernel_rfl
theorem inv_of_rowE {W : World} (h : laidMetH Tryd.prog laidE W) (hs : W.ShapedOpen Tryd.prog) : InvE.Inv W := by
  unfold laidMetH at h
  rw [handlesE] at h
  obtain ⟨h1, h2⟩ := h
  rw [plainE] at h1
  refine ⟨inv_of_row (by rw [MakeChecks.laidMetH_plain _ _ _ noHandles]; exact h1) hs, ?_⟩
  obtain ⟨name, u, ty, e1, e2, e3, e4, e5⟩ := h2 _ (List.mem_singleton.2 rfl)
  have en : name = [101, 114, 114, 111, 114] := (Option.some.inj e1).symm
  subst en
  obtain rfl := Option.some.inj (rtE.symm.trans e2)
  have hm : ty ∈ (List.range 167).filter fun t => Tryd.prog.rowNamed t [101, 114, 114, 111, 114] := List.mem_filter.2 ⟨List.mem_range.2 (by rw [← sizeT]; exact e3), e4⟩
  rw [oneRow] at hm
  obtain rfl := List.mem_singleton.1 hm
  have hh : typeHandle Tryd.prog 25 = As.hd 25 := by kernel_rfl
  rw [hh] at e5
  simpa using World.var?_cell gErr e5 0
noncomputable def laidWorldE (os : Os) : World :=
  let w0 := laidWorld os
  { w0 with heap := lay w0.heap 0 #[As.rt 25] }
set_option maxRecDepth 100000 in
theorem laid_metE (os : Os) (args : Array Value) : laidMetH Tryd.prog laidE ((laidWorldE os).forCall (fun _ _ => 0) ⟨#[], args, []⟩).memory :=
  laidMetH_of_parts (by rw [plainE]; exact laidMet_of_run3 12 (by kernel_rfl) (by kernel_rfl) (by kernel_rfl)) (by kernel_rfl)
end Go.Proofs.YthodilggomedgaaDoor.Door
