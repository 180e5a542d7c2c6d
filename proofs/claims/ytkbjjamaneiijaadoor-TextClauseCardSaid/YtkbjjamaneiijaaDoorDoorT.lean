/- What a row that lists the numbers' tables alone gives. -/
import Derived.Test.YtkbjjamaneiijaaDoorDoor
import Derived.Test.YtkbjjamaneiijaaDoorInvT
namespace Go.Proofs.YtkbjjamaneiijaaDoor.Door
open Go.ChangeShapes Go.WideShapes Go.ChangeAt Go.RowKit Go.Proofs.YtkbjjamaneiijaaDoor.Open Go.Proofs.YtkbjjamaneiijaaDoor.Inv
set_option linter.unusedVariables false
abbrev laidT : List (String × DataW Unit) := Rows.textClauseRow.laid
theorem noHandlesT : (laidT.all fun x => x.2.handleName?.isNone) = true := by kernel_rfl
theorem inv_of_rowT {W : World} (h : laidMetH Tryd.prog laidT W) (hs : W.ShapedOpen Tryd.prog) : InvT.Inv W := by
  rw [MakeChecks.laidMetH_plain _ _ _ noHandlesT] at h
  have h2 := h.tail.tail
  have h2' : laidMet Tryd.prog (("internal/strconv.uint64pow10", Rows.laid_internal_strconv_uint64pow10) :: _) W := h2
  rw [powData] at h2'
  exact ⟨Lib.tabIs_of_head gPow tPow Tryd.underlying126 Tryd.underlying108 (by kernel_rfl) (by kernel_rfl) h2'⟩
set_option maxRecDepth 100000 in
theorem laid_metT (os : Os) (args : Array Value) : laidMetH Tryd.prog laidT ((laidWorld os).forCall (fun _ _ => 0) ⟨#[], args, []⟩).memory := by
  rw [MakeChecks.laidMetH_plain _ _ _ noHandlesT]
  exact laidMet_of_run3 12 (by kernel_rfl) (by kernel_rfl) (by kernel_rfl)
end Go.Proofs.YtkbjjamaneiijaaDoor.Door
