/- Arguments read as data, told in the printer's way (Kd); and from a walk under a bound of bulk to_ a row. -/
import Derived.Test.YtbclogifkifaaaaDoorRows
import Derived.Test.YtbclogifkifaaaaDoorOpen
import Derived.Test.YtbclogifkifaaaaDoorWWords
import Derived.Deep.CondSized
namespace Go.Proofs.YtbclogifkifaaaaDoor.OpenK
open Go.ChangeShapes Go.WideShapes Go.ChangeAt Go.RowKit Go.Proofs.YtbclogifkifaaaaDoor.Open
open Go.Proofs.YtbclogifkifaaaaDoorW.PrintWords (Kd)
set_option linter.unusedVariables false

section
variable {H : Type} (enc : TypeId × Value → H) (P : Program) (w : World) (base : Nat) (spare : Nat → Bool) (held : Bool)
end
section
variable {H : Type} {enc : TypeId × Value → H} {P : Program} {w : World} {base : Nat} {spare : Nat → Bool} {held : Bool}
end
section
variable {H : Type} {enc : TypeId × Value → H} {P : Program} {w : World} {base b0 : Nat} {spare : Nat → Bool} {held : Bool}
end
/-! ### bulk -/
theorem bound {H : Type} {l : List (DataW H)} (hk : Rows.uptoSmall H l = true) : Rows.uptoBulkAll l ≤ 1048576 := of_decide_eq_true hk
end Go.Proofs.YtbclogifkifaaaaDoor.OpenK
