/- errors.As at the targets that api.Number and api.Place have, for errors that are a Fault or an Errno: Go's own text is walked, the model's reflectlite by closed facts (after the kit's worked example toyas). -/
import Derived.Test.YthodilggomedgaaDoorProg
import Derived.WalkKit
import Derived.LaidEql
import Derived.Stop.Asserts
import Derived.RowKitTokens
import Derived.Below
namespace Go.Proofs.YthodilggomedgaaDoor.As
open Go.RowKit Go.Extern.Stop Go.Stop Go.Extern
set_option linter.unusedVariables false
/-- A type's handle. -/
abbrev hd (t : TypeId) : Value := .pointer (some ⟨9, t, none⟩)
abbrev rt (t : TypeId) : Value := .iface 79 (.agg #[hd t])
/-! ### closed facts: the pointer targets -/
/-! ### what reads or writes memory -/
end Go.Proofs.YthodilggomedgaaDoor.As
