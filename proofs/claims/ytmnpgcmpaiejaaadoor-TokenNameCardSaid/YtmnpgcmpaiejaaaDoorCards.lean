/-
  DERIVED. GIVEN WITH THE SEED: THE CARDS: each row of YtmnpgcmpaiejaaaDoorRows.lean that lists a variable, with what it lists TIED to the program's text (the seventh form; the later family's looks); each row that meets fmt, with fmt's text TOLD by the authors' own Lean function (tested against real Go, not proved from fmt's source: count such statements apart). THE CARD IS WHAT COUNTS. Prove the row's statement (the work); the ties are given (YtmnpgcmpaiejaaaDoorTie.lean); close each card by the builder's one call (the guide's Derived/Test/ToyasCard.lean, 'card_holds'). Laid BY PROGRAM, IN A SANDBOX (cutbox-door.mjs). By AI agents, Wed Nov 11 2026. No macro, syntax, notation, axiom, sorry.
-/
import Derived.Test.YtmnpgcmpaiejaaaDoorRows
import GoSem.ClaimSeven
namespace Go.Proofs.YtmnpgcmpaiejaaaDoor
namespace Rows

/-- THE TIED CARD OF 'maquettelaw06.TokenName'. -/
def tokenNameCard : Claim7 := { stood := { row := tokenNameRow, standIns := [], harness := (true, "6a1393a57a47e7b739e00177fe09815416861be9f5e7c53f31148e1c3ad03dcd"), looks := true }, kinds := [], alts := [], laidByText := true, laidKinds := [.data, .data, .data, .data, .sentinel, .sentinel, .pinned], laidTests := true, laidLooks := .later }
def TokenNameCardSaid : Prop := Claim7.holds Tryd.pinned (.plain (OpenSpec.ofChange tokenNameSpec)) tokenNameCard

/-- THE SECOND FORM's CARD OF 'maquettelaw06.TokenName'. -/
def tokenNameUptoCard : Claim7 := { stood := { row := tokenNameUptoRow, standIns := [], harness := (true, "6a1393a57a47e7b739e00177fe09815416861be9f5e7c53f31148e1c3ad03dcd"), looks := true }, kinds := [], alts := [], laidByText := true, laidKinds := [.data, .data, .data, .data, .sentinel, .sentinel, .pinned], laidTests := true, laidLooks := .later }
def TokenNameUptoCardSaid : Prop := Claim7.holds Tryd.pinned (.plain (OpenSpec.upto tokenNameSpec)) tokenNameUptoCard
end Rows
end Go.Proofs.YtmnpgcmpaiejaaaDoor
