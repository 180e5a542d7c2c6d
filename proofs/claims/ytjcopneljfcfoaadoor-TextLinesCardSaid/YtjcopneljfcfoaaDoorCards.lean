/-
  DERIVED. GIVEN WITH THE SEED: THE CARDS: each row of YtjcopneljfcfoaaDoorRows.lean that lists a variable, with what it lists TIED to the program's text (the seventh form; the later family's looks); each row that meets fmt, with fmt's text TOLD by the authors' own Lean function (tested against real Go, not proved from fmt's source: count such statements apart). THE CARD IS WHAT COUNTS. Prove the row's statement (the work); the ties are given (YtjcopneljfcfoaaDoorTie.lean); close each card by the builder's one call (the guide's Derived/Test/ToyasCard.lean, 'card_holds'). Laid BY PROGRAM, IN A SANDBOX (cutbox-door.mjs). By AI agents, Wed Nov 11 2026. No macro, syntax, notation, axiom, sorry.
-/
import Derived.Test.YtjcopneljfcfoaaDoorRows
import GoSem.ClaimSeven
namespace Go.Proofs.YtjcopneljfcfoaaDoor
namespace Rows

/-- THE TIED CARD OF 'maquettelaw07.TextConfig'. -/
def textConfigCard : Claim7 := { stood := { row := textConfigRow, standIns := [], harness := (true, "9c5946ae9bbd4fe87d6eb81d31b532cb2cf4b5fef242e767243976d36919edb4"), looks := false }, kinds := [], alts := [], laidByText := true, laidKinds := [.data, .data, .data], laidTests := true, laidLooks := .later }
def TextConfigCardSaid : Prop := Claim7.holds Tryd.pinned (.plain (OpenSpec.ofChange textConfigSpec)) textConfigCard

/-- THE TIED CARD OF 'maquettelaw07.TextRaw'. -/
def textRawCard : Claim7 := { stood := { row := textRawRow, standIns := [], harness := (true, "9c5946ae9bbd4fe87d6eb81d31b532cb2cf4b5fef242e767243976d36919edb4"), looks := false }, kinds := [], alts := [], laidByText := true, laidKinds := [.data, .data, .data], laidTests := true, laidLooks := .later }
def TextRawCardSaid : Prop := Claim7.holds Tryd.pinned (.plain (OpenSpec.ofChange textRawSpec)) textRawCard

/-- THE TIED CARD OF 'maquettelaw07.TextLines'. -/
def textLinesCard : Claim7 := { stood := { row := textLinesRow, standIns := [], harness := (true, "9c5946ae9bbd4fe87d6eb81d31b532cb2cf4b5fef242e767243976d36919edb4"), looks := false }, kinds := [], alts := [], laidByText := true, laidKinds := [.data, .data, .data], laidTests := true, laidLooks := .later }
def TextLinesCardSaid : Prop := Claim7.holds Tryd.pinned (.plain (OpenSpec.ofChange textLinesSpec)) textLinesCard

/-- THE TIED CARD OF 'maquettelaw07.TextParts'. -/
def textPartsCard : Claim7 := { stood := { row := textPartsRow, standIns := [], harness := (true, "9c5946ae9bbd4fe87d6eb81d31b532cb2cf4b5fef242e767243976d36919edb4"), looks := false }, kinds := [], alts := [], laidByText := true, laidKinds := [.data, .data, .data], laidTests := true, laidLooks := .later }
def TextPartsCardSaid : Prop := Claim7.holds Tryd.pinned (.plain (OpenSpec.ofChange textPartsSpec)) textPartsCard

/-- THE TIED CARD OF 'maquettelaw07.TextSame'. -/
def textSameCard : Claim7 := { stood := { row := textSameRow, standIns := [], harness := (true, "9c5946ae9bbd4fe87d6eb81d31b532cb2cf4b5fef242e767243976d36919edb4"), looks := false }, kinds := [], alts := [], laidByText := true, laidKinds := [.data, .data, .data], laidTests := true, laidLooks := .later }
def TextSameCardSaid : Prop := Claim7.holds Tryd.pinned (.plain (OpenSpec.ofChange textSameSpec)) textSameCard

/-- THE SECOND FORM's CARD OF 'maquettelaw07.TextConfig'. -/
def textConfigUptoCard : Claim7 := { stood := { row := textConfigUptoRow, standIns := [], harness := (true, "9c5946ae9bbd4fe87d6eb81d31b532cb2cf4b5fef242e767243976d36919edb4"), looks := false }, kinds := [], alts := [], laidByText := true, laidKinds := [.data, .data, .data], laidTests := true, laidLooks := .later }
def TextConfigUptoCardSaid : Prop := Claim7.holds Tryd.pinned (.plain (OpenSpec.upto textConfigSpec)) textConfigUptoCard

/-- THE SECOND FORM's CARD OF 'maquettelaw07.TextRaw'. -/
def textRawUptoCard : Claim7 := { stood := { row := textRawUptoRow, standIns := [], harness := (true, "9c5946ae9bbd4fe87d6eb81d31b532cb2cf4b5fef242e767243976d36919edb4"), looks := false }, kinds := [], alts := [], laidByText := true, laidKinds := [.data, .data, .data], laidTests := true, laidLooks := .later }
def TextRawUptoCardSaid : Prop := Claim7.holds Tryd.pinned (.plain (OpenSpec.upto textRawSpec)) textRawUptoCard

/-- THE SECOND FORM's CARD OF 'maquettelaw07.TextLines'. -/
def textLinesUptoCard : Claim7 := { stood := { row := textLinesUptoRow, standIns := [], harness := (true, "9c5946ae9bbd4fe87d6eb81d31b532cb2cf4b5fef242e767243976d36919edb4"), looks := false }, kinds := [], alts := [], laidByText := true, laidKinds := [.data, .data, .data], laidTests := true, laidLooks := .later }
def TextLinesUptoCardSaid : Prop := Claim7.holds Tryd.pinned (.plain (OpenSpec.upto textLinesSpec)) textLinesUptoCard

/-- THE SECOND FORM's CARD OF 'maquettelaw07.TextParts'. -/
def textPartsUptoCard : Claim7 := { stood := { row := textPartsUptoRow, standIns := [], harness := (true, "9c5946ae9bbd4fe87d6eb81d31b532cb2cf4b5fef242e767243976d36919edb4"), looks := false }, kinds := [], alts := [], laidByText := true, laidKinds := [.data, .data, .data], laidTests := true, laidLooks := .later }
def TextPartsUptoCardSaid : Prop := Claim7.holds Tryd.pinned (.plain (OpenSpec.upto textPartsSpec)) textPartsUptoCard

/-- THE SECOND FORM's CARD OF 'maquettelaw07.TextSame'. -/
def textSameUptoCard : Claim7 := { stood := { row := textSameUptoRow, standIns := [], harness := (true, "9c5946ae9bbd4fe87d6eb81d31b532cb2cf4b5fef242e767243976d36919edb4"), looks := false }, kinds := [], alts := [], laidByText := true, laidKinds := [.data, .data, .data], laidTests := true, laidLooks := .later }
def TextSameUptoCardSaid : Prop := Claim7.holds Tryd.pinned (.plain (OpenSpec.upto textSameSpec)) textSameUptoCard
end Rows
end Go.Proofs.YtjcopneljfcfoaaDoor
