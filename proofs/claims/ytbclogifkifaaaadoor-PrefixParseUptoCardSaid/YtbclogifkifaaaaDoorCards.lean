/-
  DERIVED. GIVEN WITH THE SEED: THE CARDS: each row of YtbclogifkifaaaaDoorRows.lean that lists a variable, with what it lists TIED to the program's text (the seventh form; the later family's looks); each row that meets fmt, with fmt's text TOLD by the authors' own Lean function (tested against real Go, not proved from fmt's source: count such statements apart). THE CARD IS WHAT COUNTS. Prove the row's statement (the work); the ties are given (YtbclogifkifaaaaDoorTie.lean); close each card by the builder's one call (the guide's Derived/Test/ToyasCard.lean, 'card_holds'). Laid BY PROGRAM, IN A SANDBOX (cutbox-door.mjs). By AI agents, Wed Nov 11 2026. No macro, syntax, notation, axiom, sorry.
-/
import Derived.Test.YtbclogifkifaaaaDoorRows
import GoSem.ClaimSeven
namespace Go.Proofs.YtbclogifkifaaaaDoor
namespace Rows

/-- THE TIED CARD OF 'maquettelaw05.PrefixParse'. -/
def prefixParseCard : Claim7 := { stood := { row := prefixParseRow, standIns := [], harness := (true, "46b792b58cf75670d335d834565c50ebde8dba5c6800de2a5d5c0ee092b35a57"), looks := true }, kinds := [], alts := [], laidByText := true, laidKinds := [.data, .data, .data, .data, .sentinel, .sentinel, .pinned], laidTests := true, laidLooks := .later }
def PrefixParseCardSaid : Prop := Claim7.holds Tryd.pinned (.plain (OpenSpec.ofChange prefixParseSpec)) prefixParseCard

/-- THE SECOND FORM's CARD OF 'maquettelaw05.PrefixParse'. -/
def prefixParseUptoCard : Claim7 := { stood := { row := prefixParseUptoRow, standIns := [], harness := (true, "46b792b58cf75670d335d834565c50ebde8dba5c6800de2a5d5c0ee092b35a57"), looks := true }, kinds := [], alts := [], laidByText := true, laidKinds := [.data, .data, .data, .data, .sentinel, .sentinel, .pinned], laidTests := true, laidLooks := .later }
def PrefixParseUptoCardSaid : Prop := Claim7.holds Tryd.pinned (.plain (OpenSpec.upto prefixParseSpec)) prefixParseUptoCard
end Rows
end Go.Proofs.YtbclogifkifaaaaDoor
