/-
  DERIVED. GIVEN WITH THE SEED: THE CARDS: each row of YtkbjjamaneiijaaDoorRows.lean that lists a variable, with what it lists TIED to the program's text (the seventh form; the later family's looks); each row that meets fmt, with fmt's text TOLD by the authors' own Lean function (tested against real Go, not proved from fmt's source: count such statements apart). THE CARD IS WHAT COUNTS. Prove the row's statement (the work); the ties are given (YtkbjjamaneiijaaDoorTie.lean); close each card by the builder's one call (the guide's Derived/Test/ToyasCard.lean, 'card_holds'). Laid BY PROGRAM, IN A SANDBOX (cutbox-door.mjs). By AI agents, Wed Nov 11 2026. No macro, syntax, notation, axiom, sorry.
-/
import Derived.Test.YtkbjjamaneiijaaDoorRows
import GoSem.ClaimSeven
namespace Go.Proofs.YtkbjjamaneiijaaDoor
namespace Rows

/-- THE TIED CARD OF 'maquettelaw05.PrefixText'. -/
def prefixTextCard : Claim7 := { stood := { row := prefixTextRow, standIns := [], harness := (true, "a282f67d41375fa20b0c6dc21c147f329eeb9519e3f909e16e9b6bb9a7f81aba"), looks := true }, kinds := [], alts := [], laidByText := true, laidKinds := [.data, .data, .data, .data, .sentinel, .sentinel, .pinned], laidTests := true, laidLooks := .later }
def PrefixTextCardSaid : Prop := Claim7.holds Tryd.pinned (.plain (OpenSpec.ofChange prefixTextSpec)) prefixTextCard

/-- THE TIED CARD OF 'maquettelaw05.PrefixParse'. -/
def prefixParseCard : Claim7 := { stood := { row := prefixParseRow, standIns := [], harness := (true, "a282f67d41375fa20b0c6dc21c147f329eeb9519e3f909e16e9b6bb9a7f81aba"), looks := true }, kinds := [], alts := [], laidByText := true, laidKinds := [.data, .data, .data, .data, .sentinel, .sentinel, .pinned], laidTests := true, laidLooks := .later }
def PrefixParseCardSaid : Prop := Claim7.holds Tryd.pinned (.plain (OpenSpec.ofChange prefixParseSpec)) prefixParseCard

/-- THE TIED CARD OF 'maquettelaw05.PrefixCovers'. -/
def prefixCoversCard : Claim7 := { stood := { row := prefixCoversRow, standIns := [], harness := (true, "a282f67d41375fa20b0c6dc21c147f329eeb9519e3f909e16e9b6bb9a7f81aba"), looks := true }, kinds := [], alts := [], laidByText := true, laidKinds := [.data, .data, .data, .data, .sentinel, .sentinel, .pinned], laidTests := true, laidLooks := .later }
def PrefixCoversCardSaid : Prop := Claim7.holds Tryd.pinned (.plain (OpenSpec.ofChange prefixCoversSpec)) prefixCoversCard

/-- THE TIED CARD OF 'maquettelaw05.PrefixLess'. -/
def prefixLessCard : Claim7 := { stood := { row := prefixLessRow, standIns := [], harness := (true, "a282f67d41375fa20b0c6dc21c147f329eeb9519e3f909e16e9b6bb9a7f81aba"), looks := true }, kinds := [], alts := [], laidByText := true, laidKinds := [.data, .data, .data, .data, .sentinel, .sentinel, .pinned], laidTests := true, laidLooks := .later }
def PrefixLessCardSaid : Prop := Claim7.holds Tryd.pinned (.plain (OpenSpec.ofChange prefixLessSpec)) prefixLessCard

/-- THE TIED CARD OF 'maquettelaw05.PrefixEnds'. -/
def prefixEndsCard : Claim7 := { stood := { row := prefixEndsRow, standIns := [], harness := (true, "a282f67d41375fa20b0c6dc21c147f329eeb9519e3f909e16e9b6bb9a7f81aba"), looks := true }, kinds := [], alts := [], laidByText := true, laidKinds := [.data, .data, .data, .data, .sentinel, .sentinel, .pinned], laidTests := true, laidLooks := .later }
def PrefixEndsCardSaid : Prop := Claim7.holds Tryd.pinned (.plain (OpenSpec.ofChange prefixEndsSpec)) prefixEndsCard

/-- THE TIED CARD OF 'maquettelaw05.PrefixOrder'. -/
def prefixOrderCard : Claim7 := { stood := { row := prefixOrderRow, standIns := [], harness := (true, "a282f67d41375fa20b0c6dc21c147f329eeb9519e3f909e16e9b6bb9a7f81aba"), looks := true }, kinds := [], alts := [], laidByText := true, laidKinds := [.data, .data, .data, .data, .sentinel, .sentinel, .pinned], laidTests := true, laidLooks := .later }
def PrefixOrderCardSaid : Prop := Claim7.holds Tryd.pinned (.plain (OpenSpec.ofChange prefixOrderSpec)) prefixOrderCard

/-- THE TIED CARD OF 'maquettelaw07.TextClause'. -/
def textClauseCard : Claim7 := { stood := { row := textClauseRow, standIns := [], harness := (true, "a282f67d41375fa20b0c6dc21c147f329eeb9519e3f909e16e9b6bb9a7f81aba"), looks := true }, kinds := [], alts := [], laidByText := true, laidKinds := [.data, .data, .data], laidTests := true, laidLooks := .later }
def TextClauseCardSaid : Prop := Claim7.holds Tryd.pinned (.plain (OpenSpec.ofChange textClauseSpec)) textClauseCard

/-- THE TIED CARD OF 'maquettelaw07.TextConfig'. -/
def textConfigCard : Claim7 := { stood := { row := textConfigRow, standIns := [], harness := (true, "a282f67d41375fa20b0c6dc21c147f329eeb9519e3f909e16e9b6bb9a7f81aba"), looks := true }, kinds := [], alts := [], laidByText := true, laidKinds := [.data, .data, .data], laidTests := true, laidLooks := .later }
def TextConfigCardSaid : Prop := Claim7.holds Tryd.pinned (.plain (OpenSpec.ofChange textConfigSpec)) textConfigCard

/-- THE TIED CARD OF 'maquettelaw07.TextRaw'. -/
def textRawCard : Claim7 := { stood := { row := textRawRow, standIns := [], harness := (true, "a282f67d41375fa20b0c6dc21c147f329eeb9519e3f909e16e9b6bb9a7f81aba"), looks := true }, kinds := [], alts := [], laidByText := true, laidKinds := [.data, .data, .data], laidTests := true, laidLooks := .later }
def TextRawCardSaid : Prop := Claim7.holds Tryd.pinned (.plain (OpenSpec.ofChange textRawSpec)) textRawCard

/-- THE TIED CARD OF 'maquettelaw07.TextLines'. -/
def textLinesCard : Claim7 := { stood := { row := textLinesRow, standIns := [], harness := (true, "a282f67d41375fa20b0c6dc21c147f329eeb9519e3f909e16e9b6bb9a7f81aba"), looks := true }, kinds := [], alts := [], laidByText := true, laidKinds := [.data, .data, .data], laidTests := true, laidLooks := .later }
def TextLinesCardSaid : Prop := Claim7.holds Tryd.pinned (.plain (OpenSpec.ofChange textLinesSpec)) textLinesCard

/-- THE TIED CARD OF 'maquettelaw07.TextParts'. -/
def textPartsCard : Claim7 := { stood := { row := textPartsRow, standIns := [], harness := (true, "a282f67d41375fa20b0c6dc21c147f329eeb9519e3f909e16e9b6bb9a7f81aba"), looks := true }, kinds := [], alts := [], laidByText := true, laidKinds := [.data, .data, .data], laidTests := true, laidLooks := .later }
def TextPartsCardSaid : Prop := Claim7.holds Tryd.pinned (.plain (OpenSpec.ofChange textPartsSpec)) textPartsCard

/-- THE TIED CARD OF 'maquettelaw07.TextSame'. -/
def textSameCard : Claim7 := { stood := { row := textSameRow, standIns := [], harness := (true, "a282f67d41375fa20b0c6dc21c147f329eeb9519e3f909e16e9b6bb9a7f81aba"), looks := true }, kinds := [], alts := [], laidByText := true, laidKinds := [.data, .data, .data], laidTests := true, laidLooks := .later }
def TextSameCardSaid : Prop := Claim7.holds Tryd.pinned (.plain (OpenSpec.ofChange textSameSpec)) textSameCard

/-- THE SECOND FORM's CARD OF 'maquettelaw05.PrefixText'. -/
def prefixTextUptoCard : Claim7 := { stood := { row := prefixTextUptoRow, standIns := [], harness := (true, "a282f67d41375fa20b0c6dc21c147f329eeb9519e3f909e16e9b6bb9a7f81aba"), looks := true }, kinds := [], alts := [], laidByText := true, laidKinds := [.data, .data, .data, .data, .sentinel, .sentinel, .pinned], laidTests := true, laidLooks := .later }
def PrefixTextUptoCardSaid : Prop := Claim7.holds Tryd.pinned (.plain (OpenSpec.upto prefixTextSpec)) prefixTextUptoCard

/-- THE SECOND FORM's CARD OF 'maquettelaw05.PrefixParse'. -/
def prefixParseUptoCard : Claim7 := { stood := { row := prefixParseUptoRow, standIns := [], harness := (true, "a282f67d41375fa20b0c6dc21c147f329eeb9519e3f909e16e9b6bb9a7f81aba"), looks := true }, kinds := [], alts := [], laidByText := true, laidKinds := [.data, .data, .data, .data, .sentinel, .sentinel, .pinned], laidTests := true, laidLooks := .later }
def PrefixParseUptoCardSaid : Prop := Claim7.holds Tryd.pinned (.plain (OpenSpec.upto prefixParseSpec)) prefixParseUptoCard

/-- THE SECOND FORM's CARD OF 'maquettelaw05.PrefixCovers'. -/
def prefixCoversUptoCard : Claim7 := { stood := { row := prefixCoversUptoRow, standIns := [], harness := (true, "a282f67d41375fa20b0c6dc21c147f329eeb9519e3f909e16e9b6bb9a7f81aba"), looks := true }, kinds := [], alts := [], laidByText := true, laidKinds := [.data, .data, .data, .data, .sentinel, .sentinel, .pinned], laidTests := true, laidLooks := .later }
def PrefixCoversUptoCardSaid : Prop := Claim7.holds Tryd.pinned (.plain (OpenSpec.upto prefixCoversSpec)) prefixCoversUptoCard

/-- THE SECOND FORM's CARD OF 'maquettelaw05.PrefixLess'. -/
def prefixLessUptoCard : Claim7 := { stood := { row := prefixLessUptoRow, standIns := [], harness := (true, "a282f67d41375fa20b0c6dc21c147f329eeb9519e3f909e16e9b6bb9a7f81aba"), looks := true }, kinds := [], alts := [], laidByText := true, laidKinds := [.data, .data, .data, .data, .sentinel, .sentinel, .pinned], laidTests := true, laidLooks := .later }
def PrefixLessUptoCardSaid : Prop := Claim7.holds Tryd.pinned (.plain (OpenSpec.upto prefixLessSpec)) prefixLessUptoCard

/-- THE SECOND FORM's CARD OF 'maquettelaw05.PrefixEnds'. -/
def prefixEndsUptoCard : Claim7 := { stood := { row := prefixEndsUptoRow, standIns := [], harness := (true, "a282f67d41375fa20b0c6dc21c147f329eeb9519e3f909e16e9b6bb9a7f81aba"), looks := true }, kinds := [], alts := [], laidByText := true, laidKinds := [.data, .data, .data, .data, .sentinel, .sentinel, .pinned], laidTests := true, laidLooks := .later }
def PrefixEndsUptoCardSaid : Prop := Claim7.holds Tryd.pinned (.plain (OpenSpec.upto prefixEndsSpec)) prefixEndsUptoCard

/-- THE SECOND FORM's CARD OF 'maquettelaw05.PrefixOrder'. -/
def prefixOrderUptoCard : Claim7 := { stood := { row := prefixOrderUptoRow, standIns := [], harness := (true, "a282f67d41375fa20b0c6dc21c147f329eeb9519e3f909e16e9b6bb9a7f81aba"), looks := true }, kinds := [], alts := [], laidByText := true, laidKinds := [.data, .data, .data, .data, .sentinel, .sentinel, .pinned], laidTests := true, laidLooks := .later }
def PrefixOrderUptoCardSaid : Prop := Claim7.holds Tryd.pinned (.plain (OpenSpec.upto prefixOrderSpec)) prefixOrderUptoCard

/-- THE SECOND FORM's CARD OF 'maquettelaw07.TextClause'. -/
def textClauseUptoCard : Claim7 := { stood := { row := textClauseUptoRow, standIns := [], harness := (true, "a282f67d41375fa20b0c6dc21c147f329eeb9519e3f909e16e9b6bb9a7f81aba"), looks := true }, kinds := [], alts := [], laidByText := true, laidKinds := [.data, .data, .data], laidTests := true, laidLooks := .later }
def TextClauseUptoCardSaid : Prop := Claim7.holds Tryd.pinned (.plain (OpenSpec.upto textClauseSpec)) textClauseUptoCard

/-- THE SECOND FORM's CARD OF 'maquettelaw07.TextConfig'. -/
def textConfigUptoCard : Claim7 := { stood := { row := textConfigUptoRow, standIns := [], harness := (true, "a282f67d41375fa20b0c6dc21c147f329eeb9519e3f909e16e9b6bb9a7f81aba"), looks := true }, kinds := [], alts := [], laidByText := true, laidKinds := [.data, .data, .data], laidTests := true, laidLooks := .later }
def TextConfigUptoCardSaid : Prop := Claim7.holds Tryd.pinned (.plain (OpenSpec.upto textConfigSpec)) textConfigUptoCard

/-- THE SECOND FORM's CARD OF 'maquettelaw07.TextRaw'. -/
def textRawUptoCard : Claim7 := { stood := { row := textRawUptoRow, standIns := [], harness := (true, "a282f67d41375fa20b0c6dc21c147f329eeb9519e3f909e16e9b6bb9a7f81aba"), looks := true }, kinds := [], alts := [], laidByText := true, laidKinds := [.data, .data, .data], laidTests := true, laidLooks := .later }
def TextRawUptoCardSaid : Prop := Claim7.holds Tryd.pinned (.plain (OpenSpec.upto textRawSpec)) textRawUptoCard

/-- THE SECOND FORM's CARD OF 'maquettelaw07.TextLines'. -/
def textLinesUptoCard : Claim7 := { stood := { row := textLinesUptoRow, standIns := [], harness := (true, "a282f67d41375fa20b0c6dc21c147f329eeb9519e3f909e16e9b6bb9a7f81aba"), looks := true }, kinds := [], alts := [], laidByText := true, laidKinds := [.data, .data, .data], laidTests := true, laidLooks := .later }
def TextLinesUptoCardSaid : Prop := Claim7.holds Tryd.pinned (.plain (OpenSpec.upto textLinesSpec)) textLinesUptoCard

/-- THE SECOND FORM's CARD OF 'maquettelaw07.TextParts'. -/
def textPartsUptoCard : Claim7 := { stood := { row := textPartsUptoRow, standIns := [], harness := (true, "a282f67d41375fa20b0c6dc21c147f329eeb9519e3f909e16e9b6bb9a7f81aba"), looks := true }, kinds := [], alts := [], laidByText := true, laidKinds := [.data, .data, .data], laidTests := true, laidLooks := .later }
def TextPartsUptoCardSaid : Prop := Claim7.holds Tryd.pinned (.plain (OpenSpec.upto textPartsSpec)) textPartsUptoCard

/-- THE SECOND FORM's CARD OF 'maquettelaw07.TextSame'. -/
def textSameUptoCard : Claim7 := { stood := { row := textSameUptoRow, standIns := [], harness := (true, "a282f67d41375fa20b0c6dc21c147f329eeb9519e3f909e16e9b6bb9a7f81aba"), looks := true }, kinds := [], alts := [], laidByText := true, laidKinds := [.data, .data, .data], laidTests := true, laidLooks := .later }
def TextSameUptoCardSaid : Prop := Claim7.holds Tryd.pinned (.plain (OpenSpec.upto textSameSpec)) textSameUptoCard
end Rows
end Go.Proofs.YtkbjjamaneiijaaDoor
