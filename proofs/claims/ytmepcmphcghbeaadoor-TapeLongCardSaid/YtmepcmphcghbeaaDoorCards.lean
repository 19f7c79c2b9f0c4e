/-
  DERIVED. GIVEN WITH THE SEED: THE CARDS: each row of YtmepcmphcghbeaaDoorRows.lean that lists a variable, with what it lists TIED to the program's text (the seventh form; the later family's looks); each row that meets fmt, with fmt's text TOLD by the authors' own Lean function (tested against real Go, not proved from fmt's source: count such statements apart). THE CARD IS WHAT COUNTS. Prove the row's statement (the work); the ties are given (YtmepcmphcghbeaaDoorTie.lean); close each card by the builder's one call (the guide's Derived/Test/ToyasCard.lean, 'card_holds'). Laid BY PROGRAM, IN A SANDBOX (cutbox-door.mjs). By AI agents, Wed Nov 11 2026. No macro, syntax, notation, axiom, sorry.
-/
import Derived.Test.YtmepcmphcghbeaaDoorRows
import GoSem.ClaimSeven
namespace Go.Proofs.YtmepcmphcghbeaaDoor
namespace Rows

/-- THE TIED CARD OF 'pangramlaw28.TapeQuotes'. -/
def tapeQuotesCard : Claim7 := { stood := { row := tapeQuotesRow, standIns := [], harness := (true, "d0ba90edeb65e7c9dba4800547894d4e36cb7c9e17207cc1c90d8b1502e76d9b"), looks := true }, kinds := [], alts := [], laidByText := true, laidKinds := [.data, .data, .data, .listed, .data, .data], laidTests := true, laidLooks := .later }
def TapeQuotesCardSaid : Prop := Claim7.holds Tryd.pinned (.plain (OpenSpec.ofChange tapeQuotesSpec)) tapeQuotesCard

/-- THE TIED CARD OF 'pangramlaw28.TapeParses'. -/
def tapeParsesCard : Claim7 := { stood := { row := tapeParsesRow, standIns := [], harness := (true, "d0ba90edeb65e7c9dba4800547894d4e36cb7c9e17207cc1c90d8b1502e76d9b"), looks := true }, kinds := [], alts := [], laidByText := true, laidKinds := [.data, .data, .data, .sentinel, .sentinel, .listed, .data, .data], laidTests := true, laidLooks := .later }
def TapeParsesCardSaid : Prop := Claim7.holds Tryd.pinned (.plain (OpenSpec.ofChange tapeParsesSpec)) tapeParsesCard

/-- THE TIED CARD OF 'pangramlaw28.TapeLines'. -/
def tapeLinesCard : Claim7 := { stood := { row := tapeLinesRow, standIns := [], harness := (true, "d0ba90edeb65e7c9dba4800547894d4e36cb7c9e17207cc1c90d8b1502e76d9b"), looks := true }, kinds := [], alts := [], laidByText := true, laidKinds := [.data, .data, .data, .sentinel, .sentinel, .listed, .data, .data], laidTests := true, laidLooks := .later }
def TapeLinesCardSaid : Prop := Claim7.holds Tryd.pinned (.plain (OpenSpec.ofChange tapeLinesSpec)) tapeLinesCard

/-- THE TIED CARD OF 'pangramlaw28.TapeWrites'. -/
def tapeWritesCard : Claim7 := { stood := { row := tapeWritesRow, standIns := [], harness := (true, "d0ba90edeb65e7c9dba4800547894d4e36cb7c9e17207cc1c90d8b1502e76d9b"), looks := true }, kinds := [], alts := [], laidByText := true, laidKinds := [.data, .data, .data, .sentinel, .sentinel, .listed, .data, .data], laidTests := true, laidLooks := .later }
def TapeWritesCardSaid : Prop := Claim7.holds Tryd.pinned (.plain (OpenSpec.ofChange tapeWritesSpec)) tapeWritesCard

/-- THE TIED CARD OF 'pangramlaw28.TapeReads'. -/
def tapeReadsCard : Claim7 := { stood := { row := tapeReadsRow, standIns := [], harness := (true, "d0ba90edeb65e7c9dba4800547894d4e36cb7c9e17207cc1c90d8b1502e76d9b"), looks := true }, kinds := [], alts := [], laidByText := true, laidKinds := [.data, .data, .data, .sentinel, .sentinel, .listed, .data, .data], laidTests := true, laidLooks := .later }
def TapeReadsCardSaid : Prop := Claim7.holds Tryd.pinned (.plain (OpenSpec.ofChange tapeReadsSpec)) tapeReadsCard

/-- THE TIED CARD OF 'pangramlaw28.TapeLong'. -/
def tapeLongCard : Claim7 := { stood := { row := tapeLongRow, standIns := [], harness := (true, "d0ba90edeb65e7c9dba4800547894d4e36cb7c9e17207cc1c90d8b1502e76d9b"), looks := true }, kinds := [], alts := [], laidByText := true, laidKinds := [.data, .data, .data, .sentinel, .sentinel, .listed, .data, .data], laidTests := true, laidLooks := .later }
def TapeLongCardSaid : Prop := Claim7.holds Tryd.pinned (.plain (OpenSpec.ofChange tapeLongSpec)) tapeLongCard

/-- THE SECOND FORM's CARD OF 'pangramlaw28.TapeQuotes'. -/
def tapeQuotesUptoCard : Claim7 := { stood := { row := tapeQuotesUptoRow, standIns := [], harness := (true, "d0ba90edeb65e7c9dba4800547894d4e36cb7c9e17207cc1c90d8b1502e76d9b"), looks := true }, kinds := [], alts := [], laidByText := true, laidKinds := [.data, .data, .data, .listed, .data, .data], laidTests := true, laidLooks := .later }
def TapeQuotesUptoCardSaid : Prop := Claim7.holds Tryd.pinned (.plain (OpenSpec.upto tapeQuotesSpec)) tapeQuotesUptoCard

/-- THE SECOND FORM's CARD OF 'pangramlaw28.TapeParses'. -/
def tapeParsesUptoCard : Claim7 := { stood := { row := tapeParsesUptoRow, standIns := [], harness := (true, "d0ba90edeb65e7c9dba4800547894d4e36cb7c9e17207cc1c90d8b1502e76d9b"), looks := true }, kinds := [], alts := [], laidByText := true, laidKinds := [.data, .data, .data, .sentinel, .sentinel, .listed, .data, .data], laidTests := true, laidLooks := .later }
def TapeParsesUptoCardSaid : Prop := Claim7.holds Tryd.pinned (.plain (OpenSpec.upto tapeParsesSpec)) tapeParsesUptoCard

/-- THE SECOND FORM's CARD OF 'pangramlaw28.TapeLines'. -/
def tapeLinesUptoCard : Claim7 := { stood := { row := tapeLinesUptoRow, standIns := [], harness := (true, "d0ba90edeb65e7c9dba4800547894d4e36cb7c9e17207cc1c90d8b1502e76d9b"), looks := true }, kinds := [], alts := [], laidByText := true, laidKinds := [.data, .data, .data, .sentinel, .sentinel, .listed, .data, .data], laidTests := true, laidLooks := .later }
def TapeLinesUptoCardSaid : Prop := Claim7.holds Tryd.pinned (.plain (OpenSpec.upto tapeLinesSpec)) tapeLinesUptoCard

/-- THE SECOND FORM's CARD OF 'pangramlaw28.TapeWrites'. -/
def tapeWritesUptoCard : Claim7 := { stood := { row := tapeWritesUptoRow, standIns := [], harness := (true, "d0ba90edeb65e7c9dba4800547894d4e36cb7c9e17207cc1c90d8b1502e76d9b"), looks := true }, kinds := [], alts := [], laidByText := true, laidKinds := [.data, .data, .data, .sentinel, .sentinel, .listed, .data, .data], laidTests := true, laidLooks := .later }
def TapeWritesUptoCardSaid : Prop := Claim7.holds Tryd.pinned (.plain (OpenSpec.upto tapeWritesSpec)) tapeWritesUptoCard

/-- THE SECOND FORM's CARD OF 'pangramlaw28.TapeReads'. -/
def tapeReadsUptoCard : Claim7 := { stood := { row := tapeReadsUptoRow, standIns := [], harness := (true, "d0ba90edeb65e7c9dba4800547894d4e36cb7c9e17207cc1c90d8b1502e76d9b"), looks := true }, kinds := [], alts := [], laidByText := true, laidKinds := [.data, .data, .data, .sentinel, .sentinel, .listed, .data, .data], laidTests := true, laidLooks := .later }
def TapeReadsUptoCardSaid : Prop := Claim7.holds Tryd.pinned (.plain (OpenSpec.upto tapeReadsSpec)) tapeReadsUptoCard

/-- THE SECOND FORM's CARD OF 'pangramlaw28.TapeLong'. -/
def tapeLongUptoCard : Claim7 := { stood := { row := tapeLongUptoRow, standIns := [], harness := (true, "d0ba90edeb65e7c9dba4800547894d4e36cb7c9e17207cc1c90d8b1502e76d9b"), looks := true }, kinds := [], alts := [], laidByText := true, laidKinds := [.data, .data, .data, .sentinel, .sentinel, .listed, .data, .data], laidTests := true, laidLooks := .later }
def TapeLongUptoCardSaid : Prop := Claim7.holds Tryd.pinned (.plain (OpenSpec.upto tapeLongSpec)) tapeLongUptoCard
end Rows
end Go.Proofs.YtmepcmphcghbeaaDoor
