/-
  DERIVED. GIVEN WITH THE SEED: THE CARDS: each row of YtkokfdmggdhfmaaDoorRows.lean that lists a variable, with what it lists TIED to the program's text (the seventh form; the later family's looks); each row that meets fmt, with fmt's text TOLD by the authors' own Lean function (tested against real Go, not proved from fmt's source: count such statements apart). THE CARD IS WHAT COUNTS. Prove the row's statement (the work); the ties are given (YtkokfdmggdhfmaaDoorTie.lean); close each card by the builder's one call (the guide's Derived/Test/ToyasCard.lean, 'card_holds'). Laid BY PROGRAM, IN A SANDBOX (cutbox-door.mjs). By AI agents, Wed Nov 11 2026. No macro, syntax, notation, axiom, sorry.
-/
import Derived.Test.YtkokfdmggdhfmaaDoorRows
import GoSem.ClaimSeven
namespace Go.Proofs.YtkokfdmggdhfmaaDoor
namespace Rows

/-- THE TIED CARD OF 'pangramlaw04.SignatureParses'. -/
def signatureParsesCard : Claim7 := { stood := { row := signatureParsesRow, standIns := [], harness := (true, "20ff952d216ec06a4f845fe23964e0d94417d94b524caac8b9cad5d66e089d26"), looks := true }, kinds := [], alts := [], laidByText := true, laidKinds := [.data, .data, .data, .sentinel, .sentinel, .listed, .data], laidTests := true, laidLooks := .later }
def SignatureParsesCardSaid : Prop := Claim7.holds Tryd.pinned (.plain (OpenSpec.ofChange signatureParsesSpec)) signatureParsesCard

/-- THE TIED CARD OF 'pangramlaw06.ParseLevels'. -/
def parseLevelsCard : Claim7 := { stood := { row := parseLevelsRow, standIns := [], harness := (true, "20ff952d216ec06a4f845fe23964e0d94417d94b524caac8b9cad5d66e089d26"), looks := true }, kinds := [], alts := [], laidByText := true, laidKinds := [.data, .data, .data, .sentinel, .sentinel, .listed, .data], laidTests := true, laidLooks := .later }
def ParseLevelsCardSaid : Prop := Claim7.holds Tryd.pinned (.plain (OpenSpec.ofChange parseLevelsSpec)) parseLevelsCard

/-- THE SECOND FORM's CARD OF 'pangramlaw04.SignatureParses'. -/
def signatureParsesUptoCard : Claim7 := { stood := { row := signatureParsesUptoRow, standIns := [], harness := (true, "20ff952d216ec06a4f845fe23964e0d94417d94b524caac8b9cad5d66e089d26"), looks := true }, kinds := [], alts := [], laidByText := true, laidKinds := [.data, .data, .data, .sentinel, .sentinel, .listed, .data], laidTests := true, laidLooks := .later }
def SignatureParsesUptoCardSaid : Prop := Claim7.holds Tryd.pinned (.plain (OpenSpec.upto signatureParsesSpec)) signatureParsesUptoCard

/-- THE SECOND FORM's CARD OF 'pangramlaw06.ParseLevels'. -/
def parseLevelsUptoCard : Claim7 := { stood := { row := parseLevelsUptoRow, standIns := [], harness := (true, "20ff952d216ec06a4f845fe23964e0d94417d94b524caac8b9cad5d66e089d26"), looks := true }, kinds := [], alts := [], laidByText := true, laidKinds := [.data, .data, .data, .sentinel, .sentinel, .listed, .data], laidTests := true, laidLooks := .later }
def ParseLevelsUptoCardSaid : Prop := Claim7.holds Tryd.pinned (.plain (OpenSpec.upto parseLevelsSpec)) parseLevelsUptoCard
end Rows
end Go.Proofs.YtkokfdmggdhfmaaDoor
