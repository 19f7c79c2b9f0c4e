/-
  DERIVED. GIVEN WITH THE SEED: THE CARDS: each row of YtnlonnnhofagaaaDoorRows.lean that lists a variable, with what it lists TIED to the program's text (the seventh form; the later family's looks); each row that meets fmt, with fmt's text TOLD by the authors' own Lean function (tested against real Go, not proved from fmt's source: count such statements apart). THE CARD IS WHAT COUNTS. Prove the row's statement (the work); the ties are given (YtnlonnnhofagaaaDoorTie.lean); close each card by the builder's one call (the guide's Derived/Test/ToyasCard.lean, 'card_holds'). Laid BY PROGRAM, IN A SANDBOX (cutbox-door.mjs). By AI agents, Wed Nov 11 2026. No macro, syntax, notation, axiom, sorry.
-/
import Derived.Test.YtnlonnnhofagaaaDoorRows
import GoSem.ClaimSeven
namespace Go.Proofs.YtnlonnnhofagaaaDoor
namespace Rows

/-- THE TIED CARD OF 'pangramlaw04.SignatureReads'. -/
def signatureReadsCard : Claim7 := { stood := { row := signatureReadsRow, standIns := [], harness := (true, "f6945b433abc3c5ed0214fdf77f4f96c747a1e1ea3962b8da805d33451f49075"), looks := true }, kinds := [], alts := [], laidByText := true, laidKinds := [.data, .data, .data, .listed, .data], laidTests := true, laidLooks := .later }
def SignatureReadsCardSaid : Prop := Claim7.holds Tryd.pinned (.plain (OpenSpec.ofChange signatureReadsSpec)) signatureReadsCard

/-- THE TIED CARD OF 'pangramlaw04.SignatureLevels'. -/
def signatureLevelsCard : Claim7 := { stood := { row := signatureLevelsRow, standIns := [], harness := (true, "f6945b433abc3c5ed0214fdf77f4f96c747a1e1ea3962b8da805d33451f49075"), looks := true }, kinds := [], alts := [], laidByText := true, laidKinds := [.data, .data, .data, .listed, .data], laidTests := true, laidLooks := .later }
def SignatureLevelsCardSaid : Prop := Claim7.holds Tryd.pinned (.plain (OpenSpec.ofChange signatureLevelsSpec)) signatureLevelsCard

/-- THE TIED CARD OF 'pangramlaw04.SignatureTokens'. -/
def signatureTokensCard : Claim7 := { stood := { row := signatureTokensRow, standIns := [], harness := (true, "f6945b433abc3c5ed0214fdf77f4f96c747a1e1ea3962b8da805d33451f49075"), looks := true }, kinds := [], alts := [], laidByText := true, laidKinds := [.data, .data, .data, .listed, .data], laidTests := true, laidLooks := .later }
def SignatureTokensCardSaid : Prop := Claim7.holds Tryd.pinned (.plain (OpenSpec.ofChange signatureTokensSpec)) signatureTokensCard

/-- THE TIED CARD OF 'pangramlaw04.SignatureParses'. -/
def signatureParsesCard : Claim7 := { stood := { row := signatureParsesRow, standIns := [], harness := (true, "f6945b433abc3c5ed0214fdf77f4f96c747a1e1ea3962b8da805d33451f49075"), looks := true }, kinds := [], alts := [], laidByText := true, laidKinds := [.data, .data, .data, .sentinel, .sentinel, .listed, .data], laidTests := true, laidLooks := .later }
def SignatureParsesCardSaid : Prop := Claim7.holds Tryd.pinned (.plain (OpenSpec.ofChange signatureParsesSpec)) signatureParsesCard

/-- THE SECOND FORM's CARD OF 'pangramlaw04.SignatureReads'. -/
def signatureReadsUptoCard : Claim7 := { stood := { row := signatureReadsUptoRow, standIns := [], harness := (true, "f6945b433abc3c5ed0214fdf77f4f96c747a1e1ea3962b8da805d33451f49075"), looks := true }, kinds := [], alts := [], laidByText := true, laidKinds := [.data, .data, .data, .listed, .data], laidTests := true, laidLooks := .later }
def SignatureReadsUptoCardSaid : Prop := Claim7.holds Tryd.pinned (.plain (OpenSpec.upto signatureReadsSpec)) signatureReadsUptoCard

/-- THE SECOND FORM's CARD OF 'pangramlaw04.SignatureLevels'. -/
def signatureLevelsUptoCard : Claim7 := { stood := { row := signatureLevelsUptoRow, standIns := [], harness := (true, "f6945b433abc3c5ed0214fdf77f4f96c747a1e1ea3962b8da805d33451f49075"), looks := true }, kinds := [], alts := [], laidByText := true, laidKinds := [.data, .data, .data, .listed, .data], laidTests := true, laidLooks := .later }
def SignatureLevelsUptoCardSaid : Prop := Claim7.holds Tryd.pinned (.plain (OpenSpec.upto signatureLevelsSpec)) signatureLevelsUptoCard

/-- THE SECOND FORM's CARD OF 'pangramlaw04.SignatureTokens'. -/
def signatureTokensUptoCard : Claim7 := { stood := { row := signatureTokensUptoRow, standIns := [], harness := (true, "f6945b433abc3c5ed0214fdf77f4f96c747a1e1ea3962b8da805d33451f49075"), looks := true }, kinds := [], alts := [], laidByText := true, laidKinds := [.data, .data, .data, .listed, .data], laidTests := true, laidLooks := .later }
def SignatureTokensUptoCardSaid : Prop := Claim7.holds Tryd.pinned (.plain (OpenSpec.upto signatureTokensSpec)) signatureTokensUptoCard

/-- THE SECOND FORM's CARD OF 'pangramlaw04.SignatureParses'. -/
def signatureParsesUptoCard : Claim7 := { stood := { row := signatureParsesUptoRow, standIns := [], harness := (true, "f6945b433abc3c5ed0214fdf77f4f96c747a1e1ea3962b8da805d33451f49075"), looks := true }, kinds := [], alts := [], laidByText := true, laidKinds := [.data, .data, .data, .sentinel, .sentinel, .listed, .data], laidTests := true, laidLooks := .later }
def SignatureParsesUptoCardSaid : Prop := Claim7.holds Tryd.pinned (.plain (OpenSpec.upto signatureParsesSpec)) signatureParsesUptoCard
end Rows
end Go.Proofs.YtnlonnnhofagaaaDoor
