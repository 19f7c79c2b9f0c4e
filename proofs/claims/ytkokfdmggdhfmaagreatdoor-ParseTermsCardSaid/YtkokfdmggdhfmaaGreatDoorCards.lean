/-
  DERIVED. GIVEN WITH THE SEED: THE CARDS: each row of YtkokfdmggdhfmaaGreatDoorRows.lean that lists a variable, with what it lists TIED to the program's text (the seventh form; the later family's looks); each row that meets fmt, with fmt's text TOLD by the authors' own Lean function (tested against real Go, not proved from fmt's source: count such statements apart). THE CARD IS WHAT COUNTS. Prove the row's statement (the work); the ties are given (YtkokfdmggdhfmaaGreatDoorTie.lean); close each card by the builder's one call (the guide's Derived/Test/ToyasCard.lean, 'card_holds'). Laid BY PROGRAM, IN A SANDBOX (cutbox-door.mjs). By AI agents, Wed Nov 11 2026. No macro, syntax, notation, axiom, sorry.
-/
import Derived.Test.YtkokfdmggdhfmaaGreatDoorRows
import GoSem.ClaimSeven
namespace Go.Proofs.YtkokfdmggdhfmaaGreatDoor
namespace Rows

/-- THE TIED CARD OF 'pangramlaw16.SchemeParses'. -/
def schemeParsesCard : Claim7 := { stood := { row := schemeParsesRow, standIns := [], harness := (true, "0b6e21a802f4409ebe6ed98c50a1b91560e4d6fd682f747a23ea514c2b6e2db8"), looks := true }, kinds := [], alts := [], laidByText := true, laidKinds := [.data, .data, .data, .sentinel, .sentinel, .listed, .data], laidTests := true, laidLooks := .later }
def SchemeParsesCardSaid : Prop := Claim7.holds Tryz.pinned (.plain (OpenSpec.ofChange schemeParsesSpec)) schemeParsesCard

/-- THE TIED CARD OF 'pangramlaw16.SchemeCanon'. -/
def schemeCanonCard : Claim7 := { stood := { row := schemeCanonRow, standIns := [], harness := (true, "0b6e21a802f4409ebe6ed98c50a1b91560e4d6fd682f747a23ea514c2b6e2db8"), looks := true }, kinds := [], alts := [], laidByText := true, laidKinds := [.data, .data, .data, .sentinel, .sentinel, .listed, .data], laidTests := true, laidLooks := .later }
def SchemeCanonCardSaid : Prop := Claim7.holds Tryz.pinned (.plain (OpenSpec.ofChange schemeCanonSpec)) schemeCanonCard

/-- THE TIED CARD OF 'pangramlaw06.ParseTerms'. -/
def parseTermsCard : Claim7 := { stood := { row := parseTermsRow, standIns := [], harness := (true, "0b6e21a802f4409ebe6ed98c50a1b91560e4d6fd682f747a23ea514c2b6e2db8"), looks := true }, kinds := [], alts := [], laidByText := true, laidKinds := [.data, .data, .data, .sentinel, .sentinel, .listed, .data], laidTests := true, laidLooks := .later }
def ParseTermsCardSaid : Prop := Claim7.holds Tryz.pinned (.plain (OpenSpec.ofChange parseTermsSpec)) parseTermsCard

/-- THE TIED CARD OF 'pangramlaw06.ParseLanguage'. -/
def parseLanguageCard : Claim7 := { stood := { row := parseLanguageRow, standIns := [], harness := (true, "0b6e21a802f4409ebe6ed98c50a1b91560e4d6fd682f747a23ea514c2b6e2db8"), looks := true }, kinds := [], alts := [], laidByText := true, laidKinds := [.data, .data, .data, .sentinel, .sentinel, .listed, .data], laidTests := true, laidLooks := .later }
def ParseLanguageCardSaid : Prop := Claim7.holds Tryz.pinned (.plain (OpenSpec.ofChange parseLanguageSpec)) parseLanguageCard

/-- THE TIED CARD OF 'pangramlaw06.ParseSpans'. -/
def parseSpansCard : Claim7 := { stood := { row := parseSpansRow, standIns := [], harness := (true, "0b6e21a802f4409ebe6ed98c50a1b91560e4d6fd682f747a23ea514c2b6e2db8"), looks := true }, kinds := [], alts := [], laidByText := true, laidKinds := [.data, .data, .data, .sentinel, .sentinel, .listed, .data], laidTests := true, laidLooks := .later }
def ParseSpansCardSaid : Prop := Claim7.holds Tryz.pinned (.plain (OpenSpec.ofChange parseSpansSpec)) parseSpansCard

/-- THE SECOND FORM's CARD OF 'pangramlaw16.SchemeParses'. -/
def schemeParsesUptoCard : Claim7 := { stood := { row := schemeParsesUptoRow, standIns := [], harness := (true, "0b6e21a802f4409ebe6ed98c50a1b91560e4d6fd682f747a23ea514c2b6e2db8"), looks := true }, kinds := [], alts := [], laidByText := true, laidKinds := [.data, .data, .data, .sentinel, .sentinel, .listed, .data], laidTests := true, laidLooks := .later }
def SchemeParsesUptoCardSaid : Prop := Claim7.holds Tryz.pinned (.plain (OpenSpec.upto schemeParsesSpec)) schemeParsesUptoCard

/-- THE SECOND FORM's CARD OF 'pangramlaw16.SchemeCanon'. -/
def schemeCanonUptoCard : Claim7 := { stood := { row := schemeCanonUptoRow, standIns := [], harness := (true, "0b6e21a802f4409ebe6ed98c50a1b91560e4d6fd682f747a23ea514c2b6e2db8"), looks := true }, kinds := [], alts := [], laidByText := true, laidKinds := [.data, .data, .data, .sentinel, .sentinel, .listed, .data], laidTests := true, laidLooks := .later }
def SchemeCanonUptoCardSaid : Prop := Claim7.holds Tryz.pinned (.plain (OpenSpec.upto schemeCanonSpec)) schemeCanonUptoCard

/-- THE SECOND FORM's CARD OF 'pangramlaw06.ParseTerms'. -/
def parseTermsUptoCard : Claim7 := { stood := { row := parseTermsUptoRow, standIns := [], harness := (true, "0b6e21a802f4409ebe6ed98c50a1b91560e4d6fd682f747a23ea514c2b6e2db8"), looks := true }, kinds := [], alts := [], laidByText := true, laidKinds := [.data, .data, .data, .sentinel, .sentinel, .listed, .data], laidTests := true, laidLooks := .later }
def ParseTermsUptoCardSaid : Prop := Claim7.holds Tryz.pinned (.plain (OpenSpec.upto parseTermsSpec)) parseTermsUptoCard

/-- THE SECOND FORM's CARD OF 'pangramlaw06.ParseLanguage'. -/
def parseLanguageUptoCard : Claim7 := { stood := { row := parseLanguageUptoRow, standIns := [], harness := (true, "0b6e21a802f4409ebe6ed98c50a1b91560e4d6fd682f747a23ea514c2b6e2db8"), looks := true }, kinds := [], alts := [], laidByText := true, laidKinds := [.data, .data, .data, .sentinel, .sentinel, .listed, .data], laidTests := true, laidLooks := .later }
def ParseLanguageUptoCardSaid : Prop := Claim7.holds Tryz.pinned (.plain (OpenSpec.upto parseLanguageSpec)) parseLanguageUptoCard

/-- THE SECOND FORM's CARD OF 'pangramlaw06.ParseSpans'. -/
def parseSpansUptoCard : Claim7 := { stood := { row := parseSpansUptoRow, standIns := [], harness := (true, "0b6e21a802f4409ebe6ed98c50a1b91560e4d6fd682f747a23ea514c2b6e2db8"), looks := true }, kinds := [], alts := [], laidByText := true, laidKinds := [.data, .data, .data, .sentinel, .sentinel, .listed, .data], laidTests := true, laidLooks := .later }
def ParseSpansUptoCardSaid : Prop := Claim7.holds Tryz.pinned (.plain (OpenSpec.upto parseSpansSpec)) parseSpansUptoCard
end Rows
end Go.Proofs.YtkokfdmggdhfmaaGreatDoor
