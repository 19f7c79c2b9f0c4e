/-
  DERIVED. GIVEN WITH THE SEED: THE CARDS: each row of YtheacaigeidflaaDoorRows.lean that lists a variable, with what it lists TIED to the program's text (the seventh form; the later family's looks); each row that meets fmt, with fmt's text TOLD by the authors' own Lean function (tested against real Go, not proved from fmt's source: count such statements apart). THE CARD IS WHAT COUNTS. Prove the row's statement (the work); the ties are given (YtheacaigeidflaaDoorTie.lean); close each card by the builder's one call (the guide's Derived/Test/ToyasCard.lean, 'card_holds'). Laid BY PROGRAM, IN A SANDBOX (cutbox-door.mjs). By AI agents, Wed Nov 11 2026. No macro, syntax, notation, axiom, sorry.
-/
import Derived.Test.YtheacaigeidflaaDoorRows
import GoSem.ClaimSeven
namespace Go.Proofs.YtheacaigeidflaaDoor
namespace Rows

/-- THE TIED CARD OF 'pangramlaw16.SchemeCloses'. -/
def schemeClosesCard : Claim7 := { stood := { row := schemeClosesRow, standIns := [], harness := (true, "d2e3b9694d89e79563adbdb3f8771bdb881ba7f2a6cd080bcbebdf9f4b4155de"), looks := false }, kinds := [], alts := [], laidByText := true, laidKinds := [.data, .data, .data], laidTests := true, laidLooks := .later }
def SchemeClosesCardSaid : Prop := Claim7.holds Tryd.pinned (.plain (OpenSpec.ofChange schemeClosesSpec)) schemeClosesCard

/-- THE TIED CARD OF 'pangramlaw16.SchemeInstances'. -/
def schemeInstancesCard : Claim7 := { stood := { row := schemeInstancesRow, standIns := [], harness := (true, "d2e3b9694d89e79563adbdb3f8771bdb881ba7f2a6cd080bcbebdf9f4b4155de"), looks := false }, kinds := [], alts := [], laidByText := true, laidKinds := [.data, .data, .data], laidTests := true, laidLooks := .later }
def SchemeInstancesCardSaid : Prop := Claim7.holds Tryd.pinned (.plain (OpenSpec.ofChange schemeInstancesSpec)) schemeInstancesCard

/-- THE TIED CARD OF 'pangramlaw16.SchemeRules'. -/
def schemeRulesCard : Claim7 := { stood := { row := schemeRulesRow, standIns := [], harness := (true, "d2e3b9694d89e79563adbdb3f8771bdb881ba7f2a6cd080bcbebdf9f4b4155de"), looks := false }, kinds := [], alts := [], laidByText := true, laidKinds := [.data, .data, .data], laidTests := true, laidLooks := .later }
def SchemeRulesCardSaid : Prop := Claim7.holds Tryd.pinned (.plain (OpenSpec.ofChange schemeRulesSpec)) schemeRulesCard

/-- THE TIED CARD OF 'pangramlaw16.SchemeFresh'. -/
def schemeFreshCard : Claim7 := { stood := { row := schemeFreshRow, standIns := [], harness := (true, "d2e3b9694d89e79563adbdb3f8771bdb881ba7f2a6cd080bcbebdf9f4b4155de"), looks := false }, kinds := [], alts := [], laidByText := true, laidKinds := [.data, .data, .data], laidTests := true, laidLooks := .later }
def SchemeFreshCardSaid : Prop := Claim7.holds Tryd.pinned (.plain (OpenSpec.ofChange schemeFreshSpec)) schemeFreshCard

/-- THE SECOND FORM's CARD OF 'pangramlaw16.SchemeCloses'. -/
def schemeClosesUptoCard : Claim7 := { stood := { row := schemeClosesUptoRow, standIns := [], harness := (true, "d2e3b9694d89e79563adbdb3f8771bdb881ba7f2a6cd080bcbebdf9f4b4155de"), looks := false }, kinds := [], alts := [], laidByText := true, laidKinds := [.data, .data, .data], laidTests := true, laidLooks := .later }
def SchemeClosesUptoCardSaid : Prop := Claim7.holds Tryd.pinned (.plain (OpenSpec.upto schemeClosesSpec)) schemeClosesUptoCard

/-- THE SECOND FORM's CARD OF 'pangramlaw16.SchemeInstances'. -/
def schemeInstancesUptoCard : Claim7 := { stood := { row := schemeInstancesUptoRow, standIns := [], harness := (true, "d2e3b9694d89e79563adbdb3f8771bdb881ba7f2a6cd080bcbebdf9f4b4155de"), looks := false }, kinds := [], alts := [], laidByText := true, laidKinds := [.data, .data, .data], laidTests := true, laidLooks := .later }
def SchemeInstancesUptoCardSaid : Prop := Claim7.holds Tryd.pinned (.plain (OpenSpec.upto schemeInstancesSpec)) schemeInstancesUptoCard

/-- THE SECOND FORM's CARD OF 'pangramlaw16.SchemeRules'. -/
def schemeRulesUptoCard : Claim7 := { stood := { row := schemeRulesUptoRow, standIns := [], harness := (true, "d2e3b9694d89e79563adbdb3f8771bdb881ba7f2a6cd080bcbebdf9f4b4155de"), looks := false }, kinds := [], alts := [], laidByText := true, laidKinds := [.data, .data, .data], laidTests := true, laidLooks := .later }
def SchemeRulesUptoCardSaid : Prop := Claim7.holds Tryd.pinned (.plain (OpenSpec.upto schemeRulesSpec)) schemeRulesUptoCard

/-- THE SECOND FORM's CARD OF 'pangramlaw16.SchemeFresh'. -/
def schemeFreshUptoCard : Claim7 := { stood := { row := schemeFreshUptoRow, standIns := [], harness := (true, "d2e3b9694d89e79563adbdb3f8771bdb881ba7f2a6cd080bcbebdf9f4b4155de"), looks := false }, kinds := [], alts := [], laidByText := true, laidKinds := [.data, .data, .data], laidTests := true, laidLooks := .later }
def SchemeFreshUptoCardSaid : Prop := Claim7.holds Tryd.pinned (.plain (OpenSpec.upto schemeFreshSpec)) schemeFreshUptoCard
end Rows
end Go.Proofs.YtheacaigeidflaaDoor
