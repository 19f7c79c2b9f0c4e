/-
  DERIVED. GIVEN WITH THE SEED: THE CARDS: each row of YtpfiliamceimmaaGreatDoorRows.lean that lists a variable, with what it lists TIED to the program's text (the seventh form; the later family's looks); each row that meets fmt, with fmt's text TOLD by the authors' own Lean function (tested against real Go, not proved from fmt's source: count such statements apart). THE CARD IS WHAT COUNTS. Prove the row's statement (the work); the ties are given (YtpfiliamceimmaaGreatDoorTie.lean); close each card by the builder's one call (the guide's Derived/Test/ToyasCard.lean, 'card_holds'). Laid BY PROGRAM, IN A SANDBOX (cutbox-door.mjs). By AI agents, Wed Nov 11 2026. No macro, syntax, notation, axiom, sorry.
-/
import Derived.Test.YtpfiliamceimmaaGreatDoorRows
import GoSem.ClaimSeven
namespace Go.Proofs.YtpfiliamceimmaaGreatDoor
namespace Rows

/-- THE TIED CARD OF 'pangramlaw14.SolveOrder'. -/
def solveOrderCard : Claim7 := { stood := { row := solveOrderRow, standIns := [], harness := (true, "62f05c34ef618cee44986d7dabc007a338f3a277b38eb6c1b0dc1c4bdd2cce7c"), looks := false }, kinds := [], alts := [], laidByText := true, laidKinds := [.data, .data, .data], laidTests := true, laidLooks := .later }
def SolveOrderCardSaid : Prop := Claim7.holds Tryz.pinned (.plain (OpenSpec.ofChange solveOrderSpec)) solveOrderCard

/-- THE TIED CARD OF 'pangramlaw14.SolveTells'. -/
def solveTellsCard : Claim7 := { stood := { row := solveTellsRow, standIns := [], harness := (true, "62f05c34ef618cee44986d7dabc007a338f3a277b38eb6c1b0dc1c4bdd2cce7c"), looks := false }, kinds := [], alts := [], laidByText := true, laidKinds := [.data, .data, .data], laidTests := true, laidLooks := .later }
def SolveTellsCardSaid : Prop := Claim7.holds Tryz.pinned (.plain (OpenSpec.ofChange solveTellsSpec)) solveTellsCard

/-- THE TIED CARD OF 'pangramlaw14.SolveSat'. -/
def solveSatCard : Claim7 := { stood := { row := solveSatRow, standIns := [], harness := (true, "62f05c34ef618cee44986d7dabc007a338f3a277b38eb6c1b0dc1c4bdd2cce7c"), looks := false }, kinds := [], alts := [], laidByText := true, laidKinds := [.data, .data, .data], laidTests := true, laidLooks := .later }
def SolveSatCardSaid : Prop := Claim7.holds Tryz.pinned (.plain (OpenSpec.ofChange solveSatSpec)) solveSatCard

/-- THE TIED CARD OF 'pangramlaw14.SolveMost'. -/
def solveMostCard : Claim7 := { stood := { row := solveMostRow, standIns := [], harness := (true, "62f05c34ef618cee44986d7dabc007a338f3a277b38eb6c1b0dc1c4bdd2cce7c"), looks := false }, kinds := [], alts := [], laidByText := true, laidKinds := [.data, .data, .data], laidTests := true, laidLooks := .later }
def SolveMostCardSaid : Prop := Claim7.holds Tryz.pinned (.plain (OpenSpec.ofChange solveMostSpec)) solveMostCard

/-- THE TIED CARD OF 'pangramlaw14.SolveSolves'. -/
def solveSolvesCard : Claim7 := { stood := { row := solveSolvesRow, standIns := [], harness := (true, "62f05c34ef618cee44986d7dabc007a338f3a277b38eb6c1b0dc1c4bdd2cce7c"), looks := false }, kinds := [], alts := [], laidByText := true, laidKinds := [.data, .data, .data], laidTests := true, laidLooks := .later }
def SolveSolvesCardSaid : Prop := Claim7.holds Tryz.pinned (.plain (OpenSpec.ofChange solveSolvesSpec)) solveSolvesCard

/-- THE TIED CARD OF 'pangramlaw14.SolveMade'. -/
def solveMadeCard : Claim7 := { stood := { row := solveMadeRow, standIns := [], harness := (true, "62f05c34ef618cee44986d7dabc007a338f3a277b38eb6c1b0dc1c4bdd2cce7c"), looks := false }, kinds := [], alts := [], laidByText := true, laidKinds := [.data, .data, .data], laidTests := true, laidLooks := .later }
def SolveMadeCardSaid : Prop := Claim7.holds Tryz.pinned (.plain (OpenSpec.ofChange solveMadeSpec)) solveMadeCard

/-- THE TIED CARD OF 'pangramlaw14.SolveRules'. -/
def solveRulesCard : Claim7 := { stood := { row := solveRulesRow, standIns := [], harness := (true, "62f05c34ef618cee44986d7dabc007a338f3a277b38eb6c1b0dc1c4bdd2cce7c"), looks := false }, kinds := [], alts := [], laidByText := true, laidKinds := [.data, .data, .data], laidTests := true, laidLooks := .later }
def SolveRulesCardSaid : Prop := Claim7.holds Tryz.pinned (.plain (OpenSpec.ofChange solveRulesSpec)) solveRulesCard

/-- THE SECOND FORM's CARD OF 'pangramlaw14.SolveOrder'. -/
def solveOrderUptoCard : Claim7 := { stood := { row := solveOrderUptoRow, standIns := [], harness := (true, "62f05c34ef618cee44986d7dabc007a338f3a277b38eb6c1b0dc1c4bdd2cce7c"), looks := false }, kinds := [], alts := [], laidByText := true, laidKinds := [.data, .data, .data], laidTests := true, laidLooks := .later }
def SolveOrderUptoCardSaid : Prop := Claim7.holds Tryz.pinned (.plain (OpenSpec.upto solveOrderSpec)) solveOrderUptoCard

/-- THE SECOND FORM's CARD OF 'pangramlaw14.SolveTells'. -/
def solveTellsUptoCard : Claim7 := { stood := { row := solveTellsUptoRow, standIns := [], harness := (true, "62f05c34ef618cee44986d7dabc007a338f3a277b38eb6c1b0dc1c4bdd2cce7c"), looks := false }, kinds := [], alts := [], laidByText := true, laidKinds := [.data, .data, .data], laidTests := true, laidLooks := .later }
def SolveTellsUptoCardSaid : Prop := Claim7.holds Tryz.pinned (.plain (OpenSpec.upto solveTellsSpec)) solveTellsUptoCard

/-- THE SECOND FORM's CARD OF 'pangramlaw14.SolveSat'. -/
def solveSatUptoCard : Claim7 := { stood := { row := solveSatUptoRow, standIns := [], harness := (true, "62f05c34ef618cee44986d7dabc007a338f3a277b38eb6c1b0dc1c4bdd2cce7c"), looks := false }, kinds := [], alts := [], laidByText := true, laidKinds := [.data, .data, .data], laidTests := true, laidLooks := .later }
def SolveSatUptoCardSaid : Prop := Claim7.holds Tryz.pinned (.plain (OpenSpec.upto solveSatSpec)) solveSatUptoCard

/-- THE SECOND FORM's CARD OF 'pangramlaw14.SolveMost'. -/
def solveMostUptoCard : Claim7 := { stood := { row := solveMostUptoRow, standIns := [], harness := (true, "62f05c34ef618cee44986d7dabc007a338f3a277b38eb6c1b0dc1c4bdd2cce7c"), looks := false }, kinds := [], alts := [], laidByText := true, laidKinds := [.data, .data, .data], laidTests := true, laidLooks := .later }
def SolveMostUptoCardSaid : Prop := Claim7.holds Tryz.pinned (.plain (OpenSpec.upto solveMostSpec)) solveMostUptoCard

/-- THE SECOND FORM's CARD OF 'pangramlaw14.SolveSolves'. -/
def solveSolvesUptoCard : Claim7 := { stood := { row := solveSolvesUptoRow, standIns := [], harness := (true, "62f05c34ef618cee44986d7dabc007a338f3a277b38eb6c1b0dc1c4bdd2cce7c"), looks := false }, kinds := [], alts := [], laidByText := true, laidKinds := [.data, .data, .data], laidTests := true, laidLooks := .later }
def SolveSolvesUptoCardSaid : Prop := Claim7.holds Tryz.pinned (.plain (OpenSpec.upto solveSolvesSpec)) solveSolvesUptoCard

/-- THE SECOND FORM's CARD OF 'pangramlaw14.SolveMade'. -/
def solveMadeUptoCard : Claim7 := { stood := { row := solveMadeUptoRow, standIns := [], harness := (true, "62f05c34ef618cee44986d7dabc007a338f3a277b38eb6c1b0dc1c4bdd2cce7c"), looks := false }, kinds := [], alts := [], laidByText := true, laidKinds := [.data, .data, .data], laidTests := true, laidLooks := .later }
def SolveMadeUptoCardSaid : Prop := Claim7.holds Tryz.pinned (.plain (OpenSpec.upto solveMadeSpec)) solveMadeUptoCard

/-- THE SECOND FORM's CARD OF 'pangramlaw14.SolveRules'. -/
def solveRulesUptoCard : Claim7 := { stood := { row := solveRulesUptoRow, standIns := [], harness := (true, "62f05c34ef618cee44986d7dabc007a338f3a277b38eb6c1b0dc1c4bdd2cce7c"), looks := false }, kinds := [], alts := [], laidByText := true, laidKinds := [.data, .data, .data], laidTests := true, laidLooks := .later }
def SolveRulesUptoCardSaid : Prop := Claim7.holds Tryz.pinned (.plain (OpenSpec.upto solveRulesSpec)) solveRulesUptoCard
end Rows
end Go.Proofs.YtpfiliamceimmaaGreatDoor
