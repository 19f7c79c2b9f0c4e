/- packed, part 23 of 45. Conditions: none. -/
import Derived.Test.YtkokfdmggdhfmaaGreatDoorPk22
set_option linter.unusedVariables false
set_option linter.unusedSimpArgs false
set_option linter.unnecessarySimpa false
namespace Go.Proofs.YtkokfdmggdhfmaaGreatDoor
open Go Go.RowKit
theorem Data.eptr {cs:List AV} (h:DataL cs):Data (.eptr cs):=fun E E' A w u hr=>by
 cases hr with
 | eptr g hcell hr=>exact .eptr g hcell fun j c hj=>h c (zm hj) E E' A w _ (hr j c hj)
end Go.Proofs.YtkokfdmggdhfmaaGreatDoor
