/- Texts of the abstract walk, of the contracts and of the plain laws, packed (part 23 of 48): Ab20. Conditions: none. -/
import Derived.Test.YtmepcmphcghbeaaDoorPk22
namespace Go.Proofs.YtmepcmphcghbeaaDoor
open Go Go.RowKit
set_option linter.unusedSimpArgs false
set_option linter.unnecessarySimpa false
set_option linter.unusedVariables false
theorem Data.eptr {cs : List AV} (h : DataL cs) : Data (.eptr cs) := fun E E' A w u hr => by
  cases hr with
  | eptr g hcell hr => exact .eptr g hcell fun j c hj => h c (List.mem_of_getElem? hj) E E' A w _ (hr j c hj)
end Go.Proofs.YtmepcmphcghbeaaDoor
