/- packed, part 24 of 45. Conditions: none. -/
import Derived.Test.YtkokfdmggdhfmaaGreatDoorPk23
set_option linter.unusedVariables false
set_option linter.unusedSimpArgs false
set_option linter.unnecessarySimpa false
namespace Go.Proofs.YtkokfdmggdhfmaaGreatDoor
open Go Go.RowKit
section
variable {P:Program} {c:CallE}
def Has (L:List (Array Bool×St)) (p:Array Bool×St):Prop:=∃q∈L,q.1=p.1/\Weak p.2 q.2
end
end Go.Proofs.YtkokfdmggdhfmaaGreatDoor
