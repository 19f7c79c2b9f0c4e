/- packed, part 22 of 45. Conditions: none. -/
import Derived.Test.YtkokfdmggdhfmaaGreatDoorPk21
import Derived.OpenShut
set_option linter.unusedVariables false
set_option linter.unusedSimpArgs false
set_option linter.unnecessarySimpa false
namespace Go.Proofs.YtkokfdmggdhfmaaGreatDoor
open Go Go.RowKit
abbrev CallE:=Nat->List AV->Os->Nat->Option (AV×Os×Nat)
section
variable {P:Program} {c:CallE} {st st':St} {K:St->Prop}
end
end Go.Proofs.YtkokfdmggdhfmaaGreatDoor
