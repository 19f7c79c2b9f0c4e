/- Texts of the abstract walk, of the contracts and of the plain laws, packed (part 22 of 44): Ab18. Conditions: none. -/
import Derived.Test.YtkokfdmggdhfmaaDoorPk21
import Derived.OpenShut
namespace Go.Proofs.YtkokfdmggdhfmaaDoor
open Go Go.RowKit
set_option linter.unusedSimpArgs false
set_option linter.unnecessarySimpa false
set_option linter.unusedVariables false
abbrev CallE := Nat → List AV → Os → Nat → Option (AV × Os × Nat)
section
variable {P : Program} {c : CallE} {st st' : St} {K : St → Prop}
end
end Go.Proofs.YtkokfdmggdhfmaaDoor
