/- Texts of the abstract walk, of the contracts and of the plain laws, packed (part 23 of 50): Ab18. Conditions: none. -/
import Derived.Test.YtjjjckjebkmnjaaGreatPk22
set_option linter.unusedVariables false
set_option linter.unusedSimpArgs false
namespace Go.Proofs.YtjjjckjebkmnjaaGreat
open Go Go.RowKit
abbrev CallE:=Nat→List AV→Os→Nat→Option (AV×Os×Nat)
section
variable {P:Program} {c:CallE} {st st':St} {K:St→Prop}
end
end Go.Proofs.YtjjjckjebkmnjaaGreat
