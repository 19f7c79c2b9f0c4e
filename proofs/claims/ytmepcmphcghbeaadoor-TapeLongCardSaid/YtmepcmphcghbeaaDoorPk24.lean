/- Texts of the abstract walk, of the contracts and of the plain laws, packed (part 24 of 48): Ab19. Conditions: none. -/
import Derived.Test.YtmepcmphcghbeaaDoorPk23
namespace Go.Proofs.YtmepcmphcghbeaaDoor
open Go Go.RowKit
set_option linter.unusedSimpArgs false
set_option linter.unnecessarySimpa false
set_option linter.unusedVariables false
section
variable {P : Program} {c : CallE}
def Has (L : List (Array Bool × St)) (p : Array Bool × St) : Prop := ∃ q ∈ L, q.1 = p.1 ∧ Weak p.2 q.2
end
end Go.Proofs.YtmepcmphcghbeaaDoor
