/- Texts of the abstract walk, of the contracts and of the plain laws, packed (part 27 of 40): Ab24. Conditions: none. -/
import Derived.Test.YtkokfdmggdhfmaaDoorPk26
namespace Go.Proofs.YtkokfdmggdhfmaaDoor
open Go Go.RowKit
set_option linter.unnecessarySimpa false
def LeF1 (os os' : Os) (x y : AV) : Prop := Le x y ∨ ∃ id t cs, x = .ptr id 0 ∧ y = .eptr cs ∧ getO os id = some (.cells t cs) ∧ getO os' id = none
def LeF (os os' : Os) : List AV → List AV → Prop
  | [], [] => True
  | x :: xs, y :: ys => LeF1 os os' x y ∧ LeF os os' xs ys
  | _, _ => False
end Go.Proofs.YtkokfdmggdhfmaaDoor
