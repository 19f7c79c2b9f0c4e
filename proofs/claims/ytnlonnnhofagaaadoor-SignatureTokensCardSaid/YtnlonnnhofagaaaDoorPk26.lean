/- Texts of the abstract walk, of the contracts and of the plain laws, packed (part 26 of 39): Ab24. Conditions: none. -/
import Derived.Test.YtnlonnnhofagaaaDoorPk25
namespace Go.Proofs.YtnlonnnhofagaaaDoor
open Go Go.RowKit
def LeF1 (os os' : Os) (x y : AV) : Prop := Le x y ∨ ∃ id t cs, x = .ptr id 0 ∧ y = .eptr cs ∧ getO os id = some (.cells t cs) ∧ getO os' id = none
def LeF (os os' : Os) : List AV → List AV → Prop
  | [], [] => True
  | x :: xs, y :: ys => LeF1 os os' x y ∧ LeF os os' xs ys
  | _, _ => False
end Go.Proofs.YtnlonnnhofagaaaDoor
