/- Texts of the abstract walk, of the contracts and of the plain laws, packed (part 35 of 43): Ab31. Conditions: none. -/
import Derived.Test.YtmepcmphcghbeaaDoorPk34
namespace Go.Proofs.YtmepcmphcghbeaaDoor
open Go Go.RowKit
set_option linter.unnecessarySimpa false
def LeR1 (os os' : Os) (x y : AV) : Prop := Le x y ∨ ∃ id n e sz xs, x = .own id n ∧ y = .sl sz xs ∧ getO os id = some (.row e sz xs) ∧ n = xs.length ∧ getO os' id = none
def LeR (os os' : Os) : List AV → List AV → Prop
  | [], [] => True
  | x :: xs, y :: ys => LeR1 os os' x y ∧ LeR os os' xs ys
  | _, _ => False
section
variable {P : Program} {A0 : Nat → Nat → Prop} {E0 : Env} {os0 : Os} {w0 : World} {E : Env} {st : St} {a : Act} {w : World}
end
section
variable {P : Program} {l : List Oper} {Q : Exit → St → Prop} {os1 : Os} {G : List Nat} {fuel : Nat} {listed : Array Bool} {st : St}
end
end Go.Proofs.YtmepcmphcghbeaaDoor
