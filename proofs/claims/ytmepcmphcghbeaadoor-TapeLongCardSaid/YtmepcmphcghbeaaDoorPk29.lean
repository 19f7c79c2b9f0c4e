/- Texts of the abstract walk, of the contracts and of the plain laws, packed (part 29 of 48): Ab26. Conditions: none. -/
import Derived.Test.YtmepcmphcghbeaaDoorPk28
namespace Go.Proofs.YtmepcmphcghbeaaDoor
open Go Go.RowKit
set_option linter.unnecessarySimpa false
def isV : AV → Bool
  | .v _ => true
  | _ => false
section
variable {P : Program} {l : List Oper} {Q : Exit → St → Prop} {os1 : Os} {G : List Nat} {fuel : Nat} {listed : Array Bool} {st : St}
def keepG (st st' : St) : List Nat → Prop
  | [] => True
  | d :: G => st'.get d = st.get d ∧ keepG st st' G
end
end Go.Proofs.YtmepcmphcghbeaaDoor
