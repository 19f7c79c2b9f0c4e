/- Texts of the abstract walk, of the contracts and of the plain laws, packed (part 36 of 48): Ab29. Conditions: none. -/
import Derived.Test.YtmepcmphcghbeaaDoorPk35
import Derived.WideKeyEntry
namespace Go.Proofs.YtmepcmphcghbeaaDoor
open Go Go.RowKit
set_option linter.unnecessarySimpa false
theorem eval_put_self {a : Act} {d : Nat} {v : Value} (h : d < a.tmps.size) : (a.put (some d) v).eval (.tmp d) = v := by
  simp [Act.eval, Act.put, Array.getD_eq_getD_getElem?, Array.getElem?_setIfInBounds, h]
section
variable {P : Program} {l : List Oper} {Q : Exit → St → Prop} {H : Held} {fuel : Nat} {listed : Array Bool} {st : St}
end
end Go.Proofs.YtmepcmphcghbeaaDoor
