/- packed, part 35 of 47. Conditions: none. -/
import Derived.Test.YtkokfdmggdhfmaaGreatDoorPk34
import Derived.WideKeyEntry
set_option linter.unusedVariables false
set_option linter.unusedSimpArgs false
namespace Go.Proofs.YtkokfdmggdhfmaaGreatDoor
open Go Go.RowKit
set_option linter.unnecessarySimpa false
theorem zcC {a:Act} {d:Nat} {v:Value} (h:d<a.tmps.size):(a.put (some d) v).eval (.tmp d)=v:=by
 simp[Act.eval,Act.put,Array.getD_eq_getD_getElem?,Array.getElem?_setIfInBounds,h]
section
variable {P:Program} {l:List Oper} {Q:Exit->St->Prop} {H:Held} {fuel:Nat} {listed:Array Bool} {st:St}
end
end Go.Proofs.YtkokfdmggdhfmaaGreatDoor
