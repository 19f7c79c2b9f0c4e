/- packed, part 31 of 49. Conditions: none. -/
import Derived.Test.YtkokfdmggdhfmaaGreatDoorPk30
set_option linter.unusedVariables false
set_option linter.unusedSimpArgs false
set_option linter.unnecessarySimpa false
namespace Go.Proofs.YtkokfdmggdhfmaaGreatDoor
open Go Go.RowKit
theorem zcB {P:Program} {l:List Oper} {Q:Exit->St->Prop} {os1:Os} {G:List Nat} {fuel:Nat} {listed:Array Bool} {st:St} (G':List Nat) (hs:(G'.all fun d=>G.contains d)=true) (h:zhY P l Q os1 G' fuel listed st):zhY P l Q os1 G fuel listed st :=
 fun A0 Er w1 E a w h1 h2 h3=>h A0 Er w1 E a w h1 h2 fun d hd=>h3 d (by
  have:=zF.1 hs d hd
  simpa using this)
end Go.Proofs.YtkokfdmggdhfmaaGreatDoor
