/- packed, part 36 of 45. Conditions: none. -/
import Derived.Test.YtkokfdmggdhfmaaGreatDoorPk35
set_option linter.unusedVariables false
set_option linter.unusedSimpArgs false
namespace Go.Proofs.YtkokfdmggdhfmaaGreatDoor
open Go Go.RowKit
set_option linter.unnecessarySimpa false
def LeR1 (os os':Os) (x y:AV):Prop:=Le x y\/∃id n e sz xs,x=.own id n/\y=.sl sz xs/\zJ os id=some (.row e sz xs)/\n=xs.length/\zJ os' id=none
def LeR (os os':Os):List AV->List AV->Prop
 | [],[]=>True
 | x::xs,y::ys=>LeR1 os os' x y/\LeR os os' xs ys
 | _,_=>False
section
variable {P:Program} {A0:Nat->Nat->Prop} {E0:Env} {os0:Os} {w0:World} {E:Env} {st:St} {a:Act} {w:World}
end
section
variable {P:Program} {l:List Oper} {Q:Exit->St->Prop} {os1:Os} {G:List Nat} {fuel:Nat} {listed:Array Bool} {st:St}
end
end Go.Proofs.YtkokfdmggdhfmaaGreatDoor
