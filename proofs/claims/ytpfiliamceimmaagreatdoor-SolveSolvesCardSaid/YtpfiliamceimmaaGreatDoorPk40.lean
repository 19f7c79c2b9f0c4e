/- packed, part 40 of 48. Conditions: none. -/
import Derived.Test.YtpfiliamceimmaaGreatDoorPk39
set_option linter.unusedVariables false
set_option linter.unusedSimpArgs false
namespace Go.Proofs.YtpfiliamceimmaaGreatDoor
open Go Go.RowKit
theorem NAny_drop {P:Program} {l:List Oper} {Q:Exit->St->Prop} {os1:Os} {G:List Nat} {fuel:Nat} {listed:Array Bool} {st:St} (G':List Nat) (hs:(G'.all fun d=>G.contains d)=true) (h:zjk P l Q os1 G' fuel listed st):zjk P l Q os1 G fuel listed st :=
 fun A0 Er w1 E a w h1 h2 h3=>h A0 Er w1 E a w h1 h2 fun d hd=>h3 d (by
  have:=zV.1 hs d hd
  simpa using this)
end Go.Proofs.YtpfiliamceimmaaGreatDoor
