/- packed, part 46 of 47. Conditions: none. -/
import Derived.Test.YtpfiliamceimmaaGreatDoorPk45
set_option linter.unusedVariables false
set_option linter.unusedSimpArgs false
namespace Go.Proofs.YtpfiliamceimmaaGreatDoor
open Go Go.RowKit Go.ChangeShapes Go.WideShapes
abbrev byC (n:Fin 256):List AV:=[.v (.int .u8 (n.val:Int))]
theorem dataBy (l:List (Fin 256)):Data (.sl 1 (l.map byC)):=.sl fun x hx=>by
 obtain ⟨y,_,rfl⟩:=zq.1 hx;exact .cons (.v _) .nil
section
variable {H:Type} {enc:TypeId×Value->H} {P:Program} {w:World} {base:Nat} {spare:Nat->Bool} {held:Bool} {E:Env}
end
end Go.Proofs.YtpfiliamceimmaaGreatDoor
