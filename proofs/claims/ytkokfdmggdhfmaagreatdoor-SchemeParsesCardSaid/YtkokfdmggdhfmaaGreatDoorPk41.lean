/- packed, part 41 of 49. Conditions: none. -/
import Derived.Test.YtkokfdmggdhfmaaGreatDoorPk40
set_option linter.unusedVariables false
set_option linter.unusedSimpArgs false
set_option linter.unnecessarySimpa false
namespace Go.Proofs.YtkokfdmggdhfmaaGreatDoor
open Go Go.RowKit Go.ChangeShapes Go.WideShapes
def Sch.cells (s:Sch):List AV:=.sl 1 (s.vs.map intC)::s.t.cells
theorem Sch.cells_eq (s:Sch):s.cells=[.sl 1 (s.vs.map intC),.v (.int .i64 s.t.k),.v (.int .i64 s.t.n),.sl 3 (s.t.ps.map Ty.cells)]:=by rw[Sch.cells,Ty.cells_eq]
theorem Sch.data (s:Sch):DataL s.cells:=.cons (zab _) s.t.data
section
variable {H:Type} {enc:TypeId×Value->H} {P:Program} {w:World} {base:Nat} {spare:Nat->Bool} {held:Bool} {E:Env}
end
end Go.Proofs.YtkokfdmggdhfmaaGreatDoor
