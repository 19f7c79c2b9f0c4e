/- packed, part 35 of 46. Conditions: none. -/
import Derived.Test.YtpfiliamceimmaaGreatDoorPk34
set_option linter.unusedVariables false
set_option linter.unusedSimpArgs false
namespace Go.Proofs.YtpfiliamceimmaaGreatDoor
open Go Go.RowKit Go.ChangeShapes Go.WideShapes
abbrev byC (n:Fin 256):List AV:=[.v (.int .u8 (n.val:Int))]
theorem dataBy (l:List (Fin 256)):Data (.sl 1 (l.map byC)):=.sl fun x hx=>by
 obtain ⟨y,_,rfl⟩:=zq.1 hx;exact .cons (.v _) .nil
section
variable {H:Type} {enc:TypeId×Value->H} {P:Program} {w:World} {base:Nat} {spare:Nat->Bool} {held:Bool} {E:Env}
theorem rd_byte {fuel t:Nat} (ht:P.underlying t=some (.int .u8)):Rd enc P w base spare held E fuel t byC:=fun cs x h=>by
 obtain ⟨n,rfl,_,hw⟩:=DataW.trod_int ht h;simp only[Lit.wf,zw,zc] at hw;have e1:IntKind.u8.min=0:=rfl;have e2:IntKind.u8.max=255:=rfl;rw[e1,e2] at hw;refine ⟨⟨n.toNat,by omega⟩,rfl,fun i c u hc hu=>?_⟩
 cases i with
 | zero =>
  (simp at hc hu;subst hc;subst hu);(have e:((n.toNat:Nat):Int)=n:=by omega);have e3:max n 0=n:=by omega
  simp only[e,e3];exact .v _
 | succ i=>simp at hc
end
end Go.Proofs.YtpfiliamceimmaaGreatDoor
