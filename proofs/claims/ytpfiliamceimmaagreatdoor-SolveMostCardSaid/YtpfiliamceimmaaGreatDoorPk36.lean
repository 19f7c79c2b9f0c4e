/- packed, part 36 of 47. Conditions: none. -/
import Derived.Test.YtpfiliamceimmaaGreatDoorPk35
set_option linter.unusedVariables false
set_option linter.unusedSimpArgs false
namespace Go.Proofs.YtpfiliamceimmaaGreatDoor
open Go Go.RowKit Go.ChangeShapes Go.WideShapes
def Sch.cells (s:Sch):List AV:=.sl 1 (s.vs.map intC)::s.t.cells
section
variable {H:Type} {enc:TypeId×Value->H} {P:Program} {w:World} {base:Nat} {spare:Nat->Bool} {held:Bool} {E:Env}
theorem rd_bd {te tt ti:Nat} {f0 f1:Field} (ht:P.underlying te=some (.struct #[f0,f1])) (hc:P.cellsOf te=4) (hct:P.cellsOf tt=3) (t0:f0.type=ti) (t1:f1.type=tt) (o0:f0.offset=0) (o1:f1.offset=1)
  (hi:P.underlying ti=some (.int .i64)) (hci:P.cellsOf ti=1) (hT:∀fuel,Rd enc P w base spare held E fuel tt Ty.cells) (fuel:Nat):Rd enc P w base spare held E fuel te Bd.cells:=by
 intro cs x h;obtain ⟨xs,n,hn,_,hl,hxl,hf⟩:=DataW.trod_struct ht h;rw[hc] at hl
 match cs,hl with
 | [c0,c1,c2,c3],_ =>
  have h0:=hf 0 f0 rfl;have h1:=hf 1 f1 rfl;rw[t0,o0,hci] at h0;rw[t1,o1,hct] at h1;simp only[zk,zf,List.take_succ_cons,List.take_zero] at h0 h1;(have hx:∀i,i<2->∃y,xs[i]?=some y:=fun i hi=>⟨_,za (by rw[hxl];exact hi)⟩);obtain ⟨q,e0⟩:=hx 0 tz1;obtain ⟨u,e1⟩:=hx 1 tz1;rw[e0] at h0;rw[e1] at h1;obtain ⟨k,_,r0⟩:=ziZ (E:=E) hi _ _ h0;obtain ⟨t,_,r1⟩:=hT _ _ _ h1;refine ⟨⟨k,t⟩,by rw[Bd.cells_len];rfl,?_⟩;exact zez (l1:=[c0]) (m1:=[_]) rfl rfl r0 r1
end
end Go.Proofs.YtpfiliamceimmaaGreatDoor
