/- packed, part 32 of 47. Conditions: none. -/
import Derived.Test.YtkokfdmggdhfmaaGreatDoorPk31
set_option linter.unusedVariables false
set_option linter.unusedSimpArgs false
namespace Go.Proofs.YtkokfdmggdhfmaaGreatDoor
open Go Go.RowKit Go.ChangeShapes Go.WideShapes
set_option linter.unnecessarySimpa false
def Sch.cells (s:Sch):List AV:=.sl 1 (s.vs.map intC)::s.t.cells
theorem Sch.cells_eq (s:Sch):s.cells=[.sl 1 (s.vs.map intC),.v (.int .i64 s.t.k),.v (.int .i64 s.t.n),.sl 3 (s.t.ps.map Ty.cells)]:=by rw[Sch.cells,Ty.cells_eq]
theorem Sch.data (s:Sch):DataL s.cells:=.cons (zag _) s.t.data
section
variable {H:Type} {enc:TypeId×Value->H} {P:Program} {w:World} {base:Nat} {spare:Nat->Bool} {held:Bool} {E:Env}
theorem rd_ints {ts ti:Nat} (hs:P.underlying ts=some (.slice ti)) (hi:P.underlying ti=some (.int .i64)) (hci:P.cellsOf ti=1) (fuel:Nat):Rd enc P w base spare held E fuel ts (fun xs:List Int=>[.sl 1 (xs.map intC)]) :=
 zhm (f:=intC) hs hci tz1 (fun _=>rfl) fun n _=>rd_int hi
theorem rd_sch {te tt ti ts:Nat} {f0 f1:Field} (ht:P.underlying te=some (.struct #[f0,f1])) (hc:P.cellsOf te=4) (hct:P.cellsOf tt=3) (t0:f0.type=ts) (t1:f1.type=tt) (o0:f0.offset=0) (o1:f1.offset=1) (hcs:P.cellsOf ts=1)
  (hs:P.underlying ts=some (.slice ti)) (hi:P.underlying ti=some (.int .i64)) (hci:P.cellsOf ti=1) (hT:∀fuel,Rd enc P w base spare held E fuel tt Ty.cells) (fuel:Nat):Rd enc P w base spare held E fuel te Sch.cells:=by
 intro cs x h;obtain ⟨xs,n,hn,_,hl,hxl,hf⟩:=DataW.trod_struct ht h;rw[hc] at hl
 match cs,hl with
 | [c0,c1,c2,c3],_ =>
  have h0:=hf 0 f0 rfl;have h1:=hf 1 f1 rfl;rw[t0,o0,hcs] at h0;rw[t1,o1,hct] at h1;simp only[List.drop_zero,List.drop_succ_cons,List.take_succ_cons,List.take_zero] at h0 h1;(have hx:∀i,i<2->∃y,xs[i]?=some y:=fun i hi=>⟨_,zb (by rw[hxl];exact hi)⟩);obtain ⟨q,e0⟩:=hx 0 tz1;obtain ⟨u,e1⟩:=hx 1 tz1;rw[e0] at h0;rw[e1] at h1;obtain ⟨vs,_,r0⟩:=rd_ints (E:=E) hs hi hci _ _ _ h0;obtain ⟨t,_,r1⟩:=hT _ _ _ h1;refine ⟨⟨vs,t⟩,by rw[Sch.cells_eq];rfl,?_⟩;exact zi2 (l1:=[c0]) (m1:=[_]) rfl rfl r0 r1
end
end Go.Proofs.YtkokfdmggdhfmaaGreatDoor
