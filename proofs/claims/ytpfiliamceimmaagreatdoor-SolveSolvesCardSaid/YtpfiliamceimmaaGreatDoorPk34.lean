/- packed, part 34 of 48. Conditions: none. -/
import Derived.Test.YtpfiliamceimmaaGreatDoorPk33
set_option linter.unusedVariables false
set_option linter.unusedSimpArgs false
namespace Go.Proofs.YtpfiliamceimmaaGreatDoor
open Go Go.RowKit Go.ChangeShapes Go.WideShapes
section
variable {H:Type} {enc:TypeId×Value->H} {P:Program} {w:World} {base:Nat} {spare:Nat->Bool} {held:Bool} {E:Env}
theorem rd_two {tt ti:Nat} {f0 f1:Field} (ht:P.underlying tt=some (.struct #[f0,f1])) (hc:P.cellsOf tt=2) (t0:f0.type=ti) (t1:f1.type=ti) (o0:f0.offset=0) (o1:f1.offset=1)
  (hi:P.underlying ti=some (.int .i64)) (hci:P.cellsOf ti=1) (fuel:Nat):Rd enc P w base spare held E fuel tt (fun p:Int×Int=>[.v (.int .i64 p.1),.v (.int .i64 p.2)]):=by
 intro cs x h;obtain ⟨xs,n,hn,_,hl,hxl,hf⟩:=DataW.trod_struct ht h;rw[hc] at hl
 match cs,hl with
 | [c0,c1],_ =>
  have h0:=hf 0 f0 rfl;have h1:=hf 1 f1 rfl;rw[t0,o0,hci] at h0;rw[t1,o1,hci] at h1;simp only[zk,zf,List.take_succ_cons,List.take_zero] at h0 h1;(have hx:∀i,i<2->∃y,xs[i]?=some y:=fun i hi=>⟨_,za (by rw[hxl];exact hi)⟩);obtain ⟨q,e0⟩:=hx 0 tz1;obtain ⟨u,e1⟩:=hx 1 tz1;rw[e0] at h0;rw[e1] at h1;obtain ⟨k,_,r0⟩:=zlf (E:=E) hi _ _ h0;obtain ⟨m,_,r1⟩:=zlf (E:=E) hi _ _ h1;exact ⟨(k,m),rfl,zgn (l1:=[c0]) (m1:=[_]) rfl rfl r0 r1⟩
theorem rd_eq {te tt tp:Nat} {f0 f1 f2:Field} (ht:P.underlying te=some (.struct #[f0,f1,f2])) (hc:P.cellsOf te=8) (hct:P.cellsOf tt=3) (hcp:P.cellsOf tp=2) (t0:f0.type=tt) (t1:f1.type=tt) (t2:f2.type=tp) (o0:f0.offset=0) (o1:f1.offset=3) (o2:f2.offset=6)
  (hT:∀fuel,Rd enc P w base spare held E fuel tt Ty.cells) (hS:∀fuel,Rd enc P w base spare held E fuel tp (fun p:Int×Int=>[.v (.int .i64 p.1),.v (.int .i64 p.2)])) (fuel:Nat):Rd enc P w base spare held E fuel te EqT.cells:=by
 intro cs x h;obtain ⟨xs,n,hn,_,hl,hxl,hf⟩:=DataW.trod_struct ht h;rw[hc] at hl
 match cs,hl with
 | [c0,c1,c2,c3,c4,c5,c6,c7],_ =>
  have h0:=hf 0 f0 rfl;have h1:=hf 1 f1 rfl;have h2:=hf 2 f2 rfl;rw[t0,o0,hct] at h0;rw[t1,o1,hct] at h1;rw[t2,o2,hcp] at h2;simp only[zk,zf,List.take_succ_cons,List.take_zero] at h0 h1 h2;(have hx:∀i,i<3->∃y,xs[i]?=some y:=fun i hi=>⟨_,za (by rw[hxl];exact hi)⟩);obtain ⟨q,e0⟩:=hx 0 tz1;obtain ⟨u,e1⟩:=hx 1 tz1;obtain ⟨z,e2⟩:=hx 2 tz1;rw[e0] at h0;rw[e1] at h1;rw[e2] at h2;obtain ⟨l,_,r0⟩:=hT _ _ _ h0;obtain ⟨r,_,r1⟩:=hT _ _ _ h1;obtain ⟨p,_,r2⟩:=hS _ _ _ h2;refine ⟨⟨l,r,p.1,p.2⟩,rfl,?_⟩;rw[Ty.cells_eq] at r0 r1;exact zgn (l1:=[c0,c1,c2]) (m1:=[_,_,_]) rfl rfl r0 (zgn (l1:=[c3,c4,c5]) (m1:=[_,_,_]) rfl rfl r1 r2)
end
end Go.Proofs.YtpfiliamceimmaaGreatDoor
