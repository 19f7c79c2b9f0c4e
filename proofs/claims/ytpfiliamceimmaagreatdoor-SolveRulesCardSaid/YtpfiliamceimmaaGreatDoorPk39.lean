/- packed, part 39 of 45. Conditions: none. -/
import Derived.Test.YtpfiliamceimmaaGreatDoorPk38
set_option linter.unusedVariables false
set_option linter.unusedSimpArgs false
set_option maxRecDepth 100000
set_option maxHeartbeats 4000000
namespace Go.Proofs.YtpfiliamceimmaaGreatDoor
open Go Go.RowKit
attribute [local irreducible] aops zaz
theorem OkE.take {l:List (Ty×Ty)} (h:OkE l) (k:Nat):OkE (l.take k):=fun e he=>h e (List.mem_of_mem_take he)
def eqtPtr (s:CS×Int×Int):AV:=if s.2.1=0 then .ptr 3 0 else .v (.pointer none)
def eqtA (s:CS×Int×Int):AV:=.tup [eqtPtr s,.v (.int .i64 s.2.1),.v (.int .i64 s.2.2)]
theorem Und.eqs {n:Nat} (l:List EqT):Und n (.sl 8 (l.map EqT.cells))=True:=eq_true (.data (EqT.dataSl l))
theorem zgm (es:List EqT) (hl:es.length<=1048576) (hbad:∃e∈es,e.ok=false):APure Tryz.prog 45 [.sl 8 (es.map EqT.cells)] (.tup [.v (.pointer none),.v (.int .i64 1),.v (.int .i64 0)]):=by
  refine APure.mkL (.cons (EqT.dataSl es) .nil) ((.tup (.cons (.v _) (.cons (.v _) (.cons (.v _) .nil))))) ?_;refine aIn Tryz.func45 fun hm=>?_;simp only[Tryz.ntmps45,Tryz.results45,go_sem,seval];refine sqR fun _ u=>?_;(iterate 2 (refine chS 1 ?_));simp only[↓bO,go_sem,seval];apply u;refine zZ fun _ u=>?_;refine sqR fun _ w=>?_;(iterate 2 (refine chS 1 ?_));simp only[↓bO,go_sem,seval];apply w;apply zaa;refine zah (σ:=Nat) (mB 63 57345) (fun s=>s<=es.length/\∀(i:Nat) (e:EqT),i<s->es[i]?=some e->e.ok=true) (fun s=>[(15,.v (.int .i64 (s:Int)))]) (fun s=>[]) (fun s=>es.length-s) 0 (⟨by omega,fun i p hi=>by omega⟩) ?_ (fun s hs=>?_)
  ·
   simp only[go_sem,seval];exact zaH
  simp only[go_sem,seval];refine sqD ?_;refine zZ fun _ w=>?_;apply z7 rfl <;> intro hb16
  ·
   (have hk:s<es.length:=by simpa using hb16);obtain ⟨e,he⟩:∃e,es[s]?=some e:=⟨_,za hk⟩;have hw:IntKind.i64.wrap ((s:Int)+1)=(s:Int)+1:=zak tz1 tz1;apply zab;apply w;refine zZ fun _ w=>?_;apply zaa;refine sqR fun _ z=>?_;(iterate 3 (refine chS 1 ?_ (by intro _ q;simp only[↓bO,go_sem,seval,hk,gM he,EqT.cells];exact q)));simp only[↓bO,go_sem,seval];apply z;refine sqR fun _ z=>?_;(iterate 2 (refine chS 1 ?_ (by intro _ q;simp only[↓bO,go_sem,seval,Ty.refold];exact q)));refine zY 1 fun _ y=>?_;simp only[↓bO,go_sem,seval];refine APure.call (zbk e.l) ?_;(iterate 2 (apply y;clear y;refine zY 1 fun _ y=>?_;simp only[↓bO,go_sem,seval]));apply y;clear y;refine zag 23 rfl (fun hc23=>?_) (fun hc23=>?_)
   ·
    (iterate 4 (refine chS 1 ?_));simp only[↓bO,go_sem,seval];apply z;refine z7 (b:=true) (by first | exact rfl | exact congrArg (fun b=>AV.v (.bool b)) hb28) (fun _=>?_) (fun h=>(by cases h));refine sqR fun _ z=>?_;(iterate 2 (refine chS 1 ?_));simp only[↓bO,go_sem,seval];apply z;apply z8;exact Le.refl _
   (iterate 2 (refine chS 1 ?_ (by intro _ q;simp only[↓bO,go_sem,seval,Ty.refold];exact q)));refine zY 1 fun _ y=>?_;simp only[↓bO,go_sem,seval];refine APure.call (zbk e.r) ?_;apply y;clear y;refine chS 1 ?_;simp only[↓bO,go_sem,seval];apply z;apply z7 rfl <;> intro hb28
   ·
    refine sqR fun _ z=>?_;(iterate 2 (refine chS 1 ?_));simp only[↓bO,go_sem,seval];apply z;apply z8;exact Le.refl _
   (have hok:e.ok=true:=by (have h9:=hb28;simp[EqT.ok] at h9 ⊢;first | exact h9 | exact ⟨h9.1,h9.2⟩ | (simp_all)));apply zab;apply w;apply z6;refine chS 1 ?_ (by intro _ q;simp only[↓bO,go_sem,seval,hw];exact q);simp only[↓bO,go_sem,seval];refine ⟨(s+1),⟨by omega,fun i p' hi h1=>(by rcases zD i s with h3 | h3 <;> first | exact hs.2 i p' h3 h1 | (obtain rfl:i=s:=tz1;rw[he] at h1;cases h1;exact hok))⟩,by omega,?_⟩;simp only[zar,zas,zaf,zam,mB,seval,zl,zi];(first | (refine Weak.drops 1 0 rfl rfl tz5 tz5 ?_ ?_ ?_) | (refine Weak.drops 0 0 rfl rfl tz5 tz5 ?_ ?_ ?_));(· simp only[go_sem,Le.refl,Le.any,zp,zi]);(· simp only[UndL,UndOs,Ob.Und,and_true,true_and,and_self,Und.v,Und.any,Und.ptr,Und.map,Nat.reduceLT,zV,Und.tys,Und.tyAgg,Und.oslTys,Und.oslTys1,Und.clo0,Und.ty,Und.eqs]);simp only[UndL,UndOs,Ob.Und,and_true,true_and,and_self,Und.v,Und.any,Und.ptr,Und.map,Nat.reduceLT,zV,Und.tys,Und.tyAgg,Und.oslTys,Und.oslTys1,Und.clo0,Und.ty,Und.eqs]
  (have hk:s=es.length:=by have:=hs.1;simp at hb16;omega);exact absurd hbad (fun ⟨e,he,h⟩=>(by obtain ⟨i,hi,e1⟩:=zS.1 he;rw[hs.2 i e tz1 (by rw[za hi,e1])] at h;cases h))
theorem clz9 {p:Prop} (h:p:=by repeat' first | exact trivial | exact .any _ | exact .ptr tz1 | exact .own tz1 | exact .v _ _ | exact Und.data (EqT.dataSl _) | exact Und.data (zao _) | (refine ⟨?_,?_⟩)):p:=h
theorem clz10 {p:Prop} (h:p:=by repeat' first | exact trivial | (with_reducible omega) | exact .any _ | exact .ptr tz1 | exact .own tz1 | exact .v _ _ | exact .map tz1 | exact Und.oslG tz1 | exact Und.rowI (zaV _) | exact Und.rowI (zaD _) | exact (fun p hp=>.data (zaN _ p hp)) | (refine ⟨?_,?_⟩)):p:=h
theorem equate_c (es:List EqT) (ho:OkE (es.map EqT.p)) (hsum:zbm (es.map EqT.p)<=1048576):ACalls Tryz.prog 45 [.sl 8 (es.map EqT.cells)] [] 0 fun r os n=>(∃s,EqtR (es.map EqT.p) s/\r=eqtA s/\os=zfM 0 s.1)/\n=8:=by
  refine ACalls.cleanN (n:=8) (C:=fun r os=>∃s,EqtR (es.map EqT.p) s/\r=eqtA s/\os=zfM 0 s.1) tz1 ?_;refine aIn Tryz.func45 fun hm=>?_;simp only[Tryz.ntmps45,Tryz.results45,go_sem,seval];have hsl:=zdh (es.map EqT.p);rw[zC] at hsl;refine sqR fun _ w=>?_;(iterate 2 (refine chS 1 ?_));simp only[↓bO,go_sem,seval];apply w;refine zZ fun _ w=>?_;refine sqR fun _ z=>?_;(iterate 2 (refine chS 1 ?_));simp only[↓bO,go_sem,seval];apply z;apply zaa;refine zah (σ:=Nat) (mB 63 57345) (fun s=>s<=es.length) (fun s=>[(15,.v (.int .i64 (s:Int)))]) (fun s=>[]) (fun s=>es.length-s) 0 (Nat.zero_le _) ?_ (fun s hs=>?_)
  ·
   simp only[go_sem,seval];exact zaH
  simp only[go_sem,seval];refine sqD ?_;refine zZ fun _ z=>?_;apply z7 rfl <;> intro hb16
  ·
   (have hk:s<es.length:=by simpa using hb16);obtain ⟨e,he⟩:∃e,es[s]?=some e:=⟨_,za hk⟩;have hw:IntKind.i64.wrap ((s:Int)+1)=(s:Int)+1:=zak tz1 tz1;have heo:=ho e.p (zq.2 ⟨e,zc he,rfl⟩);have hrl:e.l.right=true:=heo.1;have hrr:e.r.right=true:=heo.2.1;apply zab;apply z;refine zZ fun _ z=>?_;apply zaa;refine sqR fun _ x=>?_;(iterate 3 (refine chS 1 ?_ (by intro _ q;simp only[↓bO,go_sem,seval,hk,gM he,EqT.cells];exact q)));simp only[↓bO,go_sem,seval];apply x;refine sqR fun _ x=>?_;(iterate 2 (refine chS 1 ?_ (by intro _ q;simp only[↓bO,go_sem,seval,Ty.refold];exact q)));refine zY 1 fun _ y=>?_;simp only[↓bO,go_sem,seval];refine APure.call (zbk e.l) ?_;(iterate 2 (apply y;clear y;refine zY 1 fun _ y=>?_;simp only[↓bO,go_sem,seval]));apply y;clear y;refine zag 23 rfl (fun hc23=>?_) (fun hc23=>?_)
   ·
    simp only[go_sem];exact absurd hc23 (by simp[hrl])
   (iterate 2 (refine chS 1 ?_ (by intro _ q;simp only[↓bO,go_sem,seval,Ty.refold];exact q)));refine zY 1 fun _ y=>?_;simp only[↓bO,go_sem,seval];refine APure.call (zbk e.r) ?_;apply y;clear y;refine chS 1 ?_;simp only[↓bO,go_sem,seval];apply x;apply z7 rfl <;> intro hb28
   ·
    exact absurd hb28 (by simp[hrr])
   apply zab;apply z;apply z6;refine chS 1 ?_ (by intro _ q;simp only[↓bO,go_sem,seval,hw];exact q);simp only[↓bO,go_sem,seval];refine ⟨(s+1),tz1,by omega,?_⟩;simp only[zar,zas,zaf,zam,mB,seval,zl,zi];(first | (refine Weak.drops 1 0 rfl rfl tz5 tz5 ?_ ?_ ?_) | (refine Weak.drops 0 0 rfl rfl tz5 tz5 ?_ ?_ ?_));(· simp only[go_sem,Le.refl,Le.any,zp,zi]);(· simp only[UndL,UndOs,Ob.Und,and_true,true_and,and_self,Und.v,Und.any,Und.ptr,Und.map,Nat.reduceLT,zV,Und.tys,Und.tyAgg,Und.oslTys,Und.oslTys1,Und.clo0,Und.ty,Und.eqs]);simp only[UndL,UndOs,Ob.Und,and_true,true_and,and_self,Und.v,Und.any,Und.ptr,Und.map,Nat.reduceLT,zV,Und.tys,Und.tyAgg,Und.oslTys,Und.oslTys1,Und.clo0,Und.ty,Und.eqs]
  apply zaj;simp only[zan,zai,zae,bA,Nat.reduceEqDiff,↓reduceIte];apply w;refine sqR fun _ w=>?_;refine zY 1 fun _ y=>?_;simp only[↓bO,go_sem,seval];refine coCalls NewC_c .nil (fun S0 hS0=>?_);subst hS0;simp only[zfM,zt,zA,Nat.reduceAdd];apply y;clear y;simp only[↓bO,go_sem,seval];apply w;refine zZ fun _ w=>?_;refine sqR fun _ z=>?_;(iterate 2 (refine chS 1 ?_));simp only[↓bO,go_sem,seval];apply z;apply zaa;refine zah (σ:=CS×Nat) (mB 63 15032385664) (fun u=>EqI ((es.map EqT.p).take u.2) u.1/\u.2<=es.length) (fun u=>[(33,.v (.int .i64 (u.2:Int)))]) (fun u=>[(7,.tok 194 4 u.1.G.N.length),(6,.row 3 1 (u.1.W.map intC)),(5,.row 3 1 (u.1.F.rank.map intC)),(4,.row 3 1 (u.1.F.up.map nC)),(3,.cells 127 [.v (.int .i64 u.1.steps),.ptr 2 0,.ptr 0 0,.own 6 u.1.W.length,.v (.bool u.1.clash)]),(2,.cells 169 [.osl 7 4 (u.1.G.N.map GNode.cells),.map 1]),(1,.map (u.1.G.V.map vC)),(0,.cells 184 [.own 4 u.1.F.up.length,.own 5 u.1.F.rank.length,.v (.int .i64 u.1.F.sets),.v (.int .i64 u.1.F.steps)])]) (fun u=>es.length-u.2) (CS0,0) (⟨EqI.start,by simp only;omega⟩) ?_ (fun u hu=>?_)
  ·
   simp only[go_sem,seval,CS0,bL];exact zaH
  simp only[go_sem,seval];refine sqD ?_;refine zZ fun _ z=>?_;apply z7 rfl <;> intro hb34
  ·
   (have hk:u.2<es.length:=by simpa using hb34);obtain ⟨e,he⟩:∃e,es[u.2]?=some e:=⟨_,za hk⟩;(have hep:(es.map EqT.p)[u.2]?=some e.p:=by rw[zO,he];rfl);(have het:(es.map EqT.p).take (u.2+1)=(es.map EqT.p).take u.2++[e.p]:=by rw[zW,hep];rfl);have hst:=zcV (es.map EqT.p) (u.2+1);have hst0:=zcV (es.map EqT.p) u.2;rw[het,zcl] at hst;simp only[EqT.p] at hst;have hw:IntKind.i64.wrap ((u.2:Int)+1)=(u.2:Int)+1:=zak tz1 tz1;have hl1:=hu.1.st.len;have heo:=ho e.p (zc hep);have heo3:e.l.cnt<=400:=heo.2.2.1;have heo4:e.r.cnt<=400:=heo.2.2.2;(have htl:((es.map EqT.p).take u.2).length<=es.length:=by (rw[List.length_take,zC];omega));apply zab;apply z;refine zZ fun _ z=>?_;apply zaa;refine sqR fun _ x=>?_;(iterate 3 (refine chS 1 ?_ (by intro _ q;simp only[↓bO,go_sem,seval,hk,gM he,EqT.cells];exact q)));simp only[↓bO,go_sem,seval];apply x;refine sqR fun _ x=>?_;(iterate 5 (refine chS 1 ?_ (by intro _ q;simp only[↓bO,go_sem,seval,Ty.refold];exact q)));refine zY 1 fun _ y=>?_;simp only[↓bO,go_sem,seval];refine CCalls.at (Equate2_c u.1 (zb3 (eqF ((es.map EqT.p).take u.2)).2) (eqF ((es.map EqT.p).take u.2)).1 e.l e.r (fun hc=>(hu.1.st.good hc).1.2) tz1 tz1 tz1) (.cons (Ty.dataAgg _) (.cons (Ty.dataAgg _) .nil)) (fun _=>.v _) (i0:=3) (i1:=2) (i2:=7) (i3:=1) (i4:=0) (i5:=4) (i6:=5) (i7:=6) tz3 tz4 za8 (fun S1 r1 hX1=>?_);(try dsimp only at hX1);simp only[zaq,zk,zn,zm,zaf,zam,Nat.reduceEqDiff,↓reduceIte];obtain ⟨hE1,hR1⟩:=hX1;obtain ⟨hc1,hr1,hp0,hp1,hI1⟩:=hu.1.step (e:=e.p) heo tz1 tz1 hE1 hR1;have hr2:r1=(if S1.clash=true then 7 else 0):=hr1;subst hr2;dsimp only at hp0 hp1 hc1 hI1;apply y;clear y;simp only[↓bO,go_sem,seval];apply x;refine sqR fun _ x=>?_;refine chS 1 ?_;simp only[↓bO,go_sem,seval];apply x;apply z7 rfl <;> intro hb44
   ·
    (have hcS:S1.clash=true:=by (cases h9:S1.clash with | true=>rfl | false=>(rw[h9] at hb44;simp at hb44)));(have h7:(if S1.clash=true then (7:Int) else 0)=7:=by rw[hcS];rfl);have hsp:=zcV (es.map EqT.p) (u.2+1);have hlp:=zdh ((es.map EqT.p).take (u.2+1));(have hfin:EqtR (es.map EqT.p) (S1,7,S1.steps):=by (have h9:=EqtR.clash (k:=(es.map EqT.p).drop (u.2+1)) (n:=S1.steps) hc1 hcS (by rw[<- het,List.take_append_drop];exact ho) (by rw[<- het,List.take_append_drop];exact hsp) ⟨hp0,by (rw[zh,List.length_singleton];omega)⟩ (by rw[<- het];omega) S1;rw[<- het,List.take_append_drop] at h9;exact h9));refine sqR fun _ x=>?_;(iterate 2 (refine chS 1 ?_));refine zY 1 fun _ y=>?_;simp only[↓bO,go_sem,seval];refine CCalls.at (zj3 S1) (.nil) (fun _=>.v _) (i0:=3) (i1:=2) (i2:=7) (i3:=1) (i4:=0) (i5:=4) (i6:=5) (i7:=6) tz3 tz4 za8 (fun Z9 u9 hZ9=>?_);(try dsimp only at hZ9);simp only[zaq,zk,zn,zm,zaf,zam,Nat.reduceEqDiff,↓reduceIte];obtain rfl:S1=Z9:=hZ9.symm;(iterate 2 (apply y;clear y;refine zY 1 fun _ y=>?_;simp only[↓bO,go_sem,seval]));apply y;clear y;simp only[↓bO,go_sem,seval];apply x;apply z8;(try simp only[go_sem]);refine ⟨_,zfM 0 (S1),⟨(S1,7,S1.steps),hfin,rfl,rfl⟩,.tup ⟨.v _ _,.v _ _,.v _ _,trivial⟩,zeY _,?_,?_,by omega⟩;(· exact Le.of_eq (by rw[h7];rfl));first | exact ⟨1,rfl,rfl⟩
   (have hcS:S1.clash=false:=by (cases h9:S1.clash with | false=>rfl | true=>(rw[h9] at hb44;simp at hb44)));apply zab;apply z;apply z6;refine chS 1 ?_ (by intro _ q;simp only[↓bO,go_sem,seval,hw];exact q);simp only[↓bO,go_sem,seval];refine ⟨(S1,u.2+1),⟨by rw[het];exact hI1 hcS,by simp only;omega⟩,tz5,?_⟩;simp only[zar,zas,zaf,zam,mB,seval,zl,zi,zp];refine Weak.sub ?_ za8 tz2 tz2 ?_ ?_;(· simp only[go_sem,Le.refl,Le.any]);(· exact clz9);exact clz10
  (have hk:u.2=es.length:=by have h9:=hb34;simp at h9;have:=hu.2;omega);(have hCS:EqI (es.map EqT.p) u.1:=by (have h9:=hu.1;rw[hk,List.take_of_length_le tz4] at h9;exact h9));have hCl:=hCS.st.len;apply zaj;simp only[zan,zai,zae,bA,Nat.reduceEqDiff,↓reduceIte];apply w;refine sqR fun _ w=>?_;refine chS 1 ?_;refine zY 1 fun _ y=>?_;simp only[↓bO,go_sem,seval];refine CCalls.at (Count_c u.1 (hCS.st.cyG tz1)) (.nil) (fun _=>.tup (.cons (.v _) (.cons (.v _) .nil))) (i0:=3) (i1:=2) (i2:=7) (i3:=1) (i4:=0) (i5:=4) (i6:=5) (i7:=6) tz3 tz4 za8 (fun Z1 k1 hX1=>?_);(try dsimp only at hX1);simp only[zaq,zk,zn,zm,zaf,zam,Nat.reduceEqDiff,↓reduceIte];obtain ⟨F1,rfl⟩:∃F,Z1={u.1 with F:=F}:=⟨Z1.F,hX1.1⟩;dsimp only at hX1;obtain ⟨b1,n1⟩:=k1;obtain ⟨_,hX2,hX3⟩:=hX1;(iterate 4 (apply y;clear y;refine zY 1 fun _ y=>?_;simp only[↓bO,go_sem,seval]));apply y;clear y;simp only[↓bO,go_sem,seval];apply w;refine sqR fun _ w=>?_;(iterate 2 (refine chS 1 ?_));refine zY 1 fun _ y=>?_;simp only[↓bO,go_sem,seval];refine CCalls.at (zj3 {u.1 with F:=F1}) (.nil) (fun _=>.v _) (i0:=3) (i1:=2) (i2:=7) (i3:=1) (i4:=0) (i5:=4) (i6:=5) (i7:=6) tz3 tz4 za8 (fun Z9 u9 hZ9=>?_);(try dsimp only at hZ9);simp only[zaq,zk,zn,zm,zaf,zam,Nat.reduceEqDiff,↓reduceIte];obtain rfl:{u.1 with F:=F1}=Z9:=hZ9.symm;apply y;clear y;refine chS 1 ?_;simp only[↓bO,go_sem,seval];apply w;refine zZ fun _ w=>?_;refine sqR fun _ z=>?_;refine chS 1 ?_;simp only[↓bO,go_sem,seval];apply z;apply z7 rfl <;> intro hb59
  ·
   (have hb1:b1=false:=by simpa using hb59);subst hb1;have hfin:=EqtR.cycle hCS hsum (by have h9:=zdh (es.map EqT.p);omega) hX3 {u.1 with F:=F1};refine sqR fun _ z=>?_;(iterate 3 (refine chS 1 ?_));simp only[↓bO,go_sem,seval];apply z;apply z8;(try simp only[go_sem]);refine ⟨_,zfM 0 ({u.1 with F:=F1}),⟨({u.1 with F:=F1},8,IntKind.i64.wrap (n1+u.1.steps)),hfin,rfl,rfl⟩,.tup ⟨.v _ _,.v _ _,.v _ _,trivial⟩,zeY _,?_,?_,by omega⟩;(· exact Le.of_eq (rfl));first | exact ⟨0,rfl,rfl⟩ | exact ⟨1,rfl,rfl⟩
  (have hb1:b1=true:=by simpa using hb59);subst hb1;have hfin:=EqtR.good hCS hsum (by have h9:=zdh (es.map EqT.p);omega) (hX2 hCS.cl) hX3;apply zab;apply w;refine sqR fun _ w=>?_;(iterate 4 (refine chS 1 ?_));simp only[↓bO,go_sem,seval];apply w;apply z8;(try simp only[go_sem]);refine ⟨_,zfM 0 ({u.1 with F:=F1}),⟨({u.1 with F:=F1},0,IntKind.i64.wrap (n1+u.1.steps)),hfin,rfl,rfl⟩,.tup ⟨.ptr tz1,.v _ _,.v _ _,trivial⟩,zeY _,?_,?_,by omega⟩;(· exact Le.of_eq (rfl));first | exact ⟨0,rfl,rfl⟩ | exact ⟨1,rfl,rfl⟩
end Go.Proofs.YtpfiliamceimmaaGreatDoor
namespace Go.Proofs.YtpfiliamceimmaaGreatDoor
open Go Go.RowKit
def zeO (l:List Bd):List (Int×Ty):=l.map fun b=>(b.v,b.t)
def zhX (l:List Bd):List (Int×Int):=l.map fun b=>(b.v,1)
theorem zfq {α:Type} {k:Int} {x:α}:∀{m:List (Int×α)},zaG m k=none->zeJ m k x=m++[(k,x)]
 | [],_=>rfl
 | (i,y)::m,h=>by
  rw[zaG] at h;(split at h);(·cases h);(rename_i hne);rw[zeJ,if_neg hne,zfq h];rfl
theorem zfj {α:Type} {k:Int}:∀{m:List (Int×α)},k∉m.map Prod.fst->zaG m k=none
 | [],_=>rfl
 | (i,y)::m,h=>by
  simp only[zu,zH,not_or] at h;rw[zaG,if_neg (fun e=>h.1 e.symm)];exact zfj h.2
theorem ze3 {α:Type} {k:Int} {x:α}:∀{m:List (Int×α)},zaG m k=some x->(k,x)∈m
 | (i,y)::m,h=>by
  rw[zaG] at h;(split at h);(·rename_i e;cases h;rw[e];simp);exact List.mem_cons_of_mem _ (ze3 h)
theorem zjR (l:List Bd):(zeO l).map Prod.fst=l.map Bd.v:=by simp[zeO,Function.comp_def]
theorem onesM_fst (l:List Bd):(zhX l).map Prod.fst=l.map Bd.v:=by simp[zhX,Function.comp_def]
theorem zgi {l:List Bd} (hn:(l.map Bd.v).Nodup) {s:Nat} {b:Bd} (hb:l[s]?=some b):b.v∉(l.take s).map Bd.v:=by
 have hlt:=(zb.1 hb).1;have e:l.take (s+1)=l.take s++[b]:=by rw[zW,hb];rfl
 have h2:((l.take (s+1)).map Bd.v).Nodup:=by
  rw[List.map_take];exact hn.sublist (List.take_sublist _ _)
 rw[e,zy,List.nodup_append] at h2;exact fun h=>h2.2.2 _ h b.v tz4 rfl
theorem ziA {l:List Bd} (hn:(l.map Bd.v).Nodup) {s:Nat} {b:Bd} (hb:l[s]?=some b):zaG (zhX (l.take s)) b.v=none:=zfj (by rw[onesM_fst];exact zgi hn hb)
theorem zky {l:List Bd} (hn:(l.map Bd.v).Nodup) {s:Nat} {b:Bd} (hb:l[s]?=some b):zeJ (zhX (l.take s)) b.v 1=zhX (l.take (s+1)):=by
 rw[zfq (ziA hn hb),zW,hb];simp[zhX]
theorem tabM_step {l:List Bd} (hn:(l.map Bd.v).Nodup) {s:Nat} {b:Bd} (hb:l[s]?=some b):zeJ (zeO (l.take s)) b.v b.t=zeO (l.take (s+1)):=by
 rw[zfq (zfj (by rw[zjR];exact zgi hn hb)),zW,hb];simp[zeO]
mutual
/-- a type,variables standing for others -/
def Ty.subM (m:List (Int×Ty)):Ty->Ty
 | .mk k n ps=>match (if k=1 then zaG m n else none) with
  | some x=>x
  | none=>.mk k n (Ty.subML m ps)
def Ty.subML (m:List (Int×Ty)):List Ty->List Ty
 | []=>[]
 | p::ps=>Ty.subM m p::Ty.subML m ps
end
theorem Ty.subML_eq (m:List (Int×Ty)):∀ps,Ty.subML m ps=ps.map (Ty.subM m)
 | []=>by simp[Ty.subML]
 | p::ps=>by simp[Ty.subML,Ty.subML_eq m ps]
theorem Ty.subM_yes {m:List (Int×Ty)} {t x:Ty} (h:t.k=1) (hx:zaG m t.n=some x):t.subM m=x:=by
 obtain ⟨k,n,ps⟩:=t;simp only[Ty.k_mk,Ty.n_mk] at h hx;rw[Ty.subM,if_pos h,hx]
theorem Ty.subM_no {m:List (Int×Ty)} {t:Ty} (h:¬(t.k=1/\(zaG m t.n).isSome=true)):t.subM m=.mk t.k t.n (t.ps.map (Ty.subM m)):=by
 obtain ⟨k,n,ps⟩:=t;simp only[Ty.k_mk,Ty.n_mk,Ty.ps_mk] at h ⊢;rw[Ty.subM,<- Ty.subML_eq]
 by_cases hk:k=1
 ·cases hp:zaG m n with
  | none=>rw[if_pos hk]
  | some x=>exact absurd ⟨hk,by rw[hp];rfl⟩ h
 rw[if_neg hk]
theorem zk9 (b:Bd) (l:List Bd) (v:Int):zcf (b::l) v=if b.v=v then 0 else if zcf l v<0 then -1 else zcf l v+1:=by
 unfold zcf zbn
 by_cases hb:b.v=v
 (·simp[hb,List.findIdx_cons]);(have hb2:(b.v==v)=false:=by simpa using hb);simp only[List.any_cons,hb2,Bool.false_or,List.findIdx_cons,cond_false,if_neg hb];split;(·rw[if_neg tz1];omega);rfl
theorem ziv (v:Int):∀l:List Bd,zaG (zeO l) v=if 0<=zcf l v then (l[(zcf l v).toNat]?).map Bd.t else none
 | []=>rfl
 | b::l=>by
  rw[zk9];show (if b.v=v then some b.t else zaG (zeO l) v)=_
  by_cases hb:b.v=v
  (·rw[if_pos hb,if_pos hb];rfl);rw[if_neg hb,if_neg hb,ziv v l]
  by_cases hl:zcf l v<0
  (·rw[if_neg tz1,if_pos hl];rfl);rw[if_pos tz1,if_neg hl,if_pos tz1];(have e:(zcf l v+1).toNat=(zcf l v).toNat+1:=by omega);rw[e];rfl
theorem bfun_tab (l:List Bd) (v:Int):zkH l v=(zaG (zeO l) v).getD (vTy v):=by
 rw[ziv,zkH];split
 ·rename_i h
  have hlt:(zcf l v).toNat<l.length:=by
   have h2:l.any (fun b=>b.v==v)=true:=by
    unfold zcf zbn at h;(split at h);(·assumption);omega
   unfold zcf zbn at *;rw[if_pos h2];rw[zG];obtain ⟨x,hx,hxv⟩:=List.any_eq_true.1 h2;exact List.findIdx_lt_length_of_exists ⟨x,hx,hxv⟩
  rw[za hlt];rfl
 rfl
theorem Ty.subM_bfun (l:List Bd):∀t:Ty,t.right=true->t.subM (zeO l)=t.subF (zkH l):=by
 refine Ty.ind fun t ih hr=>?_
 by_cases hk:t.k=1
 ·rw[Ty.subF_var hk,bfun_tab]
  cases hp:zaG (zeO l) t.n with
  | some x=>rw[Ty.subM_yes hk hp];rfl
  | none =>
   have e:=Ty.right_var hr hk;rw[Ty.subM_no (by rw[hp];simp),e];rfl
 rw[Ty.subM_no (fun h=>hk h.1),Ty.subF_more hk];(congr 1);exact List.map_congr_left fun p hp=>ih p hp (Ty.right_part hr hp)
theorem zf4 {α:Type} {k:Int} {m:List (Int×α)}:(zaG m k).isSome=true↔k∈m.map Prod.fst:=by
 constructor
 ·intro h
  obtain ⟨x,hx⟩:=Option.isSome_iff_exists.1 h;exact zq.2 ⟨_,ze3 hx,rfl⟩
 intro h
 cases hp:zaG m k with
 | some x=>rfl
 | none =>
  exfalso
  induction m with
  | nil=>cases h
  | cons p m ih =>
   rw[zaG] at hp;(split at hp);(·cases hp);(rename_i hne);(rcases zH.1 h with h | h);(·exact hne h.symm);exact ih h hp
def zg2 (l:List Bd) (es:List (Ty×Ty)):Bool:=!es.any fun e=>!(e.1.subM (zeO l)).same (e.2.subM (zeO l))
theorem zjv {l:List Bd} {es:List (Ty×Ty)} (hr:zfm es):zg2 l es=true↔zaW (zkH l) es:=by
 unfold zg2 zaW;rw[Bool.not_eq_true',List.any_eq_false];(refine forall_congr' fun e=>forall_congr' fun he=>?_);rw[Bool.not_eq_true,Bool.not_eq_false',Ty.same_iff,Ty.subM_bfun l _ (hr e he).1,Ty.subM_bfun l _ (hr e he).2]
def zjn (l:List Bd):Bool:=!l.any fun b=>(b.t.rvars []).any fun v=>(zaG (zeO l) v).isSome
theorem zi0 {l:List Bd}:zjn l=true↔∀b∈l,∀v,b.t.occ v->v∉l.map Bd.v:=by
 unfold zjn;rw[Bool.not_eq_true',List.any_eq_false];(refine forall_congr' fun b=>forall_congr' fun _=>?_);rw[Bool.not_eq_true,List.any_eq_false];refine forall_congr' fun v=>?_;rw[show (v∈b.t.rvars [])=b.t.occ v from rfl,zf4,zjR]
theorem snocInd {α:Type} {C:List α->Prop} (h0:C []) (h1:∀l x,C l->C (l++[x])) (l:List α):C l:=by
 have h:∀k:List α,C k.reverse:=by
  intro k
  induction k with
  | nil=>exact h0
  | cons x k ih=>rw[List.reverse_cons];exact h1 _ _ ih
 have:=h l.reverse
 rwa [List.reverse_reverse] at this
theorem addV_nd {l:List Int} {n:Int} (h:l.Nodup):(zez l n).Nodup:=by
 unfold zez;split;(·exact h);(rename_i hn);rw[List.nodup_append];refine ⟨h,by simp,?_⟩;rintro a ha b hb rfl;(simp at hb;subst hb);exact hn (List.any_eq_true.2 ⟨a,ha,by simp⟩)
theorem Ty.rvars_nd:∀(t:Ty) (l:List Int),l.Nodup->(t.rvars l).Nodup:=by
 refine Ty.ind fun t ih l hl=>?_;rw[Ty.rvars_eq]
 have key:∀ps:List Ty,(∀p∈ps,∀l:List Int,l.Nodup->(p.rvars l).Nodup)->∀l:List Int,l.Nodup->(Ty.rvarsL ps l).Nodup:=by
  intro ps
  induction ps with
  | nil=>intro _ l hl;exact hl
  | cons p ps ih2 =>
   intro h l hl;rw[Ty.rvarsL];exact ih2 (fun q hq=>h q (by simp[hq])) _ (h p tz4 l hl)
 refine key t.ps ih _ ?_;split;(·exact addV_nd hl);exact hl
def zcP (es:List (Ty×Ty)):List Int:=es.foldl (fun v e=>e.2.rvars (e.1.rvars v)) []
theorem zft (es:List (Ty×Ty)) (e:Ty×Ty):zcP (es++[e])=e.2.rvars (e.1.rvars (zcP es)):=by simp[zcP,List.foldl_append]
theorem zgy (es:List (Ty×Ty)):(zcP es).Nodup/\∀v,v∈zcP es↔OccE es v:=by
 induction es using snocInd with
 | h0=>exact ⟨List.nodup_nil,fun v=>⟨fun h=>(by cases h),fun ⟨e,he,_⟩=>(by cases he)⟩⟩
 | h1 es e ih =>
  rw[zft];refine ⟨Ty.rvars_nd _ _ (Ty.rvars_nd _ _ ih.1),fun v=>?_⟩;rw[Ty.mem_rvars,Ty.mem_rvars,ih.2];unfold OccE;constructor
  ·rintro ((⟨x,hx,h⟩ | h) | h)
   (·exact ⟨x,List.mem_append_left _ hx,h⟩);(·exact ⟨e,by simp,.inl h⟩);exact ⟨e,by simp,.inr h⟩
  rintro ⟨x,hx,h⟩;(rcases zE.1 hx with hx | hx);(·exact .inl (.inl ⟨x,hx,h⟩));(simp at hx;subst hx);(rcases h with h | h);(·exact .inl (.inr h));exact .inr h
theorem zkY (es:List (Ty×Ty)):(zcP es).length<=(es.map fun e=>e.1.cnt+e.2.cnt).sum:=by
 induction es using snocInd with
 | h0=>simp[zcP]
 | h1 es e ih =>
  rw[zft];have h1:=e.2.rvars_len (e.1.rvars (zcP es));have h2:=e.1.rvars_len (zcP es);simp only[zy,zu,zQ,List.sum_append,List.sum_cons,List.sum_nil];omega
end Go.Proofs.YtpfiliamceimmaaGreatDoor
namespace Go.Proofs.YtpfiliamceimmaaGreatDoor
open Go Go.RowKit
attribute [local irreducible] aops zaz
theorem APure.le {P:Program} {f:Nat} {args args':List AV} {x:AV} (h:APure P f args' x) (hl:LeL args args') (hd:DataL args):APure P f args x:=⟨hd,h.2.1,h.2.2.args hl⟩
theorem zkX (a b:List Bd):APure Tryz.prog 14 [.sl 4 (a.map Bd.cells),.sl 4 (b.map Bd.cells)] (.v (.bool (ziK a b))):=by
  refine APure.mkL (.cons (Bd.dataSl a) (.cons (Bd.dataSl b) .nil)) (.v _) ?_;refine aIn Tryz.func14 fun hm=>?_;simp only[Tryz.ntmps14,Tryz.results14,go_sem,seval];have hm1:=hm.len (sz:=4) (xs:=a.map Bd.cells) tz4;rw[zC] at hm1;refine sqD ?_;refine zZ fun _ w=>?_;refine sqR fun _ z=>?_;refine chS 3 ?_;simp only[↓bO,go_sem,seval];apply z;apply z7 rfl <;> intro hb10
  ·
   refine sqD ?_;apply z8;(try simp only[go_sem]);refine Le.of_eq (congrArg (fun b=>AV.v (.bool b)) ?_);unfold ziK;first | (rw[zch (ps:=a) (qs:=b) (by simp at hb10;omega)];done) | (have h9:(p.v==q.v&&p.t.same q.t)=false:=(by first | (have h8:=hb41;simp at h8;simp[h8];done) | (have h8:=hc28;simp at h8;simp[h8];done));rw[zby (f:=fun x y:Bd=>x.v==y.v&&x.t.same y.t) hp hq h9];done) | (rw[zbB hl fun k p q hp hq=>hs.2 k p q (by have:=(zb.1 hp).1;omega) hp hq];done)
  (have hl:a.length=b.length:=by simp at hb10;omega);apply zab;apply w;refine zZ fun _ w=>?_;refine sqD ?_;apply zaa;refine zah (σ:=Nat) (mB 42 35) (fun s=>s<=a.length/\∀(k:Nat) (x y:Bd),k<s->a[k]?=some x->b[k]?=some y->(x.v==y.v&&x.t.same y.t)=true) (fun s=>[(5,.v (.int .i64 (s:Int)))]) (fun s=>[]) (fun s=>a.length-s) 0 (⟨by omega,fun k p q hk=>by omega⟩) ?_ (fun s hs=>?_)
  ·
   simp only[go_sem,seval];exact zaH
  simp only[go_sem,seval];refine zZ fun _ z=>?_;refine sqR fun _ j=>?_;refine chS 3 ?_;simp only[↓bO,go_sem,seval];apply j;apply z7 rfl <;> intro hb14
  ·
   (have hk:s<a.length:=by simpa using hb14);obtain ⟨p,hp⟩:∃p,a[s]?=some p:=⟨_,za hk⟩;(have hk2:s<b.length:=by omega);obtain ⟨q,hq⟩:∃q,b[s]?=some q:=⟨_,za hk2⟩;have hw:IntKind.i64.wrap ((s:Int)+1)=(s:Int)+1:=zak tz1 (by simp only[maxLen] at hm1;omega);apply zab;apply z;refine zZ fun _ z=>?_;apply zaa;refine zZ fun _ j=>?_;refine zay 25 mixed tz0 fun J0 j0=>?_;(iterate 4 (simp only[go_sem];refine zad 3 fun _ u=>?_;simp only[↓zaz,↓dOp,↓bO,go_sem,seval,Bd.take1,Bd.cells_len,hk,hk2,gM hp,gM hq];apply u;clear u));simp only[go_sem];refine zaX 28 rfl (fun hc28=>?_) (fun hc28=>?_)
   ·
    simp only[go_sem];(iterate 4 (refine zad 3 fun _ u=>?_;simp only[↓zaz,↓dOp,↓bO,go_sem,seval];apply u;clear u));simp only[↓zaz,↓dOp,↓bO,go_sem,seval];refine j0 _ ?_;clear j0 J0;simp only[bL,aops,zan,zai,zae];apply j;refine z7 (b:=true) (by first | exact rfl | exact congrArg (fun b=>AV.v (.bool b)) hb41) (fun _=>?_) (fun h=>(by cases h));refine sqD ?_;apply z8;(try simp only[go_sem]);refine Le.of_eq (congrArg (fun b=>AV.v (.bool b)) ?_);unfold ziK;first | (rw[zch (ps:=a) (qs:=b) (by simp at hb10;omega)];done) | (have h9:(p.v==q.v&&p.t.same q.t)=false:=(by first | (have h8:=hb41;simp at h8;simp[h8];done) | (have h8:=hc28;simp at h8;simp[h8];done));rw[zby (f:=fun x y:Bd=>x.v==y.v&&x.t.same y.t) hp hq h9];done) | (rw[zbB hl fun k p q hp hq=>hs.2 k p q (by have:=(zb.1 hp).1;omega) hp hq];done)
   simp only[go_sem];(iterate 3 (refine zad 3 fun _ u=>?_;simp only[↓zaz,↓dOp,↓bO,go_sem,seval,Bd.drop1,hk,hk2,gM hp,gM hq];apply u;clear u));refine zad 1 fun _ u=>?_;simp only[↓zaz,↓dOp,↓bO,go_sem,seval];apply u;clear u;refine zad 1 fun _ u=>?_;simp only[↓zaz,↓dOp,↓bO,go_sem,seval];refine ⟨_,Same_pure p.t q.t,?_⟩;apply u;clear u;simp only[↓zaz,↓dOp,↓bO,go_sem,seval];refine j0 _ ?_;clear j0 J0;simp only[bL,aops,zan,zai,zae];apply j;apply z7 rfl <;> intro hb41
   ·
    refine sqD ?_;apply z8;(try simp only[go_sem]);refine Le.of_eq (congrArg (fun b=>AV.v (.bool b)) ?_);unfold ziK;first | (rw[zch (ps:=a) (qs:=b) (by simp at hb10;omega)];done) | (have h9:(p.v==q.v&&p.t.same q.t)=false:=(by first | (have h8:=hb41;simp at h8;simp[h8];done) | (have h8:=hc28;simp at h8;simp[h8];done));rw[zby (f:=fun x y:Bd=>x.v==y.v&&x.t.same y.t) hp hq h9];done) | (rw[zbB hl fun k p q hp hq=>hs.2 k p q (by have:=(zb.1 hp).1;omega) hp hq];done)
   apply zab;apply z;apply z6;simp only[↓bO,go_sem,seval,hw];refine ⟨(s+1),⟨by omega,fun k p' q' hi h1 h2=>(by rcases zD k s with h3 | h3 <;> first | exact hs.2 k p' q' h3 h1 h2 | (obtain rfl:k=s:=tz1;rw[hp] at h1;rw[hq] at h2;cases h1;cases h2;simp at hc28 hb41;simp[hc28,hb41]))⟩,by omega,?_⟩;simp only[zar,zas,zaf,zam,mB,seval,zl,zi];exact zaH
  (have hk:s=a.length:=by have:=hs.1;simp at hb14;omega);apply zaj;simp only[zan,zai,zae,bA,Nat.reduceEqDiff,↓reduceIte];apply w;refine sqD ?_;apply z8;(try simp only[go_sem]);refine Le.of_eq (congrArg (fun b=>AV.v (.bool b)) ?_);unfold ziK;first | (rw[zch (ps:=a) (qs:=b) (by simp at hb10;omega)];done) | (have h9:(p.v==q.v&&p.t.same q.t)=false:=(by first | (have h8:=hb41;simp at h8;simp[h8];done) | (have h8:=hc28;simp at h8;simp[h8];done));rw[zby (f:=fun x y:Bd=>x.v==y.v&&x.t.same y.t) hp hq h9];done) | (rw[zbB hl fun k p q hp hq=>hs.2 k p q (by have:=(zb.1 hp).1;omega) hp hq];done)
def sv (l:List Int):List (Int×AV):=l.map fun n=>(n,.v (.int .i64 1))
theorem sv_nil:sv []=[]:=rfl
theorem zjt (l:List Int):∀p∈sv l,Data p.2:=fun p hp=>by
 obtain ⟨n,_,rfl⟩:=zq.1 hp;exact .v _
def zkS (l:List Int) (k:Int):Int:=if l.any (fun x=>x==k) then 1 else 0
theorem zhi (k:Int):∀l:List Int,(zbo (sv l) k).getD (.v (.int .i64 0))=.v (.int .i64 (zkS l k))
 | []=>rfl
 | x::l=>by
  have:=zhi k l;simp only[sv,zu,zbo,zkS,List.any_cons] at this ⊢
  by_cases h:x=k
  (·simp[h]);(have hb:(x==k)=false:=by simpa using h);rw[if_neg h,this];simp[hb]
theorem aSet_sv {k:Int}:∀{l:List Int},(l.any fun x=>x==k)=false->zdo (sv l) k (.v (.int .i64 1))=sv (l++[k])
 | [],_=>rfl
 | x::l,h=>by
  simp only[List.any_cons,Bool.or_eq_false_iff,beq_eq_false_iff_ne] at h;have:=aSet_sv (l:=l) h.2;simp only[sv,zu,zdo,zt,if_neg h.1] at this ⊢;rw[this]
theorem wrap1:IntKind.i64.wrap 1=1:=zak tz1 tz1
def zhh (l:List Int):List Ob:=[.map (sv l),.cells 130 [.map 0],.cells 54 [.osl 3 1 (l.map intC)],.tok 3 1 l.length]
def SCalls (f:Nat) (args:List AV) (l:List Int) (R:AV) (l1:List Int):Prop :=
 ACalls Tryz.prog f args (zac 0 (zhh l)) 4 fun r os n=>(r=R/\os=zac 0 (zhh l1))/\n=4
theorem zin (n:Nat) (l:List Int):Und n (.sl 1 (l.map intC)):=.data (zao l)
theorem sUnd {n:Nat} (h:4<=n) (l:List Int):UndOs n (zac 0 (zhh l)) :=
 ⟨by omega,fun p hp=>.data (zjt l p hp),by omega,⟨.map tz1,trivial⟩,by omega,⟨.osl tz1 (zin n l),trivial⟩,by omega,trivial,trivial⟩
theorem Und.sv {n:Nat} (l:List Int):(∀p∈Go.Proofs.YtpfiliamceimmaaGreatDoor.sv l,Und n p.2)=True:=eq_true fun p hp=>.data (zjt l p hp)
theorem Und.oslN {n id:Nat} {l:List Int} (h:id<n):Und n (.osl id 1 (l.map intC)):=.osl h (zin n l)
theorem Und.cloV {n:Nat} (h:3<=n):Und n (.clo 111 [.ptr 1 0,.ptr 2 0]):=.clo ⟨.ptr tz1,.ptr tz1,trivial⟩
theorem renS (l:List Int) (nx:Nat):RenOs (zbc [0,1,2,3] nx) 0 (zhh l) (zhh l) :=
 ⟨.map (zjt l),.cells ⟨.map rfl,trivial⟩,.cells ⟨.osl rfl (fun x hx=>by obtain ⟨y,_,rfl⟩:=zq.1 hx;exact .cons (.v _) .nil),trivial⟩,.tok,trivial⟩
theorem SCalls.at {f:Nat} {args:List AV} {l l1:List Int} {R:AV} (h:SCalls f args l R l1) (hargs:∀nx,RenL (zbc [0,1,2,3] nx) args args) (hR:Data R) {os':Os} {nx':Nat}
  (h0:zav os' 0=some (.map (sv l))) (h1:zav os' 1=some (.cells 130 [.map 0])) (h2:zav os' 2=some (.cells 54 [.osl 3 1 (l.map intC)])) (h3:zav os' 3=some (.tok 3 1 l.length)) (hn:4<=nx') {Q':AV->Os->Nat->Prop}
  (hq:Q' R (zam (zam (zam (zam os' 0 (.map (sv l1))) 1 (.cells 130 [.map 0])) 2 (.cells 54 [.osl 3 1 (l1.map intC)])) 3 (.tok 3 1 l1.length)) nx'):ACalls Tryz.prog f args os' nx' Q':=by
 refine ACalls.at (args:=args) (obs:=zhh l) (obs1:=zhh l1) (obs':=zhh l) (obs1':=zhh l1) [0,1,2,3] ?_ rfl rfl tz3 tz8 (hargs _) (.data hR) (renS l _) ⟨h0,h1,h2,h3,trivial⟩ (renS l1 _) hq;exact h.mono fun r os n ⟨⟨h1,h2⟩,h3⟩=>⟨h1,h2,h3⟩
theorem zhv:Data (.tup []):=.tup (fun _ h=>by cases h)
theorem zjc (T:Ty) (l:List Int) (hl:l.length+1<=1099511627776):SCalls 111 [.agg T.cells,.ptr 1 0,.ptr 2 0] (l) (.tup []) ((if T.k=1 then zez l T.n else l)):=by
  refine ACalls.clean (C:=fun r os=>r=_/\os=_) ?_;refine aIn Tryz.func111 fun hm=>?_;simp only[Tryz.ntmps111,Tryz.results111,go_sem,seval];simp only[zhh,zac,Nat.reduceAdd];simp only[Ty.cells_eq T,zt,zA];have h9:=zkT T.k T.n l;(have hb1:(l.length+1) * 8<=140737488355328:=by omega);(have hb2:l.length+1<=maxLen:=by simp only[maxLen];omega);refine sqD ?_;refine sqR fun _ y=>?_;refine chS 4 ?_;simp only[go_sem];refine zag 7 rfl (fun hc7=>?_) (fun hc7=>?_)
  ·
   simp only[go_sem];(have hk1:T.k=1:=by simpa using hc7);refine chS 4 ?_ (by intro _ q;simp only[↓bO,go_sem,seval,zhi];exact q);simp only[↓bO,go_sem,seval];apply y;apply z7 rfl <;> intro hb13
   ·
    (have ha:(l.any fun x=>x==T.n)=false:=by cases hv:(l.any fun x=>x==T.n) with | false=>rfl | true=>simp[zkS,hv] at hb13);(have hs0:zkS l T.n=0:=by simp[zkS,ha]);have he:(if T.k=1 then zez l T.n else l)=l++[T.n]:=h9.1 hk1 ha;refine sqR fun _ y=>?_;refine chS 4 ?_ (by intro _ q;simp only[↓bO,go_sem,seval,zhi,hs0];exact q);simp only[↓bO,go_sem,seval,aSet_sv ha,Int.zero_add,wrap1];apply y;apply z6;refine chS 4 ?_ (by intro _ q;simp only[↓bO,go_sem,seval,↓zdF];exact q);simp only[↓bO,go_sem,seval,hb1,hb2];(try simp only[go_sem]);rw[he];refine ⟨.tup [],zac 0 (zhh (l++[T.n])),⟨rfl,rfl⟩,.tup trivial,sUnd tz1 _,?_,?_,by omega⟩
    ·
     refine Le.of_eq ?_;rfl
    first | (refine ⟨1,?_,rfl⟩;first | rfl | (simp only[zhh,zac,ze,zj,zy,zu,zQ,zh,zw,zF,Nat.reduceAdd,zL,intC,zK];done))
   (have ha:(l.any fun x=>x==T.n)=true:=by cases hv:(l.any fun x=>x==T.n) with | true=>rfl | false=>simp[zkS,hv] at hb13);have he:(if T.k=1 then zez l T.n else l)=l:=h9.2.1 ha;apply zab;(try simp only[go_sem]);(try simp only[go_sem]);rw[he];refine ⟨.tup [],zac 0 (zhh (l)),⟨rfl,rfl⟩,.tup trivial,sUnd tz1 _,?_,?_,by omega⟩
   ·
    refine Le.of_eq ?_;rfl
   first | (refine ⟨1,?_,rfl⟩;first | rfl | (simp only[zhh,zac,ze,zj,zy,zu,zQ,zh,zw,zF,Nat.reduceAdd,zL,intC,zK];done))
  simp only[go_sem];(have hk1:¬T.k=1:=by simpa using hc7);have he:(if T.k=1 then zez l T.n else l)=l:=h9.2.2 hk1;refine chS 4 ?_;simp only[↓bO,go_sem,seval];apply y;refine z7 (b:=false) (by first | exact rfl | exact congrArg (fun b=>AV.v (.bool b)) hb13) (fun h=>(by cases h)) (fun _=>?_);apply zab;(try simp only[go_sem]);(try simp only[go_sem]);rw[he];refine ⟨.tup [],zac 0 (zhh (l)),⟨rfl,rfl⟩,.tup trivial,sUnd tz1 _,?_,?_,by omega⟩
  ·
   refine Le.of_eq ?_;rfl
  first | (refine ⟨1,?_,rfl⟩;first | rfl | (simp only[zhh,zac,ze,zj,zy,zu,zQ,zh,zw,zF,Nat.reduceAdd,zL,intC,zK];done))
theorem zkF:∀(T:Ty) (l:List Int),l.length+T.cnt<=1099511627776->SCalls 108 [.agg T.cells,.clo 111 [.ptr 1 0,.ptr 2 0]] (l) (.tup []) (T.rvars l):=by
  refine Ty.ind fun T ih l hl=>?_;refine ACalls.clean (C:=fun r os=>r=_/\os=_) ?_;refine aIn Tryz.func108 fun hm=>?_;simp only[Tryz.ntmps108,Tryz.results108,go_sem,seval];simp only[zhh,zac,Nat.reduceAdd];simp only[Ty.cells_eq T,zt,zA];have hm1:=T.cnt_eq;have hcl:=Ty.cntL_len T.ps;(have hv1:=by have h9:=zjc T l tz1;rw[Ty.cells_eq T] at h9;exact h9);(have hl0:(if T.k=1 then zez l T.n else l).length<=l.length+1:=by split <;> first | exact zko l T.n | omega);refine sqD ?_;refine sqR fun _ q=>?_;refine chS 2 ?_;simp only[↓bO,go_sem,seval];refine SCalls.at (hv1) (fun _=>⟨.data (by rw[<- Ty.cells_eq];exact T.dataAgg),.ptr rfl,.ptr rfl,trivial⟩) zhv rfl rfl rfl rfl tz2 ?_;simp only[zam,Nat.reduceEqDiff,↓reduceIte];apply q;refine sqD ?_;apply zaa;refine zah (σ:=Nat) (mB 20 7170) (fun s=>s<=T.ps.length) (fun s=>[(12,.v (.int .i64 (s:Int)))]) (fun s=>[(0,.map (sv (Ty.rvarsL (T.ps.take s) (if T.k=1 then zez l T.n else l)))),(2,.cells 54 [.osl 3 1 ((Ty.rvarsL (T.ps.take s) (if T.k=1 then zez l T.n else l)).map intC)]),(3,.tok 3 1 (Ty.rvarsL (T.ps.take s) (if T.k=1 then zez l T.n else l)).length)]) (fun s=>T.ps.length-s) 0 tz1 ?_ (fun s hs=>?_)
  ·
   simp only[go_sem,seval,bL,Ty.rvarsL];exact zaH
  simp only[go_sem,seval];refine sqD ?_;refine zZ fun _ q=>?_;apply z7 rfl <;> intro hb13
  ·
   (have hk:s<T.ps.length:=by simpa using hb13);obtain ⟨p,hp⟩:∃p,T.ps[s]?=some p:=⟨_,za hk⟩;have hpc:=Ty.cntL_step hp;have hvl:=Ty.rvarsL_len (T.ps.take s) (if T.k=1 then zez l T.n else l);have hw:IntKind.i64.wrap ((s:Int)+1)=(s:Int)+1:=zak tz1 tz1;apply zab;apply q;refine zZ fun _ q=>?_;apply zaa;refine sqR fun _ y=>?_;simp only[↓bO,go_sem,seval,hk,gM hp];apply y;apply z6;refine chS 2 ?_;simp only[↓bO,go_sem,seval];refine SCalls.at (ih p (zc hp) (Ty.rvarsL (T.ps.take s) (if T.k=1 then zez l T.n else l)) tz1) (fun _=>⟨.data (Ty.dataAgg p),.clo ⟨.ptr rfl,.ptr rfl,trivial⟩,trivial⟩) zhv rfl rfl rfl rfl tz2 ?_;simp only[zam,Nat.reduceEqDiff,↓reduceIte];apply q;apply z6;simp only[↓bO,go_sem,seval,hw];refine ⟨(s+1),tz1,by omega,?_⟩;simp only[zar,zas,zaf,zam,mB,seval,zl,zi,Ty.rvarsL_step hp];(first | (refine Weak.drops 1 5 rfl rfl tz5 tz5 ?_ ?_ ?_) | (refine Weak.drops 0 5 rfl rfl tz5 tz5 ?_ ?_ ?_));(· simp only[go_sem,Le.refl,Le.any,zp,zi]);(· simp only[UndL,UndOs,Ob.Und,and_true,true_and,and_self,Und.v,Und.any,Und.ptr,Und.map,Nat.reduceLT,zV,Und.tys,Und.tyAgg,Und.oslTys,Und.oslTys1,Und.clo0,Und.ty,Und.sv,Und.oslN,Und.cloV,Nat.reduceLeDiff,UndL,Und.map]);simp only[UndL,UndOs,Ob.Und,and_true,true_and,and_self,Und.v,Und.any,Und.ptr,Und.map,Nat.reduceLT,zV,Und.tys,Und.tyAgg,Und.oslTys,Und.oslTys1,Und.clo0,Und.ty,Und.sv,Und.oslN,Und.cloV,Nat.reduceLeDiff,UndL,Und.map]
  (have hk:s=T.ps.length:=by simp at hb13;omega);apply zaj;simp only[zan,zai,zae,bA,Nat.reduceEqDiff,↓reduceIte];(try simp only[go_sem]);rw[Ty.rvars_eq,hk];simp only[zK];refine ⟨.tup [],zac 0 (zhh (Ty.rvarsL T.ps (if T.k=1 then zez l T.n else l))),⟨rfl,rfl⟩,.tup trivial,sUnd tz1 _,?_,?_,by omega⟩
  ·
   refine Le.of_eq ?_;rfl
  first | (refine ⟨1,?_,rfl⟩;first | rfl | (simp only[zhh,zac,ze,zj,zy,zu,zQ,zh,zw,zF,Nat.reduceAdd,zL,intC,zK];done))
theorem Vars_pure (ps:List Ty) (hT:Ty.cntL ps<=1099511627776):APure Tryz.prog 74 [.sl 3 (ps.map Ty.cells)] (.sl 1 ((Ty.rvarsL ps []).map intC)):=by
  refine APure.mkL (.cons (Ty.dataSl ps) .nil) ((zao _)) ?_;refine aIn Tryz.func74 fun hm=>?_;simp only[Tryz.ntmps74,Tryz.results74,go_sem,seval];have hcl:=Ty.cntL_len ps;(iterate 3 (refine zZ fun _ q=>?_;apply z6;simp only[↓bO,go_sem,seval];apply q));refine zZ fun _ q=>?_;refine sqD ?_;apply zaa;refine zaC (Weak.tokCell 3 1 (id:=2) (t:=54) [.osl 3 1 []] rfl ⟨.inr ⟨rfl,rfl⟩,trivial⟩) ?_;simp only[zam,Nat.reduceEqDiff,↓reduceIte];refine zah (σ:=Nat) (mB 19 1816) (fun s=>s<=ps.length) (fun s=>[(10,.v (.int .i64 (s:Int)))]) (fun s=>[(0,.map (sv (Ty.rvarsL (ps.take s) []))),(2,.cells 54 [.osl 3 1 ((Ty.rvarsL (ps.take s) []).map intC)]),(3,.tok 3 1 (Ty.rvarsL (ps.take s) []).length)]) (fun s=>ps.length-s) 0 tz1 ?_ (fun s hs=>?_)
  ·
   simp only[go_sem,seval,bL,Ty.rvarsL,sv_nil];exact zaH
  simp only[go_sem,seval];refine sqD ?_;refine zZ fun _ y=>?_;apply z7 rfl <;> intro hb11
  ·
   (have hk:s<ps.length:=by simpa using hb11);obtain ⟨p,hp⟩:∃p,ps[s]?=some p:=⟨_,za hk⟩;have hpc:=Ty.cntL_step hp;have hvl:=Ty.rvarsL_len (ps.take s) [];simp only[zF] at hvl;have hw:IntKind.i64.wrap ((s:Int)+1)=(s:Int)+1:=zak tz1 tz1;apply zab;apply y;refine zZ fun _ y=>?_;apply zaa;refine sqR fun _ u=>?_;simp only[↓bO,go_sem,seval,hk,gM hp];apply u;apply z6;refine chS 2 ?_;simp only[↓bO,go_sem,seval];refine SCalls.at (zkF p (Ty.rvarsL (ps.take s) []) tz1) (fun _=>⟨.data (Ty.dataAgg p),.clo ⟨.ptr rfl,.ptr rfl,trivial⟩,trivial⟩) zhv rfl rfl rfl rfl tz2 ?_;simp only[zam,Nat.reduceEqDiff,↓reduceIte];apply y;apply z6;simp only[↓bO,go_sem,seval,hw];refine ⟨(s+1),tz1,by omega,?_⟩;simp only[zar,zas,zaf,zam,mB,seval,zl,zi,Ty.rvarsL_step hp];(first | (refine Weak.drops 1 4 rfl rfl tz5 tz5 ?_ ?_ ?_) | (refine Weak.drops 0 4 rfl rfl tz5 tz5 ?_ ?_ ?_));(· simp only[go_sem,Le.refl,Le.any,zp,zi]);(· simp only[UndL,UndOs,Ob.Und,and_true,true_and,and_self,Und.v,Und.any,Und.ptr,Und.map,Nat.reduceLT,zV,Und.tys,Und.tyAgg,Und.oslTys,Und.oslTys1,Und.clo0,Und.ty,Und.sv,Und.oslN,Und.cloV,Nat.reduceLeDiff,UndL,Und.map,Und.tys]);simp only[UndL,UndOs,Ob.Und,and_true,true_and,and_self,Und.v,Und.any,Und.ptr,Und.map,Nat.reduceLT,zV,Und.tys,Und.tyAgg,Und.oslTys,Und.oslTys1,Und.clo0,Und.ty,Und.sv,Und.oslN,Und.cloV,Nat.reduceLeDiff,UndL,Und.map,Und.tys]
  (have hk:s=ps.length:=by simp at hb11;omega);apply zaj;simp only[zan,zai,zae,bA,Nat.reduceEqDiff,↓reduceIte];apply q;refine sqD ?_;apply z8;(try simp only[go_sem]);rw[hk,zK];exact Le.oslL
end Go.Proofs.YtpfiliamceimmaaGreatDoor
