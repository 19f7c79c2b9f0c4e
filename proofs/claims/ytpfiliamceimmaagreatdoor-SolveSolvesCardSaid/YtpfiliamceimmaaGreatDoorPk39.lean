/- packed, part 39 of 48. Conditions: none. -/
import Derived.Test.YtpfiliamceimmaaGreatDoorPk38
set_option linter.unusedVariables false
set_option linter.unusedSimpArgs false
set_option maxRecDepth 100000
set_option maxHeartbeats 4000000
namespace Go.Proofs.YtpfiliamceimmaaGreatDoor
open Go Go.RowKit
attribute [local irreducible] aops zaA
theorem OkE.take {l:List (Ty×Ty)} (h:OkE l) (k:Nat):OkE (l.take k):=fun e he=>h e (List.mem_of_mem_take he)
def eqtPtr (s:CS×Int×Int):AV:=if s.2.1=0 then .ptr 3 0 else .v (.pointer none)
def eqtA (s:CS×Int×Int):AV:=.tup [eqtPtr s,.v (.int .i64 s.2.1),.v (.int .i64 s.2.2)]
theorem Und.eqs {n:Nat} (l:List EqT):Und n (.sl 8 (l.map EqT.cells))=True:=eq_true (.data (EqT.dataSl l))
theorem zgR (es:List EqT) (hl:es.length<=1048576) (hbad:∃e∈es,e.ok=false):APure Tryz.prog 45 [.sl 8 (es.map EqT.cells)] (.tup [.v (.pointer none),.v (.int .i64 1),.v (.int .i64 0)]):=by
  refine APure.mkL (.cons (EqT.dataSl es) .nil) ((.tup (.cons (.v _) (.cons (.v _) (.cons (.v _) .nil))))) ?_;refine aIn Tryz.func45 fun hm=>?_;simp only[Tryz.ntmps45,Tryz.results45,go_sem,seval];refine sqR fun _ u=>?_;(iterate 2 (refine chS 1 ?_));simp only[↓bO,go_sem,seval];apply u;refine z6 fun _ u=>?_;refine sqR fun _ w=>?_;(iterate 2 (refine chS 1 ?_));simp only[↓bO,go_sem,seval];apply w;apply zac;refine zai (σ:=Nat) (mB 63 57345) (fun s=>s<=es.length/\∀(i:Nat) (e:EqT),i<s->es[i]?=some e->e.ok=true) (fun s=>[(15,.v (.int .i64 (s:Int)))]) (fun s=>[]) (fun s=>es.length-s) 0 (⟨by omega,fun i p hi=>by omega⟩) ?_ (fun s hs=>?_)
  ·
   simp only[go_sem,seval];exact zaL
  simp only[go_sem,seval];refine sqD ?_;refine z6 fun _ w=>?_;apply z8 rfl <;> intro hb16
  ·
   (have hk:s<es.length:=by simpa using hb16);obtain ⟨e,he⟩:∃e,es[s]?=some e:=⟨_,za hk⟩;have hw:IntKind.i64.wrap ((s:Int)+1)=(s:Int)+1:=zal tz1 tz1;apply zaa;apply w;refine z6 fun _ w=>?_;apply zac;refine sqR fun _ z=>?_;(iterate 3 (refine chS 1 ?_ (by intro _ q;simp only[↓bO,go_sem,seval,hk,gM he,EqT.cells];exact q)));simp only[↓bO,go_sem,seval];apply z;refine sqR fun _ z=>?_;(iterate 2 (refine chS 1 ?_ (by intro _ q;simp only[↓bO,go_sem,seval,Ty.refold];exact q)));refine zZ 1 fun _ y=>?_;simp only[↓bO,go_sem,seval];refine APure.call (zbp e.l) ?_;(iterate 2 (apply y;clear y;refine zZ 1 fun _ y=>?_;simp only[↓bO,go_sem,seval]));apply y;clear y;refine zag 23 rfl (fun hc23=>?_) (fun hc23=>?_)
   ·
    (iterate 4 (refine chS 1 ?_));simp only[↓bO,go_sem,seval];apply z;refine z8 (b:=true) (by first | exact rfl | exact congrArg (fun b=>AV.v (.bool b)) hb28) (fun _=>?_) (fun h=>(by cases h));refine sqR fun _ z=>?_;(iterate 2 (refine chS 1 ?_));simp only[↓bO,go_sem,seval];apply z;apply zab;exact Le.refl _
   (iterate 2 (refine chS 1 ?_ (by intro _ q;simp only[↓bO,go_sem,seval,Ty.refold];exact q)));refine zZ 1 fun _ y=>?_;simp only[↓bO,go_sem,seval];refine APure.call (zbp e.r) ?_;apply y;clear y;refine chS 1 ?_;simp only[↓bO,go_sem,seval];apply z;apply z8 rfl <;> intro hb28
   ·
    refine sqR fun _ z=>?_;(iterate 2 (refine chS 1 ?_));simp only[↓bO,go_sem,seval];apply z;apply zab;exact Le.refl _
   (have hok:e.ok=true:=by (have h9:=hb28;simp[EqT.ok] at h9 ⊢;first | exact h9 | exact ⟨h9.1,h9.2⟩ | (simp_all)));apply zaa;apply w;apply z7;refine chS 1 ?_ (by intro _ q;simp only[↓bO,go_sem,seval,hw];exact q);simp only[↓bO,go_sem,seval];refine ⟨(s+1),⟨by omega,fun i p' hi h1=>(by rcases zG i s with h3 | h3 <;> first | exact hs.2 i p' h3 h1 | (obtain rfl:i=s:=tz1;rw[he] at h1;cases h1;exact hok))⟩,by omega,?_⟩;simp only[zar,zas,zah,zam,mB,seval,zj,zh];(first | (refine Weak.drops 1 0 rfl rfl tz5 tz5 ?_ ?_ ?_) | (refine Weak.drops 0 0 rfl rfl tz5 tz5 ?_ ?_ ?_));(· simp only[go_sem,Le.refl,Le.any,zn,zh]);(· simp only[UndL,UndOs,Ob.Und,and_true,true_and,and_self,Und.v,Und.any,Und.ptr,Und.map,Nat.reduceLT,zU,Und.tys,Und.tyAgg,Und.oslTys,Und.oslTys1,Und.clo0,Und.ty,Und.eqs]);simp only[UndL,UndOs,Ob.Und,and_true,true_and,and_self,Und.v,Und.any,Und.ptr,Und.map,Nat.reduceLT,zU,Und.tys,Und.tyAgg,Und.oslTys,Und.oslTys1,Und.clo0,Und.ty,Und.eqs]
  (have hk:s=es.length:=by have:=hs.1;simp at hb16;omega);exact absurd hbad (fun ⟨e,he,h⟩=>(by obtain ⟨i,hi,e1⟩:=zS.1 he;rw[hs.2 i e tz1 (by rw[za hi,e1])] at h;cases h))
theorem clz11 {p:Prop} (h:p:=by repeat' first | exact trivial | exact .any _ | exact .ptr tz1 | exact .own tz1 | exact .v _ _ | exact Und.data (EqT.dataSl _) | exact Und.data (zap _) | (refine ⟨?_,?_⟩)):p:=h
theorem zlQ {p:Prop} (h:p:=by repeat' first | exact trivial | (with_reducible omega) | exact .any _ | exact .ptr tz1 | exact .own tz1 | exact .v _ _ | exact .map tz1 | exact Und.oslG tz1 | exact Und.rowI (zaY _) | exact Und.rowI (zaJ _) | exact (fun p hp=>.data (zaU _ p hp)) | (refine ⟨?_,?_⟩)):p:=h
theorem equate_c (es:List EqT) (ho:OkE (es.map EqT.p)) (hsum:zbD (es.map EqT.p)<=1048576):ACalls Tryz.prog 45 [.sl 8 (es.map EqT.cells)] [] 0 fun r os n=>(∃s,EqtR (es.map EqT.p) s/\r=eqtA s/\os=zgh 0 s.1)/\n=8:=by
  refine ACalls.cleanN (n:=8) (C:=fun r os=>∃s,EqtR (es.map EqT.p) s/\r=eqtA s/\os=zgh 0 s.1) tz1 ?_;refine aIn Tryz.func45 fun hm=>?_;simp only[Tryz.ntmps45,Tryz.results45,go_sem,seval];have hsl:=zc2 (es.map EqT.p);rw[zx] at hsl;refine sqR fun _ w=>?_;(iterate 2 (refine chS 1 ?_));simp only[↓bO,go_sem,seval];apply w;refine z6 fun _ w=>?_;refine sqR fun _ z=>?_;(iterate 2 (refine chS 1 ?_));simp only[↓bO,go_sem,seval];apply z;apply zac;refine zai (σ:=Nat) (mB 63 57345) (fun s=>s<=es.length) (fun s=>[(15,.v (.int .i64 (s:Int)))]) (fun s=>[]) (fun s=>es.length-s) 0 (Nat.zero_le _) ?_ (fun s hs=>?_)
  ·
   simp only[go_sem,seval];exact zaL
  simp only[go_sem,seval];refine sqD ?_;refine z6 fun _ z=>?_;apply z8 rfl <;> intro hb16
  ·
   (have hk:s<es.length:=by simpa using hb16);obtain ⟨e,he⟩:∃e,es[s]?=some e:=⟨_,za hk⟩;have hw:IntKind.i64.wrap ((s:Int)+1)=(s:Int)+1:=zal tz1 tz1;have heo:=ho e.p (zq.2 ⟨e,zc he,rfl⟩);have hrl:e.l.right=true:=heo.1;have hrr:e.r.right=true:=heo.2.1;apply zaa;apply z;refine z6 fun _ z=>?_;apply zac;refine sqR fun _ x=>?_;(iterate 3 (refine chS 1 ?_ (by intro _ q;simp only[↓bO,go_sem,seval,hk,gM he,EqT.cells];exact q)));simp only[↓bO,go_sem,seval];apply x;refine sqR fun _ x=>?_;(iterate 2 (refine chS 1 ?_ (by intro _ q;simp only[↓bO,go_sem,seval,Ty.refold];exact q)));refine zZ 1 fun _ y=>?_;simp only[↓bO,go_sem,seval];refine APure.call (zbp e.l) ?_;(iterate 2 (apply y;clear y;refine zZ 1 fun _ y=>?_;simp only[↓bO,go_sem,seval]));apply y;clear y;refine zag 23 rfl (fun hc23=>?_) (fun hc23=>?_)
   ·
    simp only[go_sem];exact absurd hc23 (by simp[hrl])
   (iterate 2 (refine chS 1 ?_ (by intro _ q;simp only[↓bO,go_sem,seval,Ty.refold];exact q)));refine zZ 1 fun _ y=>?_;simp only[↓bO,go_sem,seval];refine APure.call (zbp e.r) ?_;apply y;clear y;refine chS 1 ?_;simp only[↓bO,go_sem,seval];apply x;apply z8 rfl <;> intro hb28
   ·
    exact absurd hb28 (by simp[hrr])
   apply zaa;apply z;apply z7;refine chS 1 ?_ (by intro _ q;simp only[↓bO,go_sem,seval,hw];exact q);simp only[↓bO,go_sem,seval];refine ⟨(s+1),tz1,by omega,?_⟩;simp only[zar,zas,zah,zam,mB,seval,zj,zh];(first | (refine Weak.drops 1 0 rfl rfl tz5 tz5 ?_ ?_ ?_) | (refine Weak.drops 0 0 rfl rfl tz5 tz5 ?_ ?_ ?_));(· simp only[go_sem,Le.refl,Le.any,zn,zh]);(· simp only[UndL,UndOs,Ob.Und,and_true,true_and,and_self,Und.v,Und.any,Und.ptr,Und.map,Nat.reduceLT,zU,Und.tys,Und.tyAgg,Und.oslTys,Und.oslTys1,Und.clo0,Und.ty,Und.eqs]);simp only[UndL,UndOs,Ob.Und,and_true,true_and,and_self,Und.v,Und.any,Und.ptr,Und.map,Nat.reduceLT,zU,Und.tys,Und.tyAgg,Und.oslTys,Und.oslTys1,Und.clo0,Und.ty,Und.eqs]
  apply zak;simp only[zao,zaj,zaf,bA,Nat.reduceEqDiff,↓reduceIte];apply w;refine sqR fun _ w=>?_;refine zZ 1 fun _ y=>?_;simp only[↓bO,go_sem,seval];refine coCalls NewC_c .nil (fun S0 hS0=>?_);subst hS0;simp only[zgh,zw,zB,Nat.reduceAdd];apply y;clear y;simp only[↓bO,go_sem,seval];apply w;refine z6 fun _ w=>?_;refine sqR fun _ z=>?_;(iterate 2 (refine chS 1 ?_));simp only[↓bO,go_sem,seval];apply z;apply zac;refine zai (σ:=CS×Nat) (mB 63 15032385664) (fun u=>EqI ((es.map EqT.p).take u.2) u.1/\u.2<=es.length) (fun u=>[(33,.v (.int .i64 (u.2:Int)))]) (fun u=>[(7,.tok 194 4 u.1.G.N.length),(6,.row 3 1 (u.1.W.map intC)),(5,.row 3 1 (u.1.F.rank.map intC)),(4,.row 3 1 (u.1.F.up.map nC)),(3,.cells 127 [.v (.int .i64 u.1.steps),.ptr 2 0,.ptr 0 0,.own 6 u.1.W.length,.v (.bool u.1.clash)]),(2,.cells 169 [.osl 7 4 (u.1.G.N.map GNode.cells),.map 1]),(1,.map (u.1.G.V.map vC)),(0,.cells 184 [.own 4 u.1.F.up.length,.own 5 u.1.F.rank.length,.v (.int .i64 u.1.F.sets),.v (.int .i64 u.1.F.steps)])]) (fun u=>es.length-u.2) (CS0,0) (⟨EqI.start,by simp only;omega⟩) ?_ (fun u hu=>?_)
  ·
   simp only[go_sem,seval,CS0,bL];exact zaL
  simp only[go_sem,seval];refine sqD ?_;refine z6 fun _ z=>?_;apply z8 rfl <;> intro hb34
  ·
   (have hk:u.2<es.length:=by simpa using hb34);obtain ⟨e,he⟩:∃e,es[u.2]?=some e:=⟨_,za hk⟩;(have hep:(es.map EqT.p)[u.2]?=some e.p:=by rw[zN,he];rfl);(have het:(es.map EqT.p).take (u.2+1)=(es.map EqT.p).take u.2++[e.p]:=by rw[zM,hep];rfl);have hst:=zcR (es.map EqT.p) (u.2+1);have hst0:=zcR (es.map EqT.p) u.2;rw[het,zcV] at hst;simp only[EqT.p] at hst;have hw:IntKind.i64.wrap ((u.2:Int)+1)=(u.2:Int)+1:=zal tz1 tz1;have hl1:=hu.1.st.len;have heo:=ho e.p (zc hep);have heo3:e.l.cnt<=400:=heo.2.2.1;have heo4:e.r.cnt<=400:=heo.2.2.2;(have htl:((es.map EqT.p).take u.2).length<=es.length:=by (rw[List.length_take,zx];omega));apply zaa;apply z;refine z6 fun _ z=>?_;apply zac;refine sqR fun _ x=>?_;(iterate 3 (refine chS 1 ?_ (by intro _ q;simp only[↓bO,go_sem,seval,hk,gM he,EqT.cells];exact q)));simp only[↓bO,go_sem,seval];apply x;refine sqR fun _ x=>?_;(iterate 5 (refine chS 1 ?_ (by intro _ q;simp only[↓bO,go_sem,seval,Ty.refold];exact q)));refine zZ 1 fun _ y=>?_;simp only[↓bO,go_sem,seval];refine CCalls.at (Equate2_c u.1 (zcn (eqF ((es.map EqT.p).take u.2)).2) (eqF ((es.map EqT.p).take u.2)).1 e.l e.r (fun hc=>(hu.1.st.good hc).1.2) tz1 tz1 tz1) (.cons (Ty.dataAgg _) (.cons (Ty.dataAgg _) .nil)) (fun _=>.v _) (i0:=3) (i1:=2) (i2:=7) (i3:=1) (i4:=0) (i5:=4) (i6:=5) (i7:=6) tz3 tz4 zbc (fun S1 r1 hX1=>?_);(try dsimp only at hX1);simp only[zat,zl,zp,zm,zah,zam,Nat.reduceEqDiff,↓reduceIte];obtain ⟨hE1,hR1⟩:=hX1;obtain ⟨hc1,hr1,hp0,hp1,hI1⟩:=hu.1.step (e:=e.p) heo tz1 tz1 hE1 hR1;have hr2:r1=(if S1.clash=true then 7 else 0):=hr1;subst hr2;dsimp only at hp0 hp1 hc1 hI1;apply y;clear y;simp only[↓bO,go_sem,seval];apply x;refine sqR fun _ x=>?_;refine chS 1 ?_;simp only[↓bO,go_sem,seval];apply x;apply z8 rfl <;> intro hb44
   ·
    (have hcS:S1.clash=true:=by (cases h9:S1.clash with | true=>rfl | false=>(rw[h9] at hb44;simp at hb44)));(have h7:(if S1.clash=true then (7:Int) else 0)=7:=by rw[hcS];rfl);have hsp:=zcR (es.map EqT.p) (u.2+1);have hlp:=zc2 ((es.map EqT.p).take (u.2+1));(have hfin:EqtR (es.map EqT.p) (S1,7,S1.steps):=by (have h9:=EqtR.clash (k:=(es.map EqT.p).drop (u.2+1)) (n:=S1.steps) hc1 hcS (by rw[<- het,List.take_append_drop];exact ho) (by rw[<- het,List.take_append_drop];exact hsp) ⟨hp0,by (rw[zi,List.length_singleton];omega)⟩ (by rw[<- het];omega) S1;rw[<- het,List.take_append_drop] at h9;exact h9));refine sqR fun _ x=>?_;(iterate 2 (refine chS 1 ?_));refine zZ 1 fun _ y=>?_;simp only[↓bO,go_sem,seval];refine CCalls.at (zkX S1) (.nil) (fun _=>.v _) (i0:=3) (i1:=2) (i2:=7) (i3:=1) (i4:=0) (i5:=4) (i6:=5) (i7:=6) tz3 tz4 zbc (fun Z9 u9 hZ9=>?_);(try dsimp only at hZ9);simp only[zat,zl,zp,zm,zah,zam,Nat.reduceEqDiff,↓reduceIte];obtain rfl:S1=Z9:=hZ9.symm;(iterate 2 (apply y;clear y;refine zZ 1 fun _ y=>?_;simp only[↓bO,go_sem,seval]));apply y;clear y;simp only[↓bO,go_sem,seval];apply x;apply zab;(try simp only[go_sem]);refine ⟨_,zgh 0 (S1),⟨(S1,7,S1.steps),hfin,rfl,rfl⟩,.tup ⟨.v _ _,.v _ _,.v _ _,trivial⟩,zfv _,?_,?_,by omega⟩;(· exact Le.of_eq (by rw[h7];rfl));first | exact ⟨1,rfl,rfl⟩
   (have hcS:S1.clash=false:=by (cases h9:S1.clash with | false=>rfl | true=>(rw[h9] at hb44;simp at hb44)));apply zaa;apply z;apply z7;refine chS 1 ?_ (by intro _ q;simp only[↓bO,go_sem,seval,hw];exact q);simp only[↓bO,go_sem,seval];refine ⟨(S1,u.2+1),⟨by rw[het];exact hI1 hcS,by simp only;omega⟩,tz5,?_⟩;simp only[zar,zas,zah,zam,mB,seval,zj,zh,zn];refine Weak.sub ?_ zbc tz2 tz2 ?_ ?_;(· simp only[go_sem,Le.refl,Le.any]);(· exact clz11);exact zlQ
  (have hk:u.2=es.length:=by have h9:=hb34;simp at h9;have:=hu.2;omega);(have hCS:EqI (es.map EqT.p) u.1:=by (have h9:=hu.1;rw[hk,List.take_of_length_le tz4] at h9;exact h9));have hCl:=hCS.st.len;apply zak;simp only[zao,zaj,zaf,bA,Nat.reduceEqDiff,↓reduceIte];apply w;refine sqR fun _ w=>?_;refine chS 1 ?_;refine zZ 1 fun _ y=>?_;simp only[↓bO,go_sem,seval];refine CCalls.at (Count_c u.1 (hCS.st.cyG tz1)) (.nil) (fun _=>.tup (.cons (.v _) (.cons (.v _) .nil))) (i0:=3) (i1:=2) (i2:=7) (i3:=1) (i4:=0) (i5:=4) (i6:=5) (i7:=6) tz3 tz4 zbc (fun Z1 k1 hX1=>?_);(try dsimp only at hX1);simp only[zat,zl,zp,zm,zah,zam,Nat.reduceEqDiff,↓reduceIte];obtain ⟨F1,rfl⟩:∃F,Z1={u.1 with F:=F}:=⟨Z1.F,hX1.1⟩;dsimp only at hX1;obtain ⟨b1,n1⟩:=k1;obtain ⟨_,hX2,hX3⟩:=hX1;(iterate 4 (apply y;clear y;refine zZ 1 fun _ y=>?_;simp only[↓bO,go_sem,seval]));apply y;clear y;simp only[↓bO,go_sem,seval];apply w;refine sqR fun _ w=>?_;(iterate 2 (refine chS 1 ?_));refine zZ 1 fun _ y=>?_;simp only[↓bO,go_sem,seval];refine CCalls.at (zkX {u.1 with F:=F1}) (.nil) (fun _=>.v _) (i0:=3) (i1:=2) (i2:=7) (i3:=1) (i4:=0) (i5:=4) (i6:=5) (i7:=6) tz3 tz4 zbc (fun Z9 u9 hZ9=>?_);(try dsimp only at hZ9);simp only[zat,zl,zp,zm,zah,zam,Nat.reduceEqDiff,↓reduceIte];obtain rfl:{u.1 with F:=F1}=Z9:=hZ9.symm;apply y;clear y;refine chS 1 ?_;simp only[↓bO,go_sem,seval];apply w;refine z6 fun _ w=>?_;refine sqR fun _ z=>?_;refine chS 1 ?_;simp only[↓bO,go_sem,seval];apply z;apply z8 rfl <;> intro hb59
  ·
   (have hb1:b1=false:=by simpa using hb59);subst hb1;have hfin:=EqtR.cycle hCS hsum (by have h9:=zc2 (es.map EqT.p);omega) hX3 {u.1 with F:=F1};refine sqR fun _ z=>?_;(iterate 3 (refine chS 1 ?_));simp only[↓bO,go_sem,seval];apply z;apply zab;(try simp only[go_sem]);refine ⟨_,zgh 0 ({u.1 with F:=F1}),⟨({u.1 with F:=F1},8,IntKind.i64.wrap (n1+u.1.steps)),hfin,rfl,rfl⟩,.tup ⟨.v _ _,.v _ _,.v _ _,trivial⟩,zfv _,?_,?_,by omega⟩;(· exact Le.of_eq (rfl));first | exact ⟨0,rfl,rfl⟩ | exact ⟨1,rfl,rfl⟩
  (have hb1:b1=true:=by simpa using hb59);subst hb1;have hfin:=EqtR.good hCS hsum (by have h9:=zc2 (es.map EqT.p);omega) (hX2 hCS.cl) hX3;apply zaa;apply w;refine sqR fun _ w=>?_;(iterate 4 (refine chS 1 ?_));simp only[↓bO,go_sem,seval];apply w;apply zab;(try simp only[go_sem]);refine ⟨_,zgh 0 ({u.1 with F:=F1}),⟨({u.1 with F:=F1},0,IntKind.i64.wrap (n1+u.1.steps)),hfin,rfl,rfl⟩,.tup ⟨.ptr tz1,.v _ _,.v _ _,trivial⟩,zfv _,?_,?_,by omega⟩;(· exact Le.of_eq (rfl));first | exact ⟨0,rfl,rfl⟩ | exact ⟨1,rfl,rfl⟩
end Go.Proofs.YtpfiliamceimmaaGreatDoor
namespace Go.Proofs.YtpfiliamceimmaaGreatDoor
open Go Go.RowKit
def zgt (l:List Bd):List (Int×Ty):=l.map fun b=>(b.v,b.t)
def ziR (l:List Bd):List (Int×Int):=l.map fun b=>(b.v,1)
theorem zfR {α:Type} {k:Int} {x:α}:∀{m:List (Int×α)},za3 m k=none->zfb m k x=m++[(k,x)]
 | [],_=>rfl
 | (i,y)::m,h=>by
  rw[za3] at h;(split at h);(·cases h);(rename_i hne);rw[zfb,if_neg hne,zfR h];rfl
theorem zf3 {α:Type} {k:Int}:∀{m:List (Int×α)},k∉m.map Prod.fst->za3 m k=none
 | [],_=>rfl
 | (i,y)::m,h=>by
  simp only[zt,zE,not_or] at h;rw[za3,if_neg (fun e=>h.1 e.symm)];exact zf3 h.2
theorem ziV {α:Type} {k:Int} {x:α}:∀{m:List (Int×α)},za3 m k=some x->(k,x)∈m
 | (i,y)::m,h=>by
  rw[za3] at h;(split at h);(·rename_i e;cases h;rw[e];simp);exact List.mem_cons_of_mem _ (ziV h)
theorem tabM_fst (l:List Bd):(zgt l).map Prod.fst=l.map Bd.v:=by simp[zgt,Function.comp_def]
theorem onesM_fst (l:List Bd):(ziR l).map Prod.fst=l.map Bd.v:=by simp[ziR,Function.comp_def]
theorem zhi {l:List Bd} (hn:(l.map Bd.v).Nodup) {s:Nat} {b:Bd} (hb:l[s]?=some b):b.v∉(l.take s).map Bd.v:=by
 have hlt:=(zb.1 hb).1;have e:l.take (s+1)=l.take s++[b]:=by rw[zM,hb];rfl
 have h2:((l.take (s+1)).map Bd.v).Nodup:=by
  rw[List.map_take];exact hn.sublist (List.take_sublist _ _)
 rw[e,zu,List.nodup_append] at h2;exact fun h=>h2.2.2 _ h b.v tz4 rfl
theorem zio {l:List Bd} (hn:(l.map Bd.v).Nodup) {s:Nat} {b:Bd} (hb:l[s]?=some b):za3 (ziR (l.take s)) b.v=none:=zf3 (by rw[onesM_fst];exact zhi hn hb)
theorem zlY {l:List Bd} (hn:(l.map Bd.v).Nodup) {s:Nat} {b:Bd} (hb:l[s]?=some b):zfb (ziR (l.take s)) b.v 1=ziR (l.take (s+1)):=by
 rw[zfR (zio hn hb),zM,hb];simp[ziR]
theorem tabM_step {l:List Bd} (hn:(l.map Bd.v).Nodup) {s:Nat} {b:Bd} (hb:l[s]?=some b):zfb (zgt (l.take s)) b.v b.t=zgt (l.take (s+1)):=by
 rw[zfR (zf3 (by rw[tabM_fst];exact zhi hn hb)),zM,hb];simp[zgt]
mutual
/-- a type,variables standing for others -/
def Ty.subM (m:List (Int×Ty)):Ty->Ty
 | .mk k n ps=>match (if k=1 then za3 m n else none) with
  | some x=>x
  | none=>.mk k n (Ty.subML m ps)
def Ty.subML (m:List (Int×Ty)):List Ty->List Ty
 | []=>[]
 | p::ps=>Ty.subM m p::Ty.subML m ps
end
theorem Ty.subML_eq (m:List (Int×Ty)):∀ps,Ty.subML m ps=ps.map (Ty.subM m)
 | []=>by simp[Ty.subML]
 | p::ps=>by simp[Ty.subML,Ty.subML_eq m ps]
theorem Ty.subM_yes {m:List (Int×Ty)} {t x:Ty} (h:t.k=1) (hx:za3 m t.n=some x):t.subM m=x:=by
 obtain ⟨k,n,ps⟩:=t;simp only[Ty.k_mk,Ty.n_mk] at h hx;rw[Ty.subM,if_pos h,hx]
theorem Ty.subM_no {m:List (Int×Ty)} {t:Ty} (h:¬(t.k=1/\(za3 m t.n).isSome=true)):t.subM m=.mk t.k t.n (t.ps.map (Ty.subM m)):=by
 obtain ⟨k,n,ps⟩:=t;simp only[Ty.k_mk,Ty.n_mk,Ty.ps_mk] at h ⊢;rw[Ty.subM,<- Ty.subML_eq]
 by_cases hk:k=1
 ·cases hp:za3 m n with
  | none=>rw[if_pos hk]
  | some x=>exact absurd ⟨hk,by rw[hp];rfl⟩ h
 rw[if_neg hk]
theorem zlX (b:Bd) (l:List Bd) (v:Int):zbi (b::l) v=if b.v=v then 0 else if zbi l v<0 then -1 else zbi l v+1:=by
 unfold zbi zbE
 by_cases hb:b.v=v
 (·simp[hb,List.findIdx_cons]);(have hb2:(b.v==v)=false:=by simpa using hb);simp only[List.any_cons,hb2,Bool.false_or,List.findIdx_cons,cond_false,if_neg hb];split;(·rw[if_neg tz1];omega);rfl
theorem ziY (v:Int):∀l:List Bd,za3 (zgt l) v=if 0<=zbi l v then (l[(zbi l v).toNat]?).map Bd.t else none
 | []=>rfl
 | b::l=>by
  rw[zlX];show (if b.v=v then some b.t else za3 (zgt l) v)=_
  by_cases hb:b.v=v
  (·rw[if_pos hb,if_pos hb];rfl);rw[if_neg hb,if_neg hb,ziY v l]
  by_cases hl:zbi l v<0
  (·rw[if_neg tz1,if_pos hl];rfl);rw[if_pos tz1,if_neg hl,if_pos tz1];(have e:(zbi l v+1).toNat=(zbi l v).toNat+1:=by omega);rw[e];rfl
theorem bfun_tab (l:List Bd) (v:Int):zem l v=(za3 (zgt l) v).getD (vTy v):=by
 rw[ziY,zem];split
 ·rename_i h
  have hlt:(zbi l v).toNat<l.length:=by
   have h2:l.any (fun b=>b.v==v)=true:=by
    unfold zbi zbE at h;(split at h);(·assumption);omega
   unfold zbi zbE at *;rw[if_pos h2];rw[zH];obtain ⟨x,hx,hxv⟩:=List.any_eq_true.1 h2;exact List.findIdx_lt_length_of_exists ⟨x,hx,hxv⟩
  rw[za hlt];rfl
 rfl
theorem Ty.subM_bfun (l:List Bd):∀t:Ty,t.right=true->t.subM (zgt l)=t.subF (zem l):=by
 refine Ty.ind fun t ih hr=>?_
 by_cases hk:t.k=1
 ·rw[Ty.subF_var hk,bfun_tab]
  cases hp:za3 (zgt l) t.n with
  | some x=>rw[Ty.subM_yes hk hp];rfl
  | none =>
   have e:=Ty.right_var hr hk;rw[Ty.subM_no (by rw[hp];simp),e];rfl
 rw[Ty.subM_no (fun h=>hk h.1),Ty.subF_more hk];(congr 1);exact List.map_congr_left fun p hp=>ih p hp (Ty.right_part hr hp)
theorem zkd {α:Type} {C:List α->Prop} (h0:C []) (h1:∀l x,C l->C (l++[x])) (l:List α):C l:=by
 have h:∀k:List α,C k.reverse:=by
  intro k
  induction k with
  | nil=>exact h0
  | cons x k ih=>rw[List.reverse_cons];exact h1 _ _ ih
 have:=h l.reverse
 rwa [List.reverse_reverse] at this
def zme (a b:List Bd):List Bd:=a.map (fun x=>⟨x.v,x.t.sub b⟩)++b.filter fun x=>decide (zbi a x.v<0)
theorem zji {o:List Bd} {n:Int} {b:Ty} (h:n∉o.map Bd.v):zme o [⟨n,b⟩]=subB n b o:=by
 unfold zme subB;rw[List.filter_cons_of_pos (by simp[zis h])];rfl
theorem addV_nd {l:List Int} {n:Int} (h:l.Nodup):(zg6 l n).Nodup:=by
 unfold zg6;split;(·exact h);(rename_i hn);rw[List.nodup_append];refine ⟨h,by simp,?_⟩;rintro a ha b hb rfl;(simp at hb;subst hb);exact hn (List.any_eq_true.2 ⟨a,ha,by simp⟩)
theorem Ty.rvars_nd:∀(t:Ty) (l:List Int),l.Nodup->(t.rvars l).Nodup:=by
 refine Ty.ind fun t ih l hl=>?_;rw[Ty.rvars_eq]
 have key:∀ps:List Ty,(∀p∈ps,∀l:List Int,l.Nodup->(p.rvars l).Nodup)->∀l:List Int,l.Nodup->(Ty.rvarsL ps l).Nodup:=by
  intro ps
  induction ps with
  | nil=>intro _ l hl;exact hl
  | cons p ps ih2 =>
   intro h l hl;rw[Ty.rvarsL];exact ih2 (fun q hq=>h q (by simp[hq])) _ (h p tz4 l hl)
 refine key t.ps ih _ ?_;split;(·exact addV_nd hl);exact hl
def zby (es:List (Ty×Ty)):List Int:=es.foldl (fun v e=>e.2.rvars (e.1.rvars v)) []
theorem zd9 (es:List (Ty×Ty)) (e:Ty×Ty):zby (es++[e])=e.2.rvars (e.1.rvars (zby es)):=by simp[zby,List.foldl_append]
theorem zdJ (es:List (Ty×Ty)):(zby es).Nodup/\∀v,v∈zby es↔OccE es v:=by
 induction es using zkd with
 | h0=>exact ⟨List.nodup_nil,fun v=>⟨fun h=>(by cases h),fun ⟨e,he,_⟩=>(by cases he)⟩⟩
 | h1 es e ih =>
  rw[zd9];refine ⟨Ty.rvars_nd _ _ (Ty.rvars_nd _ _ ih.1),fun v=>?_⟩;rw[Ty.mem_rvars,Ty.mem_rvars,ih.2];unfold OccE;constructor
  ·rintro ((⟨x,hx,h⟩ | h) | h)
   (·exact ⟨x,List.mem_append_left _ hx,h⟩);(·exact ⟨e,by simp,.inl h⟩);exact ⟨e,by simp,.inr h⟩
  rintro ⟨x,hx,h⟩;(rcases zD.1 hx with hx | hx);(·exact .inl (.inl ⟨x,hx,h⟩));(simp at hx;subst hx);(rcases h with h | h);(·exact .inl (.inr h));exact .inr h
theorem zhh (es:List (Ty×Ty)):(zby es).length<=(es.map fun e=>e.1.cnt+e.2.cnt).sum:=by
 induction es using zkd with
 | h0=>simp[zby]
 | h1 es e ih =>
  rw[zd9];have h1:=e.2.rvars_len (e.1.rvars (zby es));have h2:=e.1.rvars_len (zby es);simp only[zu,zt,zW,List.sum_append,List.sum_cons,List.sum_nil];omega
def zjX (v:Int) (o:List Int):List Int:=o.takeWhile (fun x=>decide (x<v))++v::o.dropWhile (fun x=>decide (x<v))
theorem zkN {v x:Int} {o:List Int}:x∈zjX v o↔x=v\/x∈o:=by
 unfold zjX;have e:=List.takeWhile_append_dropWhile (p:=fun x=>decide (x<v)) (l:=o);constructor
 ·intro h
  (rcases zD.1 h with h | h);(·exact .inr (by rw[<- e];exact List.mem_append_left _ h));(rcases zE.1 h with h | h);(·exact .inl h);exact .inr (by rw[<- e];exact List.mem_append_right _ h)
 rintro (rfl | h);(·simp);rw[<- e] at h;(rcases zD.1 h with h | h);(·exact List.mem_append_left _ h);exact List.mem_append_right _ (List.mem_cons_of_mem _ h)
theorem insV_len (v:Int) (o:List Int):(zjX v o).length=o.length+1:=by
 have e:=congrArg List.length (List.takeWhile_append_dropWhile (p:=fun x=>decide (x<v)) (l:=o));rw[zi] at e;simp only[zjX,zi,zz];omega
theorem zfW {v:Int}:∀{o:List Int},o.Pairwise (· < ·)->v∉o->(zjX v o).Pairwise (· < ·)
 | [],_,_=>by simp[zjX]
 | x::o,h,hv=>by
  rw[List.pairwise_cons] at h;simp only[zE,not_or] at hv
  by_cases hx:x<v
  ·have e:zjX v (x::o)=x::zjX v o:=by simp[zjX,hx]
   rw[e,List.pairwise_cons];refine ⟨fun y hy=>?_,zfW h.2 hv.2⟩;(rcases zkN.1 hy with rfl | hy);(·exact hx);exact h.1 y hy
  (have e:zjX v (x::o)=v::x::o:=by simp[zjX,hx]);(have hlt:v<x:=by omega);rw[e,List.pairwise_cons];refine ⟨fun y hy=>?_,List.pairwise_cons.2 h⟩;(rcases zE.1 hy with rfl | hy);(·exact hlt);have:=h.1 y hy;omega
def zaT (l:List Int):List Int:=l.foldl (fun o v=>zjX v o) []
theorem zlN {l:List Int} {s:Nat} {v:Int} (h:l[s]?=some v):zaT (l.take (s+1))=zjX v (zaT (l.take s)):=by
 rw[zM,h];simp[zaT,List.foldl_append]
theorem zfI (l:List Int):(zaT l).length=l.length/\(∀v,v∈zaT l↔v∈l)/\(l.Nodup->(zaT l).Pairwise (· < ·)):=by
 induction l using zkd with
 | h0=>exact ⟨rfl,fun v=>Iff.rfl,fun _=>.nil⟩
 | h1 l v ih =>
  (have e:zaT (l++[v])=zjX v (zaT l):=by simp[zaT,List.foldl_append]);rw[e];refine ⟨by rw[insV_len,ih.1];simp,fun x=>?_,fun hn=>?_⟩;(·rw[zkN,ih.2.1];simp[or_comm]);rw[List.nodup_append] at hn;exact zfW (ih.2.2 hn.1) fun h=>hn.2.2 v ((ih.2.1 v).1 h) v tz4 rfl
theorem zhc {p:Int->Bool}:∀{o:List Int} {k:Nat},(∀i x,i<k->o[i]?=some x->p x=true)->k<=o.length->(k=o.length\/∃x,o[k]?=some x/\p x=false)->o.takeWhile p=o.take k/\o.dropWhile p=o.drop k
 | [],k,_,hk,_=>by simp at hk;subst hk;simp
 | y::o,0,_,_,h=>by
  (rcases h with h | ⟨x,h1,h2⟩);·simp at h
  simp at h1;subst h1;simp[List.takeWhile,List.dropWhile,h2]
 | y::o,k+1,h,hk,h2=>by
  have h0:p y=true:=h 0 y tz1 rfl;obtain ⟨e1,e2⟩:=zhc (o:=o) (k:=k) (fun i x hi hx=>h (i+1) x tz1 hx) (by simpa using hk) (by simpa using h2);simp[List.takeWhile,List.dropWhile,h0,e1,e2]
end Go.Proofs.YtpfiliamceimmaaGreatDoor
namespace Go.Proofs.YtpfiliamceimmaaGreatDoor
open Go Go.RowKit
attribute [local irreducible] aops zaA
theorem APure.le {P:Program} {f:Nat} {args args':List AV} {x:AV} (h:APure P f args' x) (hl:LeL args args') (hd:DataL args):APure P f args x:=⟨hd,h.2.1,h.2.2.args hl⟩
theorem bfind_get {l:List Bd} {n:Int} (h:0<=zbi l n):∃b:Bd,l[(zbi l n).toNat]?=some b/\b.v=n:=by
 unfold zbi zbE at h ⊢;split at h
 ·rename_i ha
  rw[if_pos ha,zH];have h2:=List.findIdx_lt_length_of_exists (List.any_eq_true.1 ha);have h3:=List.findIdx_getElem (w:=h2);exact ⟨_,za h2,by simpa using h3⟩
 omega
theorem zgi (l:List Bd) (n:Int):APure Tryz.prog 71 [.sl 4 (l.map Bd.cells),.v (.int .i64 n)] (.v (.int .i64 (zbi l n))):=by
  refine APure.mkL (.cons (Bd.dataSl l) (.cons (.v _) .nil)) (.v _) ?_;refine aIn Tryz.func71 fun hm=>?_;simp only[Tryz.ntmps71,Tryz.results71,go_sem,seval];have hm1:=hm.len (sz:=4) (xs:=l.map Bd.cells) tz4;rw[zx] at hm1;refine sqD ?_;refine z6 fun _ y=>?_;refine sqD ?_;apply zac;refine zai (σ:=Nat) (mB 20 35) (fun s=>s<=l.length/\∀(i:Nat) (b:Bd),i<s->l[i]?=some b->(b.v==n)=false) (fun s=>[(5,.v (.int .i64 (s:Int)))]) (fun s=>[]) (fun s=>l.length-s) 0 (⟨by omega,fun i p hi=>by omega⟩) ?_ (fun s hs=>?_)
  ·
   simp only[go_sem,seval];exact zaL
  simp only[go_sem,seval];refine z6 fun _ u=>?_;refine sqD ?_;apply z8 rfl <;> intro hb9
  ·
   (have hk:s<l.length:=by simpa using hb9);obtain ⟨p,hp⟩:∃p,l[s]?=some p:=⟨_,za hk⟩;have hw:IntKind.i64.wrap ((s:Int)+1)=(s:Int)+1:=zal tz1 (by simp only[maxLen] at hm1;omega);apply zaa;apply u;refine z6 fun _ u=>?_;apply zac;refine sqR fun _ w=>?_;refine chS 4 ?_ (by intro _ q;simp only[↓bO,go_sem,seval,hk,gM hp];exact q);simp only[↓bO,go_sem,seval,Bd.take1,Bd.cells_len];apply w;apply z8 rfl <;> intro hb18
   ·
    refine sqD ?_;apply zab;(try simp only[go_sem]);refine Le.of_eq (congrArg (fun b=>AV.v (.int .i64 b)) ?_);first | (exact (zbl hp (by exact hb18) hs.2).symm) | (exact (zbT fun i p hi hp=>hs.2 i p tz1 hp).symm)
   apply zaa;apply u;apply z7;simp only[↓bO,go_sem,seval,hw];refine ⟨(s+1),⟨by omega,fun i p' hi h1=>(by rcases zG i s with h3 | h3 <;> first | exact hs.2 i p' h3 h1 | (obtain rfl:i=s:=tz1;rw[hp] at h1;cases h1;exact hb18))⟩,by omega,?_⟩;simp only[zar,zas,zah,zam,mB,seval,zj,zh];exact zaL
  (have hk:s=l.length:=by have:=hs.1;simp at hb9;omega);apply zak;simp only[zao,zaj,zaf,bA,Nat.reduceEqDiff,↓reduceIte];apply y;refine sqD ?_;apply zab;(try simp only[go_sem]);refine Le.of_eq (congrArg (fun b=>AV.v (.int .i64 b)) ?_);first | (exact (zbl hp (by exact hb18) hs.2).symm) | (exact (zbT fun i p hi hp=>hs.2 i p tz1 hp).symm)
theorem zbo:∀(T:Ty) (l:List Bd) (hT:T.cnt<=1099511627776),APure Tryz.prog 34 [.sl 4 (l.map Bd.cells),.agg T.cells] (.agg (T.sub l).cells):=by
  refine Ty.ind fun T ih=>?_;intro l hT;refine APure.mkL (.cons (Bd.dataSl l) (.cons T.dataAgg .nil)) ((Ty.dataAgg _)) ?_;refine aIn Tryz.func34 fun hm=>?_;simp only[Tryz.ntmps34,Tryz.results34,go_sem,seval];have hcn:=T.cnt_eq;have hcl:=Ty.cntL_len T.ps;simp only[Ty.cells_eq T,zw,zB];refine sqD ?_;refine zi4 (mB 44 25) ([]) ([]) (¬(T.k=1/\0<=zbi l T.n)) ?_ (fun hN=>?_)
  ·
   refine sqD ?_;apply z8 rfl <;> intro hb10
   ·
    (have h10:T.k=1:=by simpa using hb10);refine sqR fun _ u=>?_;refine chS 3 ?_;refine zZ 1 fun _ y=>?_;simp only[↓bO,go_sem,seval];refine APure.call (zgi l T.n) ?_;apply y;clear y;simp only[↓bO,go_sem,seval];apply u;refine sqD ?_;apply z8 rfl <;> intro hb16
    ·
     (have h16:0<=zbi l T.n:=by simpa using hb16);obtain ⟨b,hb,hbi⟩:=bfind_get h16;(have hbl:zbi l T.n<(l.length:Int):=by have:=(zb.1 hb).1;omega);refine sqR fun _ u=>?_;refine chS 3 ?_ (by intro _ q;simp only[↓bO,go_sem,seval,h16,hbl,zgo hb];exact q);simp only[↓bO,go_sem,seval,Bd.drop1,h16];apply u;apply zab;(try simp only[zao,zaj,zaf,zdg,zcC,za0,bS,bA,zaS,zav,zbP,bL,Nat.reduceAdd,Nat.reduceLeDiff,Nat.reduceEqDiff,↓reduceIte,zeh,tyX,Bd.take1,Bd.drop1,Bd.cells_len,Bd.one,h16,hbl,zgo hb]);refine Le.agg ?_;first | (rw[Ty.sub_yes h10 h16 hb];exact LeL.refl _) | (rw[Ty.sub_no hN,Ty.cells_eq,hk,zI];exact ⟨.refl _,.refl _,Le.oslL,trivial⟩)
    (have hN:¬(T.k=1/\0<=zbi l T.n):=fun h9=>by simp at hb16;omega);apply zaa;(try simp only[go_sem]);(try simp only[zar,zas,zah,zam,mB,seval]);refine ⟨hN,?_⟩;exact zh9
   (have hN:¬(T.k=1/\0<=zbi l T.n):=fun h9=>by simp[h9.1] at hb10);apply zaa;(try simp only[go_sem]);(try simp only[zar,zas,zah,zam,mB,seval]);refine ⟨hN,?_⟩;exact zh9
  simp only[zar,zas,zah,zam,mB,seval];(iterate 2 (refine z6 fun _ u=>?_;apply z7;simp only[↓bO,go_sem,seval];apply u));refine z6 fun _ u=>?_;refine sqD ?_;apply zac;refine zaH (Weak.tokCell 28 3 (id:=2) (t:=28) [.v (.int .i64 T.k),.v (.int .i64 T.n),.osl 3 3 []] rfl ⟨.inl (.refl _),.inl (.refl _),.inr ⟨rfl,rfl⟩,trivial⟩) ?_;simp only[zam,Nat.reduceEqDiff,↓reduceIte];refine zai (σ:=Nat) (mB 44 217) (fun s=>s<=T.ps.length) (fun s=>[(7,.v (.int .i64 (s:Int)))]) (fun s=>[(2,.cells 28 [.v (.int .i64 T.k),.v (.int .i64 T.n),.osl 3 3 (((T.ps.take s).map (Ty.sub l)).map Ty.cells)]),(3,.tok 28 3 s)]) (fun s=>T.ps.length-s) 0 tz1 ?_ (fun s hs=>?_)
  ·
   simp only[go_sem,seval,bL];exact zaL
  simp only[go_sem,seval];refine z6 fun _ w=>?_;refine sqR fun _ z=>?_;refine chS 3 ?_;simp only[↓bO,go_sem,seval];apply z;apply z8 rfl <;> intro hb28
  ·
   (have hk:s<T.ps.length:=by simpa using hb28);obtain ⟨p,hp⟩:∃p,T.ps[s]?=some p:=⟨_,za hk⟩;have hpm:=Ty.cnt_mem (zc hp);have hw:IntKind.i64.wrap ((s:Int)+1)=(s:Int)+1:=zal tz1 tz1;(have hln:(((T.ps.take s).map (Ty.sub l)).map Ty.cells).length=s:=by simp;omega);(have hb1:(s+1) * 40<=140737488355328:=by omega);(have hb2:s+1<=maxLen:=by simp only[maxLen];omega);apply zaa;apply w;refine z6 fun _ w=>?_;apply zac;refine zay 10 mixed tz0 fun J0 j0=>?_;(iterate 2 (simp only[go_sem];refine zae 3 fun _ y=>?_;simp only[↓zaA,↓dOp,↓bO,go_sem,seval,hk];apply y;clear y));simp only[go_sem];refine zae 2 fun _ y=>?_;simp only[↓zaA,↓dOp,↓bO,go_sem,seval,hk,gM hp];apply y;clear y;refine zae 1 fun _ y=>?_;simp only[↓zaA,↓dOp,↓bO,go_sem,seval];refine ⟨_,ih p (zc hp) l tz1,?_⟩;apply y;clear y;simp only[↓zaA,↓dOp,↓bO,go_sem,seval,↓zfk];refine j0 _ ?_;clear j0 J0;simp only[go_sem];simp only[↓bO,go_sem,seval,hln,hb1,hb2];apply w;apply z7;simp only[↓bO,go_sem,seval,hw];refine ⟨(s+1),tz1,by omega,?_⟩;simp only[zar,zas,zah,zam,mB,seval,zj,zh,zu,bL,zaM (Ty.sub l) hp];exact zaL
  (have hk:s=T.ps.length:=by simp at hb28;omega);apply zak;simp only[zao,zaj,zaf,bA,Nat.reduceEqDiff,↓reduceIte];apply u;refine sqD ?_;apply zab;(try simp only[zao,zaj,zaf,zdg,zcC,za0,bS,bA,zaS,zav,zbP,bL,Nat.reduceAdd,Nat.reduceLeDiff,Nat.reduceEqDiff,↓reduceIte,zeh,tyX,Bd.take1,Bd.drop1,Bd.cells_len,Bd.one]);refine Le.agg ?_;first | (rw[Ty.sub_yes h10 h16 hb];exact LeL.refl _) | (rw[Ty.sub_no hN,Ty.cells_eq,hk,zI];exact ⟨.refl _,.refl _,Le.oslL,trivial⟩)
theorem zlk (a b:List Bd):APure Tryz.prog 14 [.sl 4 (a.map Bd.cells),.sl 4 (b.map Bd.cells)] (.v (.bool (zjC a b))):=by
  refine APure.mkL (.cons (Bd.dataSl a) (.cons (Bd.dataSl b) .nil)) (.v _) ?_;refine aIn Tryz.func14 fun hm=>?_;simp only[Tryz.ntmps14,Tryz.results14,go_sem,seval];have hm1:=hm.len (sz:=4) (xs:=a.map Bd.cells) tz4;rw[zx] at hm1;refine sqD ?_;refine z6 fun _ w=>?_;refine sqR fun _ z=>?_;refine chS 3 ?_;simp only[↓bO,go_sem,seval];apply z;apply z8 rfl <;> intro hb10
  ·
   refine sqD ?_;apply zab;(try simp only[go_sem]);refine Le.of_eq (congrArg (fun b=>AV.v (.bool b)) ?_);unfold zjC;first | (rw[zeq (ps:=a) (qs:=b) (by simp at hb10;omega)];done) | (have h9:(p.v==q.v&&p.t.same q.t)=false:=(by first | (have h8:=hb41;simp at h8;simp[h8];done) | (have h8:=hc28;simp at h8;simp[h8];done));rw[zcM (f:=fun x y:Bd=>x.v==y.v&&x.t.same y.t) hp hq h9];done) | (rw[zcS hl fun k p q hp hq=>hs.2 k p q (by have:=(zb.1 hp).1;omega) hp hq];done)
  (have hl:a.length=b.length:=by simp at hb10;omega);apply zaa;apply w;refine z6 fun _ w=>?_;refine sqD ?_;apply zac;refine zai (σ:=Nat) (mB 42 35) (fun s=>s<=a.length/\∀(k:Nat) (x y:Bd),k<s->a[k]?=some x->b[k]?=some y->(x.v==y.v&&x.t.same y.t)=true) (fun s=>[(5,.v (.int .i64 (s:Int)))]) (fun s=>[]) (fun s=>a.length-s) 0 (⟨by omega,fun k p q hk=>by omega⟩) ?_ (fun s hs=>?_)
  ·
   simp only[go_sem,seval];exact zaL
  simp only[go_sem,seval];refine z6 fun _ z=>?_;refine sqR fun _ j=>?_;refine chS 3 ?_;simp only[↓bO,go_sem,seval];apply j;apply z8 rfl <;> intro hb14
  ·
   (have hk:s<a.length:=by simpa using hb14);obtain ⟨p,hp⟩:∃p,a[s]?=some p:=⟨_,za hk⟩;(have hk2:s<b.length:=by omega);obtain ⟨q,hq⟩:∃q,b[s]?=some q:=⟨_,za hk2⟩;have hw:IntKind.i64.wrap ((s:Int)+1)=(s:Int)+1:=zal tz1 (by simp only[maxLen] at hm1;omega);apply zaa;apply z;refine z6 fun _ z=>?_;apply zac;refine z6 fun _ j=>?_;refine zay 25 mixed tz0 fun J0 j0=>?_;(iterate 4 (simp only[go_sem];refine zae 3 fun _ u=>?_;simp only[↓zaA,↓dOp,↓bO,go_sem,seval,Bd.take1,Bd.cells_len,hk,hk2,gM hp,gM hq];apply u;clear u));simp only[go_sem];refine za5 28 rfl (fun hc28=>?_) (fun hc28=>?_)
   ·
    simp only[go_sem];(iterate 4 (refine zae 3 fun _ u=>?_;simp only[↓zaA,↓dOp,↓bO,go_sem,seval];apply u;clear u));simp only[↓zaA,↓dOp,↓bO,go_sem,seval];refine j0 _ ?_;clear j0 J0;simp only[bL,aops,zao,zaj,zaf];apply j;refine z8 (b:=true) (by first | exact rfl | exact congrArg (fun b=>AV.v (.bool b)) hb41) (fun _=>?_) (fun h=>(by cases h));refine sqD ?_;apply zab;(try simp only[go_sem]);refine Le.of_eq (congrArg (fun b=>AV.v (.bool b)) ?_);unfold zjC;first | (rw[zeq (ps:=a) (qs:=b) (by simp at hb10;omega)];done) | (have h9:(p.v==q.v&&p.t.same q.t)=false:=(by first | (have h8:=hb41;simp at h8;simp[h8];done) | (have h8:=hc28;simp at h8;simp[h8];done));rw[zcM (f:=fun x y:Bd=>x.v==y.v&&x.t.same y.t) hp hq h9];done) | (rw[zcS hl fun k p q hp hq=>hs.2 k p q (by have:=(zb.1 hp).1;omega) hp hq];done)
   simp only[go_sem];(iterate 3 (refine zae 3 fun _ u=>?_;simp only[↓zaA,↓dOp,↓bO,go_sem,seval,Bd.drop1,hk,hk2,gM hp,gM hq];apply u;clear u));refine zae 1 fun _ u=>?_;simp only[↓zaA,↓dOp,↓bO,go_sem,seval];apply u;clear u;refine zae 1 fun _ u=>?_;simp only[↓zaA,↓dOp,↓bO,go_sem,seval];refine ⟨_,zbb p.t q.t,?_⟩;apply u;clear u;simp only[↓zaA,↓dOp,↓bO,go_sem,seval];refine j0 _ ?_;clear j0 J0;simp only[bL,aops,zao,zaj,zaf];apply j;apply z8 rfl <;> intro hb41
   ·
    refine sqD ?_;apply zab;(try simp only[go_sem]);refine Le.of_eq (congrArg (fun b=>AV.v (.bool b)) ?_);unfold zjC;first | (rw[zeq (ps:=a) (qs:=b) (by simp at hb10;omega)];done) | (have h9:(p.v==q.v&&p.t.same q.t)=false:=(by first | (have h8:=hb41;simp at h8;simp[h8];done) | (have h8:=hc28;simp at h8;simp[h8];done));rw[zcM (f:=fun x y:Bd=>x.v==y.v&&x.t.same y.t) hp hq h9];done) | (rw[zcS hl fun k p q hp hq=>hs.2 k p q (by have:=(zb.1 hp).1;omega) hp hq];done)
   apply zaa;apply z;apply z7;simp only[↓bO,go_sem,seval,hw];refine ⟨(s+1),⟨by omega,fun k p' q' hi h1 h2=>(by rcases zG k s with h3 | h3 <;> first | exact hs.2 k p' q' h3 h1 h2 | (obtain rfl:k=s:=tz1;rw[hp] at h1;rw[hq] at h2;cases h1;cases h2;simp at hc28 hb41;simp[hc28,hb41]))⟩,by omega,?_⟩;simp only[zar,zas,zah,zam,mB,seval,zj,zh];exact zaL
  (have hk:s=a.length:=by have:=hs.1;simp at hb14;omega);apply zak;simp only[zao,zaj,zaf,bA,Nat.reduceEqDiff,↓reduceIte];apply w;refine sqD ?_;apply zab;(try simp only[go_sem]);refine Le.of_eq (congrArg (fun b=>AV.v (.bool b)) ?_);unfold zjC;first | (rw[zeq (ps:=a) (qs:=b) (by simp at hb10;omega)];done) | (have h9:(p.v==q.v&&p.t.same q.t)=false:=(by first | (have h8:=hb41;simp at h8;simp[h8];done) | (have h8:=hc28;simp at h8;simp[h8];done));rw[zcM (f:=fun x y:Bd=>x.v==y.v&&x.t.same y.t) hp hq h9];done) | (rw[zcS hl fun k p q hp hq=>hs.2 k p q (by have:=(zb.1 hp).1;omega) hp hq];done)
def sv (l:List Int):List (Int×AV):=l.map fun n=>(n,.v (.int .i64 1))
theorem wrap1:IntKind.i64.wrap 1=1:=zal tz1 tz1
def sObs (l:List Int):List Ob:=[.map (sv l),.cells 130 [.map 0],.cells 54 [.osl 3 1 (l.map intC)],.tok 3 1 l.length]
def SCalls (f:Nat) (args:List AV) (l:List Int) (R:AV) (l1:List Int):Prop :=
 ACalls Tryz.prog f args (zad 0 (sObs l)) 4 fun r os n=>(r=R/\os=zad 0 (sObs l1))/\n=4
theorem zk2:Data (.tup []):=.tup (fun _ h=>by cases h)
end Go.Proofs.YtpfiliamceimmaaGreatDoor
