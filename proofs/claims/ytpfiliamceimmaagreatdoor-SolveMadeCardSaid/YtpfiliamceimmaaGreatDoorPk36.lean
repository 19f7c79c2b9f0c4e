/- packed, part 36 of 47. Conditions: none. -/
import Derived.Test.YtpfiliamceimmaaGreatDoorPk35
set_option linter.unusedVariables false
set_option linter.unusedSimpArgs false
set_option maxRecDepth 100000
set_option maxHeartbeats 4000000
namespace Go.Proofs.YtpfiliamceimmaaGreatDoor
open Go Go.RowKit
attribute [local irreducible] aops zaz
theorem eqF_len:∀(l:List (Ty×Ty)) ,(eqF l).2.length=l.length:=by
 suffices h:∀(n:Nat) (l:List (Ty×Ty)),l.length=n->(eqF l).2.length=l.length from fun l=>h l.length l rfl
 intro n
 induction n with
 | zero =>
  intro l hl;have:l=[]:=List.length_eq_zero_iff.1 hl
  subst this;rfl
 | succ n ih =>
  intro l hl;(have hne:l≠[]:=fun e=>by rw[e] at hl;simp at hl);obtain ⟨d,e,rfl⟩:∃d e,l=d++[e]:=⟨l.dropLast,l.getLast hne,(List.dropLast_concat_getLast hne).symm⟩;rw[zaS];simp only[zdt,zh,zy,zH];rw[ih d (by simp at hl;omega)]
theorem zhz:∀(l:List (Ty×Ty)) ,(eqF l).1.length<=zbz l:=by
 suffices h:∀(n:Nat) (l:List (Ty×Ty)),l.length=n->(eqF l).1.length<=zbz l from fun l=>h l.length l rfl
 intro n
 induction n with
 | zero =>
  intro l hl;have:l=[]:=List.length_eq_zero_iff.1 hl
  subst this;simp[eqF]
 | succ n ih =>
  intro l hl;(have hne:l≠[]:=fun e=>by rw[e] at hl;simp at hl);obtain ⟨d,e,rfl⟩:∃d e,l=d++[e]:=⟨l.dropLast,l.getLast hne,(List.dropLast_concat_getLast hne).symm⟩;rw[zaS,zcn];simp only[zdt];have h1:=ih d (by simp at hl;omega);have h2:=e.1.radd_len (eqF d).1;have h3:=e.2.radd_len (e.1.radd (eqF d).1).1;omega
theorem eqF_take {l:List (Ty×Ty)} {s:Nat} {e:Ty×Ty} (h:l[s]?=some e):eqF (l.take (s+1))=((e.2.radd (e.1.radd (eqF (l.take s)).1).1).1,(eqF (l.take s)).2++[((e.1.radd (eqF (l.take s)).1).2,(e.2.radd (e.1.radd (eqF (l.take s)).1).1).2)]):=by
 rw[zV,h];exact zaS _ _
theorem nat2_at {l:List (Int×Int)} {s a b:Nat} (h:l[s]?=some ((a:Int),(b:Int))):(zb5 l)[s]?=some (a,b):=by
 simp[zb5,zP,h]
theorem HeldC.next {E:List (Nat×Nat)} {c:List Int} {s a b:Nat} (h:HeldC (E.take s) c) (he:E[s]?=some (a,b)) (ha:a<c.length) (hb:b<c.length):HeldC (E.take (s+1)) (zct c a b):=by
 rw[zV,he];intro e hm;(rcases zE.1 hm with hm | hm);(·exact h.join a b e hm);simp at hm;subst hm;exact zgl ha hb
theorem sameC_in {c:List Int} {a b:Nat} (ha:a<c.length) (hb:b<c.length):(ziF c (a:Int) (b:Int)=true↔c[a]?=c[b]?):=by
 classical
 unfold ziF;rw[zd,zG,zG];constructor;(·exact fun h=>h.2.2);exact fun h=>⟨⟨by omega,by omega⟩,⟨by omega,by omega⟩,h⟩
structure CLoop (M:List RNode) (E:List (Nat×Nat)) (c0:List Int) (p:List Int×Bool):Prop where
 col:Col M E p.1
 held:HeldC E p.1
 eq:p.2=false->p.1=c0
 lt:p.2=true->ndC p.1<ndC c0
theorem CLoop.le {M:List RNode} {E:List (Nat×Nat)} {c0:List Int} {p:List Int×Bool} (h:CLoop M E c0 p):ndC p.1<=ndC c0:=by
 cases hp:p.2 with
 | false=>rw[h.eq hp];exact zQ _
 | true=>exact Nat.le_of_lt (h.lt hp)
theorem CLoop.join {M:List RNode} {E:List (Nat×Nat)} {c0:List Int} {p:List Int×Bool} (h:CLoop M E c0 p) {a b:Nat} (ha:a<M.length) (hb:b<M.length) (hc:Cl (shR M) E a b) (hne:¬p.1[a]?=p.1[b]?):CLoop M E c0 (zct p.1 a b,true):=by
 have hl:=h.col.len;refine ⟨h.col.join ha hb hc,h.held.join a b,fun e=>(by cases e),fun _=>?_⟩;exact Nat.lt_of_lt_of_le (ndC_join tz1 tz1 hne) h.le
theorem CLoop.end' {M:List RNode} {E:List (Nat×Nat)} {c0:List Int} {p:List Int×Bool} (h:CLoop M E c0 p):2 * ndC p.1+p.2.toNat<2 * ndC c0+1:=by
 cases hp:p.2 with
 | false=>rw[h.eq hp];simp
 | true=>have:=h.lt hp;simp only[Bool.toNat_true];omega
theorem RNode.oneData (g:List RNode) (c:List Int):Data (.agg [.sl 4 (g.map RNode.cells),.sl 1 (c.map intC)]):=.agg (.cons (RNode.dataSl g) (.cons (zap c) .nil))
theorem Close_c (es:List EqT) (M:List RNode) (P:List (Int×Int)) (hF:eqF (es.map EqT.p)=(M,P)) (hsum:zbz (es.map EqT.p)<=160) (hMok:MOk M) (hP:∀p∈P,(0<=p.1/\p.1<(M.length:Int))/\0<=p.2/\p.2<(M.length:Int)) (h8:∀x∈M,x.parts.length<=8) :
    ACalls Tryz.prog 37 [.sl 8 (es.map EqT.cells)] [] 0 fun r os n=>(∃c,ColF M (zb5 P) c/\r=.agg [.sl 4 (M.map RNode.cells),.sl 1 (c.map intC)]/\os=[])/\n=0:=by
  refine ACalls.clean (C:=fun r os=>∃c,ColF M (zb5 P) c/\r=.agg [.sl 4 (M.map RNode.cells),.sl 1 (c.map intC)]/\os=[]) ?_;refine aIn Tryz.func37 fun hm=>?_;simp only[Tryz.ntmps37,Tryz.results37,go_sem,seval];have hm1:=zdj (es.map EqT.p);rw[zD] at hm1;have hMl:=zhz (es.map EqT.p);rw[hF] at hMl;have hPl:=eqF_len (es.map EqT.p);rw[hF,zD] at hPl;dsimp only at hMl hPl;(iterate 3 (refine zY fun _ j=>?_;apply z6;simp only[↓bO,go_sem,seval];apply j));refine zY fun _ j=>?_;refine sqD ?_;apply zaa;refine zaC (Weak.tokSlot 4 108 2 rfl) ?_;simp only[go_sem];refine zah (σ:=Nat) (mB 179 61) (fun s=>s<=es.length) (fun s=>[(3,.sl 4 ((eqF ((es.map EqT.p).take s)).1.map RNode.cells)),(4,.osl 1 2 ((eqF ((es.map EqT.p).take s)).2.map pC)),(5,.v (.int .i64 (s:Int)))]) (fun s=>[(1,.tok 108 2 s)]) (fun s=>es.length-s) 0 tz1 ?_ (fun s hs=>?_)
  ·
   simp only[go_sem,seval,bL,eqF,List.foldl_nil];exact Weak.mk (by simp only[go_sem,Le.refl,Le.any,Le.slNil,zp,zi]) (fun _ _ h=>h) rfl rfl
  simp only[go_sem,seval];refine zY fun _ g=>?_;refine sqR fun _ d=>?_;refine chS 2 ?_;simp only[↓bO,go_sem,seval];apply d;apply z7 rfl <;> intro hb18
  ·
   (have hk:s<es.length:=by simpa using hb18);obtain ⟨e,he⟩:∃e,es[s]?=some e:=⟨_,za hk⟩;(have hep:(es.map EqT.p)[s]?=some e.p:=by rw[zP,he];rfl);have hEs:=eqF_take hep;have hst:=zc0 (es.map EqT.p) (s+1);rw[zV,hep] at hst;rw[show (some e.p).toList=[e.p] from rfl,zcn] at hst;simp only[EqT.p] at hst hEs;have hml:=zhz ((es.map EqT.p).take s);have hrl:=e.l.radd_len (eqF ((es.map EqT.p).take s)).1;have hw:IntKind.i64.wrap ((s:Int)+1)=(s:Int)+1:=zak tz1 tz1;(have hln:(eqF ((es.map EqT.p).take s)).2.length=s:=by rw[eqF_len];simp;omega);(have hb1:(s+1) * 16<=140737488355328:=by omega);(have hb2:s+1<=maxLen:=by simp only[maxLen];omega);apply zab;apply g;refine zY fun _ g=>?_;apply zaa;refine sqR fun _ d=>?_;(iterate 3 (refine chS 2 ?_ (by intro _ q;simp only[↓bO,go_sem,seval,hk,gM he,EqT.cells,Ty.refold];exact q)));refine zZ 1 fun _ w=>?_;simp only[↓bO,go_sem,seval];refine APure.call (ziA e.l (eqF ((es.map EqT.p).take s)).1 tz1) ?_;(iterate 2 (apply w;clear w;refine zZ 2 fun _ w=>?_;simp only[↓bO,go_sem,seval]));apply w;clear w;simp only[↓bO,go_sem,seval];apply d;refine sqR fun _ d=>?_;(iterate 3 (refine chS 2 ?_ (by intro _ q;simp only[↓bO,go_sem,seval,hk,gM he,EqT.cells,Ty.refold];exact q)));refine zZ 1 fun _ w=>?_;simp only[↓bO,go_sem,seval];refine APure.call (ziA e.r (e.l.radd (eqF ((es.map EqT.p).take s)).1).1 tz1) ?_;(iterate 2 (apply w;clear w;refine zZ 2 fun _ w=>?_;simp only[↓bO,go_sem,seval]));apply w;clear w;simp only[↓bO,go_sem,seval];apply d;refine sqD ?_;apply z6;(iterate 2 (refine chS 2 ?_));refine chS 2 ?_ (by intro _ q;simp only[↓bO,go_sem,seval,↓zkX,hln,hb1,hb2];exact q);simp only[↓bO,go_sem,seval];apply g;apply z6;refine chS 2 ?_ (by intro _ q;simp only[↓bO,go_sem,seval,hw];exact q);simp only[↓bO,go_sem,seval];refine ⟨(s+1),tz1,by omega,?_⟩;simp only[zar,zas,zag,zal,mB,seval,zj,zi,zp];refine Weak.sub ?_ ⟨rfl,rfl,trivial⟩ tz2 tz2 ?_ ?_
   ·
    simp only[EqT.p] at hEs ⊢;simp only[go_sem,Le.refl,Le.any,hEs,zz,zu,zS,pC]
   (· repeat' first | exact trivial | exact .any _ | exact .ptr tz1 | exact .v _ _ | exact Und.oslP tz1 | exact Und.data (EqT.dataSl _) | exact Und.data (RNode.dataSl _) | exact Und.data (zap _) | (refine ⟨?_,?_⟩));exact ⟨by omega,trivial,by omega,⟨.v _ _,.v _ _,trivial⟩,trivial⟩
  (have hk:s=es.length:=by simp at hb18;omega);subst hk;rw[List.take_of_length_le tz4,hF];dsimp only;apply zaj;simp only[zao,zai,zae,bA,Nat.reduceEqDiff,↓reduceIte];apply j;refine sqR fun _ j=>?_;refine chS 2 ?_;refine zZ 1 fun _ w=>?_;simp only[↓bO,go_sem,seval];refine APure.call (SNew_pure M.length tz1) ?_;apply w;clear w;simp only[↓bO,go_sem,seval];apply j;refine zY fun _ j=>?_;refine sqD ?_;apply zaa;refine zah (σ:=List Int×Nat) (mB 179 1564) (fun s=>Col M (zb5 P) s.1/\HeldC ((zb5 P).take s.2) s.1/\s.2<=P.length) (fun s=>[(9,.sl 1 (s.1.map intC)),(10,.v (.int .i64 (s.2:Int)))]) (fun s=>[]) (fun s=>P.length-s.2) (zcY M.length,0) (⟨Col.range _ _,fun _ h=>(by simp at h),by simp only;omega⟩) ?_ (fun s hs=>?_)
  ·
   simp only[go_sem,seval];exact zaI
  simp only[go_sem,seval];refine zY fun _ g=>?_;refine sqR fun _ d=>?_;refine chS 2 ?_;simp only[↓bO,go_sem,seval];apply d;apply z7 rfl <;> intro hb54
  ·
   (have hk:s.2<P.length:=by simpa using hb54);obtain ⟨p,hp⟩:∃p,P[s.2]?=some p:=⟨_,za hk⟩;have hpb:=hP p (zc hp);obtain ⟨a,b,rfl⟩:∃a b:Nat,p=((a:Int),(b:Int)):=⟨p.1.toNat,p.2.toNat,by ext <;> simp only <;> omega⟩;(have hab:a<M.length/\b<M.length:=by dsimp only at hpb;omega);have hcl:=hs.1.len;have hw:IntKind.i64.wrap ((s.2:Int)+1)=(s.2:Int)+1:=zak tz1 tz1;apply zab;apply g;refine zY fun _ g=>?_;apply zaa;refine zay 12 mixed tz0 fun J0 j0=>?_;(iterate 5 (simp only[go_sem];refine zad 2 fun _ w=>?_;simp only[↓zaz,↓dOp,↓bO,go_sem,seval,hk,gM hp,pC];apply w;clear w));simp only[go_sem];refine zad 1 fun _ w=>?_;simp only[↓zaz,↓dOp,↓bO,go_sem,seval];apply w;clear w;simp only[↓zaz,↓dOp,↓bO,go_sem,seval];refine ⟨_,zgu s.1 a b tz1 tz1 tz1,?_⟩;(try simp only[go_sem]);refine j0 _ ?_;clear j0 J0;simp only[go_sem];simp only[↓bO,go_sem,seval];apply g;apply z6;refine chS 2 ?_ (by intro _ q;simp only[↓bO,go_sem,seval,hw];exact q);simp only[↓bO,go_sem,seval];refine ⟨(zct s.1 a b,s.2+1),⟨hs.1.join hab.1 hab.2 (.base (zc (nat2_at hp))),hs.2.1.next (nat2_at hp) tz1 tz1,by simp only;omega⟩,tz5,?_⟩;simp only[zar,zas,zag,zal,mB,seval,zj,zi,zp];exact zaI
  (have hk:s.2=P.length:=by have h9:=hb54;simp at h9;have:=hs.2.2;omega);(have hheld:HeldC (zb5 P) s.1:=by have h9:=hs.2.1;rw[hk,List.take_of_length_le (by simp[zb5])] at h9;exact h9);apply zaj;simp only[zao,zai,zae,bA,Nat.reduceEqDiff,↓reduceIte];apply j;refine zY fun _ j=>?_;refine sqD ?_;apply zaa;refine zah (σ:=List Int×Bool) (mB 179 2572) (fun t=>Col M (zb5 P) t.1/\HeldC (zb5 P) t.1/\(t.2=false->PAll M t.1 M.length 0)) (fun t=>[(9,.sl 1 (t.1.map intC)),(11,.v (.bool t.2))]) (fun t=>[]) (fun t=>2 * ndC t.1+t.2.toNat) (s.1,true) (⟨hs.1,hheld,fun e=>(by cases e)⟩) ?_ (fun t ht=>?_)
  ·
   simp only[go_sem,seval];exact zaI
  simp only[go_sem,seval];refine zY fun _ g=>?_;refine sqD ?_;apply z7 rfl <;> intro hb69
  ·
   have htt:t.2=true:=hb69;apply zab;apply g;apply zaa;(iterate 2 (refine zY fun _ g=>?_;apply z6;simp only[↓bO,go_sem,seval];apply g));apply zaa;refine zah (σ:=Nat×List Int×Bool) (mB 179 6668) (fun u=>u.1<=M.length/\CLoop M (zb5 P) t.1 u.2/\(u.2.2=false->PAll M u.2.1 u.1 0)) (fun u=>[(9,.sl 1 (u.2.1.map intC)),(11,.v (.bool u.2.2)),(12,.v (.int .i64 (u.1:Int)))]) (fun u=>[]) (fun u=>M.length-u.1) (0,t.1,false) (⟨Nat.zero_le _,⟨ht.1,ht.2.1,fun _=>rfl,fun e=>(by cases e)⟩,fun _=>PAll.zero _ _⟩) ?_ (fun u hu=>?_)
   ·
    simp only[go_sem,seval];exact zaI
   simp only[go_sem,seval];refine zY fun _ g=>?_;refine sqR fun _ d=>?_;refine chS 2 ?_;simp only[↓bO,go_sem,seval];apply d;apply z7 rfl <;> intro hb73
   ·
    (have hki:u.1<M.length:=by simpa using hb73);obtain ⟨x,hxm⟩:∃x,M[u.1]?=some x:=⟨_,za hki⟩;have hw1:IntKind.i64.wrap ((u.1:Int)+1)=(u.1:Int)+1:=zak tz1 tz1;apply zab;apply g;refine zY fun _ g=>?_;apply zaa;refine sqR fun _ d=>?_;simp only[↓bO,go_sem,seval,hki];apply d;apply zaa;refine zah (σ:=Nat×List Int×Bool) (mB 179 14860) (fun v=>v.1<=u.1/\CLoop M (zb5 P) t.1 v.2/\(v.2.2=false->PAll M v.2.1 u.1 v.1)) (fun v=>[(9,.sl 1 (v.2.1.map intC)),(11,.v (.bool v.2.2)),(13,.v (.int .i64 (v.1:Int)))]) (fun v=>[]) (fun v=>u.1-v.1) (0,u.2) (⟨Nat.zero_le _,hu.2.1,hu.2.2⟩) ?_ (fun v hv=>?_)
    ·
     simp only[go_sem,seval];exact zaI
    simp only[go_sem,seval];refine zY fun _ d=>?_;refine sqR fun _ f=>?_;refine chS 2 ?_;simp only[↓bO,go_sem,seval];apply f;apply z7 rfl <;> intro hb78
    ·
     (have hkk:v.1<u.1:=by simpa using hb78);(have hkM:v.1<M.length:=by omega);obtain ⟨y,hym⟩:∃y,M[v.1]?=some y:=⟨_,za hkM⟩;have hcl:=hv.2.1.col.len;obtain ⟨ci,hci⟩:∃z,v.2.1[u.1]?=some z:=⟨_,za tz1⟩;obtain ⟨ck,hck⟩:∃z,v.2.1[v.1]?=some z:=⟨_,za tz1⟩;have hw2:IntKind.i64.wrap ((v.1:Int)+1)=(v.1:Int)+1:=zak tz1 tz1;apply zab;apply d;refine zY fun _ d=>?_;apply zaa;refine zY fun _ f=>?_;refine zY fun _ y4=>?_;refine zay 48 mixed tz0 fun J0 j0=>?_;(iterate 5 (simp only[go_sem];refine zad 2 fun _ w=>?_;simp only[↓zaz,↓dOp,↓bO,go_sem,seval,intC,hki,hkk,hkM,gM hci,gM hck,hcl];apply w;clear w));simp only[go_sem];refine zbd 90 rfl (fun hc90=>?_) (fun hc90=>?_)
     ·
      simp only[go_sem];(have hnc:¬ci=ck:=by simpa using hc90);have hsk:POk M v.2.1 u.1 v.1:=POk.skip hxm hym (by rw[hci,hck];simp[hnc]);(iterate 18 (refine zad 2 fun _ w=>?_;simp only[↓zaz,↓dOp,↓bO,go_sem,seval];apply w;clear w));simp only[↓zaz,↓dOp,↓bO,go_sem,seval];refine j0 _ ?_;clear j0 J0;simp only[bL,aops,zao,zai,zae];apply y4;refine z7 (b:=true) (by first | exact rfl | exact congrArg (fun b=>AV.v (.bool b)) hb128) (fun _=>?_) (fun h=>(by cases h));apply zaj;simp only[zao,zai,zae,bA,Nat.reduceEqDiff,↓reduceIte];apply d;apply z6;refine chS 2 ?_ (by intro _ q;simp only[↓bO,go_sem,seval,hw2];exact q);simp only[↓bO,go_sem,seval];refine ⟨(v.1+1,v.2),⟨by simp only;omega,hv.2.1,fun e=>(hv.2.2 e).next hsk⟩,tz5,?_⟩;simp only[zar,zas,zag,zal,mB,seval,zj,zi,zp];exact zaI
     simp only[go_sem];(have hcc:ci=ck:=by simpa using hc90);(iterate 4 (refine zad 2 fun _ w=>?_;simp only[↓zaz,↓dOp,↓bO,go_sem,seval,hki,gM hxm,RNode.cells];apply w;clear w));refine zad 1 fun _ w=>?_;simp only[↓zaz,↓dOp,↓bO,go_sem,seval];apply w;clear w;refine zbd 99 rfl (fun hc99=>?_) (fun hc99=>?_)
     ·
      simp only[go_sem];(have hk1:x.t.k=1:=by simpa using hc99);have hsk:POk M v.2.1 u.1 v.1:=POk.skip hxm hym (by simp[hk1]);(iterate 14 (refine zad 2 fun _ w=>?_;simp only[↓zaz,↓dOp,↓bO,go_sem,seval];apply w;clear w));simp only[↓zaz,↓dOp,↓bO,go_sem,seval];refine j0 _ ?_;clear j0 J0;simp only[bL,aops,zao,zai,zae];apply y4;refine z7 (b:=true) (by first | exact rfl | exact congrArg (fun b=>AV.v (.bool b)) hb128) (fun _=>?_) (fun h=>(by cases h));apply zaj;simp only[zao,zai,zae,bA,Nat.reduceEqDiff,↓reduceIte];apply d;apply z6;refine chS 2 ?_ (by intro _ q;simp only[↓bO,go_sem,seval,hw2];exact q);simp only[↓bO,go_sem,seval];refine ⟨(v.1+1,v.2),⟨by simp only;omega,hv.2.1,fun e=>(hv.2.2 e).next hsk⟩,tz5,?_⟩;simp only[zar,zas,zag,zal,mB,seval,zj,zi,zp];exact zaI
     simp only[go_sem];(have hk1:x.t.k≠1:=by simpa using hc99);(iterate 7 (refine zad 2 fun _ w=>?_;simp only[↓zaz,↓dOp,↓bO,go_sem,seval,hki,gM hxm,hkM,gM hym,RNode.cells];apply w;clear w));refine zad 1 fun _ w=>?_;simp only[↓zaz,↓dOp,↓bO,go_sem,seval];apply w;clear w;refine zbd 114 rfl (fun hc114=>?_) (fun hc114=>?_)
     ·
      simp only[go_sem];(have hkn:¬x.t.k=y.t.k:=by simpa using hc114);have hsk:POk M v.2.1 u.1 v.1:=POk.skip hxm hym (by simp[hkn]);(iterate 6 (refine zad 2 fun _ w=>?_;simp only[↓zaz,↓dOp,↓bO,go_sem,seval];apply w;clear w));simp only[↓zaz,↓dOp,↓bO,go_sem,seval];refine j0 _ ?_;clear j0 J0;simp only[bL,aops,zao,zai,zae];apply y4;refine z7 (b:=true) (by first | exact rfl | exact congrArg (fun b=>AV.v (.bool b)) hb128) (fun _=>?_) (fun h=>(by cases h));apply zaj;simp only[zao,zai,zae,bA,Nat.reduceEqDiff,↓reduceIte];apply d;apply z6;refine chS 2 ?_ (by intro _ q;simp only[↓bO,go_sem,seval,hw2];exact q);simp only[↓bO,go_sem,seval];refine ⟨(v.1+1,v.2),⟨by simp only;omega,hv.2.1,fun e=>(hv.2.2 e).next hsk⟩,tz5,?_⟩;simp only[zar,zas,zag,zal,mB,seval,zj,zi,zp];exact zaI
     simp only[go_sem];(have hke:x.t.k=y.t.k:=by simpa using hc114);(iterate 6 (refine zad 2 fun _ w=>?_;simp only[↓zaz,↓dOp,↓bO,go_sem,seval,hki,gM hxm,hkM,gM hym,RNode.cells];apply w;clear w));simp only[↓zaz,↓dOp,↓bO,go_sem,seval];refine j0 _ ?_;clear j0 J0;simp only[bL,aops,zao,zai,zae];apply y4;apply z7 rfl <;> intro hb128
     ·
      (have hlt2:¬x.parts.length=y.parts.length:=by (have h9:=hb128;simp at h9;omega));have hsk:POk M v.2.1 u.1 v.1:=POk.skip hxm hym (by simp[hlt2]);apply zaj;simp only[zao,zai,zae,bA,Nat.reduceEqDiff,↓reduceIte];apply d;apply z6;refine chS 2 ?_ (by intro _ q;simp only[↓bO,go_sem,seval,hw2];exact q);simp only[↓bO,go_sem,seval];refine ⟨(v.1+1,v.2),⟨by simp only;omega,hv.2.1,fun e=>(hv.2.2 e).next hsk⟩,tz5,?_⟩;simp only[zar,zas,zag,zal,mB,seval,zj,zi,zp];exact zaI
     (have hln2:x.parts.length=y.parts.length:=by (have h9:=hb128;simp at h9;omega));have hclx:=hv.2.1.col.sub u.1 v.1 hki hkM (by rw[hci,hck,hcc]);have h8x:=h8 x (zc hxm);apply zab;apply f;refine sqD ?_;apply zaa;refine zah (σ:=Nat×List Int×Bool) (mB 179 31244) (fun q=>q.1<=x.parts.length/\CLoop M (zb5 P) t.1 q.2/\(q.2.2=false->PAll M q.2.1 u.1 v.1/\PUp M q.2.1 u.1 v.1 q.1)) (fun q=>[(9,.sl 1 (q.2.1.map intC)),(11,.v (.bool q.2.2)),(14,.v (.int .i64 (q.1:Int)))]) (fun q=>[]) (fun q=>x.parts.length-q.1) (0,v.2) (⟨Nat.zero_le _,hv.2.1,fun e=>⟨hv.2.2 e,PUp.zero _ _ _ _⟩⟩) ?_ (fun q hq=>?_)
     ·
      simp only[go_sem,seval];exact zaI
     simp only[go_sem,seval];refine zY fun _ f=>?_;refine sqR fun _ y4=>?_;(iterate 3 (refine chS 2 ?_ (by intro _ q;simp only[↓bO,go_sem,seval,hki,gM hxm,RNode.cells];exact q)));simp only[↓bO,go_sem,seval];apply y4;apply z7 rfl <;> intro hb136
     ·
      (have hkj:q.1<x.parts.length:=by simpa using hb136);(have hkj2:q.1<y.parts.length:=by omega);obtain ⟨p,hpa⟩:∃p,x.parts[q.1]?=some p:=⟨_,za hkj⟩;obtain ⟨r,hpb⟩:∃r,y.parts[q.1]?=some r:=⟨_,za hkj2⟩;have hpm:=hMok x (zc hxm) p (zc hpa);have hrm:=hMok y (zc hym) r (zc hpb);obtain ⟨a,rfl⟩:∃a:Nat,p=(a:Int):=⟨p.toNat,by omega⟩;obtain ⟨b,rfl⟩:∃b:Nat,r=(b:Int):=⟨r.toNat,by omega⟩;(have haM:a<M.length:=by omega);(have hbM:b<M.length:=by omega);have hcab:Cl (shR M) (zb5 P) a b:=Cl.part hclx (zcV hxm) (by rw[zcV hym,hke]) hk1 hln2 hpa hpb;have hcq:=hq.2.1.col.len;have hsa:=sameC_in (c:=q.2.1) (a:=a) (b:=b) tz1 tz1;have hw3:IntKind.i64.wrap ((q.1:Int)+1)=(q.1:Int)+1:=zak tz1 tz1;apply zab;apply f;refine zY fun _ f=>?_;apply zaa;refine zY fun _ y4=>?_;refine zay 19 mixed tz0 fun J0 j0=>?_;(iterate 8 (simp only[go_sem];refine zad 2 fun _ w=>?_;simp only[↓zaz,↓dOp,↓bO,go_sem,seval,intC,hki,gM hxm,hkM,gM hym,RNode.cells,hkj,hkj2,gM hpa,gM hpb];apply w;clear w));simp only[go_sem];refine zad 1 fun _ w=>?_;simp only[↓zaz,↓dOp,↓bO,go_sem,seval];apply w;clear w;refine zad 1 fun _ w=>?_;simp only[↓zaz,↓dOp,↓bO,go_sem,seval];refine ⟨_,zkV q.2.1 (a:Int) (b:Int),?_⟩;apply w;clear w;simp only[↓zaz,↓dOp,↓bO,go_sem,seval];refine j0 _ ?_;clear j0 J0;simp only[bL,aops,zao,zai,zae];apply y4;apply z7 rfl <;> intro hb157
      ·
       (have hne:¬q.2.1[a]?=q.2.1[b]?:=by (have h9:ziF q.2.1 (a:Int) (b:Int)=false:=by simpa using hb157);exact fun e=>by rw[hsa.2 e] at h9;cases h9);refine zY fun _ y4=>?_;refine zay 18 mixed tz0 fun J0 j0=>?_;(iterate 8 (simp only[go_sem];refine zad 2 fun _ w=>?_;simp only[↓zaz,↓dOp,↓bO,go_sem,seval,intC,hki,gM hxm,hkM,gM hym,RNode.cells,hkj,hkj2,gM hpa,gM hpb];apply w;clear w));simp only[go_sem];refine zad 1 fun _ w=>?_;simp only[↓zaz,↓dOp,↓bO,go_sem,seval];apply w;clear w;simp only[↓zaz,↓dOp,↓bO,go_sem,seval];refine ⟨_,zgu q.2.1 a b tz1 tz1 tz1,?_⟩;(try simp only[go_sem]);refine j0 _ ?_;clear j0 J0;simp only[go_sem];simp only[↓bO,go_sem,seval];apply y4;apply z6;simp only[↓bO,go_sem,seval];apply f;apply z6;refine chS 2 ?_ (by intro _ q;simp only[↓bO,go_sem,seval,hw3];exact q);simp only[↓bO,go_sem,seval];refine ⟨(q.1+1,zct q.2.1 a b,true),⟨by simp only;omega,hq.2.1.join haM hbM hcab hne,fun e=>(by cases e)⟩,tz5,?_⟩;simp only[zar,zas,zag,zal,mB,seval,zj,zi,zp];exact zaI
      (have hsm:q.2.1[a]?=q.2.1[b]?:=by (have h9:ziF q.2.1 (a:Int) (b:Int)=true:=by simpa using hb157);exact hsa.1 h9);apply zab;apply f;apply z6;refine chS 2 ?_ (by intro _ q;simp only[↓bO,go_sem,seval,hw3];exact q);simp only[↓bO,go_sem,seval];refine ⟨(q.1+1,q.2),⟨by simp only;omega,hq.2.1,fun e=>⟨(hq.2.2 e).1,(hq.2.2 e).2.next hxm hym hpa hpb (by simpa using hsm)⟩⟩,tz5,?_⟩;simp only[zar,zas,zag,zal,mB,seval,zj,zi,zp];exact zaI
     (have hkq:q.1=x.parts.length:=by have h9:=hb136;simp at h9;have:=hq.1;omega);apply zaj;simp only[zao,zai,zae,bA,Nat.reduceEqDiff,↓reduceIte];apply d;apply z6;refine chS 2 ?_ (by intro _ q;simp only[↓bO,go_sem,seval,hw2];exact q);simp only[↓bO,go_sem,seval];refine ⟨(v.1+1,q.2),⟨by simp only;omega,hq.2.1,fun e=>(hq.2.2 e).1.next (POk.all hxm (hkq▸(hq.2.2 e).2))⟩,tz5,?_⟩;simp only[zar,zas,zag,zal,mB,seval,zj,zi,zp];exact zaI
    (have hkv:v.1=u.1:=by have h9:=hb78;simp at h9;have:=hv.1;omega);apply zaj;simp only[zao,zai,zae,bA,Nat.reduceEqDiff,↓reduceIte];apply g;apply z6;refine chS 2 ?_ (by intro _ q;simp only[↓bO,go_sem,seval,hw1];exact q);simp only[↓bO,go_sem,seval];refine ⟨(u.1+1,v.2),⟨by simp only;omega,hv.2.1,fun e=>(hkv▸hv.2.2 e).row⟩,tz5,?_⟩;simp only[zar,zas,zag,zal,mB,seval,zj,zi,zp];exact zaI
   (have hku:u.1=M.length:=by have h9:=hb73;simp at h9;have:=hu.1;omega);apply zaj;simp only[zao,zai,zae,bA,Nat.reduceEqDiff,↓reduceIte];refine ⟨u.2,⟨hu.2.1.col,hu.2.1.held,fun e=>hku▸hu.2.2 e⟩,(by have h9:=hu.2.1.end';have h8:t.2.toNat=1:=(by rw[htt];rfl);omega),?_⟩;exact zhS
  have htt:t.2=false:=hb69;apply zaj;simp only[zao,zai,zae,bA,Nat.reduceEqDiff,↓reduceIte];apply j;refine sqR fun _ j=>?_;refine chS 2 ?_;simp only[↓bO,go_sem,seval];apply j;apply z8;(try simp only[zao,zai,zae,zdO,zcw,zbb,bS,bA,za1,zav,zbF,bL,Nat.reduceAdd,Nat.reduceLeDiff,Nat.reduceEqDiff,↓reduceIte,ti70,tyX,zD]);refine ⟨.agg [.sl 4 (M.map RNode.cells),.sl 1 (t.1.map intC)],[],⟨t.1,⟨ht.1,ht.2.1,(ht.2.2 htt).1⟩,rfl,rfl⟩,Und.data (RNode.oneData _ _),trivial,Le.refl _,⟨2,rfl,rfl⟩,by omega⟩
theorem zhk:∀{l:List (Ty×Ty)} {e:Ty×Ty},e∈l->e.1.cnt+e.2.cnt<=zbz l
 | x::l,e,h=>by
  simp only[zbz];(rcases zI.1 h with rfl | h);(·omega);have:=zhk h;omega
theorem Close_at (es:List EqT) (hsum:zbz (es.map EqT.p)<=160) (hr:∀e∈(es.map EqT.p),(e.1.right&&e.2.right)=true) {os:Os} {nx:Nat} {Q:AV->Os->Nat->Prop}
  (hq:∀c,ColF (eqF (es.map EqT.p)).1 (zb5 (eqF (es.map EqT.p)).2) c->(clB (eqF (es.map EqT.p)).1 c=true↔Clashes (es.map EqT.p))->Q (.agg [.sl 4 ((eqF (es.map EqT.p)).1.map RNode.cells),.sl 1 (c.map intC)]) os nx):ACalls Tryz.prog 37 [.sl 8 (es.map EqT.cells)] os nx Q:=by
 obtain ⟨⟨G,hG⟩,hP⟩:=zc7 (es.map EqT.p) fun e he=>by
  have h1:=hr e he;have h2:=zhk he;simp only[zw] at h1;exact ⟨h1.1,h1.2,by omega,by omega⟩
 (have h:=Close_c es _ _ rfl hsum hG.mok hP fun x hx=>hG.parts8 hx);refine ACalls.atE (σ:=List Int) (C:=fun c=>ColF (eqF (es.map EqT.p)).1 (zb5 (eqF (es.map EqT.p)).2) c) (R:=fun c=>.agg [.sl 4 ((eqF (es.map EqT.p)).1.map RNode.cells),.sl 1 (c.map intC)]) (R':=fun c=>.agg [.sl 4 ((eqF (es.map EqT.p)).1.map RNode.cells),.sl 1 (c.map intC)]) (obs:=[]) (obs':=[]) (obs1:=fun _=>[]) (obs1':=fun _=>[]) [] h rfl (fun _=>rfl) tz4 tz4 ⟨.data (EqT.dataSl es),trivial⟩ (fun c=>.data (RNode.oneData _ _)) trivial trivial (fun _=>trivial) (fun c hc=>hq c hc (hc.clash (fun e he=>?_) hG.mok));simp only[zb5,zq] at he;obtain ⟨p,hp,rfl⟩:=he;have:=hP p hp;(simp only);omega
theorem clz5 {p:Prop} (h:p:=by repeat' first | trivial | exact .inr ⟨_,_,_,rfl,rfl,rfl,rfl⟩ | exact .inl (.refl _) | exact .inl (.any _) | (refine ⟨?_,?_⟩)):p:=h
theorem clz6 {p:Prop} (h:p:=by repeat' first | exact trivial | exact .any _ | exact .ptr tz1 | exact .v _ _ | exact Und.data (RNode.dataSl _) | exact Und.data (zap _) | exact Und.data (.eptr (RNode.data _)) | (refine ⟨?_,?_⟩)):p:=h
theorem zk4 (M:List RNode) (c:List Int) (hcl:c.length=M.length) (hMl:M.length<=1048576):APure Tryz.prog 38 [.agg [.sl 4 (M.map RNode.cells),.sl 1 (c.map intC)]] (.v (.bool (clB M c))):=by
  refine APure.mkL (.cons (RNode.oneData M c) .nil) (.v _) ?_;refine aIn Tryz.func38 fun hm=>?_;simp only[Tryz.ntmps38,Tryz.results38,go_sem,seval];refine sqR fun _ w=>?_;refine chS 1 ?_;simp only[↓bO,go_sem,seval];apply w;refine zY fun _ w=>?_;refine sqD ?_;apply zaa;refine zah (σ:=Nat) (mB 70 10) (fun s=>s<=M.length/\NoCl M c s 0) (fun s=>[(3,.v (.int .i64 (s:Int)))]) (fun s=>[]) (fun s=>M.length-s) 0 (⟨Nat.zero_le _,NoCl.zero _ _⟩) ?_ (fun s hs=>?_)
  ·
   simp only[go_sem,seval];exact zaI
  simp only[go_sem,seval];refine zY fun _ g=>?_;refine sqR fun _ d=>?_;(iterate 4 (refine chS 1 ?_));simp only[↓bO,go_sem,seval];apply d;apply z7 rfl <;> intro hb11
  ·
   (have hki:s<M.length:=by simpa using hb11);obtain ⟨x,hxm⟩:∃x,M[s]?=some x:=⟨_,za hki⟩;obtain ⟨ci,hci⟩:∃z,c[s]?=some z:=⟨_,za tz1⟩;have hw1:IntKind.i64.wrap ((s:Int)+1)=(s:Int)+1:=zak tz1 tz1;apply zab;apply g;refine zY fun _ g=>?_;apply zaa;refine sqR fun _ d=>?_;simp only[↓bO,go_sem,seval,hki];apply d;apply zaa;refine zah (σ:=Nat) (mB 70 26) (fun v=>v<=s/\NoCl M c s v) (fun v=>[(4,.v (.int .i64 (v:Int)))]) (fun v=>[]) (fun v=>s-v) 0 (⟨Nat.zero_le _,hs.2⟩) ?_ (fun v hv=>?_)
   ·
    simp only[go_sem,seval];exact zaI
   simp only[go_sem,seval];refine zY fun _ d=>?_;refine sqR fun _ a=>?_;(iterate 2 (refine chS 1 ?_));simp only[↓bO,go_sem,seval];apply a;apply z7 rfl <;> intro hb16
   ·
    (have hkk:v<s:=by simpa using hb16);(have hkM:v<M.length:=by omega);obtain ⟨y,hym⟩:∃y,M[v]?=some y:=⟨_,za hkM⟩;obtain ⟨ck,hck⟩:∃z,c[v]?=some z:=⟨_,za tz1⟩;have hw2:IntKind.i64.wrap ((v:Int)+1)=(v:Int)+1:=zak tz1 tz1;apply zab;apply d;refine zY fun _ d=>?_;apply zaa;refine zbm (mB 70 122) ([(5,.eptr x.cells),(6,.eptr y.cells)]) [(0,.cells 70 [.sl 4 (M.map RNode.cells),.sl 1 (c.map intC)])] 1 (True) ?_ (fun hC=>?_)
    ·
     refine zkI 14 rfl mixed ?_;dsimp only;refine tkH 0 rfl fun _ u=>?_;simp only[↓bO,go_sem,seval,zei,isPE,hkk];apply u;clear u;refine tkH 1 rfl fun _ u=>?_;simp only[↓bO,go_sem,seval,zei,isPE];apply u;clear u;refine tkH 2 rfl fun _ u=>?_;simp only[↓bO,go_sem,seval,zei];apply u;clear u;refine tkH 3 rfl fun _ u=>?_;simp only[↓bO,go_sem,seval,zei,isSE,hki,gM hxm,RNode.cells];apply u;clear u;refine tkH 4 rfl fun _ u=>?_;simp only[↓bO,go_sem,seval,zei,isPE];apply u;clear u;refine tkH 5 rfl fun _ u=>?_;simp only[↓bO,go_sem,seval,zei,isPE];apply u;clear u;refine tkH 6 rfl fun _ u=>?_;simp only[↓bO,go_sem,seval,zei,isPE];apply u;clear u;refine tkH 7 rfl fun _ u=>?_;simp only[↓bO,go_sem,seval,zei];apply u;clear u;refine tkH 8 rfl fun _ u=>?_;simp only[↓bO,go_sem,seval,zei,isSE,RNode.cells,hkM,gM hym];apply u;clear u;refine tkH 9 rfl fun _ u=>?_;simp only[↓bO,go_sem,seval,zei,isPE];apply u;clear u;refine HAny_rest ?_;refine JAny_all2 (i:=10) (j:=11) tz0 ?_ ?_
     ·
      refine zdX rfl rfl rfl rfl tz4 tz3 fun _ u=>?_;simp only[↓bO,go_sem,seval];apply u;clear u;refine zcs (i:=11) tz0 ?_;refine zdX rfl rfl rfl rfl tz4 tz3 fun _ u=>?_;simp only[↓bO,go_sem,seval];apply u;clear u;refine zcs (i:=12) tz0 ?_;refine zd6 rfl rfl rfl rfl tz3 rfl fun _ u=>?_;simp only[↓bO,go_sem,seval];apply u;clear u;refine zcs (i:=13) tz0 ?_;refine zd6 rfl rfl rfl rfl tz3 rfl fun _ u=>?_;simp only[↓bO,go_sem,seval];apply u;clear u;refine zia tz0 ?_;simp only[go_sem];(try simp only[go_sem,seval]);(first | refine ⟨trivial,?_⟩ | skip);refine Weak.freeze ?_ ⟨rfl,trivial⟩ tz2 tz2 ?_ ⟨by omega,⟨Und.data (RNode.dataSl _),Und.data (zap _),trivial⟩,trivial⟩;(· exact clz5);exact clz6
     refine zdX rfl rfl rfl rfl tz4 tz3 fun _ u=>?_;simp only[↓bO,go_sem,seval];apply u;clear u;refine zcs (i:=10) tz0 ?_;refine zdX rfl rfl rfl rfl tz4 tz3 fun _ u=>?_;simp only[↓bO,go_sem,seval];apply u;clear u;refine zcs (i:=12) tz0 ?_;refine zd6 rfl rfl rfl rfl tz3 rfl fun _ u=>?_;simp only[↓bO,go_sem,seval];apply u;clear u;refine zcs (i:=13) tz0 ?_;refine zd6 rfl rfl rfl rfl tz3 rfl fun _ u=>?_;simp only[↓bO,go_sem,seval];apply u;clear u;refine zia tz0 ?_;simp only[go_sem];(try simp only[go_sem,seval]);(first | refine ⟨trivial,?_⟩ | skip);refine Weak.freeze ?_ ⟨rfl,trivial⟩ tz2 tz2 ?_ ⟨by omega,⟨Und.data (RNode.dataSl _),Und.data (zap _),trivial⟩,trivial⟩;(· exact clz5);exact clz6
    simp only[go_sem,seval];refine zY fun _ a=>?_;refine zay 41 mixed tz0 fun J0 j0=>?_;(iterate 12 (simp only[go_sem];refine zad 1 fun _ u=>?_;simp only[↓zaz,↓dOp,↓bO,go_sem,seval,hki,hcl,gM hci,RNode.cells,intC,hkM,gM hck];apply u;clear u));simp only[go_sem];refine zbd 40 rfl (fun hc40=>?_) (fun hc40=>?_)
    ·
     simp only[go_sem];(have hcc:ci=ck:=by simpa using hc40);(iterate 6 (refine zad 1 fun _ u=>?_;simp only[↓zaz,↓dOp,↓bO,go_sem,seval];apply u;clear u));refine zbd 46 rfl (fun hc46=>?_) (fun hc46=>?_)
     ·
      simp only[go_sem];(have hk1:x.t.k≠1:=by simpa using hc46);(iterate 6 (refine zad 1 fun _ u=>?_;simp only[↓zaz,↓dOp,↓bO,go_sem,seval];apply u;clear u));refine zbd 52 rfl (fun hc52=>?_) (fun hc52=>?_)
      ·
       simp only[go_sem];(have hk2:y.t.k≠1:=by simpa using hc52);(iterate 8 (refine zad 1 fun _ u=>?_;simp only[↓zaz,↓dOp,↓bO,go_sem,seval];apply u;clear u));refine zbd 60 rfl (fun hc60=>?_) (fun hc60=>?_)
       ·
        simp only[go_sem];(have hkn:¬x.t.k=y.t.k:=by simpa using hc60);have hca:ClashAt (shR M) s v:=(zcd hxm hym).2 ⟨hk1,hk2,.inl hkn⟩;refine zbx 7 tz0 ?_;simp only[uN,bL,bS,bA];refine zad 1 fun _ u=>?_;simp only[↓zaz,↓dOp,↓bO,go_sem,seval];apply u;clear u;simp only[↓zaz,↓dOp,↓bO,go_sem,seval];refine j0 _ ?_;clear j0 J0;simp only[bL,aops,zao,zai,zae];apply a;refine z7 (b:=true) (by first | exact rfl | exact congrArg (fun b=>AV.v (.bool b)) hb69) (fun _=>?_) (fun h=>(by cases h));refine sqD ?_;apply z8;(try simp only[go_sem]);rw[clB_of hki hkk (by rw[hci,hck,hcc]) hca];exact Le.refl _
       simp only[go_sem];(have hke:x.t.k=y.t.k:=by simpa using hc60);(iterate 8 (refine zad 1 fun _ u=>?_;simp only[↓zaz,↓dOp,↓bO,go_sem,seval];apply u;clear u));simp only[↓zaz,↓dOp,↓bO,go_sem,seval];refine j0 _ ?_;clear j0 J0;simp only[bL,aops,zao,zai,zae];apply a;apply z7 rfl <;> intro hb69
       ·
        (have hln2:¬x.parts.length=y.parts.length:=by (have h9:=hb69;simp at h9;omega));have hca:ClashAt (shR M) s v:=(zcd hxm hym).2 ⟨hk1,hk2,.inr hln2⟩;refine sqD ?_;apply z8;(try simp only[go_sem]);rw[clB_of hki hkk (by rw[hci,hck,hcc]) hca];exact Le.refl _
       (have hln2:x.parts.length=y.parts.length:=by (have h9:=hb69;simp at h9;omega));(have hno:c[s]?=c[v]?->¬ClashAt (shR M) s v:=by rw[zcd hxm hym];exact fun _ h=>h.2.2.elim (fun e=>e hke) (fun e=>e hln2));apply zab;apply d;apply z6;(iterate 2 (refine chS 1 ?_ (by intro _ q;simp only[↓bO,go_sem,seval,hw2];exact q)));simp only[↓bO,go_sem,seval];refine ⟨(v+1),⟨by omega,hv.2.next hno⟩,by omega,?_⟩;simp only[zar,zas,zag,zal,mB,seval,zj,zi,zp];refine Weak.sub ?_ ⟨rfl,trivial⟩ tz2 tz2 ?_ ?_;(· simp only[go_sem,Le.refl,Le.any]);(· exact clz6);exact ⟨by omega,⟨Und.data (RNode.dataSl _),Und.data (zap _),trivial⟩,trivial⟩
      simp only[go_sem];(have hk2:y.t.k=1:=by simpa using hc52);(have hno:c[s]?=c[v]?->¬ClashAt (shR M) s v:=by rw[zcd hxm hym];exact fun _ h=>h.2.1 hk2);refine zbx 16 tz0 ?_;simp only[uN,bL,bS,bA];simp only[↓zaz,↓dOp,↓bO,go_sem,seval];refine j0 _ ?_;clear j0 J0;simp only[bL,aops,zao,zai,zae];apply a;refine z7 (b:=false) (by first | exact rfl | exact congrArg (fun b=>AV.v (.bool b)) hb69) (fun h=>(by cases h)) (fun _=>?_);apply zab;apply d;apply z6;(iterate 2 (refine chS 1 ?_ (by intro _ q;simp only[↓bO,go_sem,seval,hw2];exact q)));simp only[↓bO,go_sem,seval];refine ⟨(v+1),⟨by omega,hv.2.next hno⟩,by omega,?_⟩;simp only[zar,zas,zag,zal,mB,seval,zj,zi,zp];refine Weak.sub ?_ ⟨rfl,trivial⟩ tz2 tz2 ?_ ?_;(· simp only[go_sem,Le.refl,Le.any]);(· exact clz6);exact ⟨by omega,⟨Und.data (RNode.dataSl _),Und.data (zap _),trivial⟩,trivial⟩
     simp only[go_sem];(have hk1:x.t.k=1:=by simpa using hc46);(have hno:c[s]?=c[v]?->¬ClashAt (shR M) s v:=by rw[zcd hxm hym];exact fun _ h=>h.1 hk1);refine zbx 4 tz0 ?_;simp only[uN,bL,bS,bA];(iterate 2 (refine zad 1 fun _ u=>?_;simp only[↓zaz,↓dOp,↓bO,go_sem,seval];apply u;clear u));refine zbx 16 tz0 ?_;simp only[uN,bL,bS,bA];simp only[↓zaz,↓dOp,↓bO,go_sem,seval];refine j0 _ ?_;clear j0 J0;simp only[bL,aops,zao,zai,zae];apply a;refine z7 (b:=false) (by first | exact rfl | exact congrArg (fun b=>AV.v (.bool b)) hb69) (fun h=>(by cases h)) (fun _=>?_);apply zab;apply d;apply z6;(iterate 2 (refine chS 1 ?_ (by intro _ q;simp only[↓bO,go_sem,seval,hw2];exact q)));simp only[↓bO,go_sem,seval];refine ⟨(v+1),⟨by omega,hv.2.next hno⟩,by omega,?_⟩;simp only[zar,zas,zag,zal,mB,seval,zj,zi,zp];refine Weak.sub ?_ ⟨rfl,trivial⟩ tz2 tz2 ?_ ?_;(· simp only[go_sem,Le.refl,Le.any]);(· exact clz6);exact ⟨by omega,⟨Und.data (RNode.dataSl _),Und.data (zap _),trivial⟩,trivial⟩
    simp only[go_sem];(have hnc:¬ci=ck:=by simpa using hc40);(have hno:c[s]?=c[v]?->¬ClashAt (shR M) s v:=by rw[hci,hck];exact fun e=>absurd (Option.some.inj e) hnc);refine zbx 4 tz0 ?_;simp only[uN,bL,bS,bA];(iterate 2 (refine zad 1 fun _ u=>?_;simp only[↓zaz,↓dOp,↓bO,go_sem,seval];apply u;clear u));refine zbx 4 tz0 ?_;simp only[uN,bL,bS,bA];(iterate 2 (refine zad 1 fun _ u=>?_;simp only[↓zaz,↓dOp,↓bO,go_sem,seval];apply u;clear u));refine zbx 16 tz0 ?_;simp only[uN,bL,bS,bA];simp only[↓zaz,↓dOp,↓bO,go_sem,seval];refine j0 _ ?_;clear j0 J0;simp only[bL,aops,zao,zai,zae];apply a;refine z7 (b:=false) (by first | exact rfl | exact congrArg (fun b=>AV.v (.bool b)) hb69) (fun h=>(by cases h)) (fun _=>?_);apply zab;apply d;apply z6;(iterate 2 (refine chS 1 ?_ (by intro _ q;simp only[↓bO,go_sem,seval,hw2];exact q)));simp only[↓bO,go_sem,seval];refine ⟨(v+1),⟨by omega,hv.2.next hno⟩,by omega,?_⟩;simp only[zar,zas,zag,zal,mB,seval,zj,zi,zp];refine Weak.sub ?_ ⟨rfl,trivial⟩ tz2 tz2 ?_ ?_;(· simp only[go_sem,Le.refl,Le.any]);(· exact clz6);exact ⟨by omega,⟨Und.data (RNode.dataSl _),Und.data (zap _),trivial⟩,trivial⟩
   (have hkv:v=s:=by have h9:=hb16;simp at h9;have:=hv.1;omega);apply zaj;simp only[zao,zai,zae,bA,Nat.reduceEqDiff,↓reduceIte];apply g;apply z6;(iterate 2 (refine chS 1 ?_ (by intro _ q;simp only[↓bO,go_sem,seval,hw1];exact q)));simp only[↓bO,go_sem,seval];refine ⟨(s+1),⟨by omega,(hkv▸hv.2).row⟩,by omega,?_⟩;simp only[zar,zas,zag,zal,mB,seval,zj,zi,zp];exact zaI
  (have hks:s=M.length:=by have h9:=hb11;simp at h9;have:=hs.1;omega);apply zaj;simp only[zao,zai,zae,bA,Nat.reduceEqDiff,↓reduceIte];apply w;refine sqD ?_;apply z8;(try simp only[go_sem]);rw[(hks▸hs.2:NoCl M c M.length 0).all];exact Le.refl _
theorem zjl {P:Nat->Bool} {s:Nat} (h:∀j,j<s->P j=false) (hs:P s=false):∀j,j<s+1->P j=false:=fun j hj=>by
 (rcases zB j s with h1 | h1);(·exact h j h1);(have:j=s:=by omega);exact this▸hs
theorem zkL (M:List RNode) (c:List Int) (i:Nat) (hi:i<M.length) (hcl:c.length=M.length) (hMl:M.length<=1048576):APure Tryz.prog 115 [.agg [.sl 4 (M.map RNode.cells),.sl 1 (c.map intC)],.v (.int .i64 (i:Int))] (.v (.int .i64 (za6 M c i))):=by
  refine APure.mkL (.cons (RNode.oneData M c) (.cons (.v _) .nil)) (.v _) ?_;refine aIn Tryz.func115 fun hm=>?_;simp only[Tryz.ntmps115,Tryz.results115,go_sem,seval];obtain ⟨z,hzc⟩:∃z,c[i]?=some z:=⟨_,za tz1⟩;refine sqR fun _ w=>?_;refine chS 1 ?_;simp only[↓bO,go_sem,seval];apply w;refine zY fun _ w=>?_;refine sqD ?_;apply zaa;refine zah (σ:=Nat) (mB 35 38) (fun s=>s<=M.length/\∀j,j<s->zaO M c i j=false) (fun s=>[(5,.v (.int .i64 (s:Int)))]) (fun s=>[]) (fun s=>M.length-s) 0 (⟨Nat.zero_le _,fun j hj=>by omega⟩) ?_ (fun s hs=>?_)
  ·
   simp only[go_sem,seval];exact zaI
  simp only[go_sem,seval];refine zY fun _ g=>?_;refine sqR fun _ d=>?_;(iterate 4 (refine chS 1 ?_));simp only[↓bO,go_sem,seval];apply d;apply z7 rfl <;> intro hb10
  ·
   (have hki:s<M.length:=by simpa using hb10);obtain ⟨x,hxm⟩:∃x,M[s]?=some x:=⟨_,za hki⟩;obtain ⟨y,hyc⟩:∃z,c[s]?=some z:=⟨_,za tz1⟩;have hw1:IntKind.i64.wrap ((s:Int)+1)=(s:Int)+1:=zak tz1 tz1;have hwat:=zlq hxm hyc hzc;apply zab;apply g;refine zY fun _ g=>?_;apply zaa;refine zY fun _ d=>?_;refine zay 21 mixed tz0 fun J0 j0=>?_;(iterate 12 (simp only[go_sem];refine zad 1 fun _ u=>?_;simp only[↓zaz,↓dOp,↓bO,go_sem,seval,hki,hi,hcl,gM hyc,gM hzc,intC];apply u;clear u));simp only[go_sem];refine zbd 24 rfl (fun hc24=>?_) (fun hc24=>?_)
   ·
    simp only[go_sem];(have hcc:y=z:=by simpa using hc24);(iterate 8 (refine zad 1 fun _ u=>?_;simp only[↓zaz,↓dOp,↓bO,go_sem,seval,hki,gM hxm,RNode.cells];apply u;clear u));simp only[↓zaz,↓dOp,↓bO,go_sem,seval];refine j0 _ ?_;clear j0 J0;simp only[bL,aops,zao,zai,zae];apply d;apply z7 rfl <;> intro hb33
    ·
     (have hk1:¬x.t.k=1:=by simpa using hb33);(have hyes:zaO M c i s=true:=by rw[hwat,decide_eq_true hcc,show decide (x.t.k≠1)=true from decide_eq_true hk1];rfl);have hres:=ziq hki hyes hs.2;refine sqR fun _ d=>?_;refine chS 1 ?_;simp only[↓bO,go_sem,seval];apply d;apply z8;(try simp only[go_sem]);rw[hres];exact Le.refl _
    (have hk1:x.t.k=1:=by simpa using hb33);(have hno:zaO M c i s=false:=by rw[hwat,show decide (x.t.k≠1)=false from decide_eq_false (fun h=>h hk1),Bool.and_false]);apply zab;apply g;apply z6;(iterate 2 (refine chS 1 ?_ (by intro _ q;simp only[↓bO,go_sem,seval,hw1];exact q)));simp only[↓bO,go_sem,seval];refine ⟨(s+1),⟨by omega,zjl hs.2 hno⟩,by omega,?_⟩;simp only[zar,zas,zag,zal,mB,seval,zj,zi,zp];exact zaI
   simp only[go_sem];(have hnc:¬y=z:=by simpa using hc24);(have hno:zaO M c i s=false:=by rw[hwat,decide_eq_false hnc,Bool.false_and]);(iterate 8 (refine zad 1 fun _ u=>?_;simp only[↓zaz,↓dOp,↓bO,go_sem,seval];apply u;clear u));simp only[↓zaz,↓dOp,↓bO,go_sem,seval];refine j0 _ ?_;clear j0 J0;simp only[bL,aops,zao,zai,zae];apply d;refine z7 (b:=false) (by first | exact rfl | exact congrArg (fun b=>AV.v (.bool b)) hb33) (fun h=>(by cases h)) (fun _=>?_);apply zab;apply g;apply z6;(iterate 2 (refine chS 1 ?_ (by intro _ q;simp only[↓bO,go_sem,seval,hw1];exact q)));simp only[↓bO,go_sem,seval];refine ⟨(s+1),⟨by omega,zjl hs.2 hno⟩,by omega,?_⟩;simp only[zar,zas,zag,zal,mB,seval,zj,zi,zp];exact zaI
  (have hks:s=M.length:=by have h9:=hb10;simp at h9;have:=hs.1;omega);have hres:=wholeI_no (m:=M) (c:=c) (i:=i) (hks▸hs.2);apply zaj;simp only[zao,zai,zae,bA,Nat.reduceEqDiff,↓reduceIte];apply w;refine sqD ?_;apply z8;(try simp only[go_sem]);rw[hres];exact Le.refl _
theorem Und.eptr {n:Nat} {cs:List AV} (h:UndL n cs):Und n (.eptr cs):=fun E A w u hr=>by
 cases hr with
 | eptr g hcell hh=>exact .eptr g hcell fun j c hc=>h.mem c (zc hc) E A w _ (hh j c hc)
structure PSt (l:List (Ty×Ty)) (M:List RNode) (c:List Int) (S:CS):Prop where
 h:Holds l S
 hc:ColE l c
 m:M=(eqF l).1
 len:M.length<=1048576
 keys:S.G.V.map Prod.fst=vns M
theorem PSt.fsame {l:List (Ty×Ty)} {M:List RNode} {c:List Int} {S:CS} {F1:FS} (h:PSt l M c S) (k:FSame S.F F1):PSt l M c {S with F:=F1}:=⟨h.h.fsame k rfl,h.hc,h.m,h.len,h.keys⟩
theorem PSt.h64 {l:List (Ty×Ty)} {M:List RNode} {c:List Int} {S:CS} (h:PSt l M c S):∀q∈S.G.V,is64 q.1:=fun q hq=>vns_64 h.h.2.rel q.1 (by rw[<- h.m,<- h.keys];exact zq.2 ⟨q,hq,rfl⟩)
theorem PSt.vl {l:List (Ty×Ty)} {M:List RNode} {c:List Int} {S:CS} (h:PSt l M c S):S.G.V.length<=1048576:=by
 have h1:=congrArg List.length h.keys;rw[zD] at h1;(have h2:(vns M).length<=M.length:=by unfold vns;rw[zD];exact List.length_filter_le _ _);have h3:=h.len;omega
theorem PSt.sort {l:List (Ty×Ty)} {M:List RNode} {c:List Int} {S:CS} (h:PSt l M c S):zbW (S.G.V.map Prod.fst)=varsI M:=by rw[h.keys,zky]
theorem PSt.nl {l:List (Ty×Ty)} {M:List RNode} {c:List Int} {S:CS} (h:PSt l M c S):S.F.up.length=M.length:=by rw[h.h.2.w.c.fl,h.h.2.w.c.wl,h.m,h.h.2.rel.len]
structure PAt (M:List RNode) (c:List Int) (S:CS) (i:Nat) (x:Int):Prop where
 no:x<0->za6 M c i=-1/\zk8 M c i=0
 yes:0<=x->∃(k:Nat) (g:GNode) (y:RNode),za6 M c i=(k:Int)/\S.G.N[x.toNat]?=some g/\M[k]?=some y/\zk8 M c i=g.k/\1<=g.k/\g.parts.length=y.parts.length/\g.parts.length<=8/\(∀p∈g.parts,0<=p/\p<(S.F.up.length:Int)) /\
  ∀(j:Nat) (p q:Int),g.parts[j]?=some p->y.parts[j]?=some q->0<=q/\q<(M.length:Int)/\∀r',Rt S.F.up p.toNat r'->Rt S.F.up q.toNat r'
theorem PSt.part {l:List (Ty×Ty)} {M:List RNode} {c:List Int} {S:CS} (h:PSt l M c S) {i r:Nat} {x:Int} (hi:i<M.length) (hr:Rt S.F.up i r) (hx:S.W[r]?=some x):PAt M c S i x:=by
 have hm:=h.m;subst hm;have h1:=h.h.part h.hc hi hr hx;exact ⟨h1.no,h1.yes⟩
theorem PAt.g0 {M:List RNode} {c:List Int} {S:CS} {i:Nat} {x:Int} (h:PAt M c S i x):0<=x->∃g,S.G.N[x.toNat]?=some g/\1<=g.k/\g.parts.length<=8/\∀p∈g.parts,0<=p/\p<(S.F.up.length:Int):=fun h1=>by
 obtain ⟨_,g,_,_,h2,_,_,h3,_,h4,h5,_⟩:=h.yes h1;exact ⟨g,h2,h3,h4,h5⟩
theorem PAt.neg {M:List RNode} {c:List Int} {S:CS} {i:Nat} {x:Int} (h:PAt M c S i x):x<0↔za6 M c i<0:=by
 constructor;(·intro h1;have:=(h.no h1).1;omega);intro h1;(rcases Int.lt_or_le x 0 with h2 | h2);(·exact h2);obtain ⟨k,_,_,h3,_⟩:=h.yes h2;omega
def Roots (S:CS) (x:Int) (rs:List Nat):Prop:=(x<0/\rs=[])\/(0<=x/\∃g,S.G.N[x.toNat]?=some g/\rs.length=g.parts.length/\∀(j:Nat) (p:Int) (q:Nat),g.parts[j]?=some p->rs[j]?=some q->Rt S.F.up p.toNat q)
end Go.Proofs.YtpfiliamceimmaaGreatDoor
namespace Go.Proofs.YtpfiliamceimmaaGreatDoor
open Go Go.RowKit
theorem var_at {l:List (Ty×Ty)} {M:List RNode} {c:List Int} {S:CS} (h:PSt l M c S) {a:Int} {q:Nat} (hq:zbo (RNode.isVar a) M=(q:Int)):zau S.G.V a=some (q:Int):=by
 have hm:=h.m;subst hm;(rcases h.h.vf a with ⟨_,h2⟩ | ⟨j,h1,h2,h3⟩);(·omega);(obtain rfl:j=q:=by omega);exact h1
theorem PSt.g0 {l:List (Ty×Ty)} {M:List RNode} {c:List Int} {S:CS} (h:PSt l M c S):∀(r:Nat) (x:Int),Rt S.F.up r r->S.W[r]?=some x->0<=x->∃g,S.G.N[x.toNat]?=some g/\1<=g.k/\g.parts.length<=8/\∀p∈g.parts,0<=p/\p<(S.F.up.length:Int):=fun r x hr hx h0 =>
 (h.part (by rw[<- h.nl];exact hr.lt) hr hx).g0 h0
def zcr {α:Type}:List (Int×α)->Int->Option α
 | [],_=>none
 | (k,x)::r,i=>if k=i then some x else zcr r i
def zgi {α:Type}:List (Int×α)->Int->α->List (Int×α)
 | [],k,x=>[(k,x)]
 | (k',y)::r,k,x=>if k'=k then (k,x)::r else (k',y)::zgi r k x
theorem zbn {α:Type} (k j:Int) (x:α):∀V:List (Int×α),zcr (zgi V k x) j=if j=k then some x else zcr V j
 | []=>by
  simp only[zgi,zcr]
  by_cases h:k=j
  ·subst h;simp
  rw[if_neg h,if_neg (fun e=>h e.symm)]
 | (k',y)::r=>by
  unfold zgi
  by_cases h:k'=k
  ·subst h
   simp only[if_true,zcr]
   by_cases hj:j=k'
   (·subst hj;simp);rw[if_neg (fun e=>hj e.symm),if_neg hj,if_neg (fun e=>hj e.symm)]
  simp only[if_neg h,zcr,zbn k j x r]
  by_cases hj:k'=j
  (·subst hj;simp[h]);simp[hj]
theorem zfp {α:Type} (c:α->AV) (k:Int):∀V:List (Int×α),zbq (V.map fun p=>(p.1,c p.2)) k=(zcr V k).map c
 | []=>rfl
 | (k',y)::r=>by
  simp only[zu,zbq,zcr];split;(·rfl);exact zfp c k r
theorem zhA {α:Type} (c:α->AV) (k:Int) (x:α):∀V:List (Int×α),zdr (V.map fun p=>(p.1,c p.2)) k (c x)=(zgi V k x).map fun p=>(p.1,c p.2)
 | []=>rfl
 | (k',y)::r=>by
  simp only[zu,zdr,zgi];split;(·rfl);rw[zhA c k x r];rfl
structure WS where
 st:List (Int×Int)
 cy:List (Int×Bool)
 de:List (Int×Int)
 sz:List (Int×Int)
 steps:Int
 bad:Bool
def WS0:WS:=⟨[],[],[],[],0,false⟩
def WS.sg (W:WS) (r:Nat):Int:=(zcr W.st r).getD 0
def WS.cg (W:WS) (r:Nat):Bool:=(zcr W.cy r).getD false
def WS.dg (W:WS) (r:Nat):Int:=(zcr W.de r).getD 0
def WS.zg (W:WS) (r:Nat):Int:=(zcr W.sz r).getD 0
def WS.tick (W:WS):WS:={W with steps:=W.steps+1}
def WS.begin (W:WS) (r:Nat):WS:={W with steps:=W.steps+1,st:=zgi W.st r 1}
def WS.mark (W:WS) (r:Nat):WS:={W with cy:=zgi W.cy r true}
def za4 (id:Nat):List Nat->WS->WS
 | [],W=>W
 | r::rest,W=>if r=id then W.mark r else za4 id rest (W.mark r)
abbrev most:Int:=1099511627776
def zbv (r:Nat) (s:(Int×Int)×WS) (p:Nat):(Int×Int)×WS:=((max s.1.1 (s.2.dg p),min most (s.1.2+s.2.zg p)),{s.2 with cy:=zgi s.2.cy r (s.2.cg r||s.2.cg p)})
def zax (r:Nat) (ch:List Nat) (W:WS):(Int×Int)×WS:=ch.foldl (zbv r) ((0,1),{W with st:=zgi W.st r 2})
def WS.fin (W:WS) (r:Nat) (ch:List Nat):WS:={(zax r ch W).2 with de:=zgi (zax r ch W).2.de r (min most ((zax r ch W).1.1+1)),sz:=zgi (zax r ch W).2.sz r (zax r ch W).1.2}
theorem zgS {a b:Nat} (h:a≠b):¬((a:Int)=(b:Int)):=by omega
theorem WS.cg_mark (W:WS) (r x:Nat):(W.mark r).cg x=if x=r then true else W.cg x:=by
 unfold WS.cg WS.mark;rw[zbn]
 by_cases h:x=r
 (·subst h;simp);rw[if_neg (zgS h),if_neg h]
theorem WS.sg_begin (W:WS) (r x:Nat):(W.begin r).sg x=if x=r then 1 else W.sg x:=by
 unfold WS.sg WS.begin;rw[zbn]
 by_cases h:x=r
 (·subst h;simp);rw[if_neg (zgS h),if_neg h]
theorem zcE (id:Nat):∀(l:List Nat) (W:WS),(za4 id l W).st=W.st/\(za4 id l W).de=W.de/\(za4 id l W).sz=W.sz/\(za4 id l W).steps=W.steps/\(za4 id l W).bad=W.bad
 | [],_=>⟨rfl,rfl,rfl,rfl,rfl⟩
 | r::rest,W=>by
  unfold za4;split;(·exact ⟨rfl,rfl,rfl,rfl,rfl⟩);exact zcE id rest (W.mark r)
theorem ziu (id:Nat):∀(l:List Nat) (W:WS),(∀x,(za4 id l W).cg x=true->W.cg x=true\/x∈l)/\(∀x,W.cg x=true->(za4 id l W).cg x=true)/\(id∈l->(za4 id l W).cg id=true)
 | [],W=>⟨fun _ h=>.inl h,fun _ h=>h,fun h=>by cases h⟩
 | r::rest,W=>by
  unfold za4;split
  ·rename_i e
   subst e;refine ⟨fun x h=>?_,fun x h=>?_,fun _=>?_⟩
   ·rw[WS.cg_mark] at h
    (split at h);(·rename_i e;subst e;exact .inr tz4);exact .inl h
   (·rw[WS.cg_mark];split <;> simp_all);rw[WS.cg_mark,if_pos rfl]
  (rename_i hne);obtain ⟨h1,h2,h3⟩:=ziu id rest (W.mark r);refine ⟨fun x h=>?_,fun x h=>h2 x ?_,fun h=>h3 ?_⟩
  ·rcases h1 x h with h4 | h4
   ·rw[WS.cg_mark] at h4
    (split at h4);(·rename_i e;subst e;exact .inr tz4);exact .inl h4
   exact .inr (by simp[h4])
  (·rw[WS.cg_mark];split <;> simp_all);(rcases zI.1 h with e | h);(·exact absurd e.symm hne);exact h
theorem zbT (r:Nat):∀(ch:List Nat) (s:(Int×Int)×WS),(ch.foldl (zbv r) s).2.st=s.2.st/\(ch.foldl (zbv r) s).2.de=s.2.de/\(ch.foldl (zbv r) s).2.sz=s.2.sz/\(ch.foldl (zbv r) s).2.steps=s.2.steps/\(ch.foldl (zbv r) s).2.bad=s.2.bad /\
  (∀x,x≠r->(ch.foldl (zbv r) s).2.cg x=s.2.cg x)/\((ch.foldl (zbv r) s).2.cg r=true↔s.2.cg r=true\/∃p∈ch,s.2.cg p=true) /\
  (ch.foldl (zbv r) s).1=ch.foldl (fun a p=>(max a.1 (s.2.dg p),min most (a.2+s.2.zg p))) s.1
 | [],s=>⟨rfl,rfl,rfl,rfl,rfl,fun _ _=>rfl,by simp,rfl⟩
 | p::ch,s=>by
  obtain ⟨h1,h2,h3,h4,h5,h6,h7,h8⟩:=zbT r ch (zbv r s p)
  have hcg:∀x,(zbv r s p).2.cg x=if x=r then (s.2.cg r||s.2.cg p) else s.2.cg x:=fun x=>by
   unfold zbv WS.cg;(simp only);rw[zbn]
   by_cases h:x=r
   (·subst h;simp);rw[if_neg (zgS h),if_neg h]
  refine ⟨h1,h2,h3,h4,h5,fun x hx=>?_,?_,h8⟩;(·rw[List.foldl_cons,h6 x hx,hcg x,if_neg hx]);rw[List.foldl_cons,h7,hcg r,if_pos rfl,Bool.or_eq_true];constructor
  ·rintro ((h | h) | ⟨q,hq,h⟩)
   (·exact .inl h);(·exact .inr ⟨p,by simp,h⟩);rw[hcg q] at h;split at h
   ·rcases Bool.or_eq_true _ _▸h with h | h
    (·exact .inl h);exact .inr ⟨p,by simp,h⟩
   exact .inr ⟨q,by simp[hq],h⟩
  rintro (h | ⟨q,hq,h⟩);(·exact .inl (.inl h));(rcases zI.1 hq with rfl | hq);(·exact .inl (.inr h));refine .inr ⟨q,hq,?_⟩;rw[hcg q];split;(·rename_i e;subst e;simp[h]);exact h
def tell (f:Nat->Int×Int) (ch:List Nat):Int×Int :=
 ((ch.foldl (fun a p=>(max a.1 (f p).1,min most (a.2+(f p).2))) ((0,1):Int×Int)).1+1,(ch.foldl (fun a p=>(max a.1 (f p).1,min most (a.2+(f p).2))) ((0,1):Int×Int)).2)
theorem WS.fin_spec (W:WS) (r:Nat) (ch:List Nat):(∀x,(W.fin r ch).sg x=if x=r then 2 else W.sg x)/\(∀x,x≠r->(W.fin r ch).cg x=W.cg x)/\((W.fin r ch).cg r=true↔W.cg r=true\/∃p∈ch,W.cg p=true) /\
  (∀x,(W.fin r ch).dg x=if x=r then min most (tell (fun p=>(W.dg p,W.zg p)) ch).1 else W.dg x)/\(∀x,(W.fin r ch).zg x=if x=r then (tell (fun p=>(W.dg p,W.zg p)) ch).2 else W.zg x)/\(W.fin r ch).steps=W.steps/\(W.fin r ch).bad=W.bad:=by
 obtain ⟨h1,h2,h3,h4,h5,h6,h7,h8⟩:=zbT r ch ((0,1),{W with st:=zgi W.st r 2});refine ⟨fun x=>?_,h6,h7,fun x=>?_,fun x=>?_,h4,h5⟩
 ·unfold WS.sg WS.fin zax
  (simp only);rw[h1];(simp only);rw[zbn]
  by_cases h:x=r
  (·subst h;simp);rw[if_neg (zgS h),if_neg h]
 ·unfold WS.dg WS.fin zax
  (simp only);rw[h2,zbn,h8]
  by_cases h:x=r
  (·subst h;simp[tell,WS.dg,WS.zg]);rw[if_neg (zgS h),if_neg h]
 unfold WS.zg WS.fin zax;(simp only);rw[h3,zbn,h8]
 by_cases h:x=r
 (·subst h;simp[tell,WS.dg,WS.zg]);rw[if_neg (zgS h),if_neg h]
inductive Rch (K:Nat->List Nat):Nat->Nat->Prop
 | refl (u:Nat):Rch K u u
 | step {u v w:Nat} (h:v∈K u) (k:Rch K v w):Rch K u w
theorem Rch.trans {K:Nat->List Nat} {u v w:Nat} (h:Rch K u v) (k:Rch K v w):Rch K u w:=by
 induction h with
 | refl _=>exact k
 | step h _ ih=>exact .step h (ih k)
def Pls (K:Nat->List Nat) (u w:Nat):Prop:=∃v∈K u,Rch K v w
theorem Pls.of_rch {K:Nat->List Nat} {u v w:Nat} (h:Rch K u v) (k:w∈K v):Pls K u w:=by
 induction h with
 | refl _=>exact ⟨w,k,.refl _⟩
 | step h _ ih =>
  obtain ⟨x,hx,hr⟩:=ih k;exact ⟨_,h,.step hx hr⟩
def Lp (K:Nat->List Nat) (r:Nat):Prop:=∃y,Rch K r y/\Pls K y y
theorem Lp.step {K:Nat->List Nat} {u v:Nat} (h:v∈K u) (k:Lp K v):Lp K u:=by
 obtain ⟨y,h1,h2⟩:=k;exact ⟨y,.step h h1,h2⟩
inductive Tl (K:Nat->List Nat):Nat->Int×Int->Prop
 | mk (u:Nat) (f:Nat->Int×Int) (h:∀v∈K u,Tl K v (f v)):Tl K u (tell f (K u))
def Frs (K:Nat->List Nat) (P:Nat->Prop):Option Nat->List (Nat×Nat)->Prop
 | _,[]=>True
 | a,(u,nx)::rest=>nx<=(K u).length/\(∀(j v:Nat),j<nx->(K u)[j]?=some v->P v\/a=some v)/\(∀v,a=some v->v∈K u)/\Frs K P (some u) rest
theorem Frs.mono {K:Nat->List Nat} {P P':Nat->Prop} (h:∀v,P v->P' v):∀{a:Option Nat} {l:List (Nat×Nat)},Frs K P a l->Frs K P' a l
 | _,[],_=>trivial
 | _,(_,_)::_,⟨h1,h2,h3,h4⟩=>⟨h1,fun j v hj hv=>(h2 j v hj hv).imp (h v) id,h3,Frs.mono h h4⟩
theorem Frs.reach {K:Nat->List Nat} {P:Nat->Prop}:∀{l:List (Nat×Nat)} {t:Nat},Frs K P (some t) l->∀p∈l,Rch K p.1 t
 | (u,nx)::rest,t,⟨_,_,h3,h4⟩,p,hp=>by
  have ht:Rch K u t:=.step (h3 t rfl) (.refl _);(rcases zI.1 hp with rfl | hp);(·exact ht);exact (Frs.reach h4 p hp).trans ht
structure DfI (K:Nat->List Nat) (N:Nat) (W:WS) (stk:List (Nat×Nat)) (fo:List Nat):Prop where
 nd:(fo++stk.map Prod.fst).Nodup
 lt:∀r∈fo++stk.map Prod.fst,r<N
 s2:∀r,r∈fo->W.sg r=2
 s1:∀r,r∈stk.map Prod.fst->W.sg r=1
 s0:∀r,r∉fo->r∉stk.map Prod.fst->W.sg r=0
 fi:∀(i u:Nat),fo[i]?=some u->∀v∈K u,v∈fo.take i\/W.cg v=true
 fr:Frs K (fun v=>v∈fo\/W.cg v=true) none stk
 cys:∀r,W.cg r=true->Lp K r
 cyb:∀r,W.cg r=true->W.bad=true
 cym:∀r,W.cg r=true->r∈fo++stk.map Prod.fst
 bds:W.bad=true->∃y∈fo++stk.map Prod.fst,Pls K y y
 tol:W.bad=false->∀(i u:Nat),fo[i]?=some u->Tl K u (W.dg u,W.zg u)/\1<=W.dg u/\W.dg u<=(i:Int)+1
theorem DfI.nil (K:Nat->List Nat) (N:Nat):DfI K N WS0 [] [] :=
 ⟨by simp,by simp,by simp,by simp,fun _ _ _=>rfl,by simp,trivial,fun r h=>(by cases h),fun r h=>(by cases h),fun r h=>(by cases h),fun h=>(by cases h),by simp⟩
theorem DfI.tick {K:Nat->List Nat} {N:Nat} {W:WS} {stk:List (Nat×Nat)} {fo:List Nat} (h:DfI K N W stk fo):DfI K N W.tick stk fo:=⟨h.nd,h.lt,h.s2,h.s1,h.s0,h.fi,h.fr,h.cys,h.cyb,h.cym,h.bds,h.tol⟩
theorem DfI.begin {K:Nat->List Nat} {N:Nat} {W:WS} {stk:List (Nat×Nat)} {fo:List Nat} {q:Nat} (h:DfI K N W stk fo) (hq:W.sg q=0) (hN:q<N) (hfr:Frs K (fun v=>v∈fo\/W.cg v=true) (some q) stk):DfI K N (W.begin q) ((q,0)::stk) fo:=by
 (have hqf:q∉fo:=fun hm=>by rw[h.s2 q hm] at hq;cases hq);(have hqs:q∉stk.map Prod.fst:=fun hm=>by rw[h.s1 q hm] at hq;cases hq);refine ⟨?_,?_,fun r hr=>?_,fun r hr=>?_,fun r hr hr2=>?_,h.fi,⟨Nat.zero_le _,fun j v hj=>by omega,fun v hv=>(by cases hv),hfr⟩,h.cys,h.cyb,fun r hr=>?_,fun hb=>?_,h.tol⟩
 ·rw[zu]
  refine List.Perm.nodup_iff (List.perm_middle) |>.2 (List.nodup_cons.2 ⟨?_,h.nd⟩);rw[zE];rintro (hm | hm);(·exact hqf hm);exact hqs hm
 ·intro r hr
  rw[zu,zE,zI] at hr;(rcases hr with hr | rfl | hr);(·exact h.lt r (by simp[hr]));(·exact hN);exact h.lt r (zE.2 (.inr hr))
 ·rw[WS.sg_begin,if_neg (fun (e:r=q)=>hqf (e▸hr))];exact h.s2 r hr
 ·rw[WS.sg_begin]
  split;(·rfl);(rename_i hne);rw[zu,zI] at hr;exact h.s1 r (hr.resolve_left hne)
 ·rw[zu,zI,not_or] at hr2
  rw[WS.sg_begin,if_neg hr2.1];exact h.s0 r hr hr2.2
 ·have:=h.cym r hr
  rw[zu,zE,zI];(rcases zE.1 this with h1 | h1);(·exact .inl h1);exact .inr (.inr h1)
 obtain ⟨y,hy,hp⟩:=h.bds hb;refine ⟨y,?_,hp⟩;rw[zu,zE,zI];(rcases zE.1 hy with h1 | h1);(·exact .inl h1);exact .inr (.inr h1)
theorem DfI.push {K:Nat->List Nat} {N:Nat} {W:WS} {stk:List (Nat×Nat)} {fo:List Nat} {u nx q:Nat} (h:DfI K N W ((u,nx)::stk) fo) (hk:(K u)[nx]?=some q) (hq:W.sg q=0) (hN:q<N):DfI K N (W.begin q) ((q,0)::(u,nx+1)::stk) fo:=by
 obtain ⟨f1,f2,f3,f4⟩:=h.fr;have hl:=(zb.1 hk).1
 have hfr:Frs K (fun v=>v∈fo\/W.cg v=true) (some q) ((u,nx+1)::stk):=⟨hl,fun j v hj hv=>by
  rcases zB j nx with h1 | h1
  ·rcases f2 j v h1 hv with h2 | h2
   (·exact .inl h2);cases h2
  obtain rfl:j=nx:=by omega
  rw[hk] at hv;cases hv;exact .inr rfl,fun v hv=>by cases hv;exact zc hk,f4⟩
 have h2:DfI K N W ((u,nx+1)::stk) fo->DfI K N (W.begin q) ((q,0)::(u,nx+1)::stk) fo:=fun h=>h.begin hq hN hfr
 -- the frame's own part is the new frame: shown of the state ahead by the same fields
 (have hqf:q∉fo:=fun hm=>by rw[h.s2 q hm] at hq;cases hq);(have hqs:q∉((u,nx)::stk).map Prod.fst:=fun hm=>by rw[h.s1 q hm] at hq;cases hq);have hb:=h.begin (q:=q) hq hN ⟨f1,fun j v hj hv=>.inl ((f2 j v hj hv).resolve_right (fun e=>by cases e)),fun v hv=>by cases hv;exact zc hk,f4⟩;exact ⟨hb.nd,hb.lt,hb.s2,hb.s1,hb.s0,hb.fi,⟨Nat.zero_le _,fun j v hj=>by omega,fun v hv=>(by cases hv),hfr⟩,hb.cys,hb.cyb,hb.cym,hb.bds,hb.tol⟩
theorem DfI.pass {K:Nat->List Nat} {N:Nat} {W:WS} {stk:List (Nat×Nat)} {fo:List Nat} {u nx q:Nat} (h:DfI K N W ((u,nx)::stk) fo) (hk:(K u)[nx]?=some q) (hq:q∈fo\/W.cg q=true):DfI K N W ((u,nx+1)::stk) fo:=by
 obtain ⟨f1,f2,f3,f4⟩:=h.fr;refine ⟨h.nd,h.lt,h.s2,h.s1,h.s0,h.fi,⟨(zb.1 hk).1,fun j v hj hv=>?_,fun v hv=>(by cases hv),f4⟩,h.cys,h.cyb,h.cym,h.bds,h.tol⟩;(rcases zB j nx with h1 | h1);(·exact f2 j v h1 hv);(obtain rfl:j=nx:=by omega);rw[hk] at hv;cases hv;exact .inl hq
theorem DfI.done {K:Nat->List Nat} {N:Nat} {W:WS} {stk:List (Nat×Nat)} {fo:List Nat} {r:Nat} (h:DfI K N W stk fo) (h0:W.sg r≠0) (h1:W.sg r≠1):r∈fo :=
 Classical.byContradiction fun hn=>by
  by_cases hs:r∈stk.map Prod.fst
  (·exact h1 (h.s1 r hs));exact h0 (h.s0 r hn hs)
theorem DfI.isOpen {K:Nat->List Nat} {N:Nat} {W:WS} {stk:List (Nat×Nat)} {fo:List Nat} {r:Nat} (h:DfI K N W stk fo) (h1:W.sg r=1):r∈stk.map Prod.fst :=
 Classical.byContradiction fun hn=>by
  by_cases hs:r∈fo
  (·rw[h.s2 r hs] at h1;cases h1);rw[h.s0 r hs hn] at h1;cases h1
theorem DfI.back {K:Nat->List Nat} {N:Nat} {W:WS} {stk:List (Nat×Nat)} {fo:List Nat} {u nx q:Nat} (h:DfI K N W ((u,nx)::stk) fo) (hk:(K u)[nx]?=some q) (hq:W.sg q=1) :
  DfI K N (za4 q (((u,nx)::stk).map Prod.fst) {W with bad:=true}) ((u,nx+1)::stk) fo:=by
 have hqs:=h.isOpen hq;obtain ⟨f1,f2,f3,f4⟩:=h.fr;obtain ⟨m1,m2,m3,m4,m5⟩:=zcE q (((u,nx)::stk).map Prod.fst) {W with bad:=true};obtain ⟨c1,c2,c3⟩:=ziu q (((u,nx)::stk).map Prod.fst) {W with bad:=true}
 have hru:∀x∈((u,nx)::stk).map Prod.fst,Rch K x u:=fun x hx=>by
  obtain ⟨p,hp,rfl⟩:=zq.1 hx;(rcases zI.1 hp with rfl | hp);(·exact .refl _);exact Frs.reach f4 p hp
 have hkm:=zc hk;have hqq:Pls K q q:=Pls.of_rch (hru q hqs) hkm;(have hlp:∀x∈((u,nx)::stk).map Prod.fst,Lp K x:=fun x hx=>⟨q,(hru x hx).trans (.step hkm (.refl _)),hqq⟩);have hsg:∀r,(za4 q (((u,nx)::stk).map Prod.fst) {W with bad:=true}).sg r=W.sg r:=fun r=>by unfold WS.sg;rw[m1]
 refine ⟨h.nd,h.lt,fun r hr=>by rw[hsg];exact h.s2 r hr,fun r hr=>by rw[hsg];exact h.s1 r hr,fun r h1 h2=>by rw[hsg];exact h.s0 r h1 h2,fun i u' hu v hv=>(h.fi i u' hu v hv).imp id (c2 v),⟨(zb.1 hk).1,fun j v hj hv=>?_,fun v hv=>(by cases hv),Frs.mono (fun v hv=>hv.imp id (c2 v)) f4⟩,
  fun r hr=>?_,fun r hr=>by rw[m5],fun r hr=>?_,fun _=>⟨q,zE.2 (.inr hqs),hqq⟩,fun hb=>by rw[m5] at hb;cases hb⟩
 ·rcases zB j nx with h1 | h1
  (·exact (f2 j v h1 hv).imp (fun h=>h.imp id (c2 v)) id);(obtain rfl:j=nx:=by omega);rw[hk] at hv;cases hv;exact .inl (.inr (c3 hqs))
 ·rcases c1 r hr with h1 | h1
  (·exact h.cys r h1);exact hlp r h1
 (rcases c1 r hr with h1 | h1);(·exact h.cym r h1);exact zE.2 (.inr h1)
theorem zkG {f:Nat->Int×Int} {n:Int} (hn:0<=n):∀{ch:List Nat} (_:∀v∈ch,(f v).1<=n),1<=(tell f ch).1/\(tell f ch).1<=n+1:=by
 have key:∀(ch:List Nat) (a:Int×Int),0<=a.1->a.1<=n->(∀v∈ch,(f v).1<=n)->0<=(ch.foldl (fun a p=>(max a.1 (f p).1,min most (a.2+(f p).2))) a).1/\(ch.foldl (fun a p=>(max a.1 (f p).1,min most (a.2+(f p).2))) a).1<=n:=by
  intro ch
  induction ch with
  | nil=>intro a h1 h2 _;exact ⟨h1,h2⟩
  | cons p ch ih =>
   intro a h1 h2 h3;have:=h3 p tz4;exact ih _ tz5 tz5 fun v hv=>h3 v (by simp[hv])
 intro ch h;have:=key ch (0,1) tz4 (by simpa using hn) h;unfold tell;(simp only);omega
theorem zdm:∀{N:Nat} {l:List Nat},l.Nodup->(∀r∈l,r<N)->l.length<=N
 | 0,l,_,hl=>by
  cases l with
  | nil=>simp
  | cons a l=>exact absurd (hl a tz4) tz1
 | N+1,l,hn,hl=>by
  by_cases h:N∈l
  ·have h1:=zdm (N:=N) (hn.erase N) fun r hr=>by
    have h2:=(hn.mem_erase_iff).1 hr;have:=hl r h2.2;omega
   rw[List.length_erase_of_mem h] at h1;omega
  have h1:=zdm (N:=N) hn fun r hr=>by
   have h2:=hl r hr;(have:r≠N:=fun e=>h (e▸hr));omega
  omega
theorem DfI.fin {K:Nat->List Nat} {N:Nat} {W:WS} {stk:List (Nat×Nat)} {fo:List Nat} {u nx:Nat} (h:DfI K N W ((u,nx)::stk) fo) (hnx:(K u).length<=nx) (hN:(N:Int)<=1048576):DfI K N (W.fin u (K u)) stk (fo++[u]):=by
 obtain ⟨f1,f2,f3,f4⟩:=h.fr;obtain ⟨g1,g2,g3,g4,g5,g6,g7⟩:=W.fin_spec u (K u)
 have hch:∀v∈K u,v∈fo\/W.cg v=true:=fun v hv=>by
  obtain ⟨j,hj,rfl⟩:=zU.1 hv;(rcases f2 j _ tz1 (za hj) with h1 | h1);(·exact h1);cases h1
 have hmono:∀x,W.cg x=true->(W.fin u (K u)).cg x=true:=fun x hx=>by
  by_cases e:x=u
  (·subst e;exact g3.2 (.inl hx));rw[g2 x e];exact hx
 (have hperm:(fo++[u]++stk.map Prod.fst)=fo++((u,nx)::stk).map Prod.fst:=by simp);have hnd:=h.nd
 have huf:u∉fo:=fun hm=>by
  have:=(List.nodup_append.1 hnd).2.2 u hm u tz4;exact this rfl
 have hus:u∉stk.map Prod.fst:=by
  have:=(List.nodup_append.1 hnd).2.1;rw[zu,List.nodup_cons] at this;exact this.1
 refine ⟨by rw[hperm];exact hnd,by rw[hperm];exact h.lt,fun r hr=>?_,fun r hr=>?_,fun r h1 h2=>?_,fun i v hv w hw=>?_,?_,fun r hr=>?_,fun r hr=>?_,fun r hr=>?_,fun hb=>?_,fun hb i v hv=>?_⟩
 ·rw[g1]
  split;(·rfl);(rename_i hne);exact h.s2 r ((zE.1 hr).resolve_right (by simpa using hne))
 ·rw[g1,if_neg (fun (e:r=u)=>hus (e▸hr))]
  exact h.s1 r (by rw[zu];exact List.mem_cons_of_mem _ hr)
 ·have hne:r≠u:=fun e=>h1 (by simp[e])
  rw[g1,if_neg hne];exact h.s0 r (fun hm=>h1 (zE.2 (.inl hm))) (by rw[zu,zI,not_or];exact ⟨hne,h2⟩)
 ·have hi:i<(fo++[u]).length:=(zb.1 hv).1
  rw[zh,List.length_singleton] at hi;rcases zB i fo.length with h1 | h1
  ·rw[zx h1] at hv
   rw[List.take_append_of_le_length tz1];exact (h.fi i v hv w hw).imp id (hmono w)
  (obtain rfl:i=fo.length:=by omega);rw[zK (zQ _),Nat.sub_self] at hv;(cases hv);rw[List.take_left'];(·exact (hch w hw).imp id (hmono w));rfl
 ·cases stk with
  | nil=>trivial
  | cons p stk =>
   obtain ⟨u2,nx2⟩:=p;obtain ⟨k1,k2,k3,k4⟩:=f4;refine ⟨k1,fun j v hj hv=>.inl ?_,fun v hv=>(by cases hv),Frs.mono (fun v hv=>?_) k4⟩
   ·rcases k2 j v hj hv with h1 | h1
    (·exact h1.imp (fun h=>by simp[h]) (hmono v));cases h1;exact .inl tz4
   exact hv.imp (fun h=>by simp[h]) (hmono v)
 ·by_cases e:r=u
  ·subst e
   (rcases g3.1 hr with h1 | ⟨p,hp,h1⟩);(·exact h.cys _ h1);exact (h.cys p h1).step hp
  rw[g2 r e] at hr;exact h.cys r hr
 ·rw[g7]
  by_cases e:r=u
  ·subst e
   (rcases g3.1 hr with h1 | ⟨p,hp,h1⟩);(·exact h.cyb _ h1);exact h.cyb p h1
  rw[g2 r e] at hr;exact h.cyb r hr
 ·rw[hperm]
  by_cases e:r=u
  (·subst e;simp);rw[g2 r e] at hr;exact h.cym r hr
 ·rw[g7] at hb
  rw[hperm];exact h.bds hb
 rw[g7] at hb
 have hcf:∀x,W.cg x=false:=fun x=>by
  cases hc:W.cg x with
  | false=>rfl
  | true=>rw[h.cyb x hc] at hb;cases hb
 have hi:i<(fo++[u]).length:=(zb.1 hv).1;rw[zh,List.length_singleton] at hi;rcases zB i fo.length with h1 | h1
 ·rw[zx h1] at hv
  (have hne:v≠u:=fun e=>huf (e▸zc hv));rw[g4,g5,if_neg hne,if_neg hne];exact h.tol hb i v hv
 (obtain rfl:i=fo.length:=by omega);rw[zK (zQ _),Nat.sub_self] at hv;(cases hv);have hin:∀v∈K u,v∈fo:=fun v hv=>(hch v hv).resolve_right (by rw[hcf v];decide)
 have hval:∀v∈K u,Tl K v (W.dg v,W.zg v)/\W.dg v<=(fo.length:Int):=fun v hv=>by
  obtain ⟨j,hj,e⟩:=zU.1 (hin v hv);obtain ⟨t1,_,t3⟩:=h.tol hb j v (by rw[za hj,e]);exact ⟨t1,by omega⟩
 have hbd:=zkG (f:=fun p=>(W.dg p,W.zg p)) (n:=(fo.length:Int)) tz1 (ch:=K u) fun v hv=>(hval v hv).2
 have hlen:fo.length<=N:=by
  have h2:(fo++((u,nx)::stk).map Prod.fst).length<=N:=zdm hnd h.lt;rw[zh] at h2;omega
 (have hmin:min most (tell (fun p=>(W.dg p,W.zg p)) (K u)).1=(tell (fun p=>(W.dg p,W.zg p)) (K u)).1:=by simp only[most];omega);rw[g4,g5,if_pos rfl,if_pos rfl,hmin];exact ⟨.mk u _ fun v hv=>(hval v hv).1,hbd.1,hbd.2⟩
section
variable {K:Nat->List Nat} {N:Nat} {W:WS} {fo:List Nat}
theorem DfI.closed (h:DfI K N W [] fo) {u v:Nat} (hu:u∈fo) (hv:v∈K u):v∈fo:=by
 obtain ⟨i,hi,e⟩:=zU.1 hu;(rcases h.fi i u (by rw[za hi,e]) v hv with h1 | h1);(·exact List.mem_of_mem_take h1);simpa using h.cym v h1
theorem DfI.rch (h:DfI K N W [] fo) {u w:Nat} (hr:Rch K u w):u∈fo->w∈fo:=by
 induction hr with
 | refl _=>exact id
 | step hv _ ih=>exact fun hu=>ih (h.closed hu hv)
theorem DfI.down (h:DfI K N W [] fo) {x w:Nat} (hr:Rch K x w):(∀v,Rch K x v->W.cg v=false)->∀i:Nat,fo[i]?=some x->∃j:Nat,j<=i/\fo[j]?=some w:=by
 induction hr with
 | refl _=>exact fun _ i hi=>⟨i,zQ _,hi⟩
 | @step u v w hv hr ih =>
  intro hm i hi;rcases h.fi i u hi v hv with h1 | h1
  ·obtain ⟨j,hj,e⟩:=zU.1 h1
   rw[List.length_take] at hj;rw[List.getElem_take] at e;obtain ⟨k,hk1,hk2⟩:=ih (fun z hz=>hm z (.step hv hz)) j (by rw[za tz1,e]);exact ⟨k,by omega,hk2⟩
  rw[hm v (.step hv (.refl _))] at h1;cases h1
theorem DfI.loop_marked (h:DfI K N W [] fo) {u:Nat} (hu:u∈fo) (hl:Pls K u u):∃v,Rch K u v/\W.cg v=true:=Classical.byContradiction fun hn=>by
 have hm:∀v,Rch K u v->W.cg v=false:=fun v hv=>by
  cases hc:W.cg v with
  | false=>rfl
  | true=>exact absurd ⟨v,hv,hc⟩ hn
 obtain ⟨i,hi,e⟩:=zU.1 hu;(have hiu:fo[i]?=some u:=by rw[za hi,e]);obtain ⟨v,hv,hr⟩:=hl;rcases h.fi i u hiu v hv with h1 | h1
 ·obtain ⟨j,hj,e1⟩:=zU.1 h1
  rw[List.length_take] at hj;rw[List.getElem_take] at e1;obtain ⟨k,hk1,hk2⟩:=h.down hr (fun z hz=>hm z (.step hv hz)) j (by rw[za tz1,e1]);(have hnd:fo.Nodup:=by simpa using h.nd);have hkl:=(zb.1 hk2).1;have hp:=List.pairwise_iff_getElem.1 hnd k i hkl hi tz1;rw[(zb.1 hk2).2,e] at hp;exact hp rfl
 rw[hm v (.step hv (.refl _))] at h1;cases h1
theorem DfI.bad_iff (h:DfI K N W [] fo):W.bad=true↔∃y∈fo,Pls K y y:=by
 constructor;(·intro hb;simpa using h.bds hb);rintro ⟨y,hy,hl⟩;obtain ⟨v,_,hv⟩:=h.loop_marked hy hl;exact h.cyb v hv
theorem DfI.told (h:DfI K N W [] fo) (hb:W.bad=false) {u:Nat} (hu:u∈fo):Tl K u (W.dg u,W.zg u):=by
 obtain ⟨i,hi,e⟩:=zU.1 hu;exact (h.tol hb i u (by rw[za hi,e])).1
end
def sumK (K:Nat->List Nat):List Nat->Nat
 | []=>0
 | u::l=>(K u).length+sumK K l
theorem zjV (K:Nat->List Nat) (u:Nat):∀l,sumK K (l++[u])=sumK K l+(K u).length
 | []=>by simp[sumK]
 | v::l=>by simp only[zt,sumK,zjV K u l];omega
theorem zi3 {K:Nat->List Nat} (h:∀u,(K u).length<=8):∀l,sumK K l<=8 * l.length
 | []=>by simp[sumK]
 | v::l=>by
  have:=h v;have:=zi3 h l;simp only[sumK,zy];omega
def sumN:List (Nat×Nat)->Nat
 | []=>0
 | p::l=>p.2+sumN l
structure StI (K:Nat->List Nat) (W:WS) (stk:List (Nat×Nat)) (fo:List Nat) (c:Int):Prop where
 pos:0<=W.steps
 le:W.steps+(stk.length:Int)<=3 * ((fo.length:Int)+(stk.length:Int))+(sumK K fo:Int)+(sumN stk:Int)+c
theorem StI.nil (K:Nat->List Nat):StI K WS0 [] [] 0:=⟨by simp[WS0],by simp[WS0,sumK,sumN]⟩
theorem StI.start {K:Nat->List Nat} {W:WS} {fo:List Nat} {q:Nat} (h:StI K W [] fo 0):StI K (W.begin q) [(q,0)] fo 0:=by
 have h1:=h.pos;have h2:=h.le;refine ⟨?_,?_⟩;(·simp only[WS.begin];omega);simp only[WS.begin,sumN,zy,zH,Nat.add_zero,zM] at h2 ⊢;omega
theorem StI.tick {K:Nat->List Nat} {W:WS} {stk:List (Nat×Nat)} {fo:List Nat} (h:StI K W stk fo 0):StI K W.tick stk fo 1:=by
 have h1:=h.pos;have h2:=h.le;refine ⟨?_,?_⟩;(·simp only[WS.tick];omega);simp only[WS.tick];omega
theorem StI.part {K:Nat->List Nat} {W:WS} {stk:List (Nat×Nat)} {fo:List Nat} {u nx:Nat} (h:StI K W ((u,nx)::stk) fo 1):StI K W.tick ((u,nx+1)::stk) fo 1:=by
 have h1:=h.pos;have h2:=h.le;refine ⟨?_,?_⟩;(·simp only[WS.tick];omega);simp only[WS.tick,sumN,zy] at h2 ⊢;omega
theorem StI.push {K:Nat->List Nat} {W:WS} {stk:List (Nat×Nat)} {fo:List Nat} {q:Nat} (h:StI K W stk fo 1):StI K (W.begin q) ((q,0)::stk) fo 0:=by
 have h1:=h.pos;have h2:=h.le;refine ⟨?_,?_⟩;(·simp only[WS.begin];omega);simp only[WS.begin,sumN,zy] at h2 ⊢;omega
theorem StI.back {K:Nat->List Nat} {W:WS} {stk:List (Nat×Nat)} {fo:List Nat} {c:Int} (h:StI K W stk fo c) (q:Nat) (l:List Nat):StI K (za4 q l {W with bad:=true}) stk fo c:=by
 obtain ⟨_,_,_,e,_⟩:=zcE q l {W with bad:=true};exact ⟨by rw[e];exact h.pos,by rw[e];exact h.le⟩
theorem StI.fin {K:Nat->List Nat} {W:WS} {stk:List (Nat×Nat)} {fo:List Nat} {u nx:Nat} (h:StI K W ((u,nx)::stk) fo 1) (hn:nx<=(K u).length):StI K (W.fin u (K u)) stk (fo++[u]) 0:=by
 have h1:=h.pos;have h2:=h.le;have e:=(W.fin_spec u (K u)).2.2.2.2.2.1;refine ⟨by rw[e];exact h1,?_⟩;rw[e,zjV];simp only[sumN,zy,zh,zH] at h2 ⊢;omega
theorem StI.bound {K:Nat->List Nat} {W:WS} {fo:List Nat} (h:StI K W [] fo 0) (hk:∀u,(K u).length<=8):W.steps<=11 * (fo.length:Int):=by
 have h2:=h.le;have h3:=zi3 hk fo;simp only[sumN,zH] at h2;omega
theorem RenO.rowR {ρ:Nat->Nat} {i t sz:Nat} {xs ys:List (List AV)} (hl:ys.length=xs.length) (hsz:(∀x∈xs,x.length=sz)↔∀y∈ys,y.length=sz) (hr:RenL ρ xs.flatten ys.flatten):RenO ρ i (.row t sz xs) (.row t sz ys):=by
 refine ⟨fun E=>rfl,rfl,fun E A w=>⟨?_,?_⟩⟩
 ·rintro ⟨h1,h2,h3⟩
  refine ⟨by rw[hl];exact h1,hsz.1 h2,?_⟩;(rcases h3 with h3 | ⟨b,cap,cur,h3,h4,h5,h6,h7,h8⟩);(·exact .inl (by rw[hl];exact h3));refine .inr ⟨b,cap,cur,by rw[hl];exact h3,by rw[hl];exact h4,h5,h6,h7,fun j c u hc hu=>?_⟩;obtain ⟨x,hx,hv⟩:=hr.get' j c hc;exact (hv E A w u).1 (h8 j x u hx hu)
 rintro ⟨h1,h2,h3⟩;refine ⟨by rw[<- hl];exact h1,hsz.2 h2,?_⟩;(rcases h3 with h3 | ⟨b,cap,cur,h3,h4,h5,h6,h7,h8⟩);(·exact .inl (by rw[<- hl];exact h3));refine .inr ⟨b,cap,cur,by rw[<- hl];exact h3,by rw[<- hl];exact h4,h5,h6,h7,fun j c u hc hu=>?_⟩;obtain ⟨y,hy,hv⟩:=hr.get j c hc;exact (hv E A w u).2 (h8 j y u hy hu)
abbrev cI (n:Int):AV:=.v (.int .i64 n)
abbrev cB (b:Bool):AV:=.v (.bool b)
def mC {α:Type} (c:α->AV) (V:List (Int×α)):List (Int×AV):=V.map fun p=>(p.1,c p.2)
theorem zaG (V:List (Int×Int)):∀p∈mC cI V,Data p.2:=fun p hp=>by
 obtain ⟨q,_,rfl⟩:=zq.1 hp;exact .v _
theorem zbP (V:List (Int×Bool)):∀p∈mC cB V,Data p.2:=fun p hp=>by
 obtain ⟨q,_,rfl⟩:=zq.1 hp;exact .v _
theorem zgG (V:List (Int×Int)) (k:Int):(zbq (mC cI V) k).getD (.v (.int .i64 0))=.v (.int .i64 ((zcr V k).getD 0)):=by
 rw[mC,zfp];cases zcr V k <;> rfl
theorem look_B (V:List (Int×Bool)) (k:Int):(zbq (mC cB V) k).getD (.v (.bool false))=.v (.bool ((zcr V k).getD false)):=by
 rw[mC,zfp];cases zcr V k <;> rfl
theorem upd_I (V:List (Int×Int)) (k x:Int):zdr (mC cI V) k (.v (.int .i64 x))=mC cI (zgi V k x):=zhA cI k x V
theorem upd_B (V:List (Int×Bool)) (k:Int) (x:Bool):zdr (mC cB V) k (.v (.bool x))=mC cB (zgi V k x):=zhA cB k x V
def frC (K:Nat->List Nat) (p:Nat×Nat):List AV:=[.v (.int .i64 (p.1:Int)),.sl 2 ((K p.1).map (zby 0)),.v (.int .i64 (p.2:Int))]
theorem RenL.app {ρ:Nat->Nat}:∀{a a' b b':List AV},RenL ρ a a'->RenL ρ b b'->RenL ρ (a++b) (a'++b')
 | [],[],_,_,_,h=>h
 | _::_,_::_,_,_,⟨h1,h2⟩,h=>⟨h1,RenL.app h2 h⟩
theorem RenL.frames {ρ:Nat->Nat} (K:Nat->List Nat) (h:ρ 0=0):∀l:List (Nat×Nat),RenL ρ (l.map (frC K)).flatten (l.map (frC K)).flatten
 | []=>trivial
 | p::l=>by
  rw[zu,List.flatten_cons];exact RenL.app ⟨.v _,.parts h _,.v _,trivial⟩ (RenL.frames K h l)
theorem Und.frames {n:Nat} (K:Nat->List Nat) (h:0<n) (l:List (Nat×Nat)):∀x∈l.map (frC K),UndL n x:=fun x hx=>by
 obtain ⟨p,_,rfl⟩:=zq.1 hx;exact ⟨.v _ _,.parts h _,.v _ _,trivial⟩
theorem Und.frame {n:Nat} (K:Nat->List Nat) (h:0<n) (p:Nat×Nat):UndL n (frC K p):=⟨.v _ _,.parts h _,.v _ _,trivial⟩
def zkZ (S:CS) (r:Nat) (rs:List Nat):Prop:=∃x,S.W[r]?=some x/\Roots S x rs
theorem Roots.det {S:CS} {x:Int} {a b:List Nat} (h:Roots S x a) (k:Roots S x b):a=b:=by
 rcases h with ⟨h1,rfl⟩ | ⟨h1,g,hg,hl,ha⟩
 ·rcases k with ⟨_,rfl⟩ | ⟨k1,_⟩
  (·rfl);omega
 (rcases k with ⟨k1,_⟩ | ⟨_,g',hg',hl',hb⟩);(·omega);rw[hg] at hg';cases hg';refine List.ext_getElem tz1 fun j h1 h2=>?_;have hp:g.parts[j]?=some (g.parts[j]'tz1):=za tz1;exact Rt.det (ha j _ _ hp (za h1)) (hb j _ _ hp (za h2))
open Classical in
noncomputable def zaE (S:CS) (r:Nat):List Nat:=if h:∃rs,zkZ S r rs then Classical.choose h else []
theorem zdJ {S:CS} {r:Nat} {rs:List Nat} (h:zkZ S r rs):zaE S r=rs:=by
 classical
 have h1:∃rs,zkZ S r rs:=⟨rs,h⟩;unfold zaE;rw[dif_pos h1];obtain ⟨x,hx,hr⟩:=h;obtain ⟨x',hx',hr'⟩:=Classical.choose_spec h1;rw[hx] at hx';cases hx';exact hr'.det hr
theorem Roots.fsame {S:CS} {F1:FS} (k:FSame S.F F1) {x:Int} {rs:List Nat}:Roots {S with F:=F1} x rs↔Roots S x rs:=by
 unfold Roots;constructor
 ·rintro (h | ⟨h1,g,h2,h3,h4⟩)
  (·exact .inl h);exact .inr ⟨h1,g,h2,h3,fun j p q hp hq=>(k.rt _ _).1 (h4 j p q hp hq)⟩
 rintro (h | ⟨h1,g,h2,h3,h4⟩);(·exact .inl h);exact .inr ⟨h1,g,h2,h3,fun j p q hp hq=>(k.rt _ _).2 (h4 j p q hp hq)⟩
theorem zbH {S:CS} {F1:FS} (k:FSame S.F F1) (r:Nat):zaE {S with F:=F1} r=zaE S r:=by
 classical
 have h:∀rs,zkZ {S with F:=F1} r rs↔zkZ S r rs:=fun rs=>⟨fun ⟨x,h1,h2⟩=>⟨x,h1,(Roots.fsame k).1 h2⟩,fun ⟨x,h1,h2⟩=>⟨x,h1,(Roots.fsame k).2 h2⟩⟩
 by_cases he:∃rs,zkZ S r rs
 ·obtain ⟨rs,hrs⟩:=he
  rw[zdJ hrs,zdJ ((h rs).2 hrs)]
 unfold zaE;rw[dif_neg he,dif_neg (fun ⟨rs,hrs⟩=>he ⟨rs,(h rs).1 hrs⟩)]
structure CyG (S:CS):Prop where
 c:CInv S
 vin:∀n k,zau S.G.V n=some k->0<=k/\k<(S.F.up.length:Int)
 g0:∀(r:Nat) (x:Int),Rt S.F.up r r->S.W[r]?=some x->0<=x->∃g,S.G.N[x.toNat]?=some g/\1<=g.k/\g.parts.length<=8/\∀p∈g.parts,0<=p/\p<(S.F.up.length:Int)
 h64:∀q∈S.G.V,is64 q.1
 vl:S.G.V.length<=1048576
 nl:S.F.up.length<=1048576
theorem CyG.fsame {S:CS} (h:CyG S) {F1:FS} (k:FSame S.F F1) (hc:CInv {S with F:=F1}):CyG {S with F:=F1} :=
 ⟨hc,fun n i hv=>by have:=h.vin n i hv;dsimp only;rw[k.len];exact this,fun r x hr hx h0=>by
  have:=h.g0 r x ((k.rt _ _).1 hr) hx h0
  dsimp only;rw[k.len];exact this,h.h64,h.vl,by dsimp only;rw[k.len];exact h.nl⟩
theorem zb2 {S:CS} (h:CyG S) (r:Nat):(zaE S r).length<=8:=by
 classical
 unfold zaE;split
 ·rename_i he
  obtain ⟨x,hx,hr⟩:=Classical.choose_spec he;(rcases hr with ⟨_,h2⟩ | ⟨_,g,hg,hl,_⟩);(·rw[h2];simp);rw[hl];exact h.c.pl g (zc hg)
 simp
theorem zcc {S:CS} (r v:Nat) (hv:v∈zaE S r):Rt S.F.up v v:=by
 classical
 unfold zaE at hv;split at hv
 ·rename_i he
  obtain ⟨x,hx,hr⟩:=Classical.choose_spec he;(rcases hr with ⟨_,h2⟩ | ⟨_,g,hg,hl,ha⟩);(·rw[h2] at hv;cases hv);obtain ⟨j,hj,e⟩:=zU.1 hv;have:=ha j _ _ (za (show j<g.parts.length by omega)) (za hj);rw[e] at this;exact zbX.1 this.root
 cases hv
end Go.Proofs.YtpfiliamceimmaaGreatDoor
namespace Go.Proofs.YtpfiliamceimmaaGreatDoor
open Go Go.RowKit
attribute [local irreducible] aops zaz
theorem PSt.cyG {l:List (Ty×Ty)} {M:List RNode} {c:List Int} {S:CS} (h:PSt l M c S):CyG S :=
 ⟨h.h.2.w.c,h.h.2.vin,h.g0,h.h64,h.vl,by rw[h.nl];exact h.len⟩
end Go.Proofs.YtpfiliamceimmaaGreatDoor
namespace Go.Proofs.YtpfiliamceimmaaGreatDoor
open Go Go.RowKit
structure WayH (N:Nat) (D K:Nat->List Nat) (ρ:Nat->Nat):Prop where
 lt:∀i,i<N->∀j∈D i,j<N
 hom:∀i,i<N->K (ρ i)=(D i).map ρ
section
variable {N:Nat} {D K:Nat->List Nat} {ρ:Nat->Nat}
theorem WayH.rch (h:WayH N D K ρ) {i j:Nat} (hr:Rch D i j):i<N->j<N/\Rch K (ρ i) (ρ j):=by
 induction hr with
 | refl u=>exact fun hi=>⟨hi,.refl _⟩
 | @step u v w hv _ ih =>
  intro hi;have hv':=h.lt u hi v hv;obtain ⟨h1,h2⟩:=ih hv';exact ⟨h1,.step (by rw[h.hom u hi];exact zq.2 ⟨v,hv,rfl⟩) h2⟩
theorem WayH.back (h:WayH N D K ρ) {y z:Nat} (hr:Rch K y z):∀i,i<N->ρ i=y->∃j,j<N/\Rch D i j/\ρ j=z:=by
 induction hr with
 | refl u=>exact fun i hi e=>⟨i,hi,.refl _,e⟩
 | @step u v w hv _ ih =>
  rintro i hi rfl;rw[h.hom i hi] at hv;obtain ⟨k,hk,rfl⟩:=zq.1 hv;obtain ⟨j,h1,h2,h3⟩:=ih k (h.lt i hi k hk) rfl;exact ⟨j,h1,.step hk h2,h3⟩
theorem WayH.pls (h:WayH N D K ρ) {i z:Nat} (hi:i<N):Pls K (ρ i) z↔∃j,j<N/\Pls D i j/\ρ j=z:=by
 constructor
 ·rintro ⟨v,hv,hr⟩
  rw[h.hom i hi] at hv;obtain ⟨k,hk,rfl⟩:=zq.1 hv;obtain ⟨j,h1,h2,h3⟩:=h.back hr k (h.lt i hi k hk) rfl;exact ⟨j,h1,⟨k,hk,h2⟩,h3⟩
 rintro ⟨j,hj,⟨v,hv,hr⟩,rfl⟩;exact ⟨ρ v,by rw[h.hom i hi];exact zq.2 ⟨v,hv,rfl⟩,(h.rch hr (h.lt i hi v hv)).2⟩
theorem Pls.next {u v w:Nat} (h:Pls K u v) (k:w∈K v):Pls K u w:=by
 obtain ⟨x,hx,hr⟩:=h;exact ⟨x,hx,hr.trans (.step k (.refl _))⟩
open Classical in
theorem Tl.ex (hlt:∀i,i<N->∀j∈K i,j<N) (hno:∀y,y<N->¬Pls K y y):∀(n:Nat) (anc:List Nat),anc.length+n=N->anc.Nodup->(∀x∈anc,x<N)->∀i,i<N->(∀x∈anc,Pls K x i)->∃a,Tl K i a
 | n,anc,hn,hd,ha,i,hi,hp=>by
  (have hia:i∉anc:=fun hm=>hno i hi (hp i hm));have hd':(i::anc).Nodup:=List.nodup_cons.2 ⟨hia,hd⟩
  have ha':∀x∈i::anc,x<N:=fun x hx=>by
   (rcases zI.1 hx with rfl | hx);(·exact hi);exact ha x hx
  have hle:=zdm hd' ha';rw[zy] at hle
  match n,hn with
  | 0,hn=>omega
  | n+1,hn =>
   have key:∀v∈K i,∃a,Tl K v a:=fun v hv=>Tl.ex hlt hno n (i::anc) (by rw[zy];omega) hd' ha' v (hlt i hi v hv) fun x hx=>by
    (rcases zI.1 hx with rfl | hx);(·exact ⟨v,hv,.refl _⟩);exact (hp x hx).next hv
   exact ⟨_,.mk i (fun v=>if h:∃a,Tl K v a then Classical.choose h else (0,0)) fun v hv=>by
    have h:=key v hv;simp only[dif_pos h]
    exact Classical.choose_spec h⟩
theorem Tl.all (hlt:∀i,i<N->∀j∈K i,j<N) (hno:∀y,y<N->¬Pls K y y) {i:Nat} (hi:i<N):∃a,Tl K i a:=Tl.ex hlt hno N [] tz4 tz4 tz4 i hi tz4
end
open Classical in
noncomputable def zaT (S:CS) (i:Nat):Nat:=if h:∃r,Rt S.F.up i r then Classical.choose h else 0
theorem zbh {S:CS} {i r:Nat} (h:Rt S.F.up i r):zaT S i=r:=by
 classical
 have h1:∃r,Rt S.F.up i r:=⟨r,h⟩;unfold zaT;rw[dif_pos h1];exact Rt.det (Classical.choose_spec h1) h
theorem zeW {S:CS} (h:CInv S) {i:Nat} (hi:i<S.G.N.length):Rt S.F.up i (zaT S i):=by
 obtain ⟨r,hr⟩:=h.root hi;rw[zbh hr];exact hr
def zbp (M:List RNode) (c:List Int) (i:Nat):List Int:=if 0<=za6 M c i then ((M[(za6 M c i).toNat]?).map RNode.parts).getD [] else []
def zbc (M:List RNode) (c:List Int) (i:Nat):List Nat:=(zbp M c i).map Int.toNat
theorem ze4 {M:List RNode} {c:List Int} {i:Nat} (h:za6 M c i<0):zbp M c i=[]:=by
 unfold zbp;rw[if_neg tz1]
theorem zeY {M:List RNode} {c:List Int} {i k:Nat} {y:RNode} (h:za6 M c i=(k:Int)) (hy:M[k]?=some y):zbp M c i=y.parts:=by
 unfold zbp;rw[h,if_pos tz1,zG,hy];rfl
theorem zjk {M:List RNode} {c:List Int} {i j:Nat} (h:c[i]?=c[j]?):zaO M c i=zaO M c j:=by
 (funext k);unfold zaO;rw[h]
theorem nextI_col {M:List RNode} {c:List Int} {i j:Nat} (h:c[i]?=c[j]?):zbp M c i=zbp M c j:=by
 unfold zbp za6;rw[zjk h]
section
variable {l:List (Ty×Ty)} {M:List RNode} {c:List Int} {S:CS}
theorem PSt.gl (h:PSt l M c S):S.G.N.length=M.length:=by rw[h.m];exact h.h.2.rel.len
theorem PSt.rt (h:PSt l M c S) {i:Nat} (hi:i<M.length):Rt S.F.up i (zaT S i):=zeW h.h.2.w.c (by rw[h.gl];exact hi)
theorem PSt.parts (h:PSt l M c S) {k:Nat} {y:RNode} (hy:M[k]?=some y):y.parts.length<=8/\∀p∈y.parts,0<=p/\p<(k:Int):=by
 have hm:=h.m;subst hm;have hk:=(zb.1 hy).1;(have hgl:k<S.G.N.length:=by rw[h.h.2.rel.len];exact hk);obtain ⟨_,_,f3,_,_,_,f7,f8⟩:=h.h.2.rel.node k _ _ (za hgl) hy;refine ⟨by rw[<- f3];exact h.h.2.w.c.pl _ (List.getElem_mem _),fun p hp=>?_⟩;obtain ⟨j,hj,e⟩:=zU.1 hp;have h1:=f8 j p (y.t.ps[j]'tz1) (by rw[za hj,e]) (za _);exact ⟨h1.1,h1.2.1⟩
theorem PSt.kids_node (h:PSt l M c S) {k r:Nat} {y:RNode} (hy:M[k]?=some y) (hk:y.t.k≠1) (hr:Rt S.F.up k r):zaE S r=(y.parts.map Int.toNat).map (zaT S):=by
 have hml:=h.gl;have hpp:=h.parts hy;have hkl:=(zb.1 hy).1;have hm:=h.m;subst hm;have hW:=h.h.2.w;have hC:=hW.c;obtain ⟨x,hx⟩:=hC.wat hr;have hsk:shG S.G k=some (y.t.k,y.parts):=by rw[h.h.2.rel.sh];exact zcV hy
 have hx0:0<=x:=by
  (rcases Int.lt_or_le x 0 with h1 | h1);(·exact absurd (hW.neg r k x _ _ hx h1 hr hsk) hk);exact h1
 obtain ⟨hxr,d,ps,hsx,hd,hall⟩:=hW.pos r x (zbX.1 hr.root) hx hx0;obtain ⟨g,hg,hgk,hgp⟩:=shG_at hsx;obtain ⟨e1,e2,e3⟩:=hall k _ _ hr hsk hk;refine zdJ ⟨x,hx,.inr ⟨hx0,g,hg,by rw[zD,zD,hgp];exact e2,fun j p q hp hq=>?_⟩⟩;rw[zP,zP] at hq
 cases hp':y.parts[j]? with
 | none=>rw[hp'] at hq;cases hq
 | some p' =>
  rw[hp'] at hq;simp only[Option.map_some,Option.some.injEq] at hq;subst hq;rw[hgp] at hp;have h9:=hpp.2 p' (zc hp');exact ((e3 j p p' hp hp').nil).rt (zeW hC tz1)
theorem PSt.kids_next (h:PSt l M c S) {i r:Nat} (hi:i<M.length) (hr:Rt S.F.up i r):zaE S r=(zbc M c i).map (zaT S):=by
 have hC:=h.h.2.w.c;rcases zbM M c i with ⟨h1,h2⟩ | ⟨k,h1,h2,h3⟩
 ·obtain ⟨x,hx⟩:=hC.wat hr
  have hx0:x<0:=(h.part hi hr hx).neg.2 tz1;rw[zbc,ze4 tz1];exact zdJ ⟨x,hx,.inl ⟨hx0,rfl⟩⟩
 obtain ⟨h4,h5⟩:=zcF.1 h3;have hy:M[k]?=some (M[k]'h2):=za h2;rw[hy] at h5;rw[zbc,zeY h1 hy];have hm:=h.m;subst hm;exact h.kids_node hy (by simpa using h5) ((zbC h.h hr).2 ((h.hc.iff i k hi h2).1 h4.symm))
theorem PSt.next_lt (h:PSt l M c S) (i:Nat):(zbp M c i).length<=8/\∀p∈zbp M c i,0<=p/\p<(M.length:Int):=by
 (rcases zbM M c i with ⟨h1,h2⟩ | ⟨k,h1,h2,h3⟩);(·rw[ze4 tz1];exact ⟨by simp,fun p hp=>by cases hp⟩);have hy:M[k]?=some (M[k]'h2):=za h2;rw[zeY h1 hy];refine ⟨(h.parts hy).1,fun p hp=>?_⟩;have:=(h.parts hy).2 p hp;omega
theorem PSt.way (h:PSt l M c S):WayH M.length (zbc M c) (zaE S) (zaT S) :=
 ⟨fun i hi j hj=>by
  obtain ⟨p,hp,rfl⟩:=zq.1 hj;have:=(h.next_lt i).2 p hp
  omega,fun i hi=>h.kids_next hi (h.rt hi)⟩
theorem PSt.col_iff (h:PSt l M c S) {i j:Nat} (hi:i<M.length) (hj:j<M.length):c[i]?=c[j]?↔zaT S i=zaT S j:=by
 have h1:=h.rt hi;have h2:=h.rt hj;have hm:=h.m;subst hm;rw[h.hc.iff i j hi hj];constructor;(·exact fun hc=>Rt.det ((zbC h.h h1).2 hc) h2 |>.symm▸rfl);exact fun e=>(zbC h.h h1).1 (by rw[e];exact h2)
theorem PSt.loop_var (h:PSt l M c S):∀(i:Nat) (y:RNode),M[i]?=some y->Pls (zaE S) (zaT S i) (zaT S i)->∃(j:Nat) (z:RNode),M[j]?=some z/\z.t.k=1/\Pls (zaE S) (zaT S j) (zaT S j):=by
 intro i
 induction i using Nat.strongRecOn with
 | ind i ih =>
 intro y hy hp
 by_cases hk:y.t.k=1
 (·exact ⟨i,y,hy,hk,hp⟩);have hi:=(zb.1 hy).1;obtain ⟨v,hv,hr⟩:=hp;have hv0:=hv;rw[h.kids_node hy hk (h.rt hi)] at hv;obtain ⟨q,hq,rfl⟩:=zq.1 hv;obtain ⟨p,hp,rfl⟩:=zq.1 hq;have h1:=(h.parts hy).2 p hp;exact ih p.toNat tz1 _ (za (show p.toNat<M.length by omega)) (Pls.of_rch hr hv0)
theorem PSt.var_node (h:PSt l M c S) {j:Nat} {z:RNode} (hz:M[j]?=some z) (hk:z.t.k=1):zbo (RNode.isVar z.t.n) M=(j:Int)/\zau S.G.V z.t.n=some (j:Int):=by
 have hm:=h.m;subst hm;have hU:=zdQ l h.hc.ok;have hj:=(zb.1 hz).1;have h1:zbo (RNode.isVar z.t.n) (eqF l).1=(j:Int):=hU.idx hz hk;refine ⟨h1,?_⟩;(rcases h.h.vf z.t.n with ⟨_,h2⟩ | ⟨i,h2,h3,_⟩);(·omega);rw[h2];congr 1;omega
theorem kids_lt {S:CS} {r v:Nat} (h:v∈zaE S r):v<S.F.up.length:=(zcc r v h).lt
theorem Pls.root {S:CS} {r v:Nat} (h:Pls (zaE S) r v):Rt S.F.up v v:=by
 obtain ⟨x,hx,hr⟩:=h
 have:∀{a b:Nat},Rch (zaE S) a b->Rt S.F.up a a->Rt S.F.up b b:=fun hr=>by
  induction hr with
  | refl _=>exact id
  | step hv _ ih=>exact fun _=>ih (zcc _ _ hv)
 exact this hr (zcc _ _ hx)
theorem PSt.no_loop (h:PSt l M c S) (hv:∀(v i:Int) (q:Nat),zau S.G.V v=some i->Rt S.F.up i.toNat q->¬Lp (zaE S) q) (y:Nat):¬Pls (zaE S) y y:=fun hp=>by
 have hr:=hp.root;(have hy:y<M.length:=by rw[<- h.nl];exact hr.lt);obtain ⟨j,z,hz,hk,hl⟩:=h.loop_var y _ (za hy) (by rw[zbh hr];exact hp);have hj:=(zb.1 hz).1;exact hv z.t.n j _ (h.var_node hz hk).2 (by rw[zG];exact h.rt hj) ⟨_,.refl _,hl⟩
def zi1 (M:List RNode) (c:List Int) (i:Nat):Prop:=∃j,j<M.length/\Pls (zbc M c) i j/\c[j]?=c[i]?
theorem PSt.loop_iff (h:PSt l M c S) {i:Nat} (hi:i<M.length):zi1 M c i↔Pls (zaE S) (zaT S i) (zaT S i):=by
 rw[h.way.pls hi];constructor
 ·rintro ⟨j,hj,hp,hc⟩
  exact ⟨j,hj,hp,(h.col_iff hj hi).1 hc⟩
 rintro ⟨j,hj,hp,hc⟩;exact ⟨j,hj,hp,(h.col_iff hj hi).2 hc⟩
end
end Go.Proofs.YtpfiliamceimmaaGreatDoor
