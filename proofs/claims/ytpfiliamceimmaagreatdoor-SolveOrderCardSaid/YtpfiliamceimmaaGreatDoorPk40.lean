/- packed, part 40 of 46. Conditions: none. -/
import Derived.Test.YtpfiliamceimmaaGreatDoorPk39
set_option linter.unusedVariables false
set_option linter.unusedSimpArgs false
set_option maxRecDepth 100000
set_option maxHeartbeats 4000000
namespace Go.Proofs.YtpfiliamceimmaaGreatDoor
open Go Go.RowKit
attribute [local irreducible] aops zax
theorem APure.le {P:Program} {f:Nat} {args args':List AV} {x:AV} (h:APure P f args' x) (hl:LeL args args') (hd:DataL args):APure P f args x:=⟨hd,h.2.1,h.2.2.args hl⟩
theorem zjK (a b:List Bd):APure Tryz.prog 14 [.sl 4 (a.map Bd.cells),.sl 4 (b.map Bd.cells)] (.v (.bool (ziZ a b))):=by
  refine APure.mkL (.cons (Bd.dataSl a) (.cons (Bd.dataSl b) .nil)) (.v _) ?_;refine aIn Tryz.func14 fun hm=>?_;simp only[Tryz.ntmps14,Tryz.results14,go_sem,seval];have hm1:=hm.len (sz:=4) (xs:=a.map Bd.cells) tz4;rw[zD] at hm1;refine sqD ?_;refine zW fun _ w=>?_;refine sqR fun _ z=>?_;refine chS 3 ?_;simp only[↓bO,go_sem,seval];apply z;apply zZ rfl <;> intro hb10
  ·
   refine sqD ?_;apply z6;(try simp only[go_sem]);refine Le.of_eq (congrArg (fun b=>AV.v (.bool b)) ?_);unfold ziZ;first | (rw[zdz (ps:=a) (qs:=b) (by simp at hb10;omega)];done) | (have h9:(p.v==q.v&&p.t.same q.t)=false:=(by first | (have h8:=hb41;simp at h8;simp[h8];done) | (have h8:=hc28;simp at h8;simp[h8];done));rw[zcs (f:=fun x y:Bd=>x.v==y.v&&x.t.same y.t) hp hq h9];done) | (rw[zcr hl fun k p q hp hq=>hs.2 k p q (by have:=(zb.1 hp).1;omega) hp hq];done)
  (have hl:a.length=b.length:=by simp at hb10;omega);apply zaa;apply w;refine zW fun _ w=>?_;refine sqD ?_;apply z7;refine zag (σ:=Nat) (mB 42 35) (fun s=>s<=a.length/\∀(k:Nat) (x y:Bd),k<s->a[k]?=some x->b[k]?=some y->(x.v==y.v&&x.t.same y.t)=true) (fun s=>[(5,.v (.int .i64 (s:Int)))]) (fun s=>[]) (fun s=>a.length-s) 0 (⟨by omega,fun k p q hk=>by omega⟩) ?_ (fun s hs=>?_)
  ·
   simp only[go_sem,seval];exact zaG
  simp only[go_sem,seval];refine zW fun _ z=>?_;refine sqR fun _ j=>?_;refine chS 3 ?_;simp only[↓bO,go_sem,seval];apply j;apply zZ rfl <;> intro hb14
  ·
   (have hk:s<a.length:=by simpa using hb14);obtain ⟨p,hp⟩:∃p,a[s]?=some p:=⟨_,za hk⟩;(have hk2:s<b.length:=by omega);obtain ⟨q,hq⟩:∃q,b[s]?=some q:=⟨_,za hk2⟩;have hw:IntKind.i64.wrap ((s:Int)+1)=(s:Int)+1:=zak tz1 (by simp only[maxLen] at hm1;omega);apply zaa;apply z;refine zW fun _ z=>?_;apply z7;refine zW fun _ j=>?_;refine zaw 25 mixed tz0 fun J0 j0=>?_;(iterate 4 (simp only[go_sem];refine zab 3 fun _ u=>?_;simp only[↓zax,↓dOp,↓bO,go_sem,seval,Bd.take1,Bd.cells_len,hk,hk2,gM hp,gM hq];apply u;clear u));simp only[go_sem];refine zaQ 28 rfl (fun hc28=>?_) (fun hc28=>?_)
   ·
    simp only[go_sem];(iterate 4 (refine zab 3 fun _ u=>?_;simp only[↓zax,↓dOp,↓bO,go_sem,seval];apply u;clear u));simp only[↓zax,↓dOp,↓bO,go_sem,seval];refine j0 _ ?_;clear j0 J0;simp only[bL,aops,zap,zaf,zac];apply j;refine zZ (b:=true) (by first | exact rfl | exact congrArg (fun b=>AV.v (.bool b)) hb41) (fun _=>?_) (fun h=>(by cases h));refine sqD ?_;apply z6;(try simp only[go_sem]);refine Le.of_eq (congrArg (fun b=>AV.v (.bool b)) ?_);unfold ziZ;first | (rw[zdz (ps:=a) (qs:=b) (by simp at hb10;omega)];done) | (have h9:(p.v==q.v&&p.t.same q.t)=false:=(by first | (have h8:=hb41;simp at h8;simp[h8];done) | (have h8:=hc28;simp at h8;simp[h8];done));rw[zcs (f:=fun x y:Bd=>x.v==y.v&&x.t.same y.t) hp hq h9];done) | (rw[zcr hl fun k p q hp hq=>hs.2 k p q (by have:=(zb.1 hp).1;omega) hp hq];done)
   simp only[go_sem];(iterate 3 (refine zab 3 fun _ u=>?_;simp only[↓zax,↓dOp,↓bO,go_sem,seval,Bd.drop1,hk,hk2,gM hp,gM hq];apply u;clear u));refine zab 1 fun _ u=>?_;simp only[↓zax,↓dOp,↓bO,go_sem,seval];apply u;clear u;refine zab 1 fun _ u=>?_;simp only[↓zax,↓dOp,↓bO,go_sem,seval];refine ⟨_,Same_pure p.t q.t,?_⟩;apply u;clear u;simp only[↓zax,↓dOp,↓bO,go_sem,seval];refine j0 _ ?_;clear j0 J0;simp only[bL,aops,zap,zaf,zac];apply j;apply zZ rfl <;> intro hb41
   ·
    refine sqD ?_;apply z6;(try simp only[go_sem]);refine Le.of_eq (congrArg (fun b=>AV.v (.bool b)) ?_);unfold ziZ;first | (rw[zdz (ps:=a) (qs:=b) (by simp at hb10;omega)];done) | (have h9:(p.v==q.v&&p.t.same q.t)=false:=(by first | (have h8:=hb41;simp at h8;simp[h8];done) | (have h8:=hc28;simp at h8;simp[h8];done));rw[zcs (f:=fun x y:Bd=>x.v==y.v&&x.t.same y.t) hp hq h9];done) | (rw[zcr hl fun k p q hp hq=>hs.2 k p q (by have:=(zb.1 hp).1;omega) hp hq];done)
   apply zaa;apply z;apply zY;simp only[↓bO,go_sem,seval,hw];refine ⟨(s+1),⟨by omega,fun k p' q' hi h1 h2=>(by rcases zE k s with h3 | h3 <;> first | exact hs.2 k p' q' h3 h1 h2 | (obtain rfl:k=s:=tz1;rw[hp] at h1;rw[hq] at h2;cases h1;cases h2;simp at hc28 hb41;simp[hc28,hb41]))⟩,by omega,?_⟩;simp only[zas,zat,zad,zaj,mB,seval,zn,zm];exact zaG
  (have hk:s=a.length:=by have:=hs.1;simp at hb14;omega);apply zah;simp only[zap,zaf,zac,bA,Nat.reduceEqDiff,↓reduceIte];apply w;refine sqD ?_;apply z6;(try simp only[go_sem]);refine Le.of_eq (congrArg (fun b=>AV.v (.bool b)) ?_);unfold ziZ;first | (rw[zdz (ps:=a) (qs:=b) (by simp at hb10;omega)];done) | (have h9:(p.v==q.v&&p.t.same q.t)=false:=(by first | (have h8:=hb41;simp at h8;simp[h8];done) | (have h8:=hc28;simp at h8;simp[h8];done));rw[zcs (f:=fun x y:Bd=>x.v==y.v&&x.t.same y.t) hp hq h9];done) | (rw[zcr hl fun k p q hp hq=>hs.2 k p q (by have:=(zb.1 hp).1;omega) hp hq];done)
def sv (l:List Int):List (Int×AV):=l.map fun n=>(n,.v (.int .i64 1))
def sObs (l:List Int):List Ob:=[.map (sv l),.cells 130 [.map 0],.cells 54 [.osl 3 1 (l.map intC)],.tok 3 1 l.length]
def SCalls (f:Nat) (args:List AV) (l:List Int) (R:AV) (l1:List Int):Prop :=
 ACalls Tryz.prog f args (z8 0 (sObs l)) 4 fun r os n=>(r=R/\os=z8 0 (sObs l1))/\n=4
end Go.Proofs.YtpfiliamceimmaaGreatDoor
