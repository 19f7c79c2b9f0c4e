/- packed, part 39 of 47. Conditions: none. -/
import Derived.Test.YtpfiliamceimmaaGreatDoorPk38
set_option linter.unusedVariables false
set_option linter.unusedSimpArgs false
set_option maxRecDepth 100000
set_option maxHeartbeats 4000000
namespace Go.Proofs.YtpfiliamceimmaaGreatDoor
open Go Go.RowKit
attribute [local irreducible] aops zaz
def sv (l:List Int):List (Int×AV):=l.map fun n=>(n,.v (.int .i64 1))
theorem sv_nil:sv []=[]:=rfl
theorem zjG (l:List Int):∀p∈sv l,Data p.2:=fun p hp=>by
 obtain ⟨n,_,rfl⟩:=zq.1 hp;exact .v _
def zk0 (l:List Int) (k:Int):Int:=if l.any (fun x=>x==k) then 1 else 0
theorem zg9 (k:Int):∀l:List Int,(zbq (sv l) k).getD (.v (.int .i64 0))=.v (.int .i64 (zk0 l k))
 | []=>rfl
 | x::l=>by
  have:=zg9 k l;simp only[sv,zu,zbq,zk0,List.any_cons] at this ⊢
  by_cases h:x=k
  (·simp[h]);(have hb:(x==k)=false:=by simpa using h);rw[if_neg h,this];simp[hb]
theorem aSet_sv {k:Int}:∀{l:List Int},(l.any fun x=>x==k)=false->zdr (sv l) k (.v (.int .i64 1))=sv (l++[k])
 | [],_=>rfl
 | x::l,h=>by
  simp only[List.any_cons,Bool.or_eq_false_iff,beq_eq_false_iff_ne] at h;have:=aSet_sv (l:=l) h.2;simp only[sv,zu,zdr,zt,if_neg h.1] at this ⊢;rw[this]
theorem wrap1:IntKind.i64.wrap 1=1:=zak tz1 tz1
def zhh (l:List Int):List Ob:=[.map (sv l),.cells 130 [.map 0],.cells 54 [.osl 3 1 (l.map intC)],.tok 3 1 l.length]
def SCalls (f:Nat) (args:List AV) (l:List Int) (R:AV) (l1:List Int):Prop :=
 ACalls Tryz.prog f args (zac 0 (zhh l)) 4 fun r os n=>(r=R/\os=zac 0 (zhh l1))/\n=4
theorem zhU (n:Nat) (l:List Int):Und n (.sl 1 (l.map intC)):=.data (zap l)
theorem sUnd {n:Nat} (h:4<=n) (l:List Int):UndOs n (zac 0 (zhh l)) :=
 ⟨by omega,fun p hp=>.data (zjG l p hp),by omega,⟨.map tz1,trivial⟩,by omega,⟨.osl tz1 (zhU n l),trivial⟩,by omega,trivial,trivial⟩
theorem Und.sv {n:Nat} (l:List Int):(∀p∈Go.Proofs.YtpfiliamceimmaaGreatDoor.sv l,Und n p.2)=True:=eq_true fun p hp=>.data (zjG l p hp)
theorem Und.oslN {n id:Nat} {l:List Int} (h:id<n):Und n (.osl id 1 (l.map intC)):=.osl h (zhU n l)
theorem Und.cloV {n:Nat} (h:3<=n):Und n (.clo 111 [.ptr 1 0,.ptr 2 0]):=.clo ⟨.ptr tz1,.ptr tz1,trivial⟩
theorem renS (l:List Int) (nx:Nat):RenOs (zbf [0,1,2,3] nx) 0 (zhh l) (zhh l) :=
 ⟨.map (zjG l),.cells ⟨.map rfl,trivial⟩,.cells ⟨.osl rfl (fun x hx=>by obtain ⟨y,_,rfl⟩:=zq.1 hx;exact .cons (.v _) .nil),trivial⟩,.tok,trivial⟩
theorem SCalls.at {f:Nat} {args:List AV} {l l1:List Int} {R:AV} (h:SCalls f args l R l1) (hargs:∀nx,RenL (zbf [0,1,2,3] nx) args args) (hR:Data R) {os':Os} {nx':Nat}
  (h0:zav os' 0=some (.map (sv l))) (h1:zav os' 1=some (.cells 130 [.map 0])) (h2:zav os' 2=some (.cells 54 [.osl 3 1 (l.map intC)])) (h3:zav os' 3=some (.tok 3 1 l.length)) (hn:4<=nx') {Q':AV->Os->Nat->Prop}
  (hq:Q' R (zal (zal (zal (zal os' 0 (.map (sv l1))) 1 (.cells 130 [.map 0])) 2 (.cells 54 [.osl 3 1 (l1.map intC)])) 3 (.tok 3 1 l1.length)) nx'):ACalls Tryz.prog f args os' nx' Q':=by
 refine ACalls.at (args:=args) (obs:=zhh l) (obs1:=zhh l1) (obs':=zhh l) (obs1':=zhh l1) [0,1,2,3] ?_ rfl rfl tz3 tz8 (hargs _) (.data hR) (renS l _) ⟨h0,h1,h2,h3,trivial⟩ (renS l1 _) hq;exact h.mono fun r os n ⟨⟨h1,h2⟩,h3⟩=>⟨h1,h2,h3⟩
theorem zg6:Data (.tup []):=.tup (fun _ h=>by cases h)
theorem zjf (T:Ty) (l:List Int) (hl:l.length+1<=1099511627776):SCalls 111 [.agg T.cells,.ptr 1 0,.ptr 2 0] (l) (.tup []) ((if T.k=1 then zeP l T.n else l)):=by
  refine ACalls.clean (C:=fun r os=>r=_/\os=_) ?_;refine aIn Tryz.func111 fun hm=>?_;simp only[Tryz.ntmps111,Tryz.results111,go_sem,seval];simp only[zhh,zac,Nat.reduceAdd];simp only[Ty.cells_eq T,zt,zA];have h9:=zlF T.k T.n l;(have hb1:(l.length+1) * 8<=140737488355328:=by omega);(have hb2:l.length+1<=maxLen:=by simp only[maxLen];omega);refine sqD ?_;refine sqR fun _ y=>?_;refine chS 4 ?_;simp only[go_sem];refine zaf 7 rfl (fun hc7=>?_) (fun hc7=>?_)
  ·
   simp only[go_sem];(have hk1:T.k=1:=by simpa using hc7);refine chS 4 ?_ (by intro _ q;simp only[↓bO,go_sem,seval,zg9];exact q);simp only[↓bO,go_sem,seval];apply y;apply z7 rfl <;> intro hb13
   ·
    (have ha:(l.any fun x=>x==T.n)=false:=by cases hv:(l.any fun x=>x==T.n) with | false=>rfl | true=>simp[zk0,hv] at hb13);(have hs0:zk0 l T.n=0:=by simp[zk0,ha]);have he:(if T.k=1 then zeP l T.n else l)=l++[T.n]:=h9.1 hk1 ha;refine sqR fun _ y=>?_;refine chS 4 ?_ (by intro _ q;simp only[↓bO,go_sem,seval,zg9,hs0];exact q);simp only[↓bO,go_sem,seval,aSet_sv ha,Int.zero_add,wrap1];apply y;apply z6;refine chS 4 ?_ (by intro _ q;simp only[↓bO,go_sem,seval,↓zdE];exact q);simp only[↓bO,go_sem,seval,hb1,hb2];(try simp only[go_sem]);rw[he];refine ⟨.tup [],zac 0 (zhh (l++[T.n])),⟨rfl,rfl⟩,.tup trivial,sUnd tz1 _,?_,?_,by omega⟩
    ·
     refine Le.of_eq ?_;rfl
    first | (refine ⟨1,?_,rfl⟩;first | rfl | (simp only[zhh,zac,zf,zk,zz,zu,zS,zh,zy,zH,Nat.reduceAdd,zM,intC,zL];done))
   (have ha:(l.any fun x=>x==T.n)=true:=by cases hv:(l.any fun x=>x==T.n) with | true=>rfl | false=>simp[zk0,hv] at hb13);have he:(if T.k=1 then zeP l T.n else l)=l:=h9.2.1 ha;apply zab;(try simp only[go_sem]);(try simp only[go_sem]);rw[he];refine ⟨.tup [],zac 0 (zhh (l)),⟨rfl,rfl⟩,.tup trivial,sUnd tz1 _,?_,?_,by omega⟩
   ·
    refine Le.of_eq ?_;rfl
   first | (refine ⟨1,?_,rfl⟩;first | rfl | (simp only[zhh,zac,zf,zk,zz,zu,zS,zh,zy,zH,Nat.reduceAdd,zM,intC,zL];done))
  simp only[go_sem];(have hk1:¬T.k=1:=by simpa using hc7);have he:(if T.k=1 then zeP l T.n else l)=l:=h9.2.2 hk1;refine chS 4 ?_;simp only[↓bO,go_sem,seval];apply y;refine z7 (b:=false) (by first | exact rfl | exact congrArg (fun b=>AV.v (.bool b)) hb13) (fun h=>(by cases h)) (fun _=>?_);apply zab;(try simp only[go_sem]);(try simp only[go_sem]);rw[he];refine ⟨.tup [],zac 0 (zhh (l)),⟨rfl,rfl⟩,.tup trivial,sUnd tz1 _,?_,?_,by omega⟩
  ·
   refine Le.of_eq ?_;rfl
  first | (refine ⟨1,?_,rfl⟩;first | rfl | (simp only[zhh,zac,zf,zk,zz,zu,zS,zh,zy,zH,Nat.reduceAdd,zM,intC,zL];done))
theorem zll:∀(T:Ty) (l:List Int),l.length+T.cnt<=1099511627776->SCalls 108 [.agg T.cells,.clo 111 [.ptr 1 0,.ptr 2 0]] (l) (.tup []) (T.rvars l):=by
  refine Ty.ind fun T ih l hl=>?_;refine ACalls.clean (C:=fun r os=>r=_/\os=_) ?_;refine aIn Tryz.func108 fun hm=>?_;simp only[Tryz.ntmps108,Tryz.results108,go_sem,seval];simp only[zhh,zac,Nat.reduceAdd];simp only[Ty.cells_eq T,zt,zA];have hm1:=T.cnt_eq;have hcl:=Ty.cntL_len T.ps;(have hv1:=by have h9:=zjf T l tz1;rw[Ty.cells_eq T] at h9;exact h9);(have hl0:(if T.k=1 then zeP l T.n else l).length<=l.length+1:=by split <;> first | exact zjZ l T.n | omega);refine sqD ?_;refine sqR fun _ q=>?_;refine chS 2 ?_;simp only[↓bO,go_sem,seval];refine SCalls.at (hv1) (fun _=>⟨.data (by rw[<- Ty.cells_eq];exact T.dataAgg),.ptr rfl,.ptr rfl,trivial⟩) zg6 rfl rfl rfl rfl tz2 ?_;simp only[zal,Nat.reduceEqDiff,↓reduceIte];apply q;refine sqD ?_;apply zaa;refine zah (σ:=Nat) (mB 20 7170) (fun s=>s<=T.ps.length) (fun s=>[(12,.v (.int .i64 (s:Int)))]) (fun s=>[(0,.map (sv (Ty.rvarsL (T.ps.take s) (if T.k=1 then zeP l T.n else l)))),(2,.cells 54 [.osl 3 1 ((Ty.rvarsL (T.ps.take s) (if T.k=1 then zeP l T.n else l)).map intC)]),(3,.tok 3 1 (Ty.rvarsL (T.ps.take s) (if T.k=1 then zeP l T.n else l)).length)]) (fun s=>T.ps.length-s) 0 tz1 ?_ (fun s hs=>?_)
  ·
   simp only[go_sem,seval,bL,Ty.rvarsL];exact zaI
  simp only[go_sem,seval];refine sqD ?_;refine zY fun _ q=>?_;apply z7 rfl <;> intro hb13
  ·
   (have hk:s<T.ps.length:=by simpa using hb13);obtain ⟨p,hp⟩:∃p,T.ps[s]?=some p:=⟨_,za hk⟩;have hpc:=Ty.cntL_step hp;have hvl:=Ty.rvarsL_len (T.ps.take s) (if T.k=1 then zeP l T.n else l);have hw:IntKind.i64.wrap ((s:Int)+1)=(s:Int)+1:=zak tz1 tz1;apply zab;apply q;refine zY fun _ q=>?_;apply zaa;refine sqR fun _ y=>?_;simp only[↓bO,go_sem,seval,hk,gM hp];apply y;apply z6;refine chS 2 ?_;simp only[↓bO,go_sem,seval];refine SCalls.at (ih p (zc hp) (Ty.rvarsL (T.ps.take s) (if T.k=1 then zeP l T.n else l)) tz1) (fun _=>⟨.data (Ty.dataAgg p),.clo ⟨.ptr rfl,.ptr rfl,trivial⟩,trivial⟩) zg6 rfl rfl rfl rfl tz2 ?_;simp only[zal,Nat.reduceEqDiff,↓reduceIte];apply q;apply z6;simp only[↓bO,go_sem,seval,hw];refine ⟨(s+1),tz1,by omega,?_⟩;simp only[zar,zas,zag,zal,mB,seval,zj,zi,Ty.rvarsL_step hp];(first | (refine Weak.drops 1 5 rfl rfl tz5 tz5 ?_ ?_ ?_) | (refine Weak.drops 0 5 rfl rfl tz5 tz5 ?_ ?_ ?_));(· simp only[go_sem,Le.refl,Le.any,zp,zi]);(· simp only[UndL,UndOs,Ob.Und,and_true,true_and,and_self,Und.v,Und.any,Und.ptr,Und.map,Nat.reduceLT,zW,Und.tys,Und.tyAgg,Und.oslTys,Und.oslTys1,Und.clo0,Und.ty,Und.sv,Und.oslN,Und.cloV,Nat.reduceLeDiff,UndL,Und.map]);simp only[UndL,UndOs,Ob.Und,and_true,true_and,and_self,Und.v,Und.any,Und.ptr,Und.map,Nat.reduceLT,zW,Und.tys,Und.tyAgg,Und.oslTys,Und.oslTys1,Und.clo0,Und.ty,Und.sv,Und.oslN,Und.cloV,Nat.reduceLeDiff,UndL,Und.map]
  (have hk:s=T.ps.length:=by simp at hb13;omega);apply zaj;simp only[zao,zai,zae,bA,Nat.reduceEqDiff,↓reduceIte];(try simp only[go_sem]);rw[Ty.rvars_eq,hk];simp only[zL];refine ⟨.tup [],zac 0 (zhh (Ty.rvarsL T.ps (if T.k=1 then zeP l T.n else l))),⟨rfl,rfl⟩,.tup trivial,sUnd tz1 _,?_,?_,by omega⟩
  ·
   refine Le.of_eq ?_;rfl
  first | (refine ⟨1,?_,rfl⟩;first | rfl | (simp only[zhh,zac,zf,zk,zz,zu,zS,zh,zy,zH,Nat.reduceAdd,zM,intC,zL];done))
theorem Vars_pure (ps:List Ty) (hT:Ty.cntL ps<=1099511627776):APure Tryz.prog 74 [.sl 3 (ps.map Ty.cells)] (.sl 1 ((Ty.rvarsL ps []).map intC)):=by
  refine APure.mkL (.cons (Ty.dataSl ps) .nil) ((zap _)) ?_;refine aIn Tryz.func74 fun hm=>?_;simp only[Tryz.ntmps74,Tryz.results74,go_sem,seval];have hcl:=Ty.cntL_len ps;(iterate 3 (refine zY fun _ q=>?_;apply z6;simp only[↓bO,go_sem,seval];apply q));refine zY fun _ q=>?_;refine sqD ?_;apply zaa;refine zaC (Weak.tokCell 3 1 (id:=2) (t:=54) [.osl 3 1 []] rfl ⟨.inr ⟨rfl,rfl⟩,trivial⟩) ?_;simp only[zal,Nat.reduceEqDiff,↓reduceIte];refine zah (σ:=Nat) (mB 19 1816) (fun s=>s<=ps.length) (fun s=>[(10,.v (.int .i64 (s:Int)))]) (fun s=>[(0,.map (sv (Ty.rvarsL (ps.take s) []))),(2,.cells 54 [.osl 3 1 ((Ty.rvarsL (ps.take s) []).map intC)]),(3,.tok 3 1 (Ty.rvarsL (ps.take s) []).length)]) (fun s=>ps.length-s) 0 tz1 ?_ (fun s hs=>?_)
  ·
   simp only[go_sem,seval,bL,Ty.rvarsL,sv_nil];exact zaI
  simp only[go_sem,seval];refine sqD ?_;refine zY fun _ y=>?_;apply z7 rfl <;> intro hb11
  ·
   (have hk:s<ps.length:=by simpa using hb11);obtain ⟨p,hp⟩:∃p,ps[s]?=some p:=⟨_,za hk⟩;have hpc:=Ty.cntL_step hp;have hvl:=Ty.rvarsL_len (ps.take s) [];simp only[zH] at hvl;have hw:IntKind.i64.wrap ((s:Int)+1)=(s:Int)+1:=zak tz1 tz1;apply zab;apply y;refine zY fun _ y=>?_;apply zaa;refine sqR fun _ u=>?_;simp only[↓bO,go_sem,seval,hk,gM hp];apply u;apply z6;refine chS 2 ?_;simp only[↓bO,go_sem,seval];refine SCalls.at (zll p (Ty.rvarsL (ps.take s) []) tz1) (fun _=>⟨.data (Ty.dataAgg p),.clo ⟨.ptr rfl,.ptr rfl,trivial⟩,trivial⟩) zg6 rfl rfl rfl rfl tz2 ?_;simp only[zal,Nat.reduceEqDiff,↓reduceIte];apply y;apply z6;simp only[↓bO,go_sem,seval,hw];refine ⟨(s+1),tz1,by omega,?_⟩;simp only[zar,zas,zag,zal,mB,seval,zj,zi,Ty.rvarsL_step hp];(first | (refine Weak.drops 1 4 rfl rfl tz5 tz5 ?_ ?_ ?_) | (refine Weak.drops 0 4 rfl rfl tz5 tz5 ?_ ?_ ?_));(· simp only[go_sem,Le.refl,Le.any,zp,zi]);(· simp only[UndL,UndOs,Ob.Und,and_true,true_and,and_self,Und.v,Und.any,Und.ptr,Und.map,Nat.reduceLT,zW,Und.tys,Und.tyAgg,Und.oslTys,Und.oslTys1,Und.clo0,Und.ty,Und.sv,Und.oslN,Und.cloV,Nat.reduceLeDiff,UndL,Und.map,Und.tys]);simp only[UndL,UndOs,Ob.Und,and_true,true_and,and_self,Und.v,Und.any,Und.ptr,Und.map,Nat.reduceLT,zW,Und.tys,Und.tyAgg,Und.oslTys,Und.oslTys1,Und.clo0,Und.ty,Und.sv,Und.oslN,Und.cloV,Nat.reduceLeDiff,UndL,Und.map,Und.tys]
  (have hk:s=ps.length:=by simp at hb11;omega);apply zaj;simp only[zao,zai,zae,bA,Nat.reduceEqDiff,↓reduceIte];apply q;refine sqD ?_;apply z8;(try simp only[go_sem]);rw[hk,zL];exact Le.oslL
end Go.Proofs.YtpfiliamceimmaaGreatDoor
