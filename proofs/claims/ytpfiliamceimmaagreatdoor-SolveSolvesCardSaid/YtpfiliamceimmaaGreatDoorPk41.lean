/- packed, part 41 of 48. Conditions: none. -/
import Derived.Test.YtpfiliamceimmaaGreatDoorPk40
set_option linter.unusedVariables false
set_option linter.unusedSimpArgs false
set_option maxRecDepth 100000
set_option maxHeartbeats 4000000
namespace Go.Proofs.YtpfiliamceimmaaGreatDoor
open Go Go.RowKit
def tC (t:Ty):AV:=.agg t.cells
def mTC (m:List (Int×Ty)):List (Int×AV):=m.map fun p=>(p.1,tC p.2)
theorem mC_nil:mTC []=[]:=rfl
theorem zcp (m:List (Int×Ty)):∀p∈mTC m,Data p.2:=fun p hp=>by
 obtain ⟨q,_,rfl⟩:=zq.1 hp;exact Ty.dataAgg _
theorem zdO (m:List (Int×Ty)) (k:Int):(zbS (mTC m) k).isSome=(za3 m k).isSome:=by rw[mTC,zfL];cases za3 m k <;> rfl
theorem zjr (m:List (Int×Ty)) (k:Int) (t:Ty):zef (mTC m) k (.agg t.cells)=mTC (zfb m k t):=aSet_p tC k t m
def zT:AV:=.agg [.v (.int .i64 0),.v (.int .i64 0),.v (.slice none 0 0)]
theorem za8:zjD (.agg #[.int .i64 0,.int .i64 0,.slice none 0 0])=zT:=rfl
theorem mGet {m:List (Int×Ty)} {k:Int} {x:Ty} (h:za3 m k=some x) (z:AV):(zbS (mTC m) k).getD z=.agg x.cells:=by rw[mTC,zfL,h];rfl
def MCalls (f:Nat) (args:List AV) (m:List (Int×Ty)) (R:AV) (m1:List (Int×Ty)):Prop :=
 ACalls Tryz.prog f args (zad 0 [.map (mTC m)]) 1 fun r os n=>(r=R/\os=zad 0 [.map (mTC m1)])/\n=1
theorem Und.mTC {n:Nat} (m:List (Int×Ty)):(∀p∈Go.Proofs.YtpfiliamceimmaaGreatDoor.mTC m,Und n p.2)=True:=eq_true fun p hp=>.data (zcp m p hp)
theorem mUnd {n:Nat} (h:1<=n) (m:List (Int×Ty)):UndOs n (zad 0 [.map (mTC m)]):=⟨by omega,fun p hp=>.data (zcp m p hp),trivial⟩
theorem MCalls.at {f:Nat} {args:List AV} {m m1:List (Int×Ty)} {R:AV} (h:MCalls f (.map 0::args) m R m1) (hd:DataL args) (hR:Data R) {i:Nat} {os':Os} {nx':Nat}
  (hi:zav os' i=some (.map (mTC m))) (li:i<nx') {Q':AV->Os->Nat->Prop} (hq:Q' R (zam os' i (.map (mTC m1))) nx'):ACalls Tryz.prog f (.map i::args) os' nx' Q':=by
 have same:∀(l:List AV),DataL l->RenL (zbu [i] nx') l l:=by
  intro l hl
  induction l with
  | nil=>trivial
  | cons x l ih=>exact ⟨.data (hl x tz4),ih fun y hy=>hl y (by simp[hy])⟩
 (have ren:∀m:List (Int×Ty),RenOs (zbu [i] nx') 0 [.map (mTC m)] [.map (mTC m)]:=fun m=>⟨.map (zcp m),trivial⟩);refine ACalls.at (args:=.map 0::args) (obs:=[.map (mTC m)]) (obs1:=[.map (mTC m1)]) (obs':=[.map (mTC m)]) (obs1':=[.map (mTC m1)]) [i] ?_ rfl rfl tz4 (by simpa using li) ⟨.map rfl,same args hd⟩ (.data hR) (ren m) ⟨hi,trivial⟩ (ren m1) hq;exact h.mono fun r os n ⟨⟨h1,h2⟩,h3⟩=>⟨h1,h2,h3⟩
end Go.Proofs.YtpfiliamceimmaaGreatDoor
namespace Go.Proofs.YtpfiliamceimmaaGreatDoor
open Go Go.RowKit
attribute [local irreducible] aops zaA
theorem Und.eptr0 {n:Nat} {cs:List AV} (h:UndL n cs):Und n (.eptr cs):=fun E A w u hr=>by
 cases hr with
 | eptr g hcell hh=>exact .eptr g hcell fun j c hc=>h.mem c (zc hc) E A w _ (hh j c hc)
theorem Bd.take4 (b:Bd):b.cells.take 4=b.cells:=by rw[b.cells_eq];rfl
def oC (m:List (Int×Int)):List (Int×AV):=m.map fun p=>(p.1,.v (.int .i64 p.2))
theorem look_o (m:List (Int×Int)) (k:Int):(zbS (oC m) k).getD (.v (.int .i64 0))=.v (.int .i64 ((za3 m k).getD 0)):=by
 rw[oC,zfL (fun z=>.v (.int .i64 z)) k m];cases za3 m k <;> rfl
theorem upd_o (m:List (Int×Int)) (k x:Int):zef (oC m) k (.v (.int .i64 x))=oC (zfb m k x):=aSet_p (fun z=>.v (.int .i64 z)) k x m
theorem oC_data (m:List (Int×Int)):∀p∈oC m,Data p.2:=fun p hp=>by
 obtain ⟨q,_,rfl⟩:=zq.1 hp;exact .v _
theorem Und.bds {n:Nat} (l:List Bd):Und n (.sl 4 (l.map Bd.cells))=True:=eq_true (.data (Bd.dataSl l))
theorem Und.bdsO {n id:Nat} {l:List Bd} (h:id<n):Und n (.osl id 4 (l.map Bd.cells)):=.osl h (.data (Bd.dataSl l))
theorem Und.oC {n:Nat} (m:List (Int×Int)):(∀p∈Go.Proofs.YtpfiliamceimmaaGreatDoor.oC m,Und n p.2)=True:=eq_true fun p hp=>.data (oC_data m p hp)
theorem zj1 {l:List Bd} {s:Nat} {b:Bd} (hb:l[s]?=some b):(l.take s).map Bd.cells++[b.cells]=(l.take (s+1)).map Bd.cells:=by
 rw[zM,hb,zu];rfl
theorem lookTy9 (m:List (Int×Ty)) (k:Int):∃cs:List AV,(zbS (mTC m) k).getD zT=.agg cs/\cs.length=3/\cs.all AV.one=true/\cs.take 3=cs/\(∀x,za3 m k=some x->cs=x.cells)/\DataL cs:=by
 cases h:za3 m k with
 | none=>exact ⟨[.v (.int .i64 0),.v (.int .i64 0),.v (.slice none 0 0)],by rw[mTC,zfL,h];rfl,rfl,rfl,rfl,(fun x hx=>by cases hx),.cons (.v _) (.cons (.v _) (.cons (.v _) .nil))⟩
 | some x=>exact ⟨x.cells,mGet h _,x.cells_len,x.cells_one,x.cells_take3,(fun y hy=>by cases hy;rfl),Ty.data x⟩
theorem Bd.agg {b:Bd}:Data (.agg b.cells):=by
 rw[Bd.cells]
 exact .agg (.cons (.v _) fun x hx=>by
  have h9:=b.t.cells_eq;rw[h9] at hx;simp only[zE,List.not_mem_nil,or_false] at hx;(rcases hx with rfl | rfl | rfl);(·exact .v _);·exact .v _
  exact Ty.dataSl _)
theorem zln (l:List Bd) (hn:(l.map Bd.v).Nodup) (hl:l.length<=1048576):APure Tryz.prog 61 [.sl 4 (l.map Bd.cells)] (.sl 4 (l.map Bd.cells)):=by
  refine APure.mkL (.cons (Bd.dataSl l) .nil) ((Bd.dataSl _)) ?_;refine aIn Tryz.func61 fun hm=>?_;simp only[Tryz.ntmps61,Tryz.results61,go_sem,seval];refine sqD ?_;refine sqR fun _ y=>?_;refine chS 1 ?_;simp only[↓bO,go_sem,seval];apply y;refine sqD ?_;refine z6 fun _ y=>?_;refine sqR fun _ u=>?_;(iterate 2 (refine chS 1 ?_));simp only[↓bO,go_sem,seval];apply u;apply zac;refine zaH (Weak.tokSlot 4 43 4 rfl) ?_;simp only[go_sem];refine zai (σ:=Nat) (mB 30 1816) (fun s=>s<=l.length) (fun s=>[(4,.osl 1 4 ((l.take s).map Bd.cells)),(10,.v (.int .i64 (s:Int)))]) (fun s=>[(0,.map (oC (ziR (l.take s)))),(1,.tok 43 4 s)]) (fun s=>l.length-s) 0 tz1 ?_ (fun s hs=>?_)
  ·
   simp only[go_sem,seval,bL,ziR,oC];exact zaL
  simp only[go_sem,seval];refine sqD ?_;refine z6 fun _ u=>?_;apply z8 rfl <;> intro hb11
  ·
   (have hk:s<l.length:=by simpa using hb11);obtain ⟨b,hb⟩:∃b,l[s]?=some b:=⟨_,za hk⟩;have hw:IntKind.i64.wrap ((s:Int)+1)=(s:Int)+1:=zal tz1 tz1;have hnew:=zio hn hb;have hst:=zlY hn hb;(have hln:((l.take s).map Bd.cells).length=s:=by simp;omega);(have hb1:(s+1) * 48<=140737488355328:=by omega);(have hb2:s+1<=maxLen:=by simp only[maxLen];omega);apply zaa;apply u;refine z6 fun _ u=>?_;apply zac;refine sqR fun _ w=>?_;(iterate 3 (refine chS 1 ?_ (by intro _ q;simp only[↓bO,go_sem,seval,Bd.cells_len,Bd.take4,hk,gM hb];exact q)));simp only[↓bO,go_sem,seval,Bd.cells_len,Bd.one];apply w;refine z6 fun _ w=>?_;refine sqR fun _ z=>?_;(iterate 4 (refine chS 1 ?_ (by intro _ q;simp only[↓bO,go_sem,seval,Bd.take1,Bd.cells_len,look_o,hnew,Option.getD_none];exact q)));simp only[↓bO,go_sem,seval];apply z;apply z8 rfl <;> intro hb18
   ·
    apply z7;(iterate 2 (refine chS 1 ?_ (by intro _ q;simp only[↓bO,go_sem,seval,Bd.cells_len,Bd.take4];exact q)));refine chS 1 ?_ (by intro _ q;simp only[↓bO,go_sem,seval,↓zee,Bd.cells_len];exact q);refine chS 1 ?_ (by intro _ q;simp only[↓bO,go_sem,seval,Bd.one,hln,hb1,hb2,zj1 hb];exact q);simp only[↓bO,go_sem,seval];apply w;apply z7;(iterate 5 (refine chS 1 ?_ (by intro _ q;simp only[↓bO,go_sem,seval,Bd.take1,Bd.cells_len,look_o,hnew,Option.getD_none,Int.zero_add,wrap1];exact q)));simp only[↓bO,go_sem,seval,upd_o,hst];apply u;apply z7;refine chS 1 ?_ (by intro _ q;simp only[↓bO,go_sem,seval,hw];exact q);simp only[↓bO,go_sem,seval];refine ⟨(s+1),tz1,by omega,?_⟩;simp only[zar,zas,zah,zam,mB,seval,zj,zh];(first | (refine Weak.drops 1 2 rfl rfl tz5 tz5 ?_ ?_ ?_) | (refine Weak.drops 0 2 rfl rfl tz5 tz5 ?_ ?_ ?_));(· simp only[go_sem,Le.refl,Le.any,zn,zh]);(· simp only[UndL,UndOs,Ob.Und,and_true,true_and,and_self,Und.v,Und.any,Und.ptr,Und.map,Nat.reduceLT,zU,Und.tys,Und.tyAgg,Und.oslTys,Und.oslTys1,Und.clo0,Und.ty,Und.bds,Und.bdsO,Und.oC]);simp only[UndL,UndOs,Ob.Und,and_true,true_and,and_self,Und.v,Und.any,Und.ptr,Und.map,Nat.reduceLT,zU,Und.tys,Und.tyAgg,Und.oslTys,Und.oslTys1,Und.clo0,Und.ty,Und.bds,Und.bdsO,Und.oC]
   exact absurd hb18 tz3
  (have hk:s=l.length:=by simp at hb11;omega);apply zak;simp only[zao,zaj,zaf,bA,Nat.reduceEqDiff,↓reduceIte];apply y;refine sqR fun _ y=>?_;refine chS 1 ?_;simp only[↓bO,go_sem,seval];apply y;apply zab;(try simp only[go_sem]);rw[hk,zI];exact Le.oslL
theorem zjt (l:List Bd) (hn:(l.map Bd.v).Nodup) (hl:l.length<=1048576):ACalls Tryz.prog 54 [.sl 4 (l.map Bd.cells)] [] 0 fun r os n=>(r=.map 0/\os=[(0,.map (mTC (zgt l)))])/\n=1:=by
  refine ACalls.cleanN (n:=1) (C:=fun r os=>r=.map 0/\os=[(0,.map (mTC (zgt l)))]) tz1 ?_;refine aIn Tryz.func54 fun hm=>?_;simp only[Tryz.ntmps54,Tryz.results54,go_sem,seval];refine sqD ?_;refine sqR fun _ u=>?_;refine chS 1 ?_;simp only[↓bO,go_sem,seval];apply u;refine z6 fun _ u=>?_;refine sqR fun _ w=>?_;refine chS 1 ?_;refine zZ 1 fun _ y=>?_;simp only[↓bO,go_sem,seval];refine APure.call (zln l hn hl) ?_;apply y;clear y;refine chS 1 ?_;simp only[↓bO,go_sem,seval];apply w;apply zac;refine zai (σ:=Nat) (mB 21 1800) (fun s=>s<=l.length) (fun s=>[(10,.v (.int .i64 (s:Int)))]) (fun s=>[(0,.map (mTC (zgt (l.take s))))]) (fun s=>l.length-s) 0 tz1 ?_ (fun s hs=>?_)
  ·
   simp only[go_sem,seval,bL,zgt,mC_nil];exact zaL
  simp only[go_sem,seval];refine sqD ?_;refine z6 fun _ w=>?_;apply z8 rfl <;> intro hb11
  ·
   (have hk:s<l.length:=by simpa using hb11);obtain ⟨b,hb⟩:∃b,l[s]?=some b:=⟨_,za hk⟩;have hw:IntKind.i64.wrap ((s:Int)+1)=(s:Int)+1:=zal tz1 tz1;have hst:=tabM_step hn hb;apply zaa;apply w;refine z6 fun _ w=>?_;apply zac;refine sqR fun _ z=>?_;(iterate 3 (refine chS 1 ?_ (by intro _ q;simp only[↓bO,go_sem,seval,Bd.cells_len,Bd.take4,hk,gM hb];exact q)));simp only[↓bO,go_sem,seval,Bd.cells_len,Bd.one];apply z;apply z7;(iterate 5 (refine chS 1 ?_ (by intro _ q;simp only[↓bO,go_sem,seval,Bd.take1,Bd.drop1,Bd.cells_len];exact q)));simp only[↓bO,go_sem,seval,zjr,hst];apply w;apply z7;refine chS 1 ?_ (by intro _ q;simp only[↓bO,go_sem,seval,hw];exact q);simp only[↓bO,go_sem,seval];refine ⟨(s+1),tz1,by omega,?_⟩;simp only[zar,zas,zah,zam,mB,seval,zj,zh];(first | (refine Weak.drops 1 1 rfl rfl tz5 tz5 ?_ ?_ ?_) | (refine Weak.drops 0 1 rfl rfl tz5 tz5 ?_ ?_ ?_));(· simp only[go_sem,Le.refl,Le.any,zn,zh]);(· simp only[UndL,UndOs,Ob.Und,and_true,true_and,and_self,Und.v,Und.any,Und.ptr,Und.map,Nat.reduceLT,zU,Und.tys,Und.tyAgg,Und.oslTys,Und.oslTys1,Und.clo0,Und.ty,Und.bds,Und.mTC]);simp only[UndL,UndOs,Ob.Und,and_true,true_and,and_self,Und.v,Und.any,Und.ptr,Und.map,Nat.reduceLT,zU,Und.tys,Und.tyAgg,Und.oslTys,Und.oslTys1,Und.clo0,Und.ty,Und.bds,Und.mTC]
  (have hk:s=l.length:=by simp at hb11;omega);apply zak;simp only[zao,zaj,zaf,bA,Nat.reduceEqDiff,↓reduceIte];apply u;refine sqR fun _ u=>?_;refine chS 1 ?_;simp only[↓bO,go_sem,seval];apply u;apply zab;(try simp only[go_sem]);refine ⟨_,[(0,.map (mTC (zgt l)))],⟨rfl,rfl⟩,.map tz1,mUnd tz1 _,Le.refl _,⟨0,by rw[hk,zI];rfl,rfl⟩,by omega⟩
theorem table_at {l:List Bd} (hn:(l.map Bd.v).Nodup) (hl:l.length<=1048576) {os':Os} {nx':Nat} {Q':AV->Os->Nat->Prop} (hq:Q' (.map nx') ((nx',.map (mTC (zgt l)))::os') (nx'+1)):ACalls Tryz.prog 54 [.sl 4 (l.map Bd.cells)] os' nx' Q' :=
 ACalls.fresh (R':=.map nx') (os1':=[(nx',.map (mTC (zgt l)))]) (zjt l hn hl) (.cons (Bd.dataSl l) .nil) (.map rfl) tz4 ⟨rfl,.map (zcp _),trivial⟩ hq
theorem zjL:∀(T:Ty) (m:List (Int×Ty)),(∀(k:Int) (x:Ty),za3 m k=some x->x.cnt<=1099511627776)->T.cnt<=1099511627776->MCalls 58 [.map 0,.agg T.cells] m (.agg (T.subM m).cells) m:=by
  refine Ty.ind fun T ih m hM hT=>?_;refine ACalls.clean (C:=fun r os=>r=_/\os=_) ?_;refine aIn Tryz.func58 fun hm=>?_;simp only[Tryz.ntmps58,Tryz.results58,go_sem,seval];obtain ⟨cs,hcs,hl3,hone,htk,hcx,hcd⟩:=lookTy9 m T.n;have hm1:=hm.wide (t:=T) tz4;have hm2:=hm1.len;have hcn:=T.cnt_eq;have hcl:=Ty.cntL_len T.ps;simp only[zad,Nat.reduceAdd];simp only[Ty.cells_eq T,zw,zB];refine sqR fun _ u=>?_;refine chS 1 ?_;simp only[↓bO,go_sem,seval];apply u;refine z6 fun _ u=>?_;refine sqR fun _ w=>?_;(iterate 9 (refine chS 1 ?_ (by intro _ q;simp only[↓bO,go_sem,seval,↓za8,hcs,hl3,hone,zdO];exact q)));simp only[↓bO,go_sem,seval];apply w;refine sqR fun _ w=>?_;(iterate 2 (refine chS 1 ?_));refine zag 18 rfl (fun hc18=>?_) (fun hc18=>?_)
  ·
   simp only[go_sem];(have hS:(za3 m T.n).isSome=true:=by simpa using hc18);obtain ⟨x,hfx⟩:=Option.isSome_iff_exists.1 hS;have hce:=hcx x hfx;subst hce;have hxc:=hM _ _ hfx;(iterate 3 (refine chS 1 ?_));simp only[↓bO,go_sem,seval];apply w;apply z8 rfl <;> intro hb22
   ·
    (have hk1:T.k=1:=by simpa using hb22);refine sqR fun _ w=>?_;refine chS 1 ?_ (by intro _ q;simp only[↓bO,go_sem,seval,hl3,htk];exact q);refine zZ 1 fun _ y=>?_;simp only[↓bO,go_sem,seval];refine APure.call (zek x hxc) ?_;apply y;clear y;simp only[↓bO,go_sem,seval,hl3,hone];apply w;apply zab;(try simp only[zao,zaj,zaf,zdg,zcC,za0,bS,bA,zaS,zav,zbP,bL,Nat.reduceAdd,Nat.reduceLeDiff,Nat.reduceEqDiff,↓reduceIte,zeh,tyX,↓za8,hcs,hl3,hone,htk,zdO]);refine ⟨_,zad 0 [.map (mTC m)],⟨rfl,rfl⟩,.data (Ty.dataAgg _),mUnd tz1 _,?_,?_,by omega⟩;(· rw[Ty.subM_yes hk1 hfx];exact Le.refl _);exact ⟨3,rfl,rfl⟩
   (have hno:¬(T.k=1/\(za3 m T.n).isSome=true):=fun h9=>by (have h8:=hb22;simp at h8;exact h8 h9.1));apply zaa;apply u;refine sqD ?_;refine z6 fun _ u=>?_;refine sqR fun _ w=>?_;(iterate 3 (refine chS 1 ?_));simp only[↓bO,go_sem,seval];apply w;apply zac;refine zaH (Weak.tokSlot 7 28 3 rfl) ?_;simp only[go_sem];refine zai (σ:=Nat) (mB 42 469762201) (fun s=>s<=T.ps.length) (fun s=>[(7,.osl 4 3 (((T.ps.take s).map (Ty.subM m)).map Ty.cells)),(28,.v (.int .i64 (s:Int)))]) (fun s=>[(4,.tok 28 3 s)]) (fun s=>T.ps.length-s) 0 tz1 ?_ (fun s hs=>?_)
   ·
    simp only[go_sem,seval,bL];exact zaL
   simp only[go_sem,seval];refine sqD ?_;refine z6 fun _ w=>?_;apply z8 rfl <;> intro hb29
   ·
    (have hk:s<T.ps.length:=by simpa using hb29);obtain ⟨p,hp⟩:∃p,T.ps[s]?=some p:=⟨_,za hk⟩;have hpm:=Ty.cnt_mem (zc hp);have hw:IntKind.i64.wrap ((s:Int)+1)=(s:Int)+1:=zal tz1 tz1;(have hln:((T.ps.take s).map (Ty.subM m)).length=s:=by simp;omega);(have hb1:(s+1) * 40<=140737488355328:=by omega);(have hb2:s+1<=maxLen:=by simp only[maxLen];omega);apply zaa;apply w;refine z6 fun _ w=>?_;apply zac;refine sqR fun _ z=>?_;(iterate 3 (refine chS 1 ?_ (by intro _ q;simp only[↓bO,go_sem,seval,hk,gM hp];exact q)));simp only[↓bO,go_sem,seval];apply z;apply z7;(iterate 3 (refine chS 1 ?_));refine zZ 1 fun _ y=>?_;simp only[↓bO,go_sem,seval];refine MCalls.at (ih p (zc hp) m hM tz1) (.cons (Ty.dataAgg p) .nil) (Ty.dataAgg _) (i:=0) rfl tz2 ?_;simp only[zam,Nat.reduceEqDiff,↓reduceIte];apply y;clear y;refine chS 1 ?_ (by intro _ q;simp only[↓bO,go_sem,seval,↓zfk];exact q);refine chS 1 ?_ (by intro _ q;simp only[↓bO,go_sem,seval,hln,hb1,hb2];exact q);simp only[↓bO,go_sem,seval];apply w;apply z7;refine chS 1 ?_ (by intro _ q;simp only[↓bO,go_sem,seval,hw];exact q);simp only[↓bO,go_sem,seval];refine ⟨(s+1),tz1,by omega,?_⟩;simp only[zar,zas,zah,zam,mB,seval,zj,zh,zu,bL,zaM (Ty.subM m) hp];(first | (refine Weak.drops 1 5 rfl rfl tz5 tz5 ?_ ?_ ?_) | (refine Weak.drops 0 5 rfl rfl tz5 tz5 ?_ ?_ ?_));(· simp only[go_sem,Le.refl,Le.any,zn,zh]);(· simp only[UndL,UndOs,Ob.Und,and_true,true_and,and_self,Und.v,Und.any,Und.ptr,Und.map,Nat.reduceLT,zU,Und.tys,Und.tyAgg,Und.oslTys,Und.oslTys1,Und.clo0,Und.ty,Und.mTC,Und.map,Und.oslTys,UndL.data hcd]);simp only[UndL,UndOs,Ob.Und,and_true,true_and,and_self,Und.v,Und.any,Und.ptr,Und.map,Nat.reduceLT,zU,Und.tys,Und.tyAgg,Und.oslTys,Und.oslTys1,Und.clo0,Und.ty,Und.mTC,Und.map,Und.oslTys,UndL.data hcd]
   (have hk:s=T.ps.length:=by simp at hb29;omega);apply zak;simp only[zao,zaj,zaf,bA,Nat.reduceEqDiff,↓reduceIte];apply u;refine sqR fun _ u=>?_;(iterate 2 (refine chS 1 ?_));simp only[↓bO,go_sem,seval];apply u;refine sqR fun _ u=>?_;refine chS 1 ?_;simp only[↓bO,go_sem,seval];apply u;apply zab;(try simp only[zao,zaj,zaf,zdg,zcC,za0,bS,bA,zaS,zav,zbP,bL,Nat.reduceAdd,Nat.reduceLeDiff,Nat.reduceEqDiff,↓reduceIte,zeh,tyX,↓za8,hcs,hl3,hone,htk,zdO]);refine ⟨.agg (T.subM m).cells,zad 0 [.map (mTC m)],⟨rfl,rfl⟩,.data (Ty.dataAgg _),mUnd tz1 _,?_,?_,by omega⟩
   ·
    refine Le.agg ?_;rw[Ty.subM_no hno,Ty.cells_eq,hk,zI];exact ⟨.refl _,.refl _,Le.oslL,trivial⟩
   first | exact ⟨4,rfl,rfl⟩ | exact ⟨5,rfl,rfl⟩
  simp only[go_sem];(have hS:(za3 m T.n).isSome=false:=by simpa using hc18);(have hno:¬(T.k=1/\(za3 m T.n).isSome=true):=fun h9=>by rw[hS] at h9;cases h9.2);(iterate 3 (refine chS 1 ?_));simp only[↓bO,go_sem,seval];apply w;refine z8 (b:=false) (by first | exact rfl | exact congrArg (fun b=>AV.v (.bool b)) hb22) (fun h=>(by cases h)) (fun _=>?_);apply zaa;apply u;refine sqD ?_;refine z6 fun _ u=>?_;refine sqR fun _ w=>?_;(iterate 3 (refine chS 1 ?_));simp only[↓bO,go_sem,seval];apply w;apply zac;refine zaH (Weak.tokSlot 7 28 3 rfl) ?_;simp only[go_sem];refine zai (σ:=Nat) (mB 42 469762201) (fun s=>s<=T.ps.length) (fun s=>[(7,.osl 4 3 (((T.ps.take s).map (Ty.subM m)).map Ty.cells)),(28,.v (.int .i64 (s:Int)))]) (fun s=>[(4,.tok 28 3 s)]) (fun s=>T.ps.length-s) 0 tz1 ?_ (fun s hs=>?_)
  ·
   simp only[go_sem,seval,bL];exact zaL
  simp only[go_sem,seval];refine sqD ?_;refine z6 fun _ w=>?_;apply z8 rfl <;> intro hb29
  ·
   (have hk:s<T.ps.length:=by simpa using hb29);obtain ⟨p,hp⟩:∃p,T.ps[s]?=some p:=⟨_,za hk⟩;have hpm:=Ty.cnt_mem (zc hp);have hw:IntKind.i64.wrap ((s:Int)+1)=(s:Int)+1:=zal tz1 tz1;(have hln:((T.ps.take s).map (Ty.subM m)).length=s:=by simp;omega);(have hb1:(s+1) * 40<=140737488355328:=by omega);(have hb2:s+1<=maxLen:=by simp only[maxLen];omega);apply zaa;apply w;refine z6 fun _ w=>?_;apply zac;refine sqR fun _ z=>?_;(iterate 3 (refine chS 1 ?_ (by intro _ q;simp only[↓bO,go_sem,seval,hk,gM hp];exact q)));simp only[↓bO,go_sem,seval];apply z;apply z7;(iterate 3 (refine chS 1 ?_));refine zZ 1 fun _ y=>?_;simp only[↓bO,go_sem,seval];refine MCalls.at (ih p (zc hp) m hM tz1) (.cons (Ty.dataAgg p) .nil) (Ty.dataAgg _) (i:=0) rfl tz2 ?_;simp only[zam,Nat.reduceEqDiff,↓reduceIte];apply y;clear y;refine chS 1 ?_ (by intro _ q;simp only[↓bO,go_sem,seval,↓zfk];exact q);refine chS 1 ?_ (by intro _ q;simp only[↓bO,go_sem,seval,hln,hb1,hb2];exact q);simp only[↓bO,go_sem,seval];apply w;apply z7;refine chS 1 ?_ (by intro _ q;simp only[↓bO,go_sem,seval,hw];exact q);simp only[↓bO,go_sem,seval];refine ⟨(s+1),tz1,by omega,?_⟩;simp only[zar,zas,zah,zam,mB,seval,zj,zh,zu,bL,zaM (Ty.subM m) hp];(first | (refine Weak.drops 1 5 rfl rfl tz5 tz5 ?_ ?_ ?_) | (refine Weak.drops 0 5 rfl rfl tz5 tz5 ?_ ?_ ?_));(· simp only[go_sem,Le.refl,Le.any,zn,zh]);(· simp only[UndL,UndOs,Ob.Und,and_true,true_and,and_self,Und.v,Und.any,Und.ptr,Und.map,Nat.reduceLT,zU,Und.tys,Und.tyAgg,Und.oslTys,Und.oslTys1,Und.clo0,Und.ty,Und.mTC,Und.map,Und.oslTys,UndL.data hcd]);simp only[UndL,UndOs,Ob.Und,and_true,true_and,and_self,Und.v,Und.any,Und.ptr,Und.map,Nat.reduceLT,zU,Und.tys,Und.tyAgg,Und.oslTys,Und.oslTys1,Und.clo0,Und.ty,Und.mTC,Und.map,Und.oslTys,UndL.data hcd]
  (have hk:s=T.ps.length:=by simp at hb29;omega);apply zak;simp only[zao,zaj,zaf,bA,Nat.reduceEqDiff,↓reduceIte];apply u;refine sqR fun _ u=>?_;(iterate 2 (refine chS 1 ?_));simp only[↓bO,go_sem,seval];apply u;refine sqR fun _ u=>?_;refine chS 1 ?_;simp only[↓bO,go_sem,seval];apply u;apply zab;(try simp only[zao,zaj,zaf,zdg,zcC,za0,bS,bA,zaS,zav,zbP,bL,Nat.reduceAdd,Nat.reduceLeDiff,Nat.reduceEqDiff,↓reduceIte,zeh,tyX,↓za8,hcs,hl3,hone,htk,zdO]);refine ⟨.agg (T.subM m).cells,zad 0 [.map (mTC m)],⟨rfl,rfl⟩,.data (Ty.dataAgg _),mUnd tz1 _,?_,?_,by omega⟩
  ·
   refine Le.agg ?_;rw[Ty.subM_no hno,Ty.cells_eq,hk,zI];exact ⟨.refl _,.refl _,Le.oslL,trivial⟩
  first | exact ⟨4,rfl,rfl⟩ | exact ⟨5,rfl,rfl⟩
end Go.Proofs.YtpfiliamceimmaaGreatDoor
