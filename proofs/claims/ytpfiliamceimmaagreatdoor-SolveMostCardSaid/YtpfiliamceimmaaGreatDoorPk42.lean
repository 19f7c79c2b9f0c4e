/- packed, part 42 of 47. Conditions: none. -/
import Derived.Test.YtpfiliamceimmaaGreatDoorPk41
set_option linter.unusedVariables false
set_option linter.unusedSimpArgs false
set_option maxRecDepth 100000
set_option maxHeartbeats 4000000
namespace Go.Proofs.YtpfiliamceimmaaGreatDoor
open Go Go.RowKit
def tC (t:Ty):AV:=.agg t.cells
def mTC (m:List (Int×Ty)):List (Int×AV):=m.map fun p=>(p.1,tC p.2)
theorem mC_nil:mTC []=[]:=rfl
theorem zcj (m:List (Int×Ty)):∀p∈mTC m,Data p.2:=fun p hp=>by
 obtain ⟨q,_,rfl⟩:=zq.1 hp;exact Ty.dataAgg _
theorem zc2 (m:List (Int×Ty)) (k:Int):(zbG (mTC m) k).isSome=(zaH m k).isSome:=by rw[mTC,zf8];cases zaH m k <;> rfl
theorem zi4 (m:List (Int×Ty)) (k:Int) (t:Ty):zd0 (mTC m) k (.agg t.cells)=mTC (zeH m k t):=aSet_p tC k t m
def zT:AV:=.agg [.v (.int .i64 0),.v (.int .i64 0),.v (.slice none 0 0)]
theorem zaX:zjh (.agg #[.int .i64 0,.int .i64 0,.slice none 0 0])=zT:=rfl
theorem mGet {m:List (Int×Ty)} {k:Int} {x:Ty} (h:zaH m k=some x) (z:AV):(zbG (mTC m) k).getD z=.agg x.cells:=by rw[mTC,zf8,h];rfl
def MCalls (f:Nat) (args:List AV) (m:List (Int×Ty)) (R:AV) (m1:List (Int×Ty)):Prop :=
 ACalls Tryz.prog f args (zad 0 [.map (mTC m)]) 1 fun r os n=>(r=R/\os=zad 0 [.map (mTC m1)])/\n=1
theorem Und.mTC {n:Nat} (m:List (Int×Ty)):(∀p∈Go.Proofs.YtpfiliamceimmaaGreatDoor.mTC m,Und n p.2)=True:=eq_true fun p hp=>.data (zcj m p hp)
theorem mUnd {n:Nat} (h:1<=n) (m:List (Int×Ty)):UndOs n (zad 0 [.map (mTC m)]):=⟨by omega,fun p hp=>.data (zcj m p hp),trivial⟩
theorem MCalls.at {f:Nat} {args:List AV} {m m1:List (Int×Ty)} {R:AV} (h:MCalls f (.map 0::args) m R m1) (hd:DataL args) (hR:Data R) {i:Nat} {os':Os} {nx':Nat}
  (hi:zaw os' i=some (.map (mTC m))) (li:i<nx') {Q':AV->Os->Nat->Prop} (hq:Q' R (zam os' i (.map (mTC m1))) nx'):ACalls Tryz.prog f (.map i::args) os' nx' Q':=by
 have same:∀(l:List AV),DataL l->RenL (zbn [i] nx') l l:=by
  intro l hl
  induction l with
  | nil=>trivial
  | cons x l ih=>exact ⟨.data (hl x tz4),ih fun y hy=>hl y (by simp[hy])⟩
 (have ren:∀m:List (Int×Ty),RenOs (zbn [i] nx') 0 [.map (mTC m)] [.map (mTC m)]:=fun m=>⟨.map (zcj m),trivial⟩);refine ACalls.at (args:=.map 0::args) (obs:=[.map (mTC m)]) (obs1:=[.map (mTC m1)]) (obs':=[.map (mTC m)]) (obs1':=[.map (mTC m1)]) [i] ?_ rfl rfl tz4 (by simpa using li) ⟨.map rfl,same args hd⟩ (.data hR) (ren m) ⟨hi,trivial⟩ (ren m1) hq;exact h.mono fun r os n ⟨⟨h1,h2⟩,h3⟩=>⟨h1,h2,h3⟩
end Go.Proofs.YtpfiliamceimmaaGreatDoor
namespace Go.Proofs.YtpfiliamceimmaaGreatDoor
open Go Go.RowKit
attribute [local irreducible] aops zaA
theorem Und.eptr0 {n:Nat} {cs:List AV} (h:UndL n cs):Und n (.eptr cs):=fun E A w u hr=>by
 cases hr with
 | eptr g hcell hh=>exact .eptr g hcell fun j c hc=>h.mem c (zc hc) E A w _ (hh j c hc)
theorem Bd.take4 (b:Bd):b.cells.take 4=b.cells:=by rw[b.cells_eq];rfl
theorem IndexGIn (ps:List Int) (g:Nat) (caps:List AV) (f:Int->Bool) (n0:Nat) (os:Os) (hI:UndOs n0 os) (hf:∀p∈ps,ACalls Tryz.prog g (.v (.int .i64 p)::caps) os n0 fun r os' n=>(r=.v (.bool (f p))/\os'=os)/\n=n0):ACalls Tryz.prog 104 [.sl 1 (ps.map intC),.clo g caps] os n0 fun r os' n=>(r=.v (.int .i64 (zbv f ps))/\os'=os)/\n=n0:=by
  refine ACalls.clean (C:=fun r os'=>r=_/\os'=os) ?_;refine aIn Tryz.func104 fun hm=>?_;simp only[Tryz.ntmps104,Tryz.results104,go_sem,seval];have hm1:=hm.len (sz:=1) (xs:=ps.map intC) tz4;rw[zC] at hm1;(have hm2:∀i:Nat,i<ps.length->IntKind.i64.wrap ((i:Int)+1)=(i:Int)+1:=fun i hi=>zal tz1 (by simp only[maxLen] at hm1;omega));refine sqD ?_;refine zZ fun _ y=>?_;refine sqR fun _ u=>?_;(iterate 2 (refine chS 1 ?_));simp only[↓bO,go_sem,seval];apply u;apply zab;refine zah (σ:=Nat) (mB 19 387) (fun s=>s<=ps.length/\∀(i:Nat) (p:Int),i<s->ps[i]?=some p->f p=false) (fun s=>[(8,.v (.int .i64 (s:Int)))]) (fun s=>[]) (fun s=>ps.length-s) 0 (⟨by omega,fun i p hi=>by omega⟩) ?_ (fun s hs=>?_)
  ·
   simp only[go_sem,seval];exact zaK
  simp only[go_sem,seval];refine sqD ?_;refine zZ fun _ u=>?_;apply z8 rfl <;> intro hb9
  ·
   (have hk:s<ps.length:=by simpa using hb9);obtain ⟨p,hp⟩:∃p,ps[s]?=some p:=⟨_,za hk⟩;have hw:=hm2 s hk;apply zac;apply u;refine zZ fun _ u=>?_;apply zab;refine sqR fun _ w=>?_;refine chS 1 ?_ (by intro _ q;simp only[↓bO,go_sem,seval,hk];exact q);simp only[↓bO,go_sem,seval];apply w;refine sqR fun _ w=>?_;(iterate 5 (refine chS 1 ?_ (by intro _ q;simp only[↓bO,go_sem,seval,hk,gM hp,intC];exact q)));simp only[↓bO,go_sem,seval];refine ACalls.mono (hf p (zc hp)) ?_;rintro z os2 nx2 ⟨⟨rfl,rfl⟩,rfl⟩;apply w;apply z8 rfl <;> intro hb16
   ·
    refine sqR fun _ w=>?_;refine chS 1 ?_;simp only[↓bO,go_sem,seval];apply w;apply zaa;(try simp only[go_sem]);refine ⟨_,_,⟨rfl,rfl⟩,.v _ _,hI,Le.of_eq (congrArg (fun n=>AV.v (.int .i64 n)) ?_),⟨0,rfl,rfl⟩,by omega⟩;first | (rw[zaO hp (by exact hb16) hs.2];done) | (rw[za3 (fun i p hi h1=>hs.2 i p tz1 h1)];done)
   apply zac;apply u;apply z7;refine chS 1 ?_ (by intro _ q;simp only[↓bO,go_sem,seval,hw];exact q);simp only[↓bO,go_sem,seval];refine ⟨(s+1),⟨by omega,fun i p' hi h1=>(by rcases zD i s with h3 | h3 <;> first | exact hs.2 i p' h3 h1 | (obtain rfl:i=s:=tz1;rw[hp] at h1;cases h1;exact hb16))⟩,by omega,?_⟩;simp only[zas,zat,zag,zam,mB,seval,zj,zi];exact zaK
  (have hk:s=ps.length:=by have:=hs.1;simp at hb9;omega);apply zaj;simp only[zaq,zak,zaf,bA,Nat.reduceEqDiff,↓reduceIte];apply y;refine sqD ?_;apply zaa;(try simp only[go_sem]);refine ⟨_,_,⟨rfl,rfl⟩,.v _ _,hI,Le.of_eq (congrArg (fun n=>AV.v (.int .i64 n)) ?_),⟨0,rfl,rfl⟩,by omega⟩;first | (rw[zaO hp (by exact hb16) hs.2];done) | (rw[za3 (fun i p hi h1=>hs.2 i p tz1 h1)];done)
theorem zjz (ps:List Int) (g:Nat) (caps:List AV) (f:Int->Bool) (n0:Nat) (os:Os) (hI:UndOs n0 os) (hf:∀p∈ps,ACalls Tryz.prog g (.v (.int .i64 p)::caps) os n0 fun r os' n=>(r=.v (.bool (f p))/\os'=os)/\n=n0):ACalls Tryz.prog 59 [.sl 1 (ps.map intC),.clo g caps] os n0 fun r os' n=>(r=.v (.bool (ps.any f))/\os'=os)/\n=n0:=by
 refine ACalls.clean (C:=fun r os'=>r=_/\os'=os) ?_;refine aIn Tryz.func59 fun hm=>?_;simp only[Tryz.ntmps59,Tryz.results59,go_sem,seval];refine sqD ?_;refine sqR fun _ y=>?_;refine chS 2 ?_;refine z6 1 fun _ q=>?_;simp only[↓bO,go_sem,seval];refine ACalls.mono (IndexGIn ps g caps f n0 os hI hf) ?_;rintro z os2 nx2 ⟨⟨rfl,rfl⟩,rfl⟩;apply q;clear q;simp only[↓bO,go_sem,seval,zjR];apply y;apply zaa;(try simp only[go_sem]);exact ⟨_,_,⟨rfl,rfl⟩,.v _ _,hI,Le.refl _,⟨0,rfl,rfl⟩,by omega⟩
theorem IndexGEq (ps:List EqT) (g:Nat) (caps:List AV) (f:EqT->Bool) (n0:Nat) (os:Os) (hI:UndOs n0 os) (hf:∀p∈ps,ACalls Tryz.prog g (.agg p.cells::caps) os n0 fun r os' n=>(r=.v (.bool (f p))/\os'=os)/\n=n0):ACalls Tryz.prog 102 [.sl 8 (ps.map EqT.cells),.clo g caps] os n0 fun r os' n=>(r=.v (.int .i64 (zbv f ps))/\os'=os)/\n=n0:=by
  refine ACalls.clean (C:=fun r os'=>r=_/\os'=os) ?_;refine aIn Tryz.func102 fun hm=>?_;simp only[Tryz.ntmps102,Tryz.results102,go_sem,seval];have hm1:=hm.len (sz:=8) (xs:=ps.map EqT.cells) tz4;rw[zC] at hm1;(have hm2:∀i:Nat,i<ps.length->IntKind.i64.wrap ((i:Int)+1)=(i:Int)+1:=fun i hi=>zal tz1 (by simp only[maxLen] at hm1;omega));refine sqD ?_;refine zZ fun _ y=>?_;refine sqR fun _ u=>?_;(iterate 2 (refine chS 1 ?_));simp only[↓bO,go_sem,seval];apply u;apply zab;refine zah (σ:=Nat) (mB 19 387) (fun s=>s<=ps.length/\∀(i:Nat) (p:EqT),i<s->ps[i]?=some p->f p=false) (fun s=>[(8,.v (.int .i64 (s:Int)))]) (fun s=>[]) (fun s=>ps.length-s) 0 (⟨by omega,fun i p hi=>by omega⟩) ?_ (fun s hs=>?_)
  ·
   simp only[go_sem,seval];exact zaK
  simp only[go_sem,seval];refine sqD ?_;refine zZ fun _ u=>?_;apply z8 rfl <;> intro hb9
  ·
   (have hk:s<ps.length:=by simpa using hb9);obtain ⟨p,hp⟩:∃p,ps[s]?=some p:=⟨_,za hk⟩;have hw:=hm2 s hk;apply zac;apply u;refine zZ fun _ u=>?_;apply zab;refine sqR fun _ w=>?_;refine chS 1 ?_ (by intro _ q;simp only[↓bO,go_sem,seval,hk];exact q);simp only[↓bO,go_sem,seval];apply w;refine sqR fun _ w=>?_;(iterate 5 (refine chS 1 ?_ (by intro _ q;simp only[↓bO,go_sem,seval,hk,gM hp,EqT.cells];exact q)));simp only[↓bO,go_sem,seval];refine ACalls.mono (hf p (zc hp)) ?_;rintro z os2 nx2 ⟨⟨rfl,rfl⟩,rfl⟩;apply w;apply z8 rfl <;> intro hb16
   ·
    refine sqR fun _ w=>?_;refine chS 1 ?_;simp only[↓bO,go_sem,seval];apply w;apply zaa;(try simp only[go_sem]);refine ⟨_,_,⟨rfl,rfl⟩,.v _ _,hI,Le.of_eq (congrArg (fun n=>AV.v (.int .i64 n)) ?_),⟨0,rfl,rfl⟩,by omega⟩;first | (rw[zaO hp (by exact hb16) hs.2];done) | (rw[za3 (fun i p hi h1=>hs.2 i p tz1 h1)];done)
   apply zac;apply u;apply z7;refine chS 1 ?_ (by intro _ q;simp only[↓bO,go_sem,seval,hw];exact q);simp only[↓bO,go_sem,seval];refine ⟨(s+1),⟨by omega,fun i p' hi h1=>(by rcases zD i s with h3 | h3 <;> first | exact hs.2 i p' h3 h1 | (obtain rfl:i=s:=tz1;rw[hp] at h1;cases h1;exact hb16))⟩,by omega,?_⟩;simp only[zas,zat,zag,zam,mB,seval,zj,zi];exact zaK
  (have hk:s=ps.length:=by have:=hs.1;simp at hb9;omega);apply zaj;simp only[zaq,zak,zaf,bA,Nat.reduceEqDiff,↓reduceIte];apply y;refine sqD ?_;apply zaa;(try simp only[go_sem]);refine ⟨_,_,⟨rfl,rfl⟩,.v _ _,hI,Le.of_eq (congrArg (fun n=>AV.v (.int .i64 n)) ?_),⟨0,rfl,rfl⟩,by omega⟩;first | (rw[zaO hp (by exact hb16) hs.2];done) | (rw[za3 (fun i p hi h1=>hs.2 i p tz1 h1)];done)
theorem zjn (ps:List EqT) (g:Nat) (caps:List AV) (f:EqT->Bool) (n0:Nat) (os:Os) (hI:UndOs n0 os) (hf:∀p∈ps,ACalls Tryz.prog g (.agg p.cells::caps) os n0 fun r os' n=>(r=.v (.bool (f p))/\os'=os)/\n=n0):ACalls Tryz.prog 55 [.sl 8 (ps.map EqT.cells),.clo g caps] os n0 fun r os' n=>(r=.v (.bool (ps.any f))/\os'=os)/\n=n0:=by
 refine ACalls.clean (C:=fun r os'=>r=_/\os'=os) ?_;refine aIn Tryz.func55 fun hm=>?_;simp only[Tryz.ntmps55,Tryz.results55,go_sem,seval];refine sqD ?_;refine sqR fun _ y=>?_;refine chS 2 ?_;refine z6 1 fun _ q=>?_;simp only[↓bO,go_sem,seval];refine ACalls.mono (IndexGEq ps g caps f n0 os hI hf) ?_;rintro z os2 nx2 ⟨⟨rfl,rfl⟩,rfl⟩;apply q;clear q;simp only[↓bO,go_sem,seval,zjR];apply y;apply zaa;(try simp only[go_sem]);exact ⟨_,_,⟨rfl,rfl⟩,.v _ _,hI,Le.refl _,⟨0,rfl,rfl⟩,by omega⟩
def oC (m:List (Int×Int)):List (Int×AV):=m.map fun p=>(p.1,.v (.int .i64 p.2))
theorem look_o (m:List (Int×Int)) (k:Int):(zbG (oC m) k).getD (.v (.int .i64 0))=.v (.int .i64 ((zaH m k).getD 0)):=by
 rw[oC,zf8 (fun z=>.v (.int .i64 z)) k m];cases zaH m k <;> rfl
theorem upd_o (m:List (Int×Int)) (k x:Int):zd0 (oC m) k (.v (.int .i64 x))=oC (zeH m k x):=aSet_p (fun z=>.v (.int .i64 z)) k x m
theorem oC_data (m:List (Int×Int)):∀p∈oC m,Data p.2:=fun p hp=>by
 obtain ⟨q,_,rfl⟩:=zq.1 hp;exact .v _
theorem Und.bds {n:Nat} (l:List Bd):Und n (.sl 4 (l.map Bd.cells))=True:=eq_true (.data (Bd.dataSl l))
theorem Und.bdsO {n id:Nat} {l:List Bd} (h:id<n):Und n (.osl id 4 (l.map Bd.cells)):=.osl h (.data (Bd.dataSl l))
theorem Und.oC {n:Nat} (m:List (Int×Int)):(∀p∈Go.Proofs.YtpfiliamceimmaaGreatDoor.oC m,Und n p.2)=True:=eq_true fun p hp=>.data (oC_data m p hp)
theorem zjw {l:List Bd} {s:Nat} {b:Bd} (hb:l[s]?=some b):(l.take s).map Bd.cells++[b.cells]=(l.take (s+1)).map Bd.cells:=by
 rw[zR,hb,zu];rfl
theorem zju (m:List (Int×Ty)) (k:Int):∃cs:List AV,(zbG (mTC m) k).getD zT=.agg cs/\cs.length=3/\cs.all AV.one=true/\cs.take 3=cs/\(∀x,zaH m k=some x->cs=x.cells)/\DataL cs:=by
 cases h:zaH m k with
 | none=>exact ⟨[.v (.int .i64 0),.v (.int .i64 0),.v (.slice none 0 0)],by rw[mTC,zf8,h];rfl,rfl,rfl,rfl,(fun x hx=>by cases hx),.cons (.v _) (.cons (.v _) (.cons (.v _) .nil))⟩
 | some x=>exact ⟨x.cells,mGet h _,x.cells_len,x.cells_one,x.cells_take3,(fun y hy=>by cases hy;rfl),Ty.data x⟩
theorem Bd.agg {b:Bd}:Data (.agg b.cells):=by
 rw[Bd.cells]
 exact .agg (.cons (.v _) fun x hx=>by
  have h9:=b.t.cells_eq;rw[h9] at hx;simp only[zG,List.not_mem_nil,or_false] at hx;(rcases hx with rfl | rfl | rfl);(·exact .v _);·exact .v _
  exact Ty.dataSl _)
theorem zeM (l:List Bd) (hn:(l.map Bd.v).Nodup) (hl:l.length<=1048576):APure Tryz.prog 61 [.sl 4 (l.map Bd.cells)] (.sl 4 (l.map Bd.cells)):=by
  refine APure.mkL (.cons (Bd.dataSl l) .nil) ((Bd.dataSl _)) ?_;refine aIn Tryz.func61 fun hm=>?_;simp only[Tryz.ntmps61,Tryz.results61,go_sem,seval];refine sqD ?_;refine sqR fun _ y=>?_;refine chS 1 ?_;simp only[↓bO,go_sem,seval];apply y;refine sqD ?_;refine zZ fun _ y=>?_;refine sqR fun _ u=>?_;(iterate 2 (refine chS 1 ?_));simp only[↓bO,go_sem,seval];apply u;apply zab;refine zaE (Weak.tokSlot 4 43 4 rfl) ?_;simp only[go_sem];refine zah (σ:=Nat) (mB 30 1816) (fun s=>s<=l.length) (fun s=>[(4,.osl 1 4 ((l.take s).map Bd.cells)),(10,.v (.int .i64 (s:Int)))]) (fun s=>[(0,.map (oC (zif (l.take s)))),(1,.tok 43 4 s)]) (fun s=>l.length-s) 0 tz1 ?_ (fun s hs=>?_)
  ·
   simp only[go_sem,seval,bL,zif,oC];exact zaK
  simp only[go_sem,seval];refine sqD ?_;refine zZ fun _ u=>?_;apply z8 rfl <;> intro hb11
  ·
   (have hk:s<l.length:=by simpa using hb11);obtain ⟨b,hb⟩:∃b,l[s]?=some b:=⟨_,za hk⟩;have hw:IntKind.i64.wrap ((s:Int)+1)=(s:Int)+1:=zal tz1 tz1;have hnew:=zh6 hn hb;have hst:=zls hn hb;(have hln:((l.take s).map Bd.cells).length=s:=by simp;omega);(have hb1:(s+1) * 48<=140737488355328:=by omega);(have hb2:s+1<=maxLen:=by simp only[maxLen];omega);apply zac;apply u;refine zZ fun _ u=>?_;apply zab;refine sqR fun _ w=>?_;(iterate 3 (refine chS 1 ?_ (by intro _ q;simp only[↓bO,go_sem,seval,Bd.cells_len,Bd.take4,hk,gM hb];exact q)));simp only[↓bO,go_sem,seval,Bd.cells_len,Bd.one];apply w;refine zZ fun _ w=>?_;refine sqR fun _ z=>?_;(iterate 4 (refine chS 1 ?_ (by intro _ q;simp only[↓bO,go_sem,seval,Bd.take1,Bd.cells_len,look_o,hnew,Option.getD_none];exact q)));simp only[↓bO,go_sem,seval];apply z;apply z8 rfl <;> intro hb18
   ·
    apply z7;(iterate 2 (refine chS 1 ?_ (by intro _ q;simp only[↓bO,go_sem,seval,Bd.cells_len,Bd.take4];exact q)));refine chS 1 ?_ (by intro _ q;simp only[↓bO,go_sem,seval,↓zeI,Bd.cells_len];exact q);refine chS 1 ?_ (by intro _ q;simp only[↓bO,go_sem,seval,Bd.one,hln,hb1,hb2,zjw hb];exact q);simp only[↓bO,go_sem,seval];apply w;apply z7;(iterate 5 (refine chS 1 ?_ (by intro _ q;simp only[↓bO,go_sem,seval,Bd.take1,Bd.cells_len,look_o,hnew,Option.getD_none,Int.zero_add,wrap1];exact q)));simp only[↓bO,go_sem,seval,upd_o,hst];apply u;apply z7;refine chS 1 ?_ (by intro _ q;simp only[↓bO,go_sem,seval,hw];exact q);simp only[↓bO,go_sem,seval];refine ⟨(s+1),tz1,by omega,?_⟩;simp only[zas,zat,zag,zam,mB,seval,zj,zi];(first | (refine Weak.drops 1 2 rfl rfl tz5 tz5 ?_ ?_ ?_) | (refine Weak.drops 0 2 rfl rfl tz5 tz5 ?_ ?_ ?_));(· simp only[go_sem,Le.refl,Le.any,zn,zi]);(· simp only[UndL,UndOs,Ob.Und,and_true,true_and,and_self,Und.v,Und.any,Und.ptr,Und.map,Nat.reduceLT,zL,Und.tys,Und.tyAgg,Und.oslTys,Und.oslTys1,Und.clo0,Und.ty,Und.bds,Und.bdsO,Und.oC]);simp only[UndL,UndOs,Ob.Und,and_true,true_and,and_self,Und.v,Und.any,Und.ptr,Und.map,Nat.reduceLT,zL,Und.tys,Und.tyAgg,Und.oslTys,Und.oslTys1,Und.clo0,Und.ty,Und.bds,Und.bdsO,Und.oC]
   exact absurd hb18 tz3
  (have hk:s=l.length:=by simp at hb11;omega);apply zaj;simp only[zaq,zak,zaf,bA,Nat.reduceEqDiff,↓reduceIte];apply y;refine sqR fun _ y=>?_;refine chS 1 ?_;simp only[↓bO,go_sem,seval];apply y;apply zaa;(try simp only[go_sem]);rw[hk,zM];exact Le.oslL
theorem zjg (l:List Bd) (hn:(l.map Bd.v).Nodup) (hl:l.length<=1048576):ACalls Tryz.prog 54 [.sl 4 (l.map Bd.cells)] [] 0 fun r os n=>(r=.map 0/\os=[(0,.map (mTC (zb4 l)))])/\n=1:=by
  refine ACalls.cleanN (n:=1) (C:=fun r os=>r=.map 0/\os=[(0,.map (mTC (zb4 l)))]) tz1 ?_;refine aIn Tryz.func54 fun hm=>?_;simp only[Tryz.ntmps54,Tryz.results54,go_sem,seval];refine sqD ?_;refine sqR fun _ u=>?_;refine chS 1 ?_;simp only[↓bO,go_sem,seval];apply u;refine zZ fun _ u=>?_;refine sqR fun _ w=>?_;refine chS 1 ?_;refine z6 1 fun _ y=>?_;simp only[↓bO,go_sem,seval];refine APure.call (zeM l hn hl) ?_;apply y;clear y;refine chS 1 ?_;simp only[↓bO,go_sem,seval];apply w;apply zab;refine zah (σ:=Nat) (mB 21 1800) (fun s=>s<=l.length) (fun s=>[(10,.v (.int .i64 (s:Int)))]) (fun s=>[(0,.map (mTC (zb4 (l.take s))))]) (fun s=>l.length-s) 0 tz1 ?_ (fun s hs=>?_)
  ·
   simp only[go_sem,seval,bL,zb4,mC_nil];exact zaK
  simp only[go_sem,seval];refine sqD ?_;refine zZ fun _ w=>?_;apply z8 rfl <;> intro hb11
  ·
   (have hk:s<l.length:=by simpa using hb11);obtain ⟨b,hb⟩:∃b,l[s]?=some b:=⟨_,za hk⟩;have hw:IntKind.i64.wrap ((s:Int)+1)=(s:Int)+1:=zal tz1 tz1;have hst:=tabM_step hn hb;apply zac;apply w;refine zZ fun _ w=>?_;apply zab;refine sqR fun _ z=>?_;(iterate 3 (refine chS 1 ?_ (by intro _ q;simp only[↓bO,go_sem,seval,Bd.cells_len,Bd.take4,hk,gM hb];exact q)));simp only[↓bO,go_sem,seval,Bd.cells_len,Bd.one];apply z;apply z7;(iterate 5 (refine chS 1 ?_ (by intro _ q;simp only[↓bO,go_sem,seval,Bd.take1,Bd.drop1,Bd.cells_len];exact q)));simp only[↓bO,go_sem,seval,zi4,hst];apply w;apply z7;refine chS 1 ?_ (by intro _ q;simp only[↓bO,go_sem,seval,hw];exact q);simp only[↓bO,go_sem,seval];refine ⟨(s+1),tz1,by omega,?_⟩;simp only[zas,zat,zag,zam,mB,seval,zj,zi];(first | (refine Weak.drops 1 1 rfl rfl tz5 tz5 ?_ ?_ ?_) | (refine Weak.drops 0 1 rfl rfl tz5 tz5 ?_ ?_ ?_));(· simp only[go_sem,Le.refl,Le.any,zn,zi]);(· simp only[UndL,UndOs,Ob.Und,and_true,true_and,and_self,Und.v,Und.any,Und.ptr,Und.map,Nat.reduceLT,zL,Und.tys,Und.tyAgg,Und.oslTys,Und.oslTys1,Und.clo0,Und.ty,Und.bds,Und.mTC]);simp only[UndL,UndOs,Ob.Und,and_true,true_and,and_self,Und.v,Und.any,Und.ptr,Und.map,Nat.reduceLT,zL,Und.tys,Und.tyAgg,Und.oslTys,Und.oslTys1,Und.clo0,Und.ty,Und.bds,Und.mTC]
  (have hk:s=l.length:=by simp at hb11;omega);apply zaj;simp only[zaq,zak,zaf,bA,Nat.reduceEqDiff,↓reduceIte];apply u;refine sqR fun _ u=>?_;refine chS 1 ?_;simp only[↓bO,go_sem,seval];apply u;apply zaa;(try simp only[go_sem]);refine ⟨_,[(0,.map (mTC (zb4 l)))],⟨rfl,rfl⟩,.map tz1,mUnd tz1 _,Le.refl _,⟨0,by rw[hk,zM];rfl,rfl⟩,by omega⟩
theorem zd1 {l:List Bd} (hn:(l.map Bd.v).Nodup) (hl:l.length<=1048576) {os':Os} {nx':Nat} {Q':AV->Os->Nat->Prop} (hq:Q' (.map nx') ((nx',.map (mTC (zb4 l)))::os') (nx'+1)):ACalls Tryz.prog 54 [.sl 4 (l.map Bd.cells)] os' nx' Q' :=
 ACalls.fresh (R':=.map nx') (os1':=[(nx',.map (mTC (zb4 l)))]) (zjg l hn hl) (.cons (Bd.dataSl l) .nil) (.map rfl) tz4 ⟨rfl,.map (zcj _),trivial⟩ hq
theorem zcr:∀(T:Ty) (m:List (Int×Ty)),(∀(k:Int) (x:Ty),zaH m k=some x->x.cnt<=1099511627776)->T.cnt<=1099511627776->MCalls 58 [.map 0,.agg T.cells] m (.agg (T.subM m).cells) m:=by
  refine Ty.ind fun T ih m hM hT=>?_;refine ACalls.clean (C:=fun r os=>r=_/\os=_) ?_;refine aIn Tryz.func58 fun hm=>?_;simp only[Tryz.ntmps58,Tryz.results58,go_sem,seval];obtain ⟨cs,hcs,hl3,hone,htk,hcx,hcd⟩:=zju m T.n;have hm1:=hm.wide (t:=T) tz4;have hm2:=hm1.len;have hcn:=T.cnt_eq;have hcl:=Ty.cntL_len T.ps;simp only[zad,Nat.reduceAdd];simp only[Ty.cells_eq T,zt,zx];refine sqR fun _ u=>?_;refine chS 1 ?_;simp only[↓bO,go_sem,seval];apply u;refine zZ fun _ u=>?_;refine sqR fun _ w=>?_;(iterate 9 (refine chS 1 ?_ (by intro _ q;simp only[↓bO,go_sem,seval,↓zaX,hcs,hl3,hone,zc2];exact q)));simp only[↓bO,go_sem,seval];apply w;refine sqR fun _ w=>?_;(iterate 2 (refine chS 1 ?_));refine zai 18 rfl (fun hc18=>?_) (fun hc18=>?_)
  ·
   simp only[go_sem];(have hS:(zaH m T.n).isSome=true:=by simpa using hc18);obtain ⟨x,hfx⟩:=Option.isSome_iff_exists.1 hS;have hce:=hcx x hfx;subst hce;have hxc:=hM _ _ hfx;(iterate 3 (refine chS 1 ?_));simp only[↓bO,go_sem,seval];apply w;apply z8 rfl <;> intro hb22
   ·
    (have hk1:T.k=1:=by simpa using hb22);refine sqR fun _ w=>?_;refine chS 1 ?_ (by intro _ q;simp only[↓bO,go_sem,seval,hl3,htk];exact q);refine z6 1 fun _ y=>?_;simp only[↓bO,go_sem,seval];refine APure.call (zdh x hxc) ?_;apply y;clear y;simp only[↓bO,go_sem,seval,hl3,hone];apply w;apply zaa;(try simp only[zaq,zak,zaf,zeq,zcX,zbj,bS,bA,za6,zaw,zbU,bL,Nat.reduceAdd,Nat.reduceLeDiff,Nat.reduceEqDiff,↓reduceIte,zgg,tyX,↓zaX,hcs,hl3,hone,htk,zc2]);refine ⟨_,zad 0 [.map (mTC m)],⟨rfl,rfl⟩,.data (Ty.dataAgg _),mUnd tz1 _,?_,?_,by omega⟩;(· rw[Ty.subM_yes hk1 hfx];exact Le.refl _);exact ⟨3,rfl,rfl⟩
   (have hno:¬(T.k=1/\(zaH m T.n).isSome=true):=fun h9=>by (have h8:=hb22;simp at h8;exact h8 h9.1));apply zac;apply u;refine sqD ?_;refine zZ fun _ u=>?_;refine sqR fun _ w=>?_;(iterate 3 (refine chS 1 ?_));simp only[↓bO,go_sem,seval];apply w;apply zab;refine zaE (Weak.tokSlot 7 28 3 rfl) ?_;simp only[go_sem];refine zah (σ:=Nat) (mB 42 469762201) (fun s=>s<=T.ps.length) (fun s=>[(7,.osl 4 3 (((T.ps.take s).map (Ty.subM m)).map Ty.cells)),(28,.v (.int .i64 (s:Int)))]) (fun s=>[(4,.tok 28 3 s)]) (fun s=>T.ps.length-s) 0 tz1 ?_ (fun s hs=>?_)
   ·
    simp only[go_sem,seval,bL];exact zaK
   simp only[go_sem,seval];refine sqD ?_;refine zZ fun _ w=>?_;apply z8 rfl <;> intro hb29
   ·
    (have hk:s<T.ps.length:=by simpa using hb29);obtain ⟨p,hp⟩:∃p,T.ps[s]?=some p:=⟨_,za hk⟩;have hpm:=Ty.cnt_mem (zc hp);have hw:IntKind.i64.wrap ((s:Int)+1)=(s:Int)+1:=zal tz1 tz1;(have hln:((T.ps.take s).map (Ty.subM m)).length=s:=by simp;omega);(have hb1:(s+1) * 40<=140737488355328:=by omega);(have hb2:s+1<=maxLen:=by simp only[maxLen];omega);apply zac;apply w;refine zZ fun _ w=>?_;apply zab;refine sqR fun _ z=>?_;(iterate 3 (refine chS 1 ?_ (by intro _ q;simp only[↓bO,go_sem,seval,hk,gM hp];exact q)));simp only[↓bO,go_sem,seval];apply z;apply z7;(iterate 3 (refine chS 1 ?_));refine z6 1 fun _ y=>?_;simp only[↓bO,go_sem,seval];refine MCalls.at (ih p (zc hp) m hM tz1) (.cons (Ty.dataAgg p) .nil) (Ty.dataAgg _) (i:=0) rfl tz2 ?_;simp only[zam,Nat.reduceEqDiff,↓reduceIte];apply y;clear y;refine chS 1 ?_ (by intro _ q;simp only[↓bO,go_sem,seval,↓zfK];exact q);refine chS 1 ?_ (by intro _ q;simp only[↓bO,go_sem,seval,hln,hb1,hb2];exact q);simp only[↓bO,go_sem,seval];apply w;apply z7;refine chS 1 ?_ (by intro _ q;simp only[↓bO,go_sem,seval,hw];exact q);simp only[↓bO,go_sem,seval];refine ⟨(s+1),tz1,by omega,?_⟩;simp only[zas,zat,zag,zam,mB,seval,zj,zi,zu,bL,zaN (Ty.subM m) hp];(first | (refine Weak.drops 1 5 rfl rfl tz5 tz5 ?_ ?_ ?_) | (refine Weak.drops 0 5 rfl rfl tz5 tz5 ?_ ?_ ?_));(· simp only[go_sem,Le.refl,Le.any,zn,zi]);(· simp only[UndL,UndOs,Ob.Und,and_true,true_and,and_self,Und.v,Und.any,Und.ptr,Und.map,Nat.reduceLT,zL,Und.tys,Und.tyAgg,Und.oslTys,Und.oslTys1,Und.clo0,Und.ty,Und.mTC,Und.map,Und.oslTys,UndL.data hcd]);simp only[UndL,UndOs,Ob.Und,and_true,true_and,and_self,Und.v,Und.any,Und.ptr,Und.map,Nat.reduceLT,zL,Und.tys,Und.tyAgg,Und.oslTys,Und.oslTys1,Und.clo0,Und.ty,Und.mTC,Und.map,Und.oslTys,UndL.data hcd]
   (have hk:s=T.ps.length:=by simp at hb29;omega);apply zaj;simp only[zaq,zak,zaf,bA,Nat.reduceEqDiff,↓reduceIte];apply u;refine sqR fun _ u=>?_;(iterate 2 (refine chS 1 ?_));simp only[↓bO,go_sem,seval];apply u;refine sqR fun _ u=>?_;refine chS 1 ?_;simp only[↓bO,go_sem,seval];apply u;apply zaa;(try simp only[zaq,zak,zaf,zeq,zcX,zbj,bS,bA,za6,zaw,zbU,bL,Nat.reduceAdd,Nat.reduceLeDiff,Nat.reduceEqDiff,↓reduceIte,zgg,tyX,↓zaX,hcs,hl3,hone,htk,zc2]);refine ⟨.agg (T.subM m).cells,zad 0 [.map (mTC m)],⟨rfl,rfl⟩,.data (Ty.dataAgg _),mUnd tz1 _,?_,?_,by omega⟩
   ·
    refine Le.agg ?_;rw[Ty.subM_no hno,Ty.cells_eq,hk,zM];exact ⟨.refl _,.refl _,Le.oslL,trivial⟩
   first | exact ⟨4,rfl,rfl⟩ | exact ⟨5,rfl,rfl⟩
  simp only[go_sem];(have hS:(zaH m T.n).isSome=false:=by simpa using hc18);(have hno:¬(T.k=1/\(zaH m T.n).isSome=true):=fun h9=>by rw[hS] at h9;cases h9.2);(iterate 3 (refine chS 1 ?_));simp only[↓bO,go_sem,seval];apply w;refine z8 (b:=false) (by first | exact rfl | exact congrArg (fun b=>AV.v (.bool b)) hb22) (fun h=>(by cases h)) (fun _=>?_);apply zac;apply u;refine sqD ?_;refine zZ fun _ u=>?_;refine sqR fun _ w=>?_;(iterate 3 (refine chS 1 ?_));simp only[↓bO,go_sem,seval];apply w;apply zab;refine zaE (Weak.tokSlot 7 28 3 rfl) ?_;simp only[go_sem];refine zah (σ:=Nat) (mB 42 469762201) (fun s=>s<=T.ps.length) (fun s=>[(7,.osl 4 3 (((T.ps.take s).map (Ty.subM m)).map Ty.cells)),(28,.v (.int .i64 (s:Int)))]) (fun s=>[(4,.tok 28 3 s)]) (fun s=>T.ps.length-s) 0 tz1 ?_ (fun s hs=>?_)
  ·
   simp only[go_sem,seval,bL];exact zaK
  simp only[go_sem,seval];refine sqD ?_;refine zZ fun _ w=>?_;apply z8 rfl <;> intro hb29
  ·
   (have hk:s<T.ps.length:=by simpa using hb29);obtain ⟨p,hp⟩:∃p,T.ps[s]?=some p:=⟨_,za hk⟩;have hpm:=Ty.cnt_mem (zc hp);have hw:IntKind.i64.wrap ((s:Int)+1)=(s:Int)+1:=zal tz1 tz1;(have hln:((T.ps.take s).map (Ty.subM m)).length=s:=by simp;omega);(have hb1:(s+1) * 40<=140737488355328:=by omega);(have hb2:s+1<=maxLen:=by simp only[maxLen];omega);apply zac;apply w;refine zZ fun _ w=>?_;apply zab;refine sqR fun _ z=>?_;(iterate 3 (refine chS 1 ?_ (by intro _ q;simp only[↓bO,go_sem,seval,hk,gM hp];exact q)));simp only[↓bO,go_sem,seval];apply z;apply z7;(iterate 3 (refine chS 1 ?_));refine z6 1 fun _ y=>?_;simp only[↓bO,go_sem,seval];refine MCalls.at (ih p (zc hp) m hM tz1) (.cons (Ty.dataAgg p) .nil) (Ty.dataAgg _) (i:=0) rfl tz2 ?_;simp only[zam,Nat.reduceEqDiff,↓reduceIte];apply y;clear y;refine chS 1 ?_ (by intro _ q;simp only[↓bO,go_sem,seval,↓zfK];exact q);refine chS 1 ?_ (by intro _ q;simp only[↓bO,go_sem,seval,hln,hb1,hb2];exact q);simp only[↓bO,go_sem,seval];apply w;apply z7;refine chS 1 ?_ (by intro _ q;simp only[↓bO,go_sem,seval,hw];exact q);simp only[↓bO,go_sem,seval];refine ⟨(s+1),tz1,by omega,?_⟩;simp only[zas,zat,zag,zam,mB,seval,zj,zi,zu,bL,zaN (Ty.subM m) hp];(first | (refine Weak.drops 1 5 rfl rfl tz5 tz5 ?_ ?_ ?_) | (refine Weak.drops 0 5 rfl rfl tz5 tz5 ?_ ?_ ?_));(· simp only[go_sem,Le.refl,Le.any,zn,zi]);(· simp only[UndL,UndOs,Ob.Und,and_true,true_and,and_self,Und.v,Und.any,Und.ptr,Und.map,Nat.reduceLT,zL,Und.tys,Und.tyAgg,Und.oslTys,Und.oslTys1,Und.clo0,Und.ty,Und.mTC,Und.map,Und.oslTys,UndL.data hcd]);simp only[UndL,UndOs,Ob.Und,and_true,true_and,and_self,Und.v,Und.any,Und.ptr,Und.map,Nat.reduceLT,zL,Und.tys,Und.tyAgg,Und.oslTys,Und.oslTys1,Und.clo0,Und.ty,Und.mTC,Und.map,Und.oslTys,UndL.data hcd]
  (have hk:s=T.ps.length:=by simp at hb29;omega);apply zaj;simp only[zaq,zak,zaf,bA,Nat.reduceEqDiff,↓reduceIte];apply u;refine sqR fun _ u=>?_;(iterate 2 (refine chS 1 ?_));simp only[↓bO,go_sem,seval];apply u;refine sqR fun _ u=>?_;refine chS 1 ?_;simp only[↓bO,go_sem,seval];apply u;apply zaa;(try simp only[zaq,zak,zaf,zeq,zcX,zbj,bS,bA,za6,zaw,zbU,bL,Nat.reduceAdd,Nat.reduceLeDiff,Nat.reduceEqDiff,↓reduceIte,zgg,tyX,↓zaX,hcs,hl3,hone,htk,zc2]);refine ⟨.agg (T.subM m).cells,zad 0 [.map (mTC m)],⟨rfl,rfl⟩,.data (Ty.dataAgg _),mUnd tz1 _,?_,?_,by omega⟩
  ·
   refine Le.agg ?_;rw[Ty.subM_no hno,Ty.cells_eq,hk,zM];exact ⟨.refl _,.refl _,Le.oslL,trivial⟩
  first | exact ⟨4,rfl,rfl⟩ | exact ⟨5,rfl,rfl⟩
end Go.Proofs.YtpfiliamceimmaaGreatDoor
