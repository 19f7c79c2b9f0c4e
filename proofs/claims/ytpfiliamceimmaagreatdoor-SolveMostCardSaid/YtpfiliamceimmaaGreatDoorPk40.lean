/- packed, part 40 of 47. Conditions: none. -/
import Derived.Test.YtpfiliamceimmaaGreatDoorPk39
set_option linter.unusedVariables false
set_option linter.unusedSimpArgs false
set_option maxRecDepth 100000
set_option maxHeartbeats 4000000
namespace Go.Proofs.YtpfiliamceimmaaGreatDoor
open Go Go.RowKit
attribute [local irreducible] aops zaA
def zaY (W:WS):List Ob:=[.map (mC cI W.st),.map (mC cB W.cy),.map (mC cI W.de),.map (mC cI W.sz),.cells 134 [.map 8,.map 9,.map 10,.map 11,.v (.int .i64 W.steps),.v (.bool W.bad)]]
theorem wUnd {n:Nat} (h:13<=n) (S:CS) (W:WS):UndOs n (zad 0 (zan S++zaY W++[])) :=
 ⟨by omega,⟨.v _ _,.ptr tz1,.ptr tz1,.own tz1,.v _ _,trivial⟩,by omega,⟨.osl tz1 (.data (.sl (GNode.dataRows S.G.N))),.map tz1,trivial⟩,by omega,trivial,by omega,fun p hp=>.data (zaR S.G.V p hp),
  by omega,⟨.own tz1,.own tz1,.v _ _,.v _ _,trivial⟩,by omega,Und.rowI (zaZ _),by omega,Und.rowI (zaF _),by omega,Und.rowI (zaF _),
  by omega,fun p hp=>.data (zaJ _ p hp),by omega,fun p hp=>.data (zbV _ p hp),by omega,fun p hp=>.data (zaJ _ p hp),by omega,fun p hp=>.data (zaJ _ p hp),by omega,⟨.map tz1,.map tz1,.map tz1,.map tz1,.v _ _,.v _ _,trivial⟩,trivial⟩
theorem renW (S:CS) (W:WS) (nx:Nat):RenOs (zbn [0,1,2,3,4,5,6,7,8,9,10,11,12] nx) 0 (zan S++zaY W) (zan S++zaY W) :=
 ⟨.cells ⟨.v _,.ptr rfl,.ptr rfl,.own rfl,.v _,trivial⟩,.cells ⟨.osl rfl (GNode.dataRows S.G.N),.map rfl,trivial⟩,.tok,.map (zaR S.G.V),.cells ⟨.own rfl,.own rfl,.v _,.v _,trivial⟩,.row (zaZ _),.row (zaF _),.row (zaF _),
  .map (zaJ _),.map (zbV _),.map (zaJ _),.map (zaJ _),.cells ⟨.map rfl,.map rfl,.map rfl,.map rfl,.v _,.v _,trivial⟩,trivial⟩
def WCalls {σ:Type} (f:Nat) (args:List AV) (S:CS) (W:WS) (C:(FS×WS)×σ->Prop) (R:σ->AV):Prop :=
 ACalls Tryz.prog f args (zad 0 (zan S++zaY W++[])) 13 fun z os n=>(∃s:(FS×WS)×σ,C s/\z=R s.2/\os=zad 0 (zan {S with F:=s.1.1}++zaY s.1.2++[]))/\n=13
theorem WCalls.at {σ:Type} {f:Nat} {args:List AV} {S:CS} {W:WS} {C:(FS×WS)×σ->Prop} {R:σ->AV} (h:WCalls f args S W C R) {os':Os} {nx':Nat}
  (ha:RenL (zbn [0,1,2,3,4,5,6,7,8,9,10,11,12] nx') args args) (hR:∀s,RenV (zbn [0,1,2,3,4,5,6,7,8,9,10,11,12] nx') (R s) (R s)) (hlt:13<=nx') (hg:GetsO os' [0,1,2,3,4,5,6,7,8,9,10,11,12] (zan S++zaY W)) {Q':AV->Os->Nat->Prop}
  (hq:∀(F1:FS) (W1:WS) (s:σ),C ((F1,W1),s)->Q' (R s) (zag os' ([0,1,2,3,4,5,6,7,8,9,10,11,12].zip (zan {S with F:=F1}++zaY W1))) nx'):ACalls Tryz.prog f args os' nx' Q' :=
 ACalls.atE (σ:=(FS×WS)×σ) (C:=C) (args:=args) (R:=fun s=>R s.2) (R':=fun s=>R s.2) (obs:=zan S++zaY W) (obs1:=fun s=>zan {S with F:=s.1.1}++zaY s.1.2) (obs':=zan S++zaY W) (obs1':=fun s=>zan {S with F:=s.1.1}++zaY s.1.2) [0,1,2,3,4,5,6,7,8,9,10,11,12]
  (by unfold WCalls at h;simp only[List.append_nil] at h;exact h) rfl (fun _=>rfl) tz3 (by simp only[zG,List.not_mem_nil,or_false];omega) ha (fun s=>hR s.2) (renW S W nx') hg (fun s=>renW _ s.1.2 nx') (fun s hs=>hq s.1.1 s.1.2 s.2 hs)
theorem wrap_step {n:Int} (h0:0<=n) (h1:n<=1000000000):IntKind.i64.wrap (n+1)=n+1:=zal tz1 tz1
theorem zb2 {p:Prop} (h:p:=by exact ⟨⟨_,_,rfl,by simp,rfl,trivial,trivial⟩,⟨_,_,rfl,by simp,rfl,trivial,trivial,trivial⟩,trivial⟩):p:=h
theorem tz16 {p:Prop} (h:p:=by exact ⟨⟨_,_,rfl,by simp,rfl,trivial,trivial,trivial⟩,trivial⟩):p:=h
theorem begin_c (S:CS) (hS:CyG S) (W:WS) (h0:0<=W.steps) (h1:W.steps<=1000000000) (r:Nat) (hr:Rt S.F.up r r):ACalls Tryz.prog 160 [.ptr 12 0,.agg [.ptr 0 0,.v (.int .i64 (r:Int))]] (zad 0 (zan (S)++zaY (W)++[])) 13 fun z os n=>(∃s:(FS×WS)×Unit,(FSame S.F s.1.1/\s.1.2=W.begin r)/\z=(fun s:Unit=>.agg (frC (zaG S) (r,0))) s.2/\os=zad 0 (zan {S with F:=s.1.1}++zaY s.1.2++[]))/\n=13:=by
  refine ACalls.clean (C:=fun zr zo=>∃s:(FS×WS)×Unit,(FSame S.F s.1.1/\s.1.2=W.begin r)/\zr=(fun s:Unit=>.agg (frC (zaG S) (r,0))) s.2/\zo=zad 0 (zan {S with F:=s.1.1}++zaY s.1.2++[])) ?_;refine aIn Tryz.func160 fun hm=>?_;simp only[Tryz.ntmps160,Tryz.results160,go_sem,seval];simp only[zan,zaY,zt,zx,zad,Nat.reduceAdd];have hrl:=hr.lt;have hfl:=hS.c.fl;obtain ⟨x,hx⟩:∃x,S.W[r]?=some x:=⟨_,za tz1⟩;have hw1:=wrap_step h0 h1;refine sqR fun _ u=>?_;refine chS 1 ?_;simp only[↓bO,go_sem,seval];apply u;refine sqR fun _ u=>?_;(iterate 7 (refine chS 1 ?_ (by intro _ q;simp only[↓bO,go_sem,seval,hw1];exact q)));simp only[↓bO,go_sem,seval];apply u;refine zZ fun _ u=>?_;refine zax [(12,0,[.map 8]),(13,0,[.ptr 0 0,.v (.int .i64 (r:Int))])] 7 rfl mixed (zb2) rfl ?_;dsimp only;refine tkS 0 ?_;refine tkS 1 ?_;refine tkS 2 ?_;refine tkM 3 0 ?_;refine tkM 4 1 ?_;refine al1 (i:=5) ?_;refine opT fun _ y=>?_;simp only[↓bO,go_sem,seval];refine CCalls.atP (zc5 (S) (r:Int)) (i0:=0) (i1:=1) (i2:=2) (i3:=3) (i4:=4) (i5:=5) (i6:=6) (i7:=7) tz6 (fun _=>by exact .v _) tz3 tz4 zbd (fun Z1 u1 hZ1=>?_);(try dsimp only at hZ1);simp only[zau,zl,zp,zm,zag,zam,Nat.reduceEqDiff,↓reduceIte];obtain rfl:S=Z1:=hZ1.symm;(try simp only[go_sem]);refine y _ ⟨zb2,?_⟩;clear y;refine al1 (i:=6) ?_;refine opT fun _ y=>?_;simp only[↓bO,go_sem,seval,upd_I];refine y _ ⟨zb2,?_⟩;clear y;refine dnA ?_;apply u;refine zZ fun _ u=>?_;refine zax [(13,0,[.ptr 0 0,.v (.int .i64 (r:Int))])] 6 rfl mixed (tz16) rfl ?_;dsimp only;refine tkM 0 0 ?_;refine tkM 2 0 ?_;refine al1 (i:=1) ?_;refine opT fun _ y=>?_;simp only[↓bO,go_sem,seval];refine CCalls.atP (zc5 (S) (r:Int)) (i0:=0) (i1:=1) (i2:=2) (i3:=3) (i4:=4) (i5:=5) (i6:=6) (i7:=7) tz6 (fun _=>by exact .v _) tz3 tz4 zbd (fun Z2 u2 hZ2=>?_);(try dsimp only at hZ2);simp only[zau,zl,zp,zm,zag,zam,Nat.reduceEqDiff,↓reduceIte];obtain rfl:S=Z2:=hZ2.symm;(try simp only[go_sem]);refine y _ ⟨tz16,?_⟩;clear y;refine al1 (i:=3) ?_;refine opT fun _ y=>?_;simp only[↓bO,go_sem,seval];refine CCalls.atP (R':=fun s=>.sl 2 (s.map (zbF 0))) (zkP S hS.c.f hS.c.pl hS.c.wr r x hx (hS.g0 r x hr hx)) (i0:=0) (i1:=1) (i2:=2) (i3:=3) (i4:=4) (i5:=5) (i6:=6) (i7:=7) tz6 (fun _=>by exact .parts rfl _) tz3 tz4 zbd (fun Z4 rs hZ4=>?_);(try dsimp only at hZ4);simp only[zau,zl,zp,zm,zag,zam,Nat.reduceEqDiff,↓reduceIte];obtain ⟨F2,rfl⟩:∃F2,Z4={S with F:=F2}:=⟨Z4.F,hZ4.2.1⟩;have hF2:FSame S.F F2:=hZ4.1;have hkd:zaG S r=rs:=zdM ⟨x,hx,hZ4.2.2⟩;(try simp only[go_sem]);refine y _ ⟨tz16,?_⟩;clear y;refine alS 4 ?_ (hH:=by exact tz16);refine alS 5 ?_ (hH:=by exact tz16);refine dnA ?_;apply u;apply zaa;(try simp only[zaq,zak,zaf,zeq,zcX,zbj,bS,bA,za6,zaw,zbU,bL,Nat.reduceAdd,Nat.reduceLeDiff,Nat.reduceEqDiff,↓reduceIte,ti198,zC,zI,Int.natCast_nonneg,zgD,look_B,upd_I,upd_B,hw1]);refine ⟨_,zad 0 (zan {S with F:=F2}++zaY (W.begin r)++[]),⟨((F2,W.begin r),()),?_,rfl,rfl⟩,.agg (Und.frame _ tz1 _),wUnd tz1 _ _,?_,?_,by omega⟩;· exact ⟨hF2,rfl⟩
  ·
   rw[frC,hkd];exact Le.refl _
  first | (refine ⟨2,rfl,rfl⟩) | (refine ⟨1,rfl,rfl⟩) | (refine ⟨0,rfl,rfl⟩) | (refine ⟨2,by simp only[zan,zaY,zt,zx,zad,zk,zf,Nat.reduceAdd,WS.begin],rfl⟩) | (refine ⟨1,by simp only[zan,zaY,zt,zx,zad,zk,zf,Nat.reduceAdd,WS.begin],rfl⟩) | (refine ⟨0,by simp only[zan,zaY,zt,zx,zad,zk,zf,Nat.reduceAdd,WS.begin],rfl⟩)
theorem lUnd {n:Nat} (h:14<=n) (S:CS) (W:WS) (K:Nat->List Nat) (stk:List (Nat×Nat)):UndOs n (zad 0 (zan S++zaY W++[.row 198 3 (stk.map (frC K))])):=by
 have h1:=wUnd (n:=n) tz1 S W;obtain ⟨a0,a1,b0,b1,c0,c1,d0,d1,e0,e1,f0,f1,g0,g1,i0,i1,j0,j1,k0,k1,l0,l1,m0,m1,o0,o1,_⟩:=h1;exact ⟨a0,a1,b0,b1,c0,c1,d0,d1,e0,e1,f0,f1,g0,g1,i0,i1,j0,j1,k0,k1,l0,l1,m0,m1,o0,o1,by omega,Und.frames K tz1 stk,trivial⟩
theorem zf6 {stk:List (Nat×Nat)} {m q:Nat} {p:Nat×Nat} {W:WS} (h:stk[m]?=some p):zba q ((stk.take (m+1)).reverse.map Prod.fst) W=if p.1=q then W.mark p.1 else zba q ((stk.take m).reverse.map Prod.fst) (W.mark p.1):=by
 rw[zR,h];simp only[Option.toList_some,List.reverse_append,List.reverse_cons,List.reverse_nil,zx,zt,zy,zba]
theorem loop_c (S:CS) (hS:FInv S.F) (W:WS) (K:Nat->List Nat) (stk:List (Nat×Nat)) (hl:stk.length<=1048576) (q:Nat):ACalls Tryz.prog 161 [.ptr 12 0,.own 13 stk.length,.v (.int .i64 (q:Int))] (zad 0 (zan (S)++zaY (W)++[.row 198 3 (stk.map (frC K))])) 14 fun z os n=>(∃s:(FS×WS)×Unit,(s.1.1=S.F/\s.1.2=zba q (stk.reverse.map Prod.fst) W)/\z=(fun s:Unit=>.tup []) s.2/\os=zad 0 (zan {S with F:=s.1.1}++zaY s.1.2++[.row 198 3 (stk.map (frC K))]))/\n=14:=by
  refine ACalls.clean (C:=fun zr zo=>∃s:(FS×WS)×Unit,(s.1.1=S.F/\s.1.2=zba q (stk.reverse.map Prod.fst) W)/\zr=(fun s:Unit=>.tup []) s.2/\zo=zad 0 (zan {S with F:=s.1.1}++zaY s.1.2++[.row 198 3 (stk.map (frC K))])) ?_;refine aIn Tryz.func161 fun hm=>?_;simp only[Tryz.ntmps161,Tryz.results161,go_sem,seval];simp only[zan,zaY,zt,zx,zad,Nat.reduceAdd];have hwl:IntKind.i64.wrap ((stk.length:Int)-1)=(stk.length:Int)-1:=zal tz1 tz1;refine sqR fun _ u=>?_;(iterate 3 (refine chS 1 ?_ (by intro _ q;simp only[↓bO,go_sem,seval,hwl];exact q)));simp only[↓bO,go_sem,seval];apply u;apply zab;refine zah (σ:=List (Int×Bool)×Nat) (mB 30 71) (fun s=>zba q ((stk.take s.2).reverse.map Prod.fst) {W with cy:=s.1}=zba q (stk.reverse.map Prod.fst) W/\s.2<=stk.length) (fun s=>[(6,.v (.int .i64 ((s.2:Int)-1)))]) (fun s=>[(9,.map (mC cB s.1))]) (fun s=>s.2) (W.cy,stk.length) (⟨by rw[zM],zV _⟩) ?_ (fun s hs=>?_)
  ·
   simp only[go_sem,seval];exact zaK
  simp only[go_sem,seval];refine zZ fun _ u=>?_;refine sqR fun _ w=>?_;refine chS 1 ?_;simp only[↓bO,go_sem,seval];apply w;apply z8 rfl <;> intro hb11
  ·
   (have hk:1<=s.2:=by (have h9:=hb11;simp at h9;omega));obtain ⟨m,hm⟩:∃m,s.2=m+1:=⟨s.2-1,by omega⟩;(have hx1:(s.2:Int)-1=(m:Int):=by omega);(have hml:m<stk.length:=by have:=hs.2;omega);obtain ⟨p,hst⟩:∃p,stk[m]?=some p:=⟨_,za hml⟩;have hw1:IntKind.i64.wrap ((m:Int)-1)=(m:Int)-1:=zal tz1 tz1;apply zac;apply u;refine zZ fun _ u=>?_;apply zab;refine zZ fun _ w=>?_;refine zaz 9 mixed tz0 fun J0 j0=>?_;(iterate 8 (simp only[go_sem];refine zae 1 fun _ y=>?_;simp only[↓zaA,↓dOp,↓bO,go_sem,seval,hx1,hml];apply y;clear y));simp only[go_sem];simp only[↓zaA,↓dOp,↓bO,go_sem,seval,hml,gM hst,frC];refine j0 _ ?_;clear j0 J0;simp only[go_sem];simp only[↓bO,go_sem,seval,upd_B];apply w;refine sqR fun _ w=>?_;(iterate 6 (refine chS 1 ?_ (by intro _ q;simp only[↓bO,go_sem,seval,hml,gM hst,frC];exact q)));simp only[↓bO,go_sem,seval];apply w;apply z8 rfl <;> intro hb29
   ·
    (have hpq:p.1=q:=by (have h9:=hb29;simp at h9;omega));(have hres:{W with cy:=zgX s.1 p.1 true}=zba q (stk.reverse.map Prod.fst) W:=by (have h9:=hs.1;rw[hm,zf6 hst,if_pos hpq] at h9;exact h9));apply zaa;(try simp only[go_sem]);refine ⟨_,zad 0 (zan {S with F:=S.F}++zaY ({W with cy:=zgX s.1 p.1 true})++[.row 198 3 (stk.map (frC K))]),⟨((S.F,{W with cy:=zgX s.1 p.1 true}),()),?_,rfl,rfl⟩,.tup trivial,lUnd tz1 _ _ K stk,?_,?_,by omega⟩;· exact ⟨rfl,hres⟩
    ·
     exact Le.refl _
    first | (refine ⟨0,rfl,rfl⟩) | (refine ⟨0,by simp only[zan,zaY,zt,zx,zad,zk,zf,Nat.reduceAdd],rfl⟩)
   (have hne:¬p.1=q:=by (have h9:=hb29;simp at h9;omega));apply zac;apply u;apply z7;(iterate 2 (refine chS 1 ?_ (by intro _ q;simp only[↓bO,go_sem,seval,hw1];exact q)));simp only[↓bO,go_sem,seval];refine ⟨(zgX s.1 p.1 true,m),⟨by (have h9:=hs.1;rw[hm,zf6 hst,if_neg hne] at h9;exact h9),by simp only;omega⟩,tz5,?_⟩;simp only[zas,zat,zag,zam,mB,seval];exact zaK
  (have hk:s.2=0:=by (have h9:=hb11;simp at h9;omega));(have hres:{W with cy:=s.1}=zba q (stk.reverse.map Prod.fst) W:=by (have h9:=hs.1;rw[hk] at h9;exact h9));apply zaj;simp only[zaq,zak,zaf,bA,Nat.reduceEqDiff,↓reduceIte];(try simp only[go_sem]);refine ⟨_,zad 0 (zan {S with F:=S.F}++zaY ({W with cy:=s.1})++[.row 198 3 (stk.map (frC K))]),⟨((S.F,{W with cy:=s.1}),()),?_,rfl,rfl⟩,.tup trivial,lUnd tz1 _ _ K stk,?_,?_,by omega⟩;· exact ⟨rfl,hres⟩
  ·
   exact Le.refl _
  first | (refine ⟨0,rfl,rfl⟩) | (refine ⟨0,by simp only[zan,zaY,zt,zx,zad,zk,zf,Nat.reduceAdd],rfl⟩)
def WBd (W:WS):Prop:=∀x,(0<=W.dg x/\W.dg x<=most)/\0<=W.zg x/\W.zg x<=most
theorem ze6 {ch:List Nat} {r k p:Nat} {W:WS} (h:ch[k]?=some p):zay r (ch.take (k+1)) W=zbA r (zay r (ch.take k) W) p:=by
 unfold zay;rw[zR,h,List.foldl_append];rfl
theorem zev {W:WS} (h:WBd W) (r:Nat) (ch:List Nat):(0<=(zay r ch W).1.1/\(zay r ch W).1.1<=most)/\(1<=(zay r ch W).1.2/\(zay r ch W).1.2<=most)/\WBd (zay r ch W).2:=by
 obtain ⟨h1,h2,h3,h4,h5,h6,h7,h8⟩:=zb1 r ch ((0,1),{W with st:=zgX W.st r 2})
 have key:∀(ch:List Nat) (a:Int×Int),(0<=a.1/\a.1<=most)->(1<=a.2/\a.2<=most)->(0<=(ch.foldl (fun a p=>(max a.1 (W.dg p),min most (a.2+W.zg p))) a).1/\(ch.foldl (fun a p=>(max a.1 (W.dg p),min most (a.2+W.zg p))) a).1<=most) /\
   1<=(ch.foldl (fun a p=>(max a.1 (W.dg p),min most (a.2+W.zg p))) a).2/\(ch.foldl (fun a p=>(max a.1 (W.dg p),min most (a.2+W.zg p))) a).2<=most:=by
  intro ch
  induction ch with
  | nil=>intro a h1 h2;exact ⟨h1,h2⟩
  | cons p ch ih =>
   intro a h1 h2;have h9:=h p;simp only[most] at h1 h2 h9;exact ih _ ⟨by simp only;omega,by simp only[most];omega⟩ ⟨by simp only[most];omega,by simp only[most];omega⟩
 have hk:=key ch (0,1) (by simp[most]) (by simp[most]);have e:(zay r ch W).1=ch.foldl (fun a p=>(max a.1 (W.dg p),min most (a.2+W.zg p))) (0,1):=h8;rw[e];refine ⟨hk.1,hk.2,fun x=>?_⟩;have hx:=h x;(have e1:(zay r ch W).2.dg x=W.dg x:=by unfold WS.dg;rw[show (zay r ch W).2.de=W.de from h2]);(have e2:(zay r ch W).2.zg x=W.zg x:=by unfold WS.zg;rw[show (zay r ch W).2.sz=W.sz from h3]);rw[e1,e2];exact hx
theorem tz17 {p:Prop} (h:p:=by exact ⟨⟨_,_,rfl,by simp,rfl,trivial,trivial⟩,⟨_,_,rfl,by simp,rfl,trivial,trivial⟩,⟨_,_,rfl,by simp,rfl,trivial,trivial,trivial⟩,trivial⟩):p:=h
theorem tz18 {p:Prop} (h:p:=by exact ⟨rfl,rfl,rfl,rfl,rfl,rfl,rfl,rfl,rfl,rfl,rfl,rfl,rfl,rfl,trivial⟩):p:=h
theorem end_c (S:CS) (W:WS) (hb:WBd W) (K:Nat->List Nat) (r nx:Nat) (hK:(K r).length<=8):ACalls Tryz.prog 162 [.ptr 12 0,.agg (frC K (r,nx))] (zad 0 (zan (S)++zaY (W)++[])) 13 fun z os n=>(∃s:(FS×WS)×Unit,(s.1.1=S.F/\s.1.2=W.fin r (K r))/\z=(fun s:Unit=>.tup []) s.2/\os=zad 0 (zan {S with F:=s.1.1}++zaY s.1.2++[]))/\n=13:=by
  refine ACalls.clean (C:=fun zr zo=>∃s:(FS×WS)×Unit,(s.1.1=S.F/\s.1.2=W.fin r (K r))/\zr=(fun s:Unit=>.tup []) s.2/\zo=zad 0 (zan {S with F:=s.1.1}++zaY s.1.2++[])) ?_;refine aIn Tryz.func162 fun hm=>?_;simp only[Tryz.ntmps162,Tryz.results162,go_sem,seval];simp only[zan,zaY,zt,zx,zad,Nat.reduceAdd];obtain ⟨ch,hch⟩:∃ch,ch=K r:=⟨_,rfl⟩;rw[<- hch] at hK ⊢;simp only[frC];rw[<- hch];refine sqD ?_;refine zZ fun _ u=>?_;refine zaz 6 mixed tz0 fun J0 j0=>?_;(iterate 5 (simp only[go_sem];refine zae 1 fun _ y=>?_;simp only[↓zaA,↓dOp,↓bO,go_sem,seval];apply y;clear y));simp only[go_sem];simp only[↓zaA,↓dOp,↓bO,go_sem,seval];refine j0 _ ?_;clear j0 J0;simp only[go_sem];simp only[↓bO,go_sem,seval,upd_I];apply u;refine sqR fun _ u=>?_;refine chS 1 ?_;simp only[↓bO,go_sem,seval];apply u;refine zZ fun _ u=>?_;refine sqR fun _ w=>?_;(iterate 3 (refine chS 1 ?_));simp only[↓bO,go_sem,seval];apply w;apply zab;refine zah (σ:=Nat) (mB 83 229433) (fun s=>s<=ch.length) (fun s=>[(4,.v (.int .i64 (zay r (ch.take s) W).1.1)),(5,.v (.int .i64 (zay r (ch.take s) W).1.2)),(17,.v (.int .i64 (s:Int)))]) (fun s=>[(8,.map (mC cI (zay r (ch.take s) W).2.st)),(9,.map (mC cB (zay r (ch.take s) W).2.cy)),(10,.map (mC cI (zay r (ch.take s) W).2.de)),(11,.map (mC cI (zay r (ch.take s) W).2.sz))]) (fun s=>ch.length-s) 0 (Nat.zero_le _) ?_ (fun s hs=>?_)
  ·
   simp only[go_sem,seval,List.take_zero,zay,List.foldl_nil];exact zaK
  simp only[go_sem,seval];refine sqD ?_;refine zZ fun _ w=>?_;apply z8 rfl <;> intro hb18
  ·
   (have hk:s<ch.length:=by simpa using hb18);obtain ⟨p,hp⟩:∃p,ch[s]?=some p:=⟨_,za hk⟩;have hbd:=zev hb r (ch.take s);have hbp:=hbd.2.2 p;simp only[most,WS.dg,WS.zg] at hbd hbp;have hw1:IntKind.i64.wrap ((s:Int)+1)=(s:Int)+1:=zal tz1 tz1;have hw2:IntKind.i64.wrap ((zay r (ch.take s) W).1.2+(zcH (zay r (ch.take s) W).2.sz (p:Int)).getD 0)=(zay r (ch.take s) W).1.2+(zcH (zay r (ch.take s) W).2.sz (p:Int)).getD 0:=zal tz1 tz1;apply zac;apply w;refine zZ fun _ w=>?_;apply zab;refine sqR fun _ x=>?_;(iterate 3 (refine chS 1 ?_ (by intro _ q;simp only[↓bO,go_sem,seval,hk,gM hp,zbF];exact q)));simp only[↓bO,go_sem,seval];apply x;refine zZ fun _ x=>?_;refine zax [(12,2,[.map 10]),(14,0,[.ptr 0 0,.v (.int .i64 (p:Int))])] 10 rfl mixed (zb2) rfl ?_;dsimp only;refine tkS 0 ?_;refine tkS 1 ?_;refine tkS 2 ?_;refine tkS 3 ?_;refine tkM 4 0 ?_;refine tkM 5 1 ?_;refine al1 (i:=6) ?_;refine opT fun _ y=>?_;simp only[↓bO,go_sem,seval];refine CCalls.atP (zc5 (S) (p:Int)) (i0:=0) (i1:=1) (i2:=2) (i3:=3) (i4:=4) (i5:=5) (i6:=6) (i7:=7) tz6 (fun _=>by exact .v _) tz3 tz4 zbd (fun Z27 u27 hZ27=>?_);(try dsimp only at hZ27);simp only[zau,zl,zp,zm,zag,zam,Nat.reduceEqDiff,↓reduceIte];obtain rfl:S=Z27:=hZ27.symm;(try simp only[go_sem]);refine y _ ⟨zb2,?_⟩;clear y;refine al1 (i:=7) ?_;refine opT fun _ y=>?_;simp only[↓bO,go_sem,seval,zgD];refine y _ ⟨zb2,?_⟩;clear y;refine alS 8 ?_ (hH:=by exact zb2);refine tkS 9 ?_;refine dnA ?_;apply x;refine zZ fun _ x=>?_;refine zax [(12,3,[.map 11]),(14,0,[.ptr 0 0,.v (.int .i64 (p:Int))])] 11 rfl mixed (zb2) rfl ?_;dsimp only;refine tkS 0 ?_;refine tkS 1 ?_;refine tkS 2 ?_;refine tkS 3 ?_;refine tkM 4 0 ?_;refine tkM 5 1 ?_;refine al1 (i:=6) ?_;refine opT fun _ y=>?_;simp only[↓bO,go_sem,seval];refine CCalls.atP (zc5 (S) (p:Int)) (i0:=0) (i1:=1) (i2:=2) (i3:=3) (i4:=4) (i5:=5) (i6:=6) (i7:=7) tz6 (fun _=>by exact .v _) tz3 tz4 zbd (fun Z36 u36 hZ36=>?_);(try dsimp only at hZ36);simp only[zau,zl,zp,zm,zag,zam,Nat.reduceEqDiff,↓reduceIte];obtain rfl:S=Z36:=hZ36.symm;(try simp only[go_sem]);refine y _ ⟨zb2,?_⟩;clear y;refine al1 (i:=7) ?_;refine opT fun _ y=>?_;simp only[↓bO,go_sem,seval,zgD];refine y _ ⟨zb2,?_⟩;clear y;refine al1 (i:=8) ?_;refine opT fun _ y=>?_;simp only[↓bO,go_sem,seval,hw2];refine y _ ⟨zb2,?_⟩;clear y;refine alS 9 ?_ (hH:=by exact zb2);refine tkS 10 ?_;refine dnA ?_;apply x;refine zax [(12,1,[.map 9]),(13,0,[.v (.int .i64 (r:Int))]),(14,0,[.ptr 0 0,.v (.int .i64 (p:Int))])] 23 rfl mixed (tz17) rfl ?_;dsimp only;refine tkS 0 ?_;refine tkS 1 ?_;refine tkS 2 ?_;refine tkM 3 0 ?_;refine tkS 4 ?_;refine tkM 5 1 ?_;refine tkS 6 ?_;refine tkS 7 ?_;refine tkS 8 ?_;refine tkM 9 0 ?_;refine tkS 10 ?_;refine tkM 11 1 ?_;refine al1 (i:=12) ?_;refine opT fun _ y=>?_;simp only[↓bO,go_sem,seval,look_B];refine y _ ⟨tz17,?_⟩;clear y;refine tkS 13 ?_;refine zik 53 rfl (fun hc53=>?_) (fun hc53=>?_)
   ·
    simp only[go_sem];(have hor:(WS.cg (zay r (ch.take s) W).2 r||WS.cg (zay r (ch.take s) W).2 p)=true:=by (have h9:WS.cg (zay r (ch.take s) W).2 r=true:=hc53;rw[h9];rfl));refine zaT 14 rfl tz0 tz0 tz0 (fun _ _ h=>h) tz0 ?_;simp only[go_sem];refine zaT 15 rfl tz0 tz0 tz0 (fun _ _ h=>h) tz0 ?_;simp only[go_sem];refine zaT 16 rfl tz0 tz0 tz0 (fun _ _ h=>h) tz0 ?_;simp only[go_sem];refine zaT 17 rfl tz0 tz0 tz0 (fun _ _ h=>h) tz0 ?_;simp only[go_sem];refine zaT 18 rfl tz0 tz0 tz0 (fun _ _ h=>h) tz0 ?_;simp only[go_sem];refine zaT 19 rfl tz0 tz0 tz0 (fun _ _ h=>h) tz0 ?_;simp only[go_sem];refine zaT 20 rfl tz0 tz0 tz0 (fun _ _ h=>h) tz0 ?_;simp only[go_sem];refine alS 21 ?_ (hH:=by exact tz17);refine al1 (i:=22) ?_;refine opT fun _ y=>?_;simp only[↓bO,go_sem,seval,upd_B];refine y _ ⟨tz17,?_⟩;clear y;refine dnA ?_;apply w;apply z7;refine chS 1 ?_ (by intro _ q;simp only[↓bO,go_sem,seval,hw1];exact q);simp only[↓bO,go_sem,seval];refine ⟨(s+1),tz1,by omega,?_⟩;simp only[zas,zat,zag,zam,mB,seval,zj,zi,zn];rw[ze6 hp];simp only[zbA,hor,WS.dg,WS.zg,most];refine Weak.sub ?_ tz18 tz2 tz2 ?_ ?_;(· simp only[go_sem,Le.refl,Le.any]);(· repeat' first | exact trivial | exact .any _ | exact .ptr tz1 | exact .own tz1 | exact .v _ _ | exact Und.data (EqT.dataSl _) | exact Und.parts tz1 _ | (refine ⟨?_,?_⟩));repeat' first | exact trivial | (with_reducible omega) | exact .any _ | exact .ptr tz1 | exact .own tz1 | exact .v _ _ | exact .map tz1 | exact Und.oslG tz1 | exact Und.rowI (zaZ _) | exact Und.rowI (zaF _) | exact (fun p hp=>.data (zaR _ p hp)) | exact Und.parts tz1 _ | exact (fun p hp=>.data (zaJ _ p hp)) | exact (fun p hp=>.data (zbV _ p hp)) | (refine ⟨?_,?_⟩)
   simp only[go_sem];(have hor:(WS.cg (zay r (ch.take s) W).2 r||WS.cg (zay r (ch.take s) W).2 p)=WS.cg (zay r (ch.take s) W).2 p:=by (have h9:WS.cg (zay r (ch.take s) W).2 r=false:=hc53;rw[h9];rfl));refine zbO 14 rfl tz0 tz0 tz0 (fun _ _ h=>h) tz0 fun _ y=>?_;simp only[↓bO,go_sem,seval];apply y;clear y;refine zbO 15 rfl tz0 tz0 tz0 (fun _ _ h=>h) tz0 fun _ y=>?_;simp only[↓bO,go_sem,seval];apply y;clear y;refine zbO 16 rfl tz0 tz0 tz0 (fun _ _ h=>h) tz0 fun _ y=>?_;simp only[↓bO,go_sem,seval];apply y;clear y;refine zf9 17 0 rfl rfl tz0 tz0 tz0 (fun _ _ h=>h) tz0 fun _ y=>?_;simp only[↓bO,go_sem,seval];apply y;clear y;refine zf9 18 2 rfl rfl tz0 tz0 tz0 (fun _ _ h=>h) tz0 fun _ y=>?_;simp only[↓bO,go_sem,seval];apply y;clear y;refine al1 (i:=19) ?_;refine aAt_if rfl fun _ y=>?_;simp only[↓bO,go_sem,seval];refine CCalls.atP (zc5 (S) (p:Int)) (i0:=0) (i1:=1) (i2:=2) (i3:=3) (i4:=4) (i5:=5) (i6:=6) (i7:=7) tz6 (fun _=>by exact .v _) tz3 tz4 zbd (fun Z59 u59 hZ59=>?_);(try dsimp only at hZ59);simp only[zau,zl,zp,zm,zag,zam,Nat.reduceEqDiff,↓reduceIte];obtain rfl:S=Z59:=hZ59.symm;(try simp only[go_sem]);refine y _ ⟨tz17,?_⟩;clear y;refine al1 (i:=20) ?_;refine aAt_if rfl fun _ y=>?_;simp only[↓bO,go_sem,seval,look_B];refine y _ ⟨tz17,?_⟩;clear y;refine alS 21 ?_ (hH:=by exact tz17);refine al1 (i:=22) ?_;refine opT fun _ y=>?_;simp only[↓bO,go_sem,seval,upd_B];refine y _ ⟨tz17,?_⟩;clear y;refine dnA ?_;apply w;apply z7;refine chS 1 ?_ (by intro _ q;simp only[↓bO,go_sem,seval,hw1];exact q);simp only[↓bO,go_sem,seval];refine ⟨(s+1),tz1,by omega,?_⟩;simp only[zas,zat,zag,zam,mB,seval,zj,zi,zn];rw[ze6 hp];simp only[zbA,hor,WS.dg,WS.zg,most];refine Weak.sub ?_ tz18 tz2 tz2 ?_ ?_;(· simp only[go_sem,Le.refl,Le.any]);(· repeat' first | exact trivial | exact .any _ | exact .ptr tz1 | exact .own tz1 | exact .v _ _ | exact Und.data (EqT.dataSl _) | exact Und.parts tz1 _ | (refine ⟨?_,?_⟩));repeat' first | exact trivial | (with_reducible omega) | exact .any _ | exact .ptr tz1 | exact .own tz1 | exact .v _ _ | exact .map tz1 | exact Und.oslG tz1 | exact Und.rowI (zaZ _) | exact Und.rowI (zaF _) | exact (fun p hp=>.data (zaR _ p hp)) | exact Und.parts tz1 _ | exact (fun p hp=>.data (zaJ _ p hp)) | exact (fun p hp=>.data (zbV _ p hp)) | (refine ⟨?_,?_⟩)
  (have hk:s=ch.length:=by simp at hb18;omega);have hbd:=zev hb r ch;simp only[most] at hbd;have hw3:IntKind.i64.wrap ((zay r ch W).1.1+1)=(zay r ch W).1.1+1:=zal tz1 tz1;(have hes:zay r (ch.take s) W=zay r ch W:=by rw[hk,zM]);rw[hes];have hes1:(zay r ch W).2.steps=W.steps:=(zb1 r ch _).2.2.2.1;have hes2:(zay r ch W).2.bad=W.bad:=(zb1 r ch _).2.2.2.2.1;apply zaj;simp only[zaq,zak,zaf,bA,Nat.reduceEqDiff,↓reduceIte];apply u;refine zax [(12,2,[.map 10]),(12,3,[.map 11]),(13,0,[.v (.int .i64 (r:Int))])] 22 rfl mixed (tz9) rfl ?_;dsimp only;refine tkS 0 ?_;refine tkS 1 ?_;refine tkS 2 ?_;refine tkM 3 0 ?_;refine tkS 4 ?_;refine tkM 5 2 ?_;refine tkS 6 ?_;refine tkS 7 ?_;refine tkS 8 ?_;refine tkM 9 1 ?_;refine tkS 10 ?_;refine tkM 11 2 ?_;refine tkS 12 ?_;refine zgO 13 rfl rfl tz0 tz0 tz0 (fun _ _ h=>h) fun _ y=>?_;simp only[↓bO,go_sem,seval,aInt,hw3];apply y;clear y;refine zgO 14 rfl rfl tz0 tz0 tz0 (fun _ _ h=>h) fun _ y=>?_;simp only[↓bO,go_sem,seval,aInt];apply y;clear y;refine tkS 15 ?_;refine zgT (i:=16) (j:=17) (k:=18) rfl rfl rfl tz0 tz0 tz0 ⟨rfl,rfl,rfl⟩ ⟨rfl,rfl,rfl⟩ ⟨rfl,rfl,rfl⟩ ⟨by simp,by simp,by decide⟩ ⟨by simp,by simp,by simp,by simp⟩ rfl rfl rfl mz130 rfl ⟨tz9,?_⟩;simp only[↓bO,go_sem,seval,upd_I];refine zgT (i:=19) (j:=20) (k:=21) rfl rfl rfl tz0 tz0 tz0 ⟨rfl,rfl,rfl⟩ ⟨rfl,rfl,rfl⟩ ⟨rfl,rfl,rfl⟩ ⟨by simp,by simp,by decide⟩ ⟨by simp,by simp,by simp,by simp⟩ rfl rfl rfl mz130 rfl ⟨tz9,?_⟩;simp only[↓bO,go_sem,seval,upd_I];refine dnA ?_;simp only[go_sem];(try simp only[go_sem]);refine ⟨_,zad 0 (zan {S with F:=S.F}++zaY (W.fin r ch)++[]),⟨((S.F,W.fin r ch),()),?_,rfl,rfl⟩,.tup trivial,wUnd tz1 _ _,?_,?_,by omega⟩;· exact ⟨rfl,rfl⟩
  ·
   exact Le.refl _
  first | (refine ⟨1,rfl,rfl⟩) | (refine ⟨0,rfl,rfl⟩) | (refine ⟨1,by simp only[zan,zaY,zt,zx,zad,zk,zf,Nat.reduceAdd,WS.fin,hes1,hes2,most],rfl⟩) | (refine ⟨0,by simp only[zan,zaY,zt,zx,zad,zk,zf,Nat.reduceAdd,WS.fin,hes1,hes2,most],rfl⟩)
theorem begin_w (S:CS) (hS:CyG S) (W:WS) (h0:0<=W.steps) (h1:W.steps<=1000000000) (r:Nat) (hr:Rt S.F.up r r):WCalls (σ:=Unit) 160 [.ptr 12 0,.agg [.ptr 0 0,.v (.int .i64 (r:Int))]] S W (fun s=>FSame S.F s.1.1/\s.1.2=W.begin r) (fun _=>.agg (frC (zaG S) (r,0))):=begin_c S hS W h0 h1 r hr
theorem end_w (S:CS) (W:WS) (hb:WBd W) (K:Nat->List Nat) (r nx:Nat) (hK:(K r).length<=8):WCalls (σ:=Unit) 162 [.ptr 12 0,.agg (frC K (r,nx))] S W (fun s=>s.1.1=S.F/\s.1.2=W.fin r (K r)) (fun _=>.tup []):=end_c S W hb K r nx hK
theorem loop_at (S:CS) (hS:FInv S.F) (W:WS) (K:Nat->List Nat) (stk:List (Nat×Nat)) (hl:stk.length<=1048576) (n:Nat) (hn:stk.length=n) (q:Nat) {os':Os} {nx':Nat} (hlt:15<=nx') (hg:GetsO os' [0,1,2,3,4,5,6,7,8,9,10,11,12,14] (zan S++zaY W++[.row 198 3 (stk.map (frC K))])) {Q':AV->Os->Nat->Prop}
  (hq:Q' (.tup []) (zag os' ([0,1,2,3,4,5,6,7,8,9,10,11,12,14].zip (zan S++zaY (zba q (stk.reverse.map Prod.fst) W)++[.row 198 3 (stk.map (frC K))]))) nx'):ACalls Tryz.prog 161 [.ptr 12 0,.own 14 n,.v (.int .i64 (q:Int))] os' nx' Q':=by
 subst hn
 have ren:∀(S:CS) (W:WS),RenOs (zbn [0,1,2,3,4,5,6,7,8,9,10,11,12,14] nx') 0 (zan S++zaY W++[.row 198 3 (stk.map (frC K))]) (zan S++zaY W++[.row 198 3 (stk.map (frC K))]):=fun S W =>
  ⟨.cells ⟨.v _,.ptr rfl,.ptr rfl,.own rfl,.v _,trivial⟩,.cells ⟨.osl rfl (GNode.dataRows S.G.N),.map rfl,trivial⟩,.tok,.map (zaR S.G.V),.cells ⟨.own rfl,.own rfl,.v _,.v _,trivial⟩,.row (zaZ _),.row (zaF _),.row (zaF _),
   .map (zaJ _),.map (zbV _),.map (zaJ _),.map (zaJ _),.cells ⟨.map rfl,.map rfl,.map rfl,.map rfl,.v _,.v _,trivial⟩,.rowR rfl Iff.rfl (.frames K rfl stk),trivial⟩
 exact ACalls.atE (σ:=(FS×WS)×Unit) (C:=fun s=>s.1.1=S.F/\s.1.2=zba q (stk.reverse.map Prod.fst) W) (args:=[.ptr 12 0,.own 13 stk.length,.v (.int .i64 (q:Int))]) (R:=fun _=>.tup []) (R':=fun _=>.tup []) (obs:=zan S++zaY W++[.row 198 3 (stk.map (frC K))])
  (obs1:=fun s=>zan {S with F:=s.1.1}++zaY s.1.2++[.row 198 3 (stk.map (frC K))]) (obs':=zan S++zaY W++[.row 198 3 (stk.map (frC K))]) (obs1':=fun s=>zan {S with F:=s.1.1}++zaY s.1.2++[.row 198 3 (stk.map (frC K))]) [0,1,2,3,4,5,6,7,8,9,10,11,12,14]
  (loop_c S hS W K stk hl q) rfl (fun _=>rfl) tz3 (by simp only[zG,List.not_mem_nil,or_false];omega) ⟨.ptr rfl,.own rfl,.v _,trivial⟩ (fun _=>.tup trivial) (ren S W) hg (fun s=>ren _ s.1.2) (fun s hs=>by
   obtain ⟨⟨F1,W1⟩,_⟩:=s;obtain ⟨h1,h2⟩:=hs;dsimp only at h1 h2;subst h1;subst h2
   exact hq)
theorem CInv.fsame {S:CS} {F1:FS} (h:CInv S) (k:FSame S.F F1):CInv {S with F:=F1}:=⟨h.g,k.inv,k.len.trans h.fl,h.wl,h.wr,h.pl,h.pr⟩
theorem Frs.sumN {K:Nat->List Nat} {P:Nat->Prop} (h8:∀u,(K u).length<=8):∀{a:Option Nat} {l:List (Nat×Nat)},Frs K P a l->sumN l<=8 * l.length
 | _,[],_=>by simp[Go.Proofs.YtpfiliamceimmaaGreatDoor.sumN]
 | _,(u,nx)::l,⟨h1,_,_,h4⟩=>by
  have h2:=Frs.sumN h8 h4;have h3:=h8 u;simp only[Go.Proofs.YtpfiliamceimmaaGreatDoor.sumN,zB];omega
theorem StI.small {K:Nat->List Nat} {W:WS} {stk:List (Nat×Nat)} {fo:List Nat} {c:Int} {N:Nat} (h:StI K W stk fo c) (hD:DfI K N W stk fo) (h8:∀u,(K u).length<=8) (hN:N<=1048576) (hc:c<=1):W.steps<=100000000/\fo.length+stk.length<=N:=by
 have h1:=zdu hD.nd hD.lt;rw[zh,zC] at h1;have h2:=Frs.sumN h8 hD.fr;have h3:=zjA h8 fo;have h4:=h.le;omega
theorem WBd.fin {W:WS} (h:WBd W) (r:Nat) (ch:List Nat):WBd (W.fin r ch):=by
 obtain ⟨h1,h2,h3⟩:=zev h r ch;intro x;have hx:=h3 x;unfold WS.dg WS.zg at hx ⊢;unfold WS.fin;(simp only);rw[zbs,zbs];simp only[most] at *;split;(·simp only[Option.getD_some];omega);exact hx
structure WI (S:CS) (fo:List Nat) (r:Nat) (s:FS×WS×List (Nat×Nat)×List Nat):Prop where
 f:FSame S.F s.1
 d:DfI (zaG S) S.F.up.length s.2.1 s.2.2.1.reverse s.2.2.2
 t:StI (zaG S) s.2.1 s.2.2.1.reverse s.2.2.2 0
 b:WBd s.2.1
 sub:∀x∈fo,x∈s.2.2.2
 r:r∈s.2.2.2\/r∈s.2.2.1.map Prod.fst
theorem Und.rptr {n id k sz i off:Nat} (h:id<n):Und n (.rptr id k sz i off):=fun E A w v hr=>by
 cases hr with | rptr hv hl hc=>exact .rptr (E:=E.cut n) ⟨hv,h⟩ hl hc
theorem zdw {α:Type} (l:List α) (x:α):(l++[x]).reverse=x::l.reverse:=by simp
theorem frame_set {K:Nat->List Nat} (l:List (Nat×Nat)) (u nx:Nat):((l++[(u,nx)]).map (frC K)).set l.length [.v (.int .i64 (u:Int)),.sl 2 ((K u).map (zbF 0)),.v (.int .i64 ((nx:Int)+1))]=(l++[(u,nx+1)]).map (frC K):=by
 simp only[zu,zy,zW];rw[List.set_append_right _ _ tz4];simp[frC]
theorem zlG {K:Nat->List Nat} (l:List (Nat×Nat)) (p:Nat×Nat):((l++[p]).map (frC K)).take l.length=l.map (frC K):=by
 rw[zu,List.take_append_of_le_length tz4,List.take_of_length_le tz4]
theorem snoc_last {α:Type} (l:List α) (x:α):(l++[x])[l.length]?=some x:=by simp
theorem ex_snoc {α:Type}:∀{l:List α},0<l.length->∃a x,l=a++[x]:=fun {l} h=>by
 (have hne:l≠[]:=by intro e;rw[e] at h;simp at h);exact ⟨l.dropLast,l.getLast hne,(List.dropLast_concat_getLast hne).symm⟩
theorem tz19 {p:Prop} (h:p:=by exact ⟨rfl,rfl,rfl,rfl,rfl,rfl,rfl,rfl,rfl,rfl,rfl,rfl,rfl,trivial⟩):p:=h
theorem clz7 {p:Prop} (h:p:=by repeat' first | exact trivial | exact .any _ | exact .ptr tz1 | exact .own tz1 | exact .v _ _ | exact Und.data (EqT.dataSl _) | exact Und.parts tz1 _ | exact .rptr tz1 | (refine ⟨?_,?_⟩)):p:=h
theorem clz8 {p:Prop} (h:p:=by repeat' first | exact trivial | (with_reducible omega) | exact .any _ | exact .ptr tz1 | exact .own tz1 | exact .v _ _ | exact .map tz1 | exact Und.oslG tz1 | exact Und.rowI (zaZ _) | exact Und.rowI (zaF _) | exact (fun p hp=>.data (zaR _ p hp)) | exact Und.parts tz1 _ | exact Und.frames (zaG S) tz1 _ | exact (fun p hp=>.data (zaJ _ p hp)) | exact (fun p hp=>.data (zbV _ p hp)) | (refine ⟨?_,?_⟩)):p:=h
theorem walk_c (S:CS) (hS:CyG S) (W:WS) (fo:List Nat) (hD:DfI (zaG S) S.F.up.length W [] fo) (hst:StI (zaG S) W [] fo 0) (hb:WBd W) (r:Nat) (hr:Rt S.F.up r r):ACalls Tryz.prog 149 [.ptr 12 0,.agg [.ptr 0 0,.v (.int .i64 (r:Int))]] (zad 0 (zan (S)++zaY (W)++[])) 13 fun z os n=>(∃s:(FS×WS)×List Nat,(FSame S.F s.1.1/\DfI (zaG S) S.F.up.length s.1.2 [] s.2/\StI (zaG S) s.1.2 [] s.2 0/\WBd s.1.2/\r∈s.2/\∀x∈fo,x∈s.2)/\z=(fun s:List Nat=>.tup []) s.2/\os=zad 0 (zan {S with F:=s.1.1}++zaY s.1.2++[]))/\n=13:=by
  refine ACalls.clean (C:=fun zr zo=>∃s:(FS×WS)×List Nat,(FSame S.F s.1.1/\DfI (zaG S) S.F.up.length s.1.2 [] s.2/\StI (zaG S) s.1.2 [] s.2 0/\WBd s.1.2/\r∈s.2/\∀x∈fo,x∈s.2)/\zr=(fun s:List Nat=>.tup []) s.2/\zo=zad 0 (zan {S with F:=s.1.1}++zaY s.1.2++[])) ?_;refine aIn Tryz.func149 fun hm=>?_;simp only[Tryz.ntmps149,Tryz.results149,go_sem,seval];simp only[zan,zaY,zt,zx,zad,Nat.reduceAdd];refine sqD ?_;refine zd6 ?_;refine zZ fun _ w=>?_;refine zZ fun _ k=>?_;refine zax [(12,0,[.map 8]),(13,0,[.ptr 0 0,.v (.int .i64 (r:Int))])] 8 rfl mixed (zb2) rfl ?_;dsimp only;refine tkS 0 ?_;refine tkS 1 ?_;refine tkS 2 ?_;refine tkM 3 0 ?_;refine tkM 4 1 ?_;refine al1 (i:=5) ?_;refine opT fun _ y=>?_;simp only[↓bO,go_sem,seval];refine CCalls.atP (zc5 (S) (r:Int)) (i0:=0) (i1:=1) (i2:=2) (i3:=3) (i4:=4) (i5:=5) (i6:=6) (i7:=7) tz6 (fun _=>by exact .v _) tz3 tz4 zbd (fun Z1 u1 hZ1=>?_);(try dsimp only at hZ1);simp only[zau,zl,zp,zm,zag,zam,Nat.reduceEqDiff,↓reduceIte];obtain rfl:S=Z1:=hZ1.symm;(try simp only[go_sem]);refine y _ ⟨zb2,?_⟩;clear y;refine al1 (i:=6) ?_;refine opT fun _ y=>?_;simp only[↓bO,go_sem,seval,zgD];refine y _ ⟨zb2,?_⟩;clear y;refine alS 7 ?_ (hH:=by exact zb2);refine dnA ?_;apply k;apply z8 rfl <;> intro hb14
  ·
   (have hne:W.sg r≠0:=by simpa [WS.sg,WS.tick] using hb14);have hrf:r∈fo:=hD.done hne (fun e=>by have:=hD.isOpen e;simp at this);apply zaa;(try simp only[go_sem]);refine ⟨_,zad 0 (zan {S with F:=S.F}++zaY (W)++[]),⟨((S.F,W),fo),?_,rfl,rfl⟩,.tup trivial,wUnd tz1 _ _,?_,?_,by omega⟩;· exact ⟨FSame.refl hS.c.f,hD,hst,hb,hrf,fun x h=>h⟩
   ·
    exact Le.refl _
   first | (refine ⟨1,rfl,rfl⟩) | (refine ⟨0,rfl,rfl⟩) | (refine ⟨1,by simp only[zan,zaY,zt,zx,zad,zk,zf,Nat.reduceAdd],rfl⟩) | (refine ⟨0,by simp only[zan,zaY,zt,zx,zad,zk,zf,Nat.reduceAdd],rfl⟩)
  (have hz:W.sg r=0:=by simpa [WS.sg,WS.tick] using hb14);apply zac;apply w;refine sqR fun _ w=>?_;(iterate 2 (refine chS 1 ?_));refine z6 1 fun _ y=>?_;simp only[↓bO,go_sem,seval];refine WCalls.at (begin_w S hS W hst.pos (by have:=hst.small hD (zcc hS) hS.nl tz1;omega) r hr) (by exact ⟨.ptr rfl,.agg ⟨.ptr rfl,.v _,trivial⟩,trivial⟩) (fun _=>by exact .agg ⟨.v _,.parts rfl _,.v _,trivial⟩) tz1 tz19 (fun F1 W1 _ hX1=>?_);dsimp only at hX1;simp only[zan,zaY,zt,zx,zl,zp,zm,zag,zam,Nat.reduceEqDiff,↓reduceIte];obtain ⟨hF1,rfl⟩:=hX1;apply y;clear y;refine chS 1 ?_ (by intro _ q;simp only[↓bO,go_sem,seval,↓zfK,frC];exact q);simp only[↓bO,go_sem,seval];apply w;refine zZ fun _ w=>?_;refine zeo ?_;apply w;apply zab;refine zah (σ:=FS×WS×List (Nat×Nat)×List Nat) (mB 103 17) (fun s=>WI S fo r s) (fun s=>[(4,.own 14 s.2.2.1.length)]) (fun s=>[(4,.cells 184 [.own 5 s.1.up.length,.own 6 s.1.rank.length,.v (.int .i64 s.1.sets),.v (.int .i64 s.1.steps)]),(5,.row 3 1 (s.1.up.map nC)),(6,.row 3 1 (s.1.rank.map intC)),(8,.map (mC cI s.2.1.st)),(9,.map (mC cB s.2.1.cy)),(10,.map (mC cI s.2.1.de)),(11,.map (mC cI s.2.1.sz)),(12,.cells 134 [.map 8,.map 9,.map 10,.map 11,.v (.int .i64 s.2.1.steps),.v (.bool s.2.1.bad)]),(14,.row 198 3 (s.2.2.1.map (frC (zaG S))))]) (fun s=>2 * (S.F.up.length-(s.2.2.2.length+s.2.2.1.length))+s.2.2.1.length) (F1,W.begin r,[(r,0)],fo) (⟨hF1,hD.begin hz hr.lt trivial,hst.start,hb,fun x h=>h,.inr tz4⟩) ?_ (fun s hs=>?_)
  ·
   simp only[go_sem,seval,bL,WS.begin];exact zaK
  simp only[go_sem,seval];refine zZ fun _ w=>?_;refine sqR fun _ k=>?_;(iterate 2 (refine chS 1 ?_));simp only[↓bO,go_sem,seval];apply k;apply z8 rfl <;> intro hb21
  ·
   (have hk0:0<s.2.2.1.length:=by simpa using hb21);obtain ⟨s9,⟨u,nx⟩,hstk⟩:=ex_snoc hk0;obtain ⟨Fc,Wc,stk,fc⟩:=s;dsimp only at hstk hb21 hk0;subst hstk;obtain ⟨hF,hDc,hTc,hBc,hsub,hrin⟩:=hs;dsimp only at hF hDc hTc hBc hsub hrin;rw[zdw] at hDc hTc;have hsz:=(hTc.small hDc (zcc hS) hS.nl tz1).2;have hsp:=(hTc.small hDc (zcc hS) hS.nl tz1).1;have hpp:=hTc.pos;simp only[zB,List.length_reverse] at hsz;have hNl:=hS.nl;(have hlen:(s9++[(u,nx)]).length=s9.length+1:=by simp);have hwt:IntKind.i64.wrap (Wc.steps+1)=Wc.steps+1:=zal tz1 tz1;(have hwl:IntKind.i64.wrap ((s9.length:Int)+1-1)=(s9.length:Int):=by rw[show ((s9.length:Int)+1-1)=(s9.length:Int) from by omega];exact zal tz1 tz1);(have hls:s9.length<s9.length+1:=by omega);(have hb1:(s9.length+1+1) * 40<=140737488355328:=by omega);(have hb2:s9.length+1+1<=maxLen:=by simp only[maxLen];omega);(have hls2:(s9.length:Int)<(s9.length:Int)+1:=by omega);(have hkF:zaG {S with F:=Fc}=zaG S:=funext fun z=>zbS hF z);have hSc:CyG {S with F:=Fc}:=hS.fsame hF (hS.c.fsame hF);simp only[zh,zB,zK,zN];apply zac;apply w;apply zab;refine sqR fun _ w=>?_;(iterate 7 (refine chS 1 ?_ (by intro _ q;simp only[↓bO,go_sem,seval,hwt,zj];exact q)));simp only[↓bO,go_sem,seval,zh];apply w;refine sqR fun _ w=>?_;(iterate 5 (refine chS 1 ?_ (by intro _ q;simp only[↓bO,go_sem,seval,hwl,hls2,zj,zh];exact q)));simp only[↓bO,go_sem,seval,zh];apply w;refine zZ fun _ w=>?_;apply zab;refine zah (σ:=WS×Nat) (mB 103 49) (fun t=>DfI (zaG S) S.F.up.length t.1 ((u,t.2)::s9.reverse) fc/\StI (zaG S) t.1 ((u,t.2)::s9.reverse) fc 1/\WBd t.1) (fun t=>[]) (fun t=>[(8,.map (mC cI t.1.st)),(9,.map (mC cB t.1.cy)),(10,.map (mC cI t.1.de)),(11,.map (mC cI t.1.sz)),(12,.cells 134 [.map 8,.map 9,.map 10,.map 11,.v (.int .i64 t.1.steps),.v (.bool t.1.bad)]),(14,.row 198 3 ((s9++[(u,t.2)]).map (frC (zaG S))))]) (fun t=>(zaG S u).length-t.2) (Wc.tick,nx) (⟨hDc.tick,hTc.tick,hBc⟩) ?_ (fun t ht=>?_)
   ·
    simp only[zas,zat,zag,zam,mB,seval,WS.tick];exact zaK
   simp only[zas,zat,zag,zam,mB,seval];have hlast:=snoc_last s9 (u,t.2);have hDt:=ht.1;have hT2:=ht.2.1.part;have hk8:=zcc hS u;have hft:=hDt.fr.1;have hst1:=(ht.2.1.small ht.1 (zcc hS) hS.nl tz1).1;have hst2:=ht.2.1.pos;have hwt2:IntKind.i64.wrap (t.1.steps+1)=t.1.steps+1:=zal tz1 tz1;have hwn:IntKind.i64.wrap ((t.2:Int)+1)=(t.2:Int)+1:=zal tz1 tz1;have hfs:=frame_set (K:=zaG S) s9 u t.2;(have hsm2:t.1.tick.steps<=1000000000:=by (simp only[WS.tick];omega));refine zZ fun _ k=>?_;refine zZ fun _ j=>?_;refine zaz 10 mixed tz0 fun J0 j0=>?_;(iterate 9 (simp only[go_sem];refine zae 1 fun _ y=>?_;simp only[↓zaA,↓dOp,↓bO,go_sem,seval,frC,hls,zh,gM hlast];apply y;clear y));simp only[go_sem];simp only[↓zaA,↓dOp,↓bO,go_sem,seval];refine j0 _ ?_;clear j0 J0;simp only[bL,aops,zaq,zak,zaf];apply j;apply z8 rfl <;> intro hb43
   ·
    (have hkj:t.2<(zaG S u).length:=by simpa using hb43);obtain ⟨q,hkq⟩:∃q,(zaG S u)[t.2]?=some q:=⟨_,za hkj⟩;have hrq0:Rt S.F.up q q:=zch u q (zc hkq);have hqN:=hrq0.lt;have hrq:Rt Fc.up q q:=(hF.rt _ _).2 hrq0;apply zac;apply k;apply zab;refine zZ fun _ k=>?_;refine zaz 11 mixed tz0 fun J0 j0=>?_;(iterate 10 (simp only[go_sem];refine zae 1 fun _ y=>?_;simp only[↓zaA,↓dOp,↓bO,go_sem,seval,frC,hls,zh,gM hlast,hkj,gM hkq,zbF];apply y;clear y));simp only[go_sem];simp only[↓zaA,↓dOp,↓bO,go_sem,seval];refine j0 _ ?_;clear j0 J0;simp only[go_sem];simp only[↓bO,go_sem,seval,zh];apply k;refine sqR fun _ k=>?_;(iterate 7 (refine chS 1 ?_ (by intro _ q;simp only[↓bO,go_sem,seval,frC,hls,zh,gM hlast,hwn];exact q)));simp only[↓bO,go_sem,seval,frC,hls,zh,gM hlast,hfs];apply k;refine sqR fun _ k=>?_;(iterate 7 (refine chS 1 ?_ (by intro _ q;simp only[↓bO,go_sem,seval,hwt2];exact q)));simp only[↓bO,go_sem,seval,zh];apply k;refine zZ fun _ k=>?_;refine zax [(12,0,[.map 8]),(15,0,[.ptr 0 0,.v (.int .i64 (q:Int))])] 7 rfl mixed (zb2) rfl ?_;dsimp only;refine tkS 0 ?_;refine tkS 1 ?_;refine tkS 2 ?_;refine tkM 3 0 ?_;refine tkM 4 1 ?_;refine al1 (i:=5) ?_;refine opT fun _ y=>?_;simp only[↓bO,go_sem,seval];refine CCalls.atP (zc5 ({S with F:=Fc}) (q:Int)) (i0:=0) (i1:=1) (i2:=2) (i3:=3) (i4:=4) (i5:=5) (i6:=6) (i7:=7) tz6 (fun _=>by exact .v _) tz3 tz4 zbd (fun Z73 u73 hZ73=>?_);(try dsimp only at hZ73);simp only[zau,zl,zp,zm,zag,zam,Nat.reduceEqDiff,↓reduceIte];obtain rfl:{S with F:=Fc}=Z73:=hZ73.symm;(try simp only[go_sem]);refine y _ ⟨zb2,?_⟩;clear y;refine al1 (i:=6) ?_;refine opT fun _ y=>?_;simp only[↓bO,go_sem,seval,zgD];refine y _ ⟨zb2,?_⟩;clear y;refine dnA ?_;apply k;apply zab;refine sqR fun _ k=>?_;refine chS 1 ?_;simp only[↓bO,go_sem,seval,zh];apply k;apply z8 rfl <;> intro hb75
    ·
     (have hq0:t.1.tick.sg q=0:=by simpa [WS.sg,WS.tick] using hb75);have hDp:=hDt.tick.push hkq hq0 hqN;have hTp:=hT2.push (q:=q);refine sqR fun _ k=>?_;(iterate 3 (refine chS 1 ?_));refine z6 1 fun _ y=>?_;simp only[↓bO,go_sem,seval];refine WCalls.at (begin_w {S with F:=Fc} hSc t.1.tick (hT2.pos) (by have:=hsm2;omega) q hrq) (by exact ⟨.ptr rfl,.agg ⟨.ptr rfl,.v _,trivial⟩,trivial⟩) (fun _=>by exact .agg ⟨.v _,.parts rfl _,.v _,trivial⟩) tz1 tz19 (fun F5 W5 _ hX5=>?_);dsimp only at hX5;simp only[zan,zaY,zt,zx,zl,zp,zm,zag,zam,Nat.reduceEqDiff,↓reduceIte];obtain ⟨hF5,rfl⟩:=hX5;rw[hkF];(have hfp:((s9++[(u,t.2+1)]).map (frC (zaG S)))++[[.v (.int .i64 (q:Int)),.sl 2 ((zaG S q).map (zbF 0)),.v (.int .i64 0)]]=(s9++[(u,t.2+1)]++[(q,0)]).map (frC (zaG S)):=by simp[frC]);apply y;clear y;refine chS 1 ?_ (by intro _ q;simp only[↓bO,go_sem,seval,↓zfK,frC,WS.tick];exact q);refine chS 1 ?_ (by intro _ q;simp only[↓bO,go_sem,seval,hb1,hb2,zh];exact q);simp only[↓bO,go_sem,seval,zh];apply k;apply zaj;simp only[zaq,zak,zaf,bA,Nat.reduceEqDiff,↓reduceIte];refine ⟨(F5,t.1.tick.begin q,s9++[(u,t.2+1)]++[(q,0)],fc),⟨hF.trans hF5,by (dsimp only;rw[zdw,zdw];exact hDp),by (dsimp only;rw[zdw,zdw];exact hTp),ht.2.2,hsub,by (dsimp only;rcases hrin with h9 | h9;exact .inl h9;exact .inr (by simp at h9 ⊢;(rcases h9 with h8 | h8;exact .inl h8;exact .inr (.inl h8))))⟩,(by have:=(hTp.small hDp (zcc hS) hS.nl tz1).2;simp only[zh,zB,zK,List.length_reverse] at this ⊢;omega),?_⟩;simp only[zas,zat,zag,zam,mB,seval,zi,zn];(try simp only[hwl]);(try simp only[hfp]);refine Weak.sub ?_ ⟨rfl,rfl,rfl,rfl,rfl,rfl,rfl,rfl,rfl,rfl,rfl,rfl,rfl,rfl,rfl,trivial⟩ tz2 tz2 ?_ ?_;(· simp only[go_sem,zh,zB,zK,zN,Le.refl,Le.any]);(· exact clz7);exact clz8
    (have hq0:¬t.1.tick.sg q=0:=by simpa [WS.sg,WS.tick] using hb75);refine sqR fun _ k=>?_;refine chS 1 ?_;simp only[↓bO,go_sem,seval,zh];apply k;apply z8 rfl <;> intro hb83
    ·
     (have hq1:t.1.tick.sg q=1:=by simpa [WS.sg,WS.tick] using hb83);have hDb:=hDt.tick.back hkq hq1;have hTb:=hT2.back q (((u,t.2)::s9.reverse).map Prod.fst);(have hlb:(s9++[(u,t.2+1)]).reverse.map Prod.fst=((u,t.2)::s9.reverse).map Prod.fst:=by rw[zdw];rfl);refine sqR fun _ k=>?_;(iterate 3 (refine chS 1 ?_));simp only[↓bO,go_sem,seval,zh];apply k;apply z7;(iterate 3 (refine chS 1 ?_));refine z6 1 fun _ y=>?_;simp only[↓bO,go_sem,seval];refine CCalls.atP (zc5 ({S with F:=Fc}) (q:Int)) (i0:=0) (i1:=1) (i2:=2) (i3:=3) (i4:=4) (i5:=5) (i6:=6) (i7:=7) tz6 (fun _=>by exact .v _) tz3 tz4 zbd (fun Z91 u91 hZ91=>?_);(try dsimp only at hZ91);simp only[zau,zl,zp,zm,zag,zam,Nat.reduceEqDiff,↓reduceIte];obtain rfl:{S with F:=Fc}=Z91:=hZ91.symm;apply y;clear y;simp only[↓bO,go_sem,seval,zh];refine loop_at {S with F:=Fc} hF.inv {t.1.tick with bad:=true} (zaG S) (s9++[(u,t.2+1)]) tz8 (s9.length+1) tz4 q tz1 tz18 ?_;rw[hlb];obtain ⟨m1,m2,m3,m4,m5⟩:=zcV q (((u,t.2)::s9.reverse).map Prod.fst) {t.1.tick with bad:=true};simp only[zan,zaY,zt,zx,zl,zp,zm,zag,zam,Nat.reduceEqDiff,↓reduceIte];(try simp only[go_sem]);refine ⟨(zba q (((u,t.2)::s9.reverse).map Prod.fst) {t.1.tick with bad:=true},t.2+1),⟨hDb,hTb,fun x=>by (have h9:=ht.2.2 x;unfold WS.dg WS.zg at h9 ⊢;rw[m2,m3];exact h9)⟩,tz5,?_⟩;simp only[zas,zat,zag,zam,mB,seval,zi,zn];(try simp only[hwl]);(try simp only[hfp]);refine Weak.sub ?_ ⟨rfl,rfl,rfl,rfl,rfl,rfl,rfl,rfl,rfl,rfl,rfl,rfl,rfl,rfl,rfl,trivial⟩ tz2 tz2 ?_ ?_;(· simp only[go_sem,Le.refl,Le.any]);(· exact clz7);exact clz8
    (have hq1:¬t.1.tick.sg q=1:=by simpa [WS.sg,WS.tick] using hb83);have hDd:=hDt.tick.pass hkq (.inl (hDt.tick.done hq0 hq1));apply zac;(try simp only[go_sem]);refine ⟨(t.1.tick,t.2+1),⟨hDd,hT2,ht.2.2⟩,tz5,?_⟩;simp only[zas,zat,zag,zam,mB,seval,zi,zn];(try simp only[hwl]);(try simp only[hfp]);refine Weak.sub ?_ ⟨rfl,rfl,rfl,rfl,rfl,rfl,rfl,rfl,rfl,rfl,rfl,rfl,rfl,rfl,rfl,trivial⟩ tz2 tz2 ?_ ?_;(· simp only[go_sem,Le.refl,Le.any]);(· exact clz7);exact clz8
   (have hnx:(zaG S u).length<=t.2:=by simpa using hb43);(have hr1:(0:Int)<=(s9.length:Int):=by omega);(have hr2:(s9.length:Int)<=((s9.length+1:Nat):Int):=by omega);(have hr3:(s9.length:Int)<=(s9.length:Int)+1:=by omega);apply zaj;simp only[zaq,zak,zaf,bA,Nat.reduceEqDiff,↓reduceIte];apply w;refine sqR fun _ w=>?_;(iterate 4 (refine chS 1 ?_ (by intro _ q;simp only[↓bO,go_sem,seval,frC,hls,zh,gM hlast];exact q)));simp only[↓bO,go_sem,seval,zh];refine WCalls.at (end_w {S with F:=Fc} t.1 ht.2.2 (zaG S) u t.2 (zcc hS u)) (by exact ⟨.ptr rfl,.agg ⟨.v _,.parts rfl _,.v _,trivial⟩,trivial⟩) (fun _=>by exact .tup trivial) tz1 tz19 (fun F6 W6 _ hX6=>?_);dsimp only at hX6;simp only[zan,zaY,zt,zx,zl,zp,zm,zag,zam,Nat.reduceEqDiff,↓reduceIte];obtain ⟨e6,rfl⟩:=hX6;rw[e6];apply w;apply z7;(iterate 5 (refine chS 1 ?_ (by intro _ q;simp only[↓bO,go_sem,seval,hwl,zj,zh,zlG,zb8,zk9,List.filter_cons,List.filter_nil,Nat.reduceBEq,hr1,hr3];exact q)));simp only[↓bO,go_sem,seval,zh];refine ⟨(Fc,t.1.fin u (zaG S u),s9,fc++[u]),⟨hF,ht.1.fin hnx (by have:=hS.nl;omega),ht.2.1.fin hDt.fr.1,ht.2.2.fin u _,fun x hx=>zE.2 (.inl (hsub x hx)),by (dsimp only;rcases hrin with h9 | h9;exact .inl (by simp[h9]);(simp at h9;rcases h9 with h8 | h8;(exact .inr (by simpa using h8));exact .inl (by simp[h8])))⟩,(by simp only[zh,zB,zK] at hsz ⊢;omega),?_⟩;simp only[zas,zat,zag,zam,mB,seval,zi,zn];(try simp only[hwl]);refine Weak.backOwn 14 15 4 s9.length tz2 tz2 tz2 ?_ ?_ ?_ ?_ ?_;· simp only[List.set_cons_zero,List.set_cons_succ,zh,zB,zK,zN,LeL,Le.refl,Le.any,and_self]
   ·
    simp only[go_sem];repeat' first | exact trivial | exact .any | exact .ptr rfl | exact .own rfl | exact .v _ | (refine ⟨?_,?_⟩)
   (· exact ⟨⟨_,rfl,.rowR rfl Iff.rfl (.frames (zaG S) rfl _)⟩,⟨_,rfl,.cells ⟨.ptr rfl,.v _,trivial⟩⟩,⟨_,rfl,.cells ⟨.v _,.ptr rfl,.ptr rfl,.own rfl,.v _,trivial⟩⟩,⟨_,rfl,.cells ⟨.osl rfl (GNode.dataRows _),.map rfl,trivial⟩⟩,⟨_,rfl,.tok⟩,⟨_,rfl,.map (zaR _)⟩,⟨_,rfl,.cells ⟨.own rfl,.own rfl,.v _,.v _,trivial⟩⟩,⟨_,rfl,.row (zaZ _)⟩,⟨_,rfl,.row (zaF _)⟩,⟨_,rfl,.row (zaF _)⟩,⟨_,rfl,.map (zaJ _)⟩,⟨_,rfl,.map (zbV _)⟩,⟨_,rfl,.map (zaJ _)⟩,⟨_,rfl,.map (zaJ _)⟩,⟨_,rfl,.cells ⟨.map rfl,.map rfl,.map rfl,.map rfl,.v _,.v _,trivial⟩⟩,trivial⟩);(· exact clz7);exact clz8
  have hnil:s.2.2.1=[]:=List.eq_nil_of_length_eq_zero (by (have h9:=hb21;simp at h9;simpa using h9));apply zaj;simp only[zaq,zak,zaf,bA,Nat.reduceEqDiff,↓reduceIte];(try simp only[go_sem]);refine ⟨_,zad 0 (zan {S with F:=s.1}++zaY (s.2.1)++[]),⟨((s.1,s.2.1),s.2.2.2),?_,rfl,rfl⟩,.tup trivial,wUnd tz1 _ _,?_,?_,by omega⟩;· exact ⟨hs.f,by (have h9:=hs.d;rw[hnil] at h9;exact h9),by (have h9:=hs.t;rw[hnil] at h9;exact h9),hs.b,by (have h9:=hs.r;rw[hnil] at h9;simpa using h9),hs.sub⟩
  ·
   exact Le.refl _
  first | (refine ⟨2,rfl,rfl⟩) | (refine ⟨1,rfl,rfl⟩) | (refine ⟨0,rfl,rfl⟩) | (refine ⟨2,by simp only[zan,zaY,zt,zx,zad,zk,zf,Nat.reduceAdd],rfl⟩) | (refine ⟨1,by simp only[zan,zaY,zt,zx,zad,zk,zf,Nat.reduceAdd],rfl⟩) | (refine ⟨0,by simp only[zan,zaY,zt,zx,zad,zk,zf,Nat.reduceAdd],rfl⟩)
theorem xUnd {n:Nat} (h:14<=n) (S:CS) (W:WS):UndOs n (zad 0 (zan S++zaY W++[.cells 129 [.ptr 12 0]])):=by
 have h1:=wUnd (n:=n) tz1 S W;obtain ⟨a0,a1,b0,b1,c0,c1,d0,d1,e0,e1,f0,f1,g0,g1,i0,i1,j0,j1,k0,k1,l0,l1,m0,m1,o0,o1,_⟩:=h1;exact ⟨a0,a1,b0,b1,c0,c1,d0,d1,e0,e1,f0,f1,g0,g1,i0,i1,j0,j1,k0,k1,l0,l1,m0,m1,o0,o1,by omega,⟨.ptr tz1,trivial⟩,trivial⟩
structure WK (S:CS) (W:WS) (fo:List Nat):Prop where
 d:DfI (zaG S) S.F.up.length W [] fo
 t:StI (zaG S) W [] fo 0
 b:WBd W
theorem WK.nil (S:CS):WK S WS0 []:=⟨.nil _ _,.nil _,fun x=>by simp[WS0,WS.dg,WS.zg,zcH,most]⟩
theorem WK.fsame {S:CS} {W:WS} {fo:List Nat} (h:WK S W fo) {F1:FS} (k:FSame S.F F1):WK {S with F:=F1} W fo:=by
 (have e:zaG {S with F:=F1}=zaG S:=funext fun z=>zbS k z);refine ⟨?_,?_,h.b⟩;(·rw[e];dsimp only;rw[k.len];exact h.d);rw[e];exact h.t
theorem WK.back {S:CS} {W:WS} {fo:List Nat} {F1:FS} (k:FSame S.F F1) (h:WK {S with F:=F1} W fo):WK S W fo:=by
 (have e:zaG {S with F:=F1}=zaG S:=funext fun z=>zbS k z);obtain ⟨h1,h2,h3⟩:=h;rw[e] at h1 h2;dsimp only at h1;rw[k.len] at h1;exact ⟨h1,h2,h3⟩
theorem walk_w (S:CS) (hS:CyG S) (W:WS) (fo:List Nat) (h:WK S W fo) (r:Nat) (hr:Rt S.F.up r r):WCalls (σ:=List Nat) 149 [.ptr 12 0,.agg [.ptr 0 0,.v (.int .i64 (r:Int))]] S W (fun s=>FSame S.F s.1.1/\DfI (zaG S) S.F.up.length s.1.2 [] s.2/\StI (zaG S) s.1.2 [] s.2 0/\WBd s.1.2/\r∈s.2/\∀x∈fo,x∈s.2) (fun _=>.tup []):=walk_c S hS W fo h.d h.t h.b r hr
def XWCalls {σ:Type} (f:Nat) (args:List AV) (S:CS) (W:WS) (C:(FS×WS)×σ->Prop) (R:σ->AV):Prop :=
 ACalls Tryz.prog f args (zad 0 (zan S++zaY W++[.cells 129 [.ptr 12 0]])) 14 fun z os n=>(∃s:(FS×WS)×σ,C s/\z=R s.2/\os=zad 0 (zan {S with F:=s.1.1}++zaY s.1.2++[.cells 129 [.ptr 12 0]]))/\n=14
theorem XWCalls.at {σ:Type} {f:Nat} {args:List AV} {S:CS} {W:WS} {C:(FS×WS)×σ->Prop} {R:σ->AV} (h:XWCalls f args S W C R) {os':Os} {nx':Nat}
  (ha:RenL (zbn [0,1,2,3,4,5,6,7,8,9,10,11,12,13] nx') args args) (hR:∀s,RenV (zbn [0,1,2,3,4,5,6,7,8,9,10,11,12,13] nx') (R s) (R s)) (hlt:14<=nx') (hg:GetsO os' [0,1,2,3,4,5,6,7,8,9,10,11,12,13] (zan S++zaY W++[.cells 129 [.ptr 12 0]])) {Q':AV->Os->Nat->Prop}
  (hq:∀(F1:FS) (W1:WS) (s:σ),C ((F1,W1),s)->Q' (R s) (zag os' ([0,1,2,3,4,5,6,7,8,9,10,11,12,13].zip (zan {S with F:=F1}++zaY W1++[.cells 129 [.ptr 12 0]]))) nx'):ACalls Tryz.prog f args os' nx' Q':=by
 have ren:∀(S:CS) (W:WS),RenOs (zbn [0,1,2,3,4,5,6,7,8,9,10,11,12,13] nx') 0 (zan S++zaY W++[.cells 129 [.ptr 12 0]]) (zan S++zaY W++[.cells 129 [.ptr 12 0]]):=fun S W =>
  ⟨.cells ⟨.v _,.ptr rfl,.ptr rfl,.own rfl,.v _,trivial⟩,.cells ⟨.osl rfl (GNode.dataRows S.G.N),.map rfl,trivial⟩,.tok,.map (zaR S.G.V),.cells ⟨.own rfl,.own rfl,.v _,.v _,trivial⟩,.row (zaZ _),.row (zaF _),.row (zaF _),
   .map (zaJ _),.map (zbV _),.map (zaJ _),.map (zaJ _),.cells ⟨.map rfl,.map rfl,.map rfl,.map rfl,.v _,.v _,trivial⟩,.cells ⟨.ptr rfl,trivial⟩,trivial⟩
 exact ACalls.atE (σ:=(FS×WS)×σ) (C:=C) (args:=args) (R:=fun s=>R s.2) (R':=fun s=>R s.2) (obs:=zan S++zaY W++[.cells 129 [.ptr 12 0]]) (obs1:=fun s=>zan {S with F:=s.1.1}++zaY s.1.2++[.cells 129 [.ptr 12 0]]) (obs':=zan S++zaY W++[.cells 129 [.ptr 12 0]]) (obs1':=fun s=>zan {S with F:=s.1.1}++zaY s.1.2++[.cells 129 [.ptr 12 0]]) [0,1,2,3,4,5,6,7,8,9,10,11,12,13]
  (by unfold XWCalls at h;exact h) rfl (fun _=>rfl) tz3 (by simp only[zG,List.not_mem_nil,or_false];omega) ha (fun s=>hR s.2) (ren S W) hg (fun s=>ren _ s.1.2) (fun s hs=>hq s.1.1 s.1.2 s.2 hs)
theorem all1_c (S:CS) (hS:CyG S) (W:WS) (fo:List Nat) (hW:WK S W fo) (v:Int) (r:Nat) (hr:Rt S.F.up r r):ACalls Tryz.prog 148 [.v (.int .i64 v),.agg [.ptr 0 0,.v (.int .i64 (r:Int))],.ptr 13 0] (zad 0 (zan (S)++zaY (W)++[.cells 129 [.ptr 12 0]])) 14 fun z os n=>(∃s:(FS×WS)×List Nat,(FSame S.F s.1.1/\WK S s.1.2 s.2/\r∈s.2/\∀x∈fo,x∈s.2)/\z=(fun s:List Nat=>.tup []) s.2/\os=zad 0 (zan {S with F:=s.1.1}++zaY s.1.2++[.cells 129 [.ptr 12 0]]))/\n=14:=by
  refine ACalls.clean (C:=fun zr zo=>∃s:(FS×WS)×List Nat,(FSame S.F s.1.1/\WK S s.1.2 s.2/\r∈s.2/\∀x∈fo,x∈s.2)/\zr=(fun s:List Nat=>.tup []) s.2/\zo=zad 0 (zan {S with F:=s.1.1}++zaY s.1.2++[.cells 129 [.ptr 12 0]])) ?_;refine aIn Tryz.func148 fun hm=>?_;simp only[Tryz.ntmps148,Tryz.results148,go_sem,seval];simp only[zan,zaY,zt,zx,zad,Nat.reduceAdd];refine sqD ?_;apply z7;(iterate 2 (refine chS 1 ?_));simp only[↓bO,go_sem,seval];refine WCalls.at (walk_w S hS W fo hW r hr) (by exact ⟨.ptr rfl,.agg ⟨.ptr rfl,.v _,trivial⟩,trivial⟩) (fun _=>by exact .tup trivial) tz1 tz19 (fun F1 W1 fo1 hX1=>?_);dsimp only at hX1;simp only[zan,zaY,zt,zx,zl,zp,zm,zag,zam,Nat.reduceEqDiff,↓reduceIte];(try simp only[go_sem]);(try simp only[go_sem]);refine ⟨_,zad 0 (zan {S with F:=F1}++zaY (W1)++[.cells 129 [.ptr 12 0]]),⟨((F1,W1),fo1),?_,rfl,rfl⟩,.tup trivial,xUnd tz1 _ _,?_,?_,by omega⟩;· exact ⟨hX1.1,⟨hX1.2.1,hX1.2.2.1,hX1.2.2.2.1⟩,hX1.2.2.2.2.1,hX1.2.2.2.2.2⟩
  ·
   exact Le.refl _
  first | (refine ⟨1,rfl,rfl⟩) | (refine ⟨0,rfl,rfl⟩) | (refine ⟨1,by simp only[zan,zaY,zt,zx,zad,zk,zf,Nat.reduceAdd],rfl⟩) | (refine ⟨0,by simp only[zan,zaY,zt,zx,zad,zk,zf,Nat.reduceAdd],rfl⟩)
theorem each1_c (S:CS) (hS:CyG S) (hc:S.clash=false) (W:WS) (fo:List Nat) (hW:WK S W fo):ACalls Tryz.prog 147 [.ptr 0 0,.clo 148 [.ptr 13 0]] (zad 0 (zan (S)++zaY (W)++[.cells 129 [.ptr 12 0]])) 14 fun z os n=>(∃s:(FS×WS)×List Nat,(FSame S.F s.1.1/\WK S s.1.2 s.2/\∀(v i:Int) (q:Nat),zav S.G.V v=some i->Rt S.F.up i.toNat q->q∈s.2)/\z=(fun s:List Nat=>.tup []) s.2/\os=zad 0 (zan {S with F:=s.1.1}++zaY s.1.2++[.cells 129 [.ptr 12 0]]))/\n=14:=by
  refine ACalls.clean (C:=fun zr zo=>∃s:(FS×WS)×List Nat,(FSame S.F s.1.1/\WK S s.1.2 s.2/\∀(v i:Int) (q:Nat),zav S.G.V v=some i->Rt S.F.up i.toNat q->q∈s.2)/\zr=(fun s:List Nat=>.tup []) s.2/\zo=zad 0 (zan {S with F:=s.1.1}++zaY s.1.2++[.cells 129 [.ptr 12 0]])) ?_;refine aIn Tryz.func147 fun hm=>?_;simp only[Tryz.ntmps147,Tryz.results147,go_sem,seval];simp only[zan,zaY,zt,zx,zad,Nat.reduceAdd];have hvl:=hS.vl;refine sqR fun _ u=>?_;refine chS 1 ?_;refine z6 1 fun _ y=>?_;simp only[↓bO,go_sem,seval];refine CCalls.at (zfq S (fun _=>hS.h64) (fun _=>by omega)) (.nil) (fun _=>zap _) (i0:=0) (i1:=1) (i2:=2) (i3:=3) (i4:=4) (i5:=5) (i6:=6) (i7:=7) tz3 tz4 zbd (fun Z9 u9 hZ9=>?_);(try dsimp only at hZ9);simp only[zau,zl,zp,zm,zag,zam,Nat.reduceEqDiff,↓reduceIte];obtain rfl:S=Z9:=hZ9.symm;rw[if_neg (show ¬(S.clash=true) from by rw[hc];decide)];obtain ⟨L,hL⟩:∃L,L=zb7 (S.G.V.map Prod.fst):=⟨_,rfl⟩;rw[<- hL];(have hLl:L.length<=1048576:=by (rw[hL,List.length_mergeSort,zC];exact hvl));apply y;clear y;refine chS 1 ?_;simp only[↓bO,go_sem,seval];apply u;apply zab;refine zah (σ:=FS×WS×List Nat×Nat) (mB 26 3587) (fun s=>FSame S.F s.1/\WK S s.2.1 s.2.2.1/\s.2.2.2<=L.length/\(∀(j:Nat) (v i:Int) (q:Nat),j<s.2.2.2->L[j]?=some v->zav S.G.V v=some i->Rt S.F.up i.toNat q->q∈s.2.2.1)) (fun s=>[(11,.v (.int .i64 (s.2.2.2:Int)))]) (fun s=>[(4,.cells 184 [.own 5 s.1.up.length,.own 6 s.1.rank.length,.v (.int .i64 s.1.sets),.v (.int .i64 s.1.steps)]),(5,.row 3 1 (s.1.up.map nC)),(6,.row 3 1 (s.1.rank.map intC)),(8,.map (mC cI s.2.1.st)),(9,.map (mC cB s.2.1.cy)),(10,.map (mC cI s.2.1.de)),(11,.map (mC cI s.2.1.sz)),(12,.cells 134 [.map 8,.map 9,.map 10,.map 11,.v (.int .i64 s.2.1.steps),.v (.bool s.2.1.bad)])]) (fun s=>L.length-s.2.2.2) (S.F,W,fo,0) (⟨FSame.refl hS.c.f,hW,Nat.zero_le _,fun j v i q hj=>by simp at hj⟩) ?_ (fun s hs=>?_)
  ·
   simp only[go_sem,seval];exact zaK
  simp only[go_sem,seval];refine sqD ?_;refine zZ fun _ u=>?_;apply z8 rfl <;> intro hb12
  ·
   (have hk:s.2.2.2<L.length:=by simpa using hb12);obtain ⟨v,he⟩:∃v,L[s.2.2.2]?=some v:=⟨_,za hk⟩;obtain ⟨i,hvi⟩:=zeD (V:=S.G.V) v (by rw[<- hL];exact zc he);have hw1:IntKind.i64.wrap ((s.2.2.2:Int)+1)=(s.2.2.2:Int)+1:=zal tz1 tz1;apply zac;apply u;refine zZ fun _ u=>?_;apply zab;refine sqR fun _ w=>?_;(iterate 2 (refine chS 1 ?_ (by intro _ q;simp only[↓bO,go_sem,seval,hk,gM he,intC];exact q)));simp only[↓bO,go_sem,seval];apply w;refine zdf (σ:=FS×Nat) (mB 26 3683) (fun g=>[(6,.eptr [.ptr 0 0,.v (.int .i64 (g.2:Int))])]) (fun g=>[(0,.cells 127 [.v (.int .i64 S.steps),.ptr 1 0,.ptr 4 0,.own 7 S.W.length,.v (.bool S.clash)]),(1,.cells 169 [.osl 2 4 (S.G.N.map GNode.cells),.map 3]),(2,.tok 194 4 S.G.N.length),(3,.map (S.G.V.map vC)),(4,.cells 184 [.own 5 g.1.up.length,.own 6 g.1.rank.length,.v (.int .i64 g.1.sets),.v (.int .i64 g.1.steps)]),(5,.row 3 1 (g.1.up.map nC)),(6,.row 3 1 (g.1.rank.map intC)),(7,.row 3 1 (S.W.map intC)),(8,.map (mC cI s.2.1.st)),(9,.map (mC cB s.2.1.cy)),(10,.map (mC cI s.2.1.de)),(11,.map (mC cI s.2.1.sz)),(12,.cells 134 [.map 8,.map 9,.map 10,.map 11,.v (.int .i64 s.2.1.steps),.v (.bool s.2.1.bad)]),(13,.cells 129 [.ptr 12 0])]) 14 (fun g=>FSame S.F g.1/\Rt S.F.up i.toNat g.2) ?_ (fun g hy3=>?_)
   ·
    apply z7;(iterate 2 (refine chS 1 ?_));refine z6 1 fun _ y=>?_;simp only[↓bO,go_sem,seval];refine CCalls.atP (R':=fun s=>.tup [.agg (zbF 0 s),.v (.bool true)]) (zi9 {S with F:=s.1} hs.1.inv (fun n k h=>by have:=hS.vin n k h;dsimp only;rw[hs.1.len];exact this) hc v i hvi) (i0:=0) (i1:=1) (i2:=2) (i3:=3) (i4:=4) (i5:=5) (i6:=6) (i7:=7) (by exact ⟨.ptr rfl,.v _,trivial⟩) (fun _=>by exact .tup ⟨.part rfl _,.v _,trivial⟩) tz3 tz4 zbd (fun Z1 r1 hX1=>?_);(try dsimp only at hX1);simp only[zau,zl,zp,zm,zag,zam,Nat.reduceEqDiff,↓reduceIte];obtain ⟨F1,rfl⟩:∃F,Z1={S with F:=F}:=⟨Z1.F,hX1.2.1⟩;dsimp only at hX1;have hF1:FSame S.F F1:=hs.1.trans hX1.1;have hrt:=(hs.1.rt _ _).1 hX1.2.2;(iterate 5 (apply y;clear y;refine z6 1 fun _ y=>?_;simp only[↓bO,go_sem,seval,zbF]));apply y;clear y;simp only[↓bO,go_sem,seval];(try simp only[go_sem,seval]);refine ⟨(F1,r1),⟨hF1,hrt⟩,?_⟩;refine Weak.freeze ?_ tz18 tz2 tz2 ?_ ?_;(· exact clz5);(· repeat' first | exact trivial | exact .any _ | exact .ptr tz1 | exact .own tz1 | exact .v _ _ | exact Und.data (EqT.dataSl _) | exact Und.data (zap _) | exact Und.eptr ⟨.ptr tz1,.v _ _,trivial⟩ | exact .clo ⟨.ptr tz1,trivial⟩ | (refine ⟨?_,?_⟩));repeat' first | exact trivial | (with_reducible omega) | exact .any _ | exact .ptr tz1 | exact .own tz1 | exact .v _ _ | exact .map tz1 | exact Und.oslG tz1 | exact Und.rowI (zaZ _) | exact Und.rowI (zaF _) | exact (fun p hp=>.data (zaR _ p hp)) | exact (fun p hp=>.data (zaJ _ p hp)) | exact (fun p hp=>.data (zbV _ p hp)) | (refine ⟨?_,?_⟩)
   simp only[go_sem,seval];obtain ⟨F1,r1⟩:=g;obtain ⟨hF1,hrt⟩:=hy3;dsimp only at hF1 hrt;dsimp only;apply z7;(iterate 3 (refine chS 1 ?_));simp only[↓bO,go_sem,seval];refine ACalls.mono (show ACalls Tryz.prog 148 _ (zad 0 (zan {S with F:=F1}++zaY s.2.1++[.cells 129 [.ptr 12 0]])) 14 _ from all1_c {S with F:=F1} (hS.fsame hF1 (hS.c.fsame hF1)) s.2.1 s.2.2.1 (hs.2.1.fsame hF1) v r1 ((hF1.rt _ _).2 (zb6.1 hrt.root))) ?_;rintro z os' nx' ⟨⟨⟨⟨F2,W2⟩,fo2⟩,hY,rfl,rfl⟩,rfl⟩;dsimp only at hY;obtain ⟨w,x,g,y4⟩:=hY;have hF2:=hF1.trans w;have hK2:=WK.back hF1 x;simp only[zan,zaY,zt,zx,zad,Nat.reduceAdd];apply u;apply z7;refine chS 1 ?_ (by intro _ q;simp only[↓bO,go_sem,seval,hw1];exact q);simp only[↓bO,go_sem,seval];refine ⟨(F2,W2,fo2,s.2.2.2+1),⟨hF2,hK2,by simp only;omega,fun j v9 i9 q9 hj hv9 hi9 hq9=>(by (rcases zD j s.2.2.2 with h9 | h9;exact y4 q9 (hs.2.2.2 j v9 i9 q9 h9 hv9 hi9 hq9);(obtain rfl:j=s.2.2.2:=by (simp only at hj;omega));rw[he] at hv9;cases hv9;rw[hvi] at hi9;cases hi9;rw[Rt.det hq9 hrt];exact g))⟩,tz5,?_⟩;simp only[zas,zat,zag,zam,mB,seval,zj,zi,zn];exact zaK
  (have hk:s.2.2.2=L.length:=by (have h9:=hb12;simp at h9;have:=hs.2.2.1;omega));apply zaj;simp only[zaq,zak,zaf,bA,Nat.reduceEqDiff,↓reduceIte];(try simp only[go_sem]);refine ⟨_,zad 0 (zan {S with F:=s.1}++zaY (s.2.1)++[.cells 129 [.ptr 12 0]]),⟨((s.1,s.2.1),s.2.2.1),?_,rfl,rfl⟩,.tup trivial,xUnd tz1 _ _,?_,?_,by omega⟩;· exact ⟨hs.1,hs.2.1,fun v i q hvi hq=>(by (obtain ⟨j,hj,e⟩:=zU.1 (show v∈L from by (rw[hL];exact (List.mergeSort_perm _ _).mem_iff.2 (zq.2 ⟨_,zbY hvi,rfl⟩)));exact hs.2.2.2 j v i q (by rw[hk];exact hj) (by rw[za hj,e]) hvi hq))⟩
  ·
   exact Le.refl _
  first | (refine ⟨0,rfl,rfl⟩) | (refine ⟨0,by simp only[zan,zaY,zt,zx,zad,zk,zf,Nat.reduceAdd],rfl⟩)
def aOs (S:CS) (W:WS):Os:=(12,.cells 134 [.map 8,.map 9,.map 10,.map 11,.v (.int .i64 W.steps),.v (.bool W.bad)])::(11,.map (mC cI W.sz))::(10,.map (mC cI W.de))::(9,.map (mC cB W.cy))::(8,.map (mC cI W.st))::zad 0 (zan S)
theorem aUnd {n:Nat} (h:13<=n) (S:CS) (W:WS):UndOs n (aOs S W) :=
 ⟨by omega,⟨.map tz1,.map tz1,.map tz1,.map tz1,.v _ _,.v _ _,trivial⟩,by omega,fun p hp=>.data (zaJ _ p hp),by omega,fun p hp=>.data (zaJ _ p hp),by omega,fun p hp=>.data (zbV _ p hp),by omega,fun p hp=>.data (zaJ _ p hp),zcg tz1 S⟩
def AllR (S:CS) (s:(FS×WS)×List Nat):Prop:=(S.clash=true/\s.1.1=S.F/\s.1.2={WS0 with bad:=true}/\s.2=[]) \/
 (S.clash=false/\FSame S.F s.1.1/\WK S s.1.2 s.2/\∀(v i:Int) (q:Nat),zav S.G.V v=some i->Rt S.F.up i.toNat q->q∈s.2)
def zgH (S:CS) (s:Bool×Int):Prop:=(S.clash=true/\s=(false,0)) \/
 (S.clash=false/\(s.1=false->∃y,y<S.F.up.length/\Pls (zaG S) y y)/\(s.1=true->∀(v i:Int) (q:Nat),zav S.G.V v=some i->Rt S.F.up i.toNat q->¬Lp (zaG S) q)/\0<=s.2/\s.2<=11 * (S.F.up.length:Int))
theorem AllR.count {S:CS} {F1:FS} {W1:WS} {fo1:List Nat} (hS:S.clash=false->CyG S) (h:AllR S ((F1,W1),fo1)):zgH S (!W1.bad,W1.steps):=by
 rcases h with ⟨h1,_,h2,_⟩ | ⟨h1,h2,h3,h4⟩
 ·dsimp only at h2
  subst h2;exact .inl ⟨h1,rfl⟩
 dsimp only at h2 h3 h4;have hd:=h3.d
 have hn:fo1.length<=S.F.up.length:=by
  have h5:=zdu (by simpa using hd.nd) (fun r hr=>hd.lt r (by simpa using hr));exact h5
 have hst:=h3.t.bound (zcc (hS h1));refine .inr ⟨h1,fun hb=>?_,fun hb v i q hv hq hl=>?_,h3.t.pos,by omega⟩
 ·obtain ⟨y,hy,hp⟩:=hd.bad_iff.1 (by simpa using hb)
  exact ⟨y,hd.lt y (by simpa using hy),hp⟩
 obtain ⟨y,h5,h6⟩:=hl;have h7:=hd.rch h5 (h4 v i q hv hq);have:=hd.bad_iff.2 ⟨y,h7,h6⟩;rw[this] at hb;cases hb
theorem each1_w (S:CS) (hS:CyG S) (hc:S.clash=false) (W:WS) (fo:List Nat) (hW:WK S W fo):XWCalls (σ:=List Nat) 147 [.ptr 0 0,.clo 148 [.ptr 13 0]] S W (fun s=>FSame S.F s.1.1/\WK S s.1.2 s.2/\∀(v i:Int) (q:Nat),zav S.G.V v=some i->Rt S.F.up i.toNat q->q∈s.2) (fun _=>.tup []):=each1_c S hS hc W fo hW
theorem all_c (S:CS) (hS:S.clash=false->CyG S):ACalls Tryz.prog 124 [.ptr 0 0] (zad 0 (zan S)) 8 fun z os n=>(∃s:(FS×WS)×List Nat,AllR S s/\z=.ptr 12 0/\os=aOs {S with F:=s.1.1} s.1.2)/\n=13:=by
  refine ACalls.cleanN (n:=13) (C:=fun zr zo=>∃s:(FS×WS)×List Nat,AllR S s/\zr=.ptr 12 0/\zo=aOs {S with F:=s.1.1} s.1.2) tz1 ?_;refine aIn Tryz.func124 fun hm=>?_;simp only[Tryz.ntmps124,Tryz.results124,go_sem,seval];simp only[zan,zad,Nat.reduceAdd];refine sqD ?_;refine sqR fun _ y=>?_;(iterate 7 (refine chS 1 ?_));simp only[↓bO,go_sem,seval];apply y;refine zZ fun _ y=>?_;refine sqR fun _ u=>?_;refine chS 1 ?_;refine z6 1 fun _ q=>?_;simp only[↓bO,go_sem,seval];refine CCalls.at (Err_c S) (.nil) (fun _=>.v _) (i0:=0) (i1:=1) (i2:=2) (i3:=3) (i4:=4) (i5:=5) (i6:=6) (i7:=7) tz3 tz4 zbd (fun Z9 u9 hZ9=>?_);(try dsimp only at hZ9);simp only[zau,zl,zp,zm,zag,zam,Nat.reduceEqDiff,↓reduceIte];obtain rfl:S=Z9:=hZ9.symm;apply q;clear q;simp only[↓bO,go_sem,seval];apply u;apply z8 rfl <;> intro hb12
  ·
   (have hcs:S.clash=true:=by (have h9:=hb12;cases hc:S.clash <;> simp[hc] at h9 ⊢));refine sqR fun _ u=>?_;(iterate 3 (refine chS 1 ?_));simp only[↓bO,go_sem,seval];apply u;refine sqR fun _ u=>?_;refine chS 1 ?_;simp only[↓bO,go_sem,seval];apply u;apply zaa;(try simp only[go_sem]);refine ⟨_,aOs {S with F:=S.F} ({WS0 with bad:=true}),⟨((S.F,{WS0 with bad:=true}),[]),?_,rfl,rfl⟩,.ptr tz1,aUnd tz1 _ _,Le.refl _,?_,by omega⟩;(· exact .inl ⟨hcs,rfl,rfl,rfl⟩);exact ⟨1,rfl,rfl⟩
  (have hcs:S.clash=false:=by (have h9:=hb12;cases hc:S.clash <;> simp[hc] at h9 ⊢));apply zac;apply y;refine sqR fun _ y=>?_;(iterate 2 (refine chS 1 ?_));simp only[↓bO,go_sem,seval];refine XWCalls.at (σ:=List Nat) (S:=S) (W:=WS0) (each1_w S (hS hcs) hcs WS0 [] (WK.nil S)) (by exact ⟨.ptr rfl,.clo ⟨.ptr rfl,trivial⟩,trivial⟩) (fun _=>by exact .tup trivial) tz1 tz18 (fun F1 W1 fo1 hX1=>?_);dsimp only at hX1;simp only[zan,zaY,zt,zx,zl,zp,zm,zag,zam,Nat.reduceEqDiff,↓reduceIte];apply y;refine sqR fun _ y=>?_;refine chS 1 ?_;simp only[↓bO,go_sem,seval];apply y;apply zaa;(try simp only[go_sem]);refine ⟨_,aOs {S with F:=F1} (W1),⟨((F1,W1),fo1),?_,rfl,rfl⟩,.ptr tz1,aUnd tz1 _ _,Le.refl _,?_,by omega⟩;(· exact .inr ⟨hcs,hX1.1,hX1.2.1,hX1.2.2⟩);exact ⟨1,rfl,rfl⟩
theorem Count_c (S:CS) (hS:S.clash=false->CyG S):CCalls (σ:=Bool×Int) 88 [.ptr 0 0] (S) (fun s=>s.1={S with F:=s.1.F}/\(S.clash=false->FSame S.F s.1.F)/\zgH S s.2) (fun s=>.tup [.v (.bool s.1),.v (.int .i64 s.2)]):=by
  refine ACalls.clean (C:=fun r os=>∃s:CS×Bool×Int,(s.1={S with F:=s.1.F}/\(S.clash=false->FSame S.F s.1.F)/\zgH S s.2)/\r=(fun s:Bool×Int=>.tup [.v (.bool s.1),.v (.int .i64 s.2)]) s.2/\os=zad 0 (zan s.1)) ?_;refine aIn Tryz.func88 fun hm=>?_;simp only[Tryz.ntmps88,Tryz.results88,go_sem,seval];simp only[zan,zad,Nat.reduceAdd];refine sqR fun _ y=>?_;refine chS 1 ?_;simp only[↓bO,go_sem,seval];apply y;refine sqR fun _ y=>?_;refine chS 1 ?_;refine z6 1 fun _ q=>?_;simp only[↓bO,go_sem,seval];refine ACalls.mono (show ACalls Tryz.prog 124 _ (zad 0 (zan S)) 8 _ from all_c S hS) ?_;rintro z os' nx' ⟨⟨⟨⟨F1,W1⟩,fo1⟩,hA,rfl,rfl⟩,rfl⟩;dsimp only;simp only[aOs,zan,zad,Nat.reduceAdd];apply q;clear q;simp only[↓bO,go_sem,seval];apply y;refine zZ fun _ y=>?_;refine zax [(12,5,[.v (.bool W1.bad)]),(12,4,[.v (.int .i64 W1.steps)])] 11 rfl mixed (tz13) rfl ?_;dsimp only;refine tkS 0 ?_;refine tkS 1 ?_;refine tkS 2 ?_;refine tkM 3 0 ?_;refine tkS 5 ?_;refine tkS 6 ?_;refine tkS 7 ?_;refine tkM 8 1 ?_;refine alS 4 ?_ (hH:=by exact tz13);refine tkS 9 ?_;refine tkS 10 ?_;refine dnA ?_;apply y;apply zaa;(try simp only[go_sem]);refine ⟨_,zad 0 (zan ({S with F:=F1})),⟨({S with F:=F1},(!W1.bad,W1.steps)),?_,rfl,rfl⟩,.tup ⟨.v _ _,.v _ _,trivial⟩,zcg tz1 _,?_,?_,by omega⟩;· exact ⟨rfl,fun hc=>(by rcases hA with ⟨h9,_⟩ | ⟨_,h9,_⟩;(rw[hc] at h9;cases h9);exact h9),hA.count hS⟩
  ·
   exact Le.refl _
  first | (refine ⟨5,rfl,rfl⟩) | (refine ⟨5,by simp only[zan,zad,zk,zf,Nat.reduceAdd],rfl⟩)
def sG (sn:List (Int×Bool)) (x:Nat):Bool:=(zcH sn x).getD false
structure ReR (K:Nat->List Nat) (W:WS) (r:Nat) (sn sn':List (Int×Bool)) (b:Bool):Prop where
 mono:∀x,sG sn x=true->sG sn' x=true
 yes:b=true->∃v,Rch K r v/\W.cg v=true
 no:b=false->sG sn' r=true/\(W.cg r=false)/\∀x,sG sn' x=true->sG sn x=true\/(W.cg x=false/\∀c∈K x,sG sn' c=true)
structure ReL (K:Nat->List Nat) (W:WS) (r:Nat) (sn sn':List (Int×Bool)) (k:Nat):Prop where
 mono:∀x,sG sn x=true->sG sn' x=true
 self:sG sn' r=true
 done:∀(j v:Nat),j<k->(K r)[j]?=some v->sG sn' v=true
 new:∀x,sG sn' x=true->sG sn x=true\/x=r\/(W.cg x=false/\∀c∈K x,sG sn' c=true)
def YCalls (f:Nat) (args:List AV) (S:CS) (W:WS) (sn:List (Int×Bool)) (C:(FS×WS)×List (Int×Bool)×Bool->Prop):Prop :=
 ACalls Tryz.prog f args (zad 0 (zan S++zaY W++[.map (mC cB sn)])) 14 fun z os n=>(∃s:(FS×WS)×List (Int×Bool)×Bool,C s/\z=(fun s:List (Int×Bool)×Bool=>.v (.bool s.2)) s.2/\os=zad 0 (zan {S with F:=s.1.1}++zaY s.1.2++[.map (mC cB s.2.1)]))/\n=14
end Go.Proofs.YtpfiliamceimmaaGreatDoor
namespace Go.Proofs.YtpfiliamceimmaaGreatDoor
open Go Go.RowKit
theorem zfY:∀{l m:List Int},l.Nodup->(∀x∈l,x∈m)->l.length<=m.length
 | [],m,_,_=>by simp
 | x::l,m,hn,hs=>by
  have h1:=List.nodup_cons.1 hn;(have h2:=zfY (l:=l) (m:=m.erase x) h1.2 fun y hy=>(List.mem_erase_of_ne (fun (e:y=x)=>h1.1 (by rw[<- e];exact hy))).2 (hs y (by simp[hy])));rw[List.length_erase_of_mem (hs x tz4)] at h2;have:=List.length_pos_of_mem (hs x tz4);rw[zB];omega
def zkH (M:List RNode) (c:List Int):Prop:=c.length=M.length/\∀i,(zbu M c i).length<=8/\∀p∈zbu M c i,0<=p/\p<(M.length:Int)
structure CoI (M:List RNode) (c:List Int) (i:Nat) (out nx:List Int) (n:Nat):Prop where
 nd:out.Nodup
 src:∀x∈out,∃j,j<M.length/\Pls (zbe M c) i j/\c[j]?=some x
 nxt:∀q∈nx,0<=q/\q<(M.length:Int)/\Pls (zbe M c) i q.toNat
 done:∀(m:Nat) (q:Int),m<n->nx[m]?=some q->∃x∈out,c[q.toNat]?=some x
 cov:∀x∈out,∀j,j<M.length->c[j]?=some x->∀p∈zbu M c j,p∈nx
 st:∀p∈zbu M c i,p∈nx
 len:nx.length<=8 * (out.length+1)
 le:n<=nx.length
def ComesR (M:List RNode) (c:List Int) (i:Nat) (L:List Int):Prop:=L.length<=M.length/\∀x,x∈L↔∃j,j<M.length/\Pls (zbe M c) i j/\c[j]?=some x
section
variable {M:List RNode} {c:List Int} {i n:Nat} {out nx:List Int}
theorem ziY {p:Int} {j:Nat} (h:p∈zbu M c j):p.toNat∈zbe M c j:=zq.2 ⟨p,h,rfl⟩
theorem CoI.start (h:zkH M c) (i:Nat):CoI M c i [] (zbu M c i) 0 :=
 ⟨by simp,by simp,fun q hq=>⟨((h.2 i).2 q hq).1,((h.2 i).2 q hq).2,⟨_,ziY hq,.refl _⟩⟩,fun m q hm=>by omega,by simp,fun _ hp=>hp,by have:=(h.2 i).1;simpa using this,Nat.zero_le _⟩
theorem CoI.outs (h:CoI M c i out nx n) (hc:zkH M c):out.length<=M.length:=by
 have h1:=zfY h.nd (m:=c) fun x hx=>by
  obtain ⟨j,_,_,e⟩:=h.src x hx;exact zc e
 rw[hc.1] at h1;exact h1
theorem CoI.bound (h:CoI M c i out nx n) (hc:zkH M c):nx.length<=8 * (M.length+1):=by
 have:=h.outs hc;have:=h.len;omega
theorem CoI.known (h:CoI M c i out nx n) {q x:Int} (hq:nx[n]?=some q) (hx:c[q.toNat]?=some x) (hm:x∈out):CoI M c i out nx (n+1) :=
 ⟨h.nd,h.src,h.nxt,fun m p hm2 hp=>by
  (rcases zD m n with h1 | h1);(·exact h.done m p h1 hp);obtain rfl:m=n:=by omega
  rw[hq] at hp;cases hp;exact ⟨x,hm,hx⟩,h.cov,h.st,h.len,(zb.1 hq).1⟩
theorem CoI.new (h:CoI M c i out nx n) (hc:zkH M c) {q x:Int} (hq:nx[n]?=some q) (hx:c[q.toNat]?=some x) (hm:x∉out):CoI M c i (out++[x]) (nx++zbu M c q.toNat) (n+1):=by
 have hqm:=h.nxt q (zc hq);(have hql:q.toNat<M.length:=by omega);refine ⟨?_,fun y hy=>?_,fun p hp=>?_,fun m p hm2 hp=>?_,fun y hy j hj hcj p hp=>?_,fun p hp=>zE.2 (.inl (h.st p hp)),?_,?_⟩
 ·rw[List.nodup_append]
  exact ⟨h.nd,by simp,fun a ha b hb=>by simp at hb;subst hb;exact fun e=>hm (e▸ha)⟩
 ·rcases zE.1 hy with hy | hy
  (·exact h.src y hy);simp at hy;subst hy;exact ⟨q.toNat,hql,hqm.2.2,hx⟩
 ·rcases zE.1 hp with hp | hp
  (·exact h.nxt p hp);have h1:=(hc.2 q.toNat).2 p hp;exact ⟨h1.1,h1.2,hqm.2.2.next (ziY hp)⟩
 ·have hnl:=(zb.1 hq).1
  rw[zz tz1] at hp;rcases zD m n with h1 | h1
  ·obtain ⟨y,hy,e⟩:=h.done m p h1 hp
   exact ⟨y,zE.2 (.inl hy),e⟩
  (obtain rfl:m=n:=by omega);rw[hq] at hp;cases hp;exact ⟨x,by simp,hx⟩
 ·rcases zE.1 hy with hy | hy
  (·exact zE.2 (.inl (h.cov y hy j hj hcj p hp)));(simp at hy;subst hy);rw[nextI_col (hcj.trans hx.symm)] at hp;exact zE.2 (.inr hp)
 ·have:=h.len
  have:=(hc.2 q.toNat).1;simp only[zh,List.length_singleton];omega
 have:=(zb.1 hq).1;rw[zh];omega
theorem CoI.fin (h:CoI M c i out nx n) (hc:zkH M c) (hn:nx.length<=n):ComesR M c i out:=by
 have hQ:∀p∈nx,∃x∈out,c[p.toNat]?=some x:=fun p hp=>by
  obtain ⟨m,hm,e⟩:=zU.1 hp;exact h.done m p tz1 (by rw[za hm,e])
 have hstep:∀(u v:Nat),u<M.length->(∃x∈out,c[u]?=some x)->v∈zbe M c u->v<M.length/\∃x∈out,c[v]?=some x:=fun u v hu ⟨x,hx,e⟩ hv=>by
  obtain ⟨p,hp,rfl⟩:=zq.1 hv;have h1:=(hc.2 u).2 p hp;exact ⟨by omega,hQ p (h.cov x hx u hu e p hp)⟩
 have hrch:∀{u v:Nat},Rch (zbe M c) u v->u<M.length->(∃x∈out,c[u]?=some x)->∃x∈out,c[v]?=some x:=fun hr=>by
  induction hr with
  | refl _=>exact fun _ h=>h
  | @step u v w hv _ ih=>exact fun hu hx=>ih (hstep u v hu hx hv).1 (hstep u v hu hx hv).2
 refine ⟨h.outs hc,fun x=>⟨h.src x,?_⟩⟩;rintro ⟨j,hj,⟨v,hv,hr⟩,e⟩;obtain ⟨p,hp,rfl⟩:=zq.1 hv;have h1:=(hc.2 i).2 p hp;obtain ⟨y,hy,e2⟩:=hrch hr tz1 (hQ p (h.st p hp));rw[e] at e2;cases e2;exact hy
theorem ComesR.loop (h:ComesR M c i out) {x:Int} (hx:c[i]?=some x):x∈out↔zjD M c i:=by
 rw[h.2 x,zjD,hx]
end
open Classical in
noncomputable def zhd (M:List RNode) (c:List Int) (i:Nat):Bool:=decide (zjD M c i)
open Classical in
noncomputable def zkV (M:List RNode) (c:List Int):Bool:=decide (∀i,i<M.length->¬zjD M c i)
theorem zem {M:List RNode} {c:List Int} {i:Nat}:zhd M c i=true↔zjD M c i:=by
 classical
 unfold zhd;rw[zd]
theorem zfm {M:List RNode} {c:List Int}:zkV M c=true↔∀i,i<M.length->¬zjD M c i:=by
 classical
 unfold zkV;rw[zd]
section
variable {l:List (Ty×Ty)} {M:List RNode} {c:List Int} {S:CS}
theorem PSt.var_at (h:PSt l M c S) {a:Int} (ha:a∈varsI M):∃q:Nat,zbv (RNode.isVar a) M=(q:Int)/\q<M.length/\zav S.G.V a=some (q:Int):=by
 obtain ⟨q,hq,hl⟩:=var_idx ha;exact ⟨q,hq,hl,Go.Proofs.YtpfiliamceimmaaGreatDoor.var_at h hq⟩
theorem PSt.fin_iff (h:PSt l M c S):zkV M c=true↔∀y,¬Pls (zaG S) y y:=by
 rw[zfm];constructor
 ·intro hf y hp
  (have hy:y<M.length:=by rw[<- h.nl];exact hp.root.lt);exact hf y hy ((h.loop_iff hy).2 (by rw[zbi hp.root];exact hp))
 exact fun hf i hi hl=>hf _ ((h.loop_iff hi).1 hl)
theorem PSt.count (h:PSt l M c S) {b:Bool} {n:Int} (hr:zgH S (b,n)):b=zkV M c/\0<=n/\n<=11 * (M.length:Int):=by
 (rcases hr with ⟨h1,_⟩ | ⟨_,h2,h3,h4,h5⟩);(·rw[h.h.1] at h1;cases h1);refine ⟨?_,h4,by have:=h.nl;dsimp only at h5;omega⟩;dsimp only at h2 h3
 cases b with
 | true=>exact (h.fin_iff.2 fun y=>h.no_loop (h3 rfl) y).symm
 | false =>
  cases hf:zkV M c with
  | false=>rfl
  | true =>
   obtain ⟨y,_,hp⟩:=h2 rfl;exact absurd hp (h.fin_iff.1 hf y)
end
theorem Holds.pst {l:List (Ty×Ty)} {S:CS} (ho:OkE l) (h:Holds l S) (hk:S.G.V.map Prod.fst=vns (eqF l).1) (hl:(eqF l).1.length<=1048576):∃c,PSt l (eqF l).1 c S:=by
 refine ⟨(List.range (eqF l).1.length).map fun i=>(zaV S i:Int),h,⟨ho,by simp,fun i k hi hk=>?_⟩,rfl,hl,hk⟩;rw[zO,zO,List.getElem?_range hi,List.getElem?_range hk];simp only[zY,Option.some.injEq];have h1:Rt S.F.up i (zaV S i):=zfg h.2.w.c (by rw[h.2.rel.len];exact hi);have h2:Rt S.F.up k (zaV S k):=zfg h.2.w.c (by rw[h.2.rel.len];exact hk);rw[<- zbH h h1];constructor
 ·intro e
  (have e2:zaV S i=zaV S k:=by omega);rw[e2];exact h2
 intro hr;rw[Rt.det h2 hr]
theorem CSt.pst {l:List (Ty×Ty)} {S:CS} (h:CSt l S) (hc:S.clash=false) (hl:S.G.N.length<=1048576):∃c,PSt l (eqF l).1 c S:=by
 obtain ⟨hH,hK⟩:=h.good hc;exact hH.pst h.ok hK (by rw[<- hH.2.rel.len];exact hl)
theorem CSt.cyG {l:List (Ty×Ty)} {S:CS} (h:CSt l S) (hl:S.G.N.length<=1048576):S.clash=false->CyG S:=fun hc=>by
 obtain ⟨c,hp⟩:=h.pst hc hl;exact hp.cyG
theorem zfT {P:Ty->Prop}:∀(ps:List Ty),(∀p∈ps,∀m:List RNode,(∀r∈m,P r.t)->∀r∈(p.radd m).1,P r.t)->∀(m:List RNode) (l:List Int),(∀r∈m,P r.t)->∀r∈(Ty.raddL ps m l).1,P r.t
 | [],_,m,l,hm=>by unfold Ty.raddL;exact hm
 | p::ps,h,m,l,hm=>by
  unfold Ty.raddL;exact zfT ps (fun q hq=>h q (by simp[hq])) _ _ (h p tz4 m hm)
theorem zgx {P:Ty->Prop} (hP:∀t,P t->∀p∈t.ps,P p):∀t:Ty,P t->∀m:List RNode,(∀r∈m,P r.t)->∀r∈(t.radd m).1,P r.t:=by
 refine Ty.ind fun t ih ht m hm=>?_;obtain ⟨k,n,ps⟩:=t;unfold Ty.radd;split;(·exact hm);intro r hr;dsimp only at hr;(rcases zE.1 hr with hr | hr);(·exact zfT ps (fun p hp=>ih p hp (hP _ ht p hp)) m [] hm r hr);simp at hr;subst hr;exact ht
theorem eqF_types {P:Ty->Prop} (hP:∀t,P t->∀p∈t.ps,P p):∀l,OkE l->(∀e∈l,P e.1/\P e.2)->∀r∈(eqF l).1,P r.t :=
 zfH (P:=fun l=>(∀e∈l,P e.1/\P e.2)->∀r∈(eqF l).1,P r.t) (fun _ r hr=>by simp[eqF] at hr) fun d e _ _ ih he r hr=>by
  rw[zaW] at hr;(have h1:=ih fun x hx=>he x (by simp[hx]));have h2:=he e tz4;exact zgx hP e.2 h2.2 _ (zgx hP e.1 h2.1 _ h1) r hr
theorem eqF_src:∀l,OkE l->∀x∈zcf (eqF l).2,∃e∈l,(((eqF l).1[x.1]?).map RNode.t=some e.1)/\(((eqF l).1[x.2]?).map RNode.t=some e.2) :=
 zfH (fun x hx=>by simp[eqF,zcf] at hx) fun d e h hd ih x hx=>by
  have hp:=zhi h;(obtain ⟨⟨G,hG⟩,_⟩:=zdb d fun x hx=>hd x hx);obtain ⟨h1,h2,h3,h4⟩:=h e tz4;have s1:=zby e.1 h1 h3 G _ hG;have s2:=zby e.2 h2 h4 _ _ s1.rel;rw[zaW] at hx;simp only[zdB,zcf,zu,zE,zy,zW] at hx;rcases hx with hx | hx
  ·obtain ⟨y,hy,e1,e2⟩:=ih x hx
   exact ⟨y,by simp[hy],hp.get e1,hp.get e2⟩
  simp only[List.mem_singleton] at hx;subst hx;refine ⟨e,by simp,?_,?_⟩;(·rw[zaW];exact s2.pre.get s1.at');rw[zaW];exact s2.at'
def vT (i:Nat):Ty:=.mk 1 (i:Int) []
def dT (i:Nat):Ty:=.mk 4 0 [vT (i+1),vT (i+1)]
def iT:Ty:=.mk 2 0 []
inductive ValT (k:Nat):Ty->Nat->Prop
 | var (i:Nat) (h:i<=k):ValT k (vT i) (k-i)
 | int:ValT k iT 0
 | fn (i:Nat) (h:i<k):ValT k (dT i) (k-i)
theorem ValT.inv {k:Nat} {t:Ty} {n:Nat} (h:ValT k t n):(∃i,i<=k/\t=vT i/\n=k-i)\/(t=iT/\n=0)\/∃i,i<k/\t=dT i/\n=k-i:=by
 cases h with
 | var i h=>exact .inl ⟨i,h,rfl,rfl⟩
 | int=>exact .inr (.inl ⟨rfl,rfl⟩)
 | fn i h=>exact .inr (.inr ⟨i,h,rfl,rfl⟩)
def zbz (S:CS) (r:Nat):Int:=match S.W[r]? with
 | some x=>if x<0 then 0 else ((S.G.N[x.toNat]?).map GNode.k).getD 0
 | none=>0
abbrev vsS (S:CS):List Int:=zb7 (S.G.V.map Prod.fst)
noncomputable def whT (S:CS) (r:Nat) (ts:List Ty):Ty:=if zbz S r=0 then vTy (za5 S r (vsS S)) else .mk (zbz S r) 0 ts
inductive Wh (S:CS):Nat->Ty->Prop
 | mk (r:Nat) (f:Nat->Ty) (h:∀v∈zaG S r,Wh S v (f v)):Wh S r (whT S r ((zaG S r).map f))
theorem Wh.det {S:CS} {r:Nat} {a b:Ty} (h:Wh S r a):Wh S r b->a=b:=by
 induction h generalizing b with
 | mk r f hf ih =>
  intro hb
  cases hb with
  | mk _ g hg =>
   (congr 1);exact List.map_congr_left fun v hv=>ih v hv (hg v hv)
open Classical in
theorem Wh.of_tl {S:CS} {r:Nat} {a:Int×Int} (h:Tl (zaG S) r a):∃t,Wh S r t:=by
 induction h with
 | mk u f hf ih =>
  exact ⟨_,.mk u (fun v=>if h:∃t,Wh S v t then Classical.choose h else vTy 0) fun v hv=>by
   have h:=ih v hv;simp only[dif_pos h]
   exact Classical.choose_spec h⟩
open Classical in
noncomputable def wOf (S:CS) (r:Nat):Ty:=if h:∃t,Wh S r t then Classical.choose h else vTy 0
theorem zcY {S:CS} {r:Nat} {t:Ty} (h:Wh S r t):wOf S r=t:=by
 classical
 have h1:∃t,Wh S r t:=⟨t,h⟩;unfold wOf;rw[dif_pos h1];exact (Classical.choose_spec h1).det h
theorem zdp {S:CS} {r:Nat} {t:Ty} (h:Wh S r t):wOf S r=whT S r ((zaG S r).map (wOf S)):=by
 rw[zcY h]
 cases h with
 | mk _ f hf =>
  (congr 1);exact List.map_congr_left fun v hv=>(zcY (hf v hv)).symm
noncomputable def wF (S:CS) (v:Int):Ty:=match zav S.G.V v with
 | some i=>wOf S (zaV S i.toNat)
 | none=>vTy v
section
variable {l:List (Ty×Ty)} {M:List RNode} {c:List Int} {S:CS}
theorem PSt.rightN (h:PSt l M c S) {u:Nat} {z:RNode} (hz:M[u]?=some z):z.t.right=true/\z.parts.length=z.t.ps.length:=by
 have hm:=h.m;subst hm;have hu:=(zb.1 hz).1;obtain ⟨_,_,_,_,_,f6,f7,_⟩:=h.h.2.rel.node u _ _ (za (by rw[h.h.2.rel.len];exact hu)) hz;exact ⟨f6,f7⟩
theorem PSt.partT (h:PSt l M c S) {u j:Nat} {z:RNode} {w:Int} (hz:M[u]?=some z) (hw:z.parts[j]?=some w):∃r:RNode,z.t.ps[j]?=some r.t/\M[w.toNat]?=some r/\r.t∈z.t.ps:=by
 have hm:=h.m;subst hm;have hu:=(zb.1 hz).1;obtain ⟨_,_,_,_,_,_,f7,f8⟩:=h.h.2.rel.node u _ _ (za (by rw[h.h.2.rel.len];exact hu)) hz;have hj:=(zb.1 hw).1;have ht:z.t.ps[j]?=some (z.t.ps[j]'tz1):=za tz1;obtain ⟨r,hr,er⟩:=Option.map_eq_some_iff.1 (f8 j w _ hw ht).2.2;exact ⟨r,by rw[er];exact ht,hr,by rw[er];exact List.getElem_mem _⟩
theorem relPart {G:GS} {m:List RNode} (hG:Rel G m) {u j:Nat} {z:RNode} {w:Int} (hz:m[u]?=some z) (hw:z.parts[j]?=some w):∃r:RNode,z.t.ps[j]?=some r.t/\m[w.toNat]?=some r:=by
 have hu:=(zb.1 hz).1;obtain ⟨_,_,_,_,_,_,f7,f8⟩:=hG.node u _ _ (za (by rw[hG.len];exact hu)) hz;have hj:=(zb.1 hw).1;have ht:z.t.ps[j]?=some (z.t.ps[j]'tz1):=za tz1;obtain ⟨r,hr,er⟩:=Option.map_eq_some_iff.1 (f8 j w _ hw ht).2.2;exact ⟨r,by rw[er];exact ht,hr⟩
theorem zgw {θ:Int->Ty} {a b:Ty} (ha:a.k≠1) (hb:b.k≠1) (h:a.subF θ=b.subF θ):a.k=b.k/\a.ps.length=b.ps.length/\∀(j:Nat) (p q:Ty),a.ps[j]?=some p->b.ps[j]?=some q->p.subF θ=q.subF θ:=by
 rw[Ty.subF_more ha,Ty.subF_more hb] at h;have h1:=congrArg Ty.k h;have h2:=congrArg Ty.ps h;simp only[Ty.k_mk,Ty.ps_mk] at h1 h2;refine ⟨h1,by have:=congrArg List.length h2;simpa using this,fun j p q hp hq=>?_⟩;have h3:=congrArg (fun l=>l[j]?) h2;simp only[zO,hp,hq,zY,Option.some.injEq] at h3;exact h3
theorem zgu {θ:Int->Ty} (ho:OkE l) (hθ:za0 θ l):Closed (shR (eqF l).1) (zcf (eqF l).2) (fun i j=>i=j\/∃x y:RNode,(eqF l).1[i]?=some x/\(eqF l).1[j]?=some y/\x.t.subF θ=y.t.subF θ):=by
 (obtain ⟨⟨G,hG⟩,_⟩:=zdb l fun x hx=>ho x hx);refine ⟨fun e he=>?_,fun _=>.inl rfl,fun i j h=>?_,fun a b d h1 h2=>?_,fun a b j cc p q ps qs h ha hb hc hl hp hq=>?_⟩
 ·obtain ⟨x,hx,e1,e2⟩:=eqF_src _ ho e he
  obtain ⟨a,ha,ea⟩:=Option.map_eq_some_iff.1 e1;obtain ⟨b,hb,eb⟩:=Option.map_eq_some_iff.1 e2;exact .inr ⟨a,b,ha,hb,by rw[ea,eb];exact hθ x hx⟩
 ·rcases h with rfl | ⟨x,y,h1,h2,h3⟩
  (·exact .inl rfl);exact .inr ⟨y,x,h2,h1,h3.symm⟩
 ·rcases h1 with rfl | ⟨x,y,h1,h2',h3⟩
  (·exact h2);(rcases h2 with rfl | ⟨x',y',g1,g2,g3⟩);(·exact .inr ⟨x,y,h1,h2',h3⟩);rw[h2'] at g1;cases g1;exact .inr ⟨x,y',h1,g2,h3.trans g3⟩
 (rcases h with rfl | ⟨x,y,h1,h2,h3⟩);(·rw[ha] at hb;cases hb;rw[hp] at hq;cases hq;exact .inl rfl);obtain ⟨x',hx',rfl,rfl⟩:=zdC ha;obtain ⟨y',hy',hyk,rfl⟩:=zdC hb;rw[h1] at hx';cases hx';rw[h2] at hy';cases hy';obtain ⟨r,ht,hr⟩:=relPart hG h1 hp;obtain ⟨r',ht',hr'⟩:=relPart hG h2 hq;exact .inr ⟨r,r',hr,hr',(zgw hc (by rw[hyk];exact hc) h3).2.2 j _ _ ht ht'⟩
theorem zdI {θ:Int->Ty} (ho:OkE l) (hθ:za0 θ l):¬Clashes l:=by
 (obtain ⟨⟨G,hG⟩,_⟩:=zdb l fun x hx=>ho x hx);rintro ⟨i,j,hc,k,d,ps,qs,hi,hj,h1,h2,h3⟩;obtain ⟨x,hx,rfl,rfl⟩:=zdC hi;obtain ⟨y,hy,rfl,rfl⟩:=zdC hj
 have len:∀{u:Nat} {z:RNode},(eqF l).1[u]?=some z->z.parts.length=z.t.ps.length:=fun {u z} hz=>by
  have hu:=(zb.1 hz).1;exact (hG.node u _ _ (za (by rw[hG.len];exact hu)) hz).2.2.2.2.2.2.1
 rcases Cl.least (zgu ho hθ) hc with rfl | ⟨x',y',e1,e2,e3⟩
 ·rw[hx] at hy;cases hy
  rcases h3 with h3 | h3 <;> exact h3 rfl
 rw[hx] at e1;cases e1;rw[hy] at e2;cases e2;obtain ⟨g1,g2,_⟩:=zgw h1 h2 e3;(rcases h3 with h3 | h3);(·exact h3 g1);exact h3 (by rw[len hx,len hy];exact g2)
theorem PSt.cl_sub (h:PSt l M c S) {θ:Int->Ty} (hθ:za0 θ l) {i j:Nat} {x y:RNode} (hx:M[i]?=some x) (hy:M[j]?=some y) (he:zaV S i=zaV S j):x.t.subF θ=y.t.subF θ:=by
 have hi:=(zb.1 hx).1;have hj:=(zb.1 hy).1;have hri:=h.rt hi;have hrj:=h.rt hj;rw[<- he] at hrj;have hcl:=(zbH h.h hri).1 hrj;have hm:=h.m;subst hm;(rcases Cl.least (zgu h.hc.ok hθ) hcl with rfl | ⟨x',y',e1,e2,e3⟩);(·rw[hx] at hy;cases hy;rfl);rw[hx] at e1;cases e1;rw[hy] at e2;cases e2;exact e3
theorem PSt.cls (h:PSt l M c S) {i r:Nat} (hr:Rt S.F.up i r):(zbz S r=0/\zaG S r=[]/\∀(k:Nat) (y:RNode),M[k]?=some y->Rt S.F.up k r->y.t.k=1) \/
  ∃(k:Nat) (y:RNode),M[k]?=some y/\y.t.k≠1/\Rt S.F.up k r:=by
 have hm:=h.m;subst hm;have hW:=h.h.2.w;obtain ⟨x,hx⟩:=hW.c.wat hr;rcases Int.lt_or_le x 0 with hx0 | hx0
 ·refine .inl ⟨by unfold zbz;rw[hx];simp only[if_pos hx0],zdM ⟨x,hx,.inl ⟨hx0,rfl⟩⟩,fun k y hy hk=>?_⟩
  exact hW.neg r k x _ _ hx hx0 hk (by rw[h.h.2.rel.sh];exact zdg hy)
 obtain ⟨hxr,d,ps,hsx,hd,_⟩:=hW.pos r x (zb6.1 hr.root) hx hx0;rw[h.h.2.rel.sh] at hsx;obtain ⟨y,hy,rfl,_⟩:=zdC hsx;exact .inr ⟨x.toNat,y,hy,hd,hxr⟩
theorem PSt.kind_node (h:PSt l M c S) {k r:Nat} {y:RNode} (hy:M[k]?=some y) (hk:y.t.k≠1) (hr:Rt S.F.up k r):zbz S r=y.t.k:=by
 have hm:=h.m;subst hm;have hW:=h.h.2.w;obtain ⟨x,hx⟩:=hW.c.wat hr;(have hsk:shG S.G k=some (y.t.k,y.parts):=by rw[h.h.2.rel.sh];exact zdg hy);(have hx0:¬x<0:=fun h1=>hk (hW.neg r k x _ _ hx h1 hr hsk));obtain ⟨_,d,ps,hsx,hd,hall⟩:=hW.pos r x (zb6.1 hr.root) hx tz1;obtain ⟨g,hg,hgk,_⟩:=shG_at hsx;obtain ⟨e1,_,_⟩:=hall k _ _ hr hsk hk;unfold zbz;rw[hx];simp only[if_neg hx0,hg,zY,Option.getD_some];rw[hgk,e1]
theorem PSt.kind_ne (h:PSt l M c S) {k r:Nat} {y:RNode} (hy:M[k]?=some y) (hk:y.t.k≠1) (hr:Rt S.F.up k r):zbz S r≠0:=by
 rw[h.kind_node hy hk hr];have:=zje (h.rightN hy).1;omega
theorem PSt.least_var (h:PSt l M c S) {i r:Nat} {x:RNode} (hx:M[i]?=some x) (hr:Rt S.F.up i r) (hk:x.t.k=1):∃(j:Nat) (z:RNode),M[j]?=some z/\z.t=vTy (za5 S r (vsS S))/\Rt S.F.up j r/\za5 S r (vsS S)∈vsS S /\
  ∀(v i':Int),v∈vsS S->zav S.G.V v=some i'->Rt S.F.up i'.toNat r->za5 S r (vsS S)<=v:=by
 have hxv:=h.var_node hx hk;(have hin:∀{v i':Int},zav S.G.V v=some i'->v∈vsS S:=fun hv=>(List.mergeSort_perm _ _).mem_iff.2 (zq.2 ⟨_,zbY hv,rfl⟩));have hrt:rtB S r x.t.n=true:=zdc.2 ⟨_,hxv.2,by rw[zI];exact hr⟩;unfold za5
 cases hf:(vsS S).find? (rtB S r) with
 | none =>
  have:=List.find?_eq_none.1 hf _ (hin hxv.2);rw[hrt] at this
  exact absurd rfl this
 | some u =>
  simp only[Option.getD_some];have hu:=List.find?_some hf;have huL:=List.mem_of_find?_eq_some hf;obtain ⟨i',hi',hr'⟩:=zdc.1 hu;obtain ⟨q,h1,h2,h3⟩:=h.var_at (a:=u) (by rw[<- h.sort];exact huL);rw[hi'] at h3;cases h3;rw[zI] at hr';have hz:M[q]?=some (M[q]'h2):=za h2
  have h4:(M[q]'h2).t=vTy u:=by
   obtain ⟨z,hz2,hg⟩:=zdW (g:=RNode.isVar u) (l:=M) tz1;rw[h1,zI,hz] at hz2;(cases hz2);simp only[RNode.isVar,zw,beq_iff_eq] at hg;have:=Ty.right_var (h.rightN hz).1 hg.1;rw[hg.2] at this;exact this
  refine ⟨q,_,hz,h4,hr',huL,fun v i2 hv hvi hvr=>?_⟩;obtain ⟨_,a,b,e3,e4⟩:=List.find?_eq_some_iff_append.1 hf
  have hs:(vsS S).Pairwise (·<=·):=by
   (have tr:∀a b c:Int,decide (a<=b)=true->decide (b<=c)=true->decide (a<=c)=true:=fun a b c h1 h2=>by simp only[zd] at *;omega);(have to:∀a b:Int,(decide (a<=b)||decide (b<=a))=true:=fun a b=>by simp only[Bool.or_eq_true,zd];omega);exact (List.pairwise_mergeSort (le:=fun x y:Int=>decide (x<=y)) tr to _).imp fun h=>by simpa using h
  rw[e3] at hv hs;rcases zE.1 hv with h8 | h8
  ·have h9:=e4 v h8
   rw[zdc.2 ⟨_,hvi,hvr⟩] at h9;cases h9
  (rcases zG.1 h8 with rfl | h8);(·exact Int.le_refl _);exact (List.pairwise_cons.1 (List.pairwise_append.1 hs).2.1).1 _ h8
theorem Wh.sub (h:PSt l M c S) {θ:Int->Ty} (hθ:za0 θ l) {r:Nat} {w:Ty} (hw:Wh S r w):∀(i:Nat) (x:RNode),M[i]?=some x->zaV S i=r->w.subF θ=x.t.subF θ:=by
 induction hw with
 | mk r f hf ih =>
  intro i x hx hr;have hi:=(zb.1 hx).1;have hrt:=h.rt hi;rw[hr] at hrt;rcases h.cls hrt with ⟨h1,h2,h3⟩ | ⟨k,y,hy,hk,hkr⟩
  ·obtain ⟨j,z,hz,hzt,hjr,_⟩:=h.least_var hx hrt (h3 i x hx hrt)
   unfold whT;rw[if_pos h1,<- hzt];exact h.cl_sub hθ hz hx (by rw[zbi hjr,hr])
  have hkind:=h.kind_node hy hk hkr;have hne:=h.kind_ne hy hk hkr;have hkids:=h.kids_node hy hk hkr;have hr9:=h.rightN hy;unfold whT;rw[if_neg hne,hkind,Ty.subF_more (by exact hk),<- h.cl_sub hθ hy hx (by rw[zbi hkr,hr]),Ty.subF_more hk,Ty.right_n hr9.1 hk];simp only[Ty.k_mk,Ty.n_mk,Ty.ps_mk];(congr 1);refine List.ext_getElem? fun j=>?_;rw[hkids];simp only[List.map_map,zO]
  cases hp:y.parts[j]? with
  | none =>
   have h5:y.t.ps[j]?=none:=by
    rw[List.getElem?_eq_none_iff] at hp ⊢;omega
   rw[h5];rfl
  | some p =>
   obtain ⟨q,hq1,hq2,_⟩:=h.partT hy hp;rw[hq1];simp only[zY,Function.comp,Option.some.injEq];exact ih (zaV S p.toNat) (by rw[hkids];exact zq.2 ⟨p.toNat,zq.2 ⟨p,zc hp,rfl⟩,rfl⟩) p.toNat q hq2 rfl
theorem PSt.wh (h:PSt l M c S) (hno:∀y,¬Pls (zaG S) y y) {r:Nat} (hr:r<S.F.up.length):∃t,Wh S r t:=by
 obtain ⟨a,ha⟩:=Tl.all (K:=zaG S) (N:=S.F.up.length) (fun _ _ _ hj=>kids_lt hj) (fun y _=>hno y) hr;exact Wh.of_tl ha
theorem PSt.wF_var (h:PSt l M c S) {j:Nat} {z:RNode} (hz:M[j]?=some z) (hk:z.t.k=1):wF S z.t.n=wOf S (zaV S j):=by
 unfold wF;rw[(h.var_node hz hk).2];simp only[zI]
theorem PSt.wF_node (h:PSt l M c S) (hno:∀y,¬Pls (zaG S) y y):∀(i:Nat) (x:RNode),M[i]?=some x->x.t.subF (wF S)=wOf S (zaV S i):=by
 intro i
 induction i using Nat.strongRecOn with
 | ind i ih =>
 intro x hx;have hi:=(zb.1 hx).1;have hrt:=h.rt hi
 by_cases hk:x.t.k=1
 ·rw[Ty.subF_var hk]
  exact h.wF_var hx hk
 obtain ⟨t,ht⟩:=h.wh hno hrt.lt;rw[zdp ht,whT,if_neg (h.kind_ne hx hk hrt),h.kind_node hx hk hrt,Ty.subF_more hk,Ty.right_n (h.rightN hx).1 hk,h.kids_node hx hk hrt];(congr 1);refine List.ext_getElem? fun j=>?_;simp only[List.map_map,zO]
 cases hp:x.parts[j]? with
 | none =>
  have h5:x.t.ps[j]?=none:=by
   have:=(h.rightN hx).2;rw[List.getElem?_eq_none_iff] at hp ⊢;omega
  rw[h5];rfl
 | some p =>
  obtain ⟨q,hq1,hq2,_⟩:=h.partT hx hp;have hlt:=(h.parts hx).2 p (zc hp);rw[hq1];simp only[zY,Function.comp,Option.some.injEq];exact ih p.toNat tz1 q hq2
theorem PSt.wF_solves (h:PSt l M c S) (hno:∀y,¬Pls (zaG S) y y):za0 (wF S) l:=fun e he=>by
 obtain ⟨a,b,ha,hb,hcl⟩:=zhz _ h.hc.ok _ he;rw[<- h.m] at ha hb;obtain ⟨x,hx,ex⟩:=Option.map_eq_some_iff.1 ha;obtain ⟨z,hz,ez⟩:=Option.map_eq_some_iff.1 hb;rw[<- ex,<- ez,h.wF_node hno a x hx,h.wF_node hno b z hz];have hra:=h.rt (zb.1 hx).1;rw[zbi ((zbH h.h hra).2 hcl)]
theorem PSt.wF_mg (h:PSt l M c S) (hno:∀y,¬Pls (zaG S) y y):MG l (wF S):=by
 refine ⟨h.wF_solves hno,fun θ hθ v=>?_⟩;unfold wF
 cases hv:zav S.G.V v with
 | none=>simp only;rw[Ty.subF_var rfl];rfl
 | some i =>
  (simp only);have hin:=h.h.2.vin v i hv;(have hil:i.toNat<M.length:=by have:=h.nl;omega);obtain ⟨x,hx⟩:∃x,M[i.toNat]?=some x:=⟨_,za hil⟩;obtain ⟨t,ht⟩:=h.wh hno (h.rt hil).lt;rw[zcY ht,ht.sub h hθ _ x hx rfl];obtain ⟨q,h1,h2,h3⟩:=h.var_at (a:=v) (by rw[<- h.sort];exact (List.mergeSort_perm _ _).mem_iff.2 (zq.2 ⟨_,zbY hv,rfl⟩));rw[hv] at h3;cases h3;rw[zI] at hx;obtain ⟨z,hz2,hg⟩:=zdW (g:=RNode.isVar v) (l:=M) tz1;rw[h1,zI,hx] at hz2;(cases hz2);simp only[RNode.isVar,zw,beq_iff_eq] at hg;rw[Ty.subF_var hg.1,hg.2]
theorem Wh.occ (h:PSt l M c S) {r:Nat} {w:Ty} (hw:Wh S r w):∀(i:Nat),i<M.length->zaV S i=r->w.right=true/\∀u,w.occ u->u∈vsS S/\wF S u=vTy u:=by
 induction hw with
 | mk r f hf ih =>
  intro i hi hr;obtain ⟨x,hx⟩:∃x,M[i]?=some x:=⟨_,za hi⟩;have hrt:=h.rt hi;rw[hr] at hrt;rcases h.cls hrt with ⟨h1,h2,h3⟩ | ⟨k,y,hy,hk,hkr⟩
  ·obtain ⟨j,z,hz,hzt,hjr,huL,_⟩:=h.least_var hx hrt (h3 i x hx hrt)
   have hwh:=Wh.mk r f hf;(have e1:whT S r ((zaG S r).map f)=vTy (za5 S r (vsS S)):=by unfold whT;rw[if_pos h1]);rw[e1] at hwh ⊢;refine ⟨by rw[<- hzt];exact (h.rightN hz).1,fun u hu=>?_⟩;obtain rfl:=Ty.occ_vTy.1 hu;refine ⟨huL,?_⟩;have h4:=h.wF_var hz (by rw[hzt];rfl);rw[zbi hjr,zcY hwh,hzt] at h4;exact h4
  have hkind:=h.kind_node hy hk hkr;have hne:=h.kind_ne hy hk hkr;have hkids:=h.kids_node hy hk hkr;have hr9:=h.rightN hy;have hpp:=h.parts hy;have hyl:=(zb.1 hy).1
  have hall:∀v∈zaG S r,(f v).right=true/\∀u,(f v).occ u->u∈vsS S/\wF S u=vTy u:=fun v hv=>by
   have hv0:=hv;rw[hkids] at hv;obtain ⟨p',hp',rfl⟩:=zq.1 hv;obtain ⟨p,hp,rfl⟩:=zq.1 hp';have:=hpp.2 p hp;exact ih _ hv0 p.toNat tz1 rfl
  unfold whT;rw[if_neg hne,hkind];constructor
  ·rw[Ty.right_eq,zw]
   refine ⟨?_,?_⟩
   ·have h5:=hr9.1
    rw[Ty.right_eq,zw,Ty.right_n hr9.1 hk] at h5;(have e:((zaG S r).map f).length=y.t.ps.length:=by rw[hkids];simp[hr9.2]);simp only[Ty.k_mk,Ty.n_mk,Ty.ps_mk,e];exact h5.1
   refine zP.2 fun q hq=>?_;obtain ⟨v,hv,rfl⟩:=zq.1 hq;exact (hall v hv).1
  intro u hu;(rcases (Ty.occ_iff _ _).1 hu with ⟨h5,_⟩ | ⟨q,hq,hqu⟩);(·exact absurd h5 hk);obtain ⟨v,hv,rfl⟩:=zq.1 hq;exact (hall v hv).2 u hqu
theorem PSt.wF_norm (h:PSt l M c S) (hno:∀y,¬Pls (zaG S) y y):Norm (vsS S) (wF S):=by
 have hat:∀v∈vsS S,∃(q:Nat) (t:Ty),zav S.G.V v=some (q:Int)/\q<M.length/\Wh S (zaV S q) t/\wF S v=t:=fun v hv=>by
  obtain ⟨q,h1,h2,h3⟩:=h.var_at (a:=v) (by rw[<- h.sort];exact hv);obtain ⟨t,ht⟩:=h.wh hno (h.rt h2).lt;refine ⟨q,t,h3,h2,ht,?_⟩;unfold wF;rw[h3];simp only[zI];exact zcY ht
 refine ⟨fun v hv=>?_,fun v hv=>?_,fun v hv u hu=>?_,fun v hv u hu=>?_⟩
 ·obtain ⟨q,t,_,hq,ht,e⟩:=hat v hv
  rw[e];exact (ht.occ h q hq rfl).1
 ·unfold wF
  cases hf:zav S.G.V v with
  | none=>rfl
  | some i=>exact absurd ((List.mergeSort_perm _ _).mem_iff.2 (zq.2 ⟨_,zbY hf,rfl⟩)) hv
 ·obtain ⟨q,t,_,hq,ht,e⟩:=hat v hv
  rw[e] at hu;exact (ht.occ h q hq rfl).2 u hu
 obtain ⟨q,t,hvf,hq,ht,e⟩:=hat v hv;obtain ⟨x,hx⟩:∃x,M[q]?=some x:=⟨_,za hq⟩;have hrt:=h.rt hq;rw[hu] at e;subst e;rcases h.cls hrt with ⟨h1,h2,h3⟩ | ⟨k,y,hy,hk,hkr⟩
 ·obtain ⟨j,z,hz,hzt,hjr,huL,hle⟩:=h.least_var hx hrt (h3 q x hx hrt)
  have h4:=zdp ht;rw[zcY ht,whT,if_pos h1] at h4
  have:u=za5 S (zaV S q) (vsS S):=by
   have:=congrArg Ty.n h4;exact this
  rw[this];exact hle v q hv hvf (by rw[zI];exact hrt)
 have h4:=zdp ht;rw[zcY ht,whT,if_neg (h.kind_ne hy hk hkr),h.kind_node hy hk hkr] at h4;have:=congrArg Ty.k h4;exact absurd this.symm hk
theorem PSt.solves_noLoop (h:PSt l M c S) {θ:Int->Ty} (hθ:za0 θ l) (y:Nat):¬Pls (zaG S) y y:=by
 have key:∀{u v:Nat} {a b:RNode},Rt S.F.up u u->M[u]?=some a->M[v]?=some b->v∈zaG S u->(b.t.subF θ).cnt<(a.t.subF θ).cnt:=fun {u v a b} hu ha hb hv=>by
  (rcases h.cls hu with ⟨_,h2,_⟩ | ⟨k,z,hz,hk,hkr⟩);(·rw[h2] at hv;cases hv);rw[h.kids_node hz hk hkr] at hv;obtain ⟨p',hp',rfl⟩:=zq.1 hv;obtain ⟨p,hp,rfl⟩:=zq.1 hp';obtain ⟨j,hj,ej⟩:=zU.1 hp;obtain ⟨q,hq1,hq2,hq3⟩:=h.partT hz (by rw[za hj,ej]);have hpl:=(zb.1 hq2).1;rw[h.cl_sub hθ ha hz (by rw[zbi hu,zbi hkr]),h.cl_sub hθ hb hq2 (zbi (zb6.1 (h.rt hpl).root)),Ty.subF_more hk];exact Ty.cnt_lt (zq.2 ⟨q.t,hq3,rfl⟩)
 have hat:∀{u:Nat},Rt S.F.up u u->∃a,M[u]?=some a:=fun hu=>⟨_,za (by rw[<- h.nl];exact hu.lt)⟩
 have hrch:∀{u w:Nat},Rch (zaG S) u w->Rt S.F.up u u->∀a b,M[u]?=some a->M[w]?=some b->(b.t.subF θ).cnt<=(a.t.subF θ).cnt:=fun hr=>by
  induction hr with
  | refl _=>intro _ a b ha hb;rw[ha] at hb;cases hb;exact zV _
  | @step u v w hv _ ih =>
   intro hu a b ha hb;have hvr:=zch u v hv;obtain ⟨d,hd⟩:=hat hvr;have h1:=key hu ha hd hv;have h2:=ih hvr d b hd hb;omega
 intro hp;have hy:=hp.root;obtain ⟨a,ha⟩:=hat hy;obtain ⟨v,hv,hr⟩:=hp;have hvr:=zch y v hv;obtain ⟨d,hd⟩:=hat hvr;have h1:=key hy ha hd hv;have h2:=hrch hr hvr d a hd ha;omega
end
theorem OkE.rightE {l:List (Ty×Ty)} (h:OkE l):zfu l:=fun e he=>⟨(h e he).1,(h e he).2.1⟩
theorem OccE.part {l:List (Ty×Ty)}:∀t:Ty,(∀v,t.occ v->OccE l v)->∀p∈t.ps,∀v,p.occ v->OccE l v:=fun t h p hp v hv=>h v ((Ty.occ_iff _ _).2 (.inr ⟨p,hp,hv⟩))
theorem vns_occ {l:List (Ty×Ty)} (ho:OkE l) (v:Int):v∈vns (eqF l).1↔OccE l v:=by
 constructor
 ·intro h
  obtain ⟨i,r,hr,hk,rfl⟩:=zeN.1 h;have:=eqF_types (P:=fun t=>∀v,t.occ v->OccE l v) (fun t h p hp=>OccE.part t h p hp) l ho (fun e he=>⟨fun v hv=>⟨e,he,.inl hv⟩,fun v hv=>⟨e,he,.inr hv⟩⟩) r (zc hr);exact this _ ((Ty.occ_iff _ _).2 (.inl ⟨hk,rfl⟩))
 rintro ⟨e,he,hv⟩;obtain ⟨⟨G,hG⟩,_⟩:=zdb l fun x hx=>ho x hx
 have down:∀(i:Nat) (r:RNode),(eqF l).1[i]?=some r->r.t.occ v->v∈vns (eqF l).1:=by
  intro i
  induction i using Nat.strongRecOn with
  | ind i ih =>
  intro r hr hv;(rcases (Ty.occ_iff _ _).1 hv with ⟨hk,rfl⟩ | ⟨p,hp,hpv⟩);(·exact zeN.2 ⟨i,r,hr,hk,rfl⟩);have hu:=(zb.1 hr).1;obtain ⟨_,_,_,_,_,_,f7,f8⟩:=hG.node i _ _ (za (by rw[hG.len];exact hu)) hr;obtain ⟨j,hj⟩:=List.mem_iff_getElem?.1 hp;have hjl:=(zb.1 hj).1;obtain ⟨h1,h2,h3⟩:=f8 j (r.parts[j]'tz1) p (za tz1) hj;obtain ⟨q,hq,eq⟩:=Option.map_eq_some_iff.1 h3;exact ih _ tz1 q hq (by rw[eq];exact hpv)
 obtain ⟨a,b,ha,hb,_⟩:=zhz l ho e he;obtain ⟨x,hx,ex⟩:=Option.map_eq_some_iff.1 ha;obtain ⟨z,hz,ez⟩:=Option.map_eq_some_iff.1 hb;(rcases hv with hv | hv);(·exact down a x hx (by rw[ex];exact hv));exact down b z hz (by rw[ez];exact hv)
theorem ziB {a:List Int} (h:a.Nodup):(zb7 a).Pairwise (· < ·):=by
 (have tr:∀a b c:Int,decide (a<=b)=true->decide (b<=c)=true->decide (a<=c)=true:=fun a b c h1 h2=>by simp only[zd] at *;omega);(have to:∀a b:Int,(decide (a<=b)||decide (b<=a))=true:=fun a b=>by simp only[Bool.or_eq_true,zd];omega);have h1:=(List.pairwise_mergeSort (le:=fun x y:Int=>decide (x<=y)) tr to a);have h2:(zb7 a).Nodup:=(List.mergeSort_perm _ _).nodup_iff.2 h;exact h1.imp₂ (fun x y hx hy=>by simp only[zd] at hx;have:x≠y:=hy;omega) h2
theorem ziq:∀{a b:List Int},a.Pairwise (· < ·)->b.Pairwise (· < ·)->(∀v,v∈a↔v∈b)->a=b
 | [],[],_,_,_=>rfl
 | [],y::b,_,_,h=>by have:=(h y).2 tz4;cases this
 | x::a,[],_,_,h=>by have:=(h x).1 tz4;cases this
 | x::a,y::b,ha,hb,h=>by
  obtain ⟨h1,h2⟩:=List.pairwise_cons.1 ha;obtain ⟨h3,h4⟩:=List.pairwise_cons.1 hb
  have e:x=y:=by
   (rcases zG.1 ((h x).1 tz4) with e | e);(·exact e);(rcases zG.1 ((h y).2 tz4) with e2 | e2);(·exact e2.symm);have:=h3 x e;have:=h1 y e2;omega
  subst e;(congr 1);refine ziq h2 h4 fun v=>⟨fun hv=>?_,fun hv=>?_⟩
  ·rcases zG.1 ((h v).1 (by simp[hv])) with e | e
   (·subst e;exact absurd (h1 v hv) tz1);exact e
  (rcases zG.1 ((h v).2 (by simp[hv])) with e | e);(·subst e;exact absurd (h3 v hv) tz1);exact e
section
variable {l:List (Ty×Ty)} {M:List RNode} {c:List Int} {S:CS}
theorem PSt.vs_mem (h:PSt l M c S) (v:Int):v∈vsS S↔OccE l v:=by
 (have e:S.G.V.map Prod.fst=vns (eqF l).1:=by rw[h.keys,h.m]);rw[<- vns_occ h.hc.ok v,<- e];exact (List.mergeSort_perm _ _).mem_iff
theorem PSt.vs_strict (h:PSt l M c S):(vsS S).Pairwise (· < ·):=by
 (have e:S.G.V.map Prod.fst=vns (eqF l).1:=by rw[h.keys,h.m]);unfold vsS;rw[e];exact ziB (zdi (zek l h.hc.ok))
end
def zck (L:List Int) (σ:Int->Ty):List Bd:=(L.filter fun v=>!(σ v).same (vTy v)).map fun v=>⟨v,σ v⟩
theorem zlr (L:List Int) (σ:Int->Ty):(zck L σ).length<=L.length:=by
 unfold zck;rw[zC];exact List.length_filter_le _ _
theorem zhk (L:List Int) (σ:Int->Ty):(zck L σ).map Bd.v=L.filter fun v=>!(σ v).same (vTy v):=by
 unfold zck;rw[List.map_map];exact (List.map_congr_left fun v _=>rfl).trans (List.map_id _)
theorem ze7 {L:List Int} (h:L.Pairwise (· < ·)):L.Nodup:=h.imp fun hlt e=>by omega
theorem zeX {L:List Int} {σ:Int->Ty} (h:L.Pairwise (· < ·)):((zck L σ).map Bd.v).Nodup:=by
 rw[zhk];exact (ze7 h).filter _
theorem zlR {L:List Int} {σ:Int->Ty} (h:L.Pairwise (· < ·)) (hout:∀v,v∉L->σ v=vTy v):zgi (zck L σ)=σ:=by
 funext v
 by_cases hv:v∈(zck L σ).map Bd.v
 ·obtain ⟨b,hb,rfl⟩:=zq.1 hv
  rw[zja (zeX h) hb];obtain ⟨u,_,rfl⟩:=zq.1 hb;rfl
 rw[zhj hv]
 by_cases hL:v∈L
 ·have h1:(σ v).same (vTy v)=true:=by
   cases hs:(σ v).same (vTy v) with
   | true=>rfl
   | false=>exact absurd (by rw[zhk];exact List.mem_filter.2 ⟨hL,by rw[hs];rfl⟩) hv
  exact ((Ty.same_iff _ _).1 h1).symm
 exact (hout v hL).symm
def eqsB (o:List Bd):List (Ty×Ty):=o.map fun b=>(vTy b.v,b.t)
inductive Hv (D:Nat->List Nat):Nat->Nat->Prop
 | mk (u:Nat) (f:Nat->Nat) (h:∀v∈D u,Hv D v (f v)):Hv D u (1+((D u).map f).sum)
theorem zhl:∀ts:List Ty,Ty.cntL ts=(ts.map Ty.cnt).sum
 | []=>rfl
 | t::ts=>by simp only[Ty.cntL,zy,List.sum_cons,zhl ts]
section
variable {l:List (Ty×Ty)} {M:List RNode} {c:List Int} {S:CS}
theorem PSt.hv_of (h:PSt l M c S) {r:Nat} {t:Ty} (hw:Wh S r t):∀i,i<M.length->zaV S i=r->Hv (zbe M c) i t.cnt:=by
 induction hw with
 | mk r f hf ih =>
  intro i hi hr;have hrt:=h.rt hi;have hkn:=h.kids_next hi hrt;rw[hr] at hrt hkn;have hlt:=h.way.lt i hi;rcases h.cls hrt with ⟨h1,h2,_⟩ | ⟨k,y,hy,hk,hkr⟩
  ·rw[h2] at hkn
   have hnil:zbe M c i=[]:=by
    have:=congrArg List.length hkn;(simp at this);exact List.length_eq_zero_iff.1 this.symm
   have e:(whT S r ((zaG S r).map f)).cnt=1+((zbe M c i).map fun _=>0).sum:=by
    unfold whT;rw[if_pos h1,hnil];simp[Ty.cnt,Ty.cntL]
   rw[e];exact .mk i _ fun v hv=>by rw[hnil] at hv;cases hv
  have e:(whT S r ((zaG S r).map f)).cnt=1+((zbe M c i).map fun v=>(f (zaV S v)).cnt).sum:=by
   unfold whT;rw[if_neg (h.kind_ne hy hk hkr),Ty.cnt_eq];simp only[Ty.ps_mk];rw[zhl,hkn];simp only[List.map_map];rfl
  rw[e];refine .mk i _ fun v hv=>?_;exact ih (zaV S v) (by rw[hkn];exact zq.2 ⟨v,hv,rfl⟩) v (hlt v hv) rfl
theorem PSt.hv (h:PSt l M c S) (hno:∀y,¬Pls (zaG S) y y) {i:Nat} (hi:i<M.length):Hv (zbe M c) i (wOf S (zaV S i)).cnt:=by
 obtain ⟨t,ht⟩:=h.wh hno (h.rt hi).lt;rw[zcY ht];exact h.hv_of ht i hi rfl
end
theorem zkz {f:Nat->Int×Int} {g:Nat->Nat}:∀(ch:List Nat) (b:Int×Int) (m:Nat),(∀v∈ch,(f v).2=min most (g v:Int))->b.2=min most (m:Int)->(ch.foldl (fun a p=>(max a.1 (f p).1,min most (a.2+(f p).2))) b).2=min most ((m+(ch.map g).sum:Nat):Int)
 | [],b,m,_,hb=>by simpa using hb
 | v::ch,b,m,h,hb=>by
  rw[List.foldl_cons,zkz (g:=g) ch _ (m+g v) (fun u hu=>h u (by simp[hu])) ?_]
  ·simp only[zy,List.sum_cons]
   (congr 2);omega
  have:=h v tz4;simp only[most] at *;omega
theorem Wh.size {S:CS} {r:Nat} {t:Ty} (hk:∀r,zbz S r=0->zaG S r=[]) (h:Wh S r t):∀{a:Int×Int},Tl (zaG S) r a->a.2=min most (t.cnt:Int):=by
 induction h with
 | mk r f hf ih =>
  intro a ha
  cases ha with
  | mk _ g hg =>
   have hs:∀v∈zaG S r,(g v).2=min most ((f v).cnt:Int):=fun v hv=>ih v hv (hg v hv)
   have e:(tell g (zaG S r)).2=min most ((1+((zaG S r).map fun v=>(f v).cnt).sum:Nat):Int):=by
    unfold tell;exact zkz (zaG S r) (0,1) 1 hs (by simp only[most];omega)
   rw[e];(congr 2);unfold whT
   by_cases h0:zbz S r=0
   ·rw[if_pos h0,hk r h0]
    simp[Ty.cnt,Ty.cntL]
   rw[if_neg h0,Ty.cnt_eq];simp only[Ty.ps_mk];rw[zhl,List.map_map];rfl
theorem PSt.kids_zero {l:List (Ty×Ty)} {M:List RNode} {c:List Int} {S:CS} (h:PSt l M c S) (r:Nat) (h0:zbz S r=0):zaG S r=[]:=by
 classical
 unfold zbz at h0;unfold zaG;split
 ·rename_i he
  obtain ⟨x,hx,hR⟩:=Classical.choose_spec he;rw[hx] at h0;(simp only at h0);(rcases hR with ⟨_,h2⟩ | ⟨h1,g,hg,_⟩);(·exact h2);exfalso;rw[if_neg tz1,hg] at h0;simp only[zY,Option.getD_some] at h0;have hm:=h.m;subst hm;have hgl:=(zb.1 hg).1;have hy:(eqF l).1[x.toNat]?=some ((eqF l).1[x.toNat]'(by rw[<- h.h.2.rel.len];exact hgl)):=za _;obtain ⟨f1,_,_,_,_,f6,_⟩:=h.h.2.rel.node x.toNat _ _ hg hy;have:=zje f6;omega
 rfl
theorem PSt.size {l:List (Ty×Ty)} {M:List RNode} {c:List Int} {S:CS} (h:PSt l M c S) (hno:∀y,¬Pls (zaG S) y y) {i:Nat} (hi:i<M.length) {a:Int×Int} (ha:Tl (zaG S) (zaV S i) a):a.2=min most ((wOf S (zaV S i)).cnt:Int):=by
 obtain ⟨t,ht⟩:=h.wh hno (h.rt hi).lt;rw[zcY ht];exact ht.size h.kids_zero ha
def SolR (l:List (Ty×Ty)) (r:List Bd×Int):Prop :=
 (¬zfu l/\r=([],1))\/(zfu l/\Clashes l/\r=([],7))\/(zfu l/\¬Clashes l/\(∀θ,¬za0 θ l)/\r=([],8)) \/
 (zfu l/\∃(L:List Int) (σ:Int->Ty),L.Pairwise (· < ·)/\(∀v,v∈L↔OccE l v)/\Norm L σ/\MG l σ/\r=(zck L σ,0))
theorem SolR.yes {l:List (Ty×Ty)} {r:List Bd×Int} (h:SolR l r) (ho:OkE l) {θ:Int->Ty} (hθ:za0 θ l):∃(L:List Int) (σ:Int->Ty),L.Pairwise (· < ·)/\(∀v,v∈L↔OccE l v)/\Norm L σ/\MG l σ/\r=(zck L σ,0):=by
 (rcases h with ⟨h1,_⟩ | ⟨_,h1,_⟩ | ⟨_,_,h1,_⟩ | ⟨_,h1⟩);(·exact absurd ho.rightE h1);(·exact absurd h1 (zdI ho hθ));(·exact absurd hθ (h1 θ));exact h1
theorem SolR.most {l:List (Ty×Ty)} {r:List Bd×Int} (h:SolR l r) (ho:OkE l) {θ:Int->Ty} (hθ:za0 θ l):r.2=0/\∀v,(zgi r.1 v).subF θ=θ v:=by
 obtain ⟨L,σ,h1,h2,h3,h4,rfl⟩:=h.yes ho hθ;refine ⟨rfl,fun v=>?_⟩;(simp only);rw[zlR h1 h3.out];exact h4.most θ hθ v
def RightB (o:List Bd):Prop:=(o.map Bd.v).Nodup/\∀b∈o,(vTy b.v).right=true/\b.t.right=true
def SolvedB (o:List Bd):Prop:=∀b∈o,∀v,b.t.occ v->v∉o.map Bd.v
theorem SolR.right {l:List (Ty×Ty)} {r:List Bd×Int} (h:SolR l r) (h0:r.2=0):RightB r.1/\SolvedB r.1:=by
 (rcases h with ⟨_,rfl⟩ | ⟨_,_,rfl⟩ | ⟨_,_,_,rfl⟩ | ⟨hr,L,σ,h1,h2,h3,h4,rfl⟩);(·exact absurd h0 tz3);(·exact absurd h0 tz3);(·exact absurd h0 tz3);refine ⟨⟨zeX h1,fun b hb=>?_⟩,fun b hb v hv=>?_⟩
 ·obtain ⟨u,hu,rfl⟩:=zq.1 hb
  have huL:=(List.mem_filter.1 hu).1;refine ⟨?_,h3.right u huL⟩;obtain ⟨e,he,ho⟩:=(h2 u).1 huL;(rcases ho with ho | ho);(·exact Ty.var_right (hr e he).1 ho);exact Ty.var_right (hr e he).2 ho
 obtain ⟨u,hu,rfl⟩:=zq.1 hb;have huL:=(List.mem_filter.1 hu).1;obtain ⟨_,h5⟩:=h3.fix u huL v hv;rw[zhk,List.mem_filter];rintro ⟨_,h6⟩;rw[(Ty.same_iff _ _).2 h5] at h6;cases h6
section
variable {l:List (Ty×Ty)} {M:List RNode} {c:List Int} {S:CS}
theorem PSt.sol_cycle (h:PSt l M c S) {y:Nat} (hy:Pls (zaG S) y y):SolR l ([],8) :=
 .inr (.inr (.inl ⟨h.hc.ok.rightE,h.h.noClash,fun θ hθ=>h.solves_noLoop hθ y hy,rfl⟩))
theorem PSt.sol_yes (h:PSt l M c S) (hno:∀y,¬Pls (zaG S) y y):SolR l (zck (vsS S) (wF S),0) :=
 .inr (.inr (.inr ⟨h.hc.ok.rightE,vsS S,wF S,h.vs_strict,h.vs_mem,h.wF_norm hno,h.wF_mg hno,rfl⟩))
theorem PSt.wF_at (h:PSt l M c S) {v:Int} (hv:v∈vsS S):∃q:Nat,zbv (RNode.isVar v) M=(q:Int)/\q<M.length/\zav S.G.V v=some (q:Int)/\wF S v=wOf S (zaV S q):=by
 obtain ⟨q,h1,h2,h3⟩:=h.var_at (a:=v) (by rw[<- h.sort];exact hv);refine ⟨q,h1,h2,h3,?_⟩;unfold wF;rw[h3];simp only[zI]
theorem PSt.wF_same (h:PSt l M c S) (hno:∀y,¬Pls (zaG S) y y) {v:Int} {q:Nat} (hq:q<M.length) (hv:wF S v=wOf S (zaV S q)):(wF S v).same (vTy v)=(decide (zbz S (zaV S q)=0)&&decide (za5 S (zaV S q) (vsS S)=v)):=by
 obtain ⟨t,ht⟩:=h.wh hno (h.rt hq).lt;rw[hv,zdp ht];rw[zF,Ty.same_iff,zw,zd,zd];unfold whT
 by_cases h0:zbz S (zaV S q)=0
 ·rw[if_pos h0]
  constructor
  ·intro e
   exact ⟨h0,congrArg Ty.n e⟩
  rintro ⟨_,e⟩;rw[e]
 rw[if_neg h0];constructor
 ·intro e
  exfalso;have hk:=congrArg Ty.k e;simp only[Ty.k_mk] at hk;(rcases h.cls (h.rt hq) with ⟨h1,_⟩ | ⟨k,y,hy,hyk,hkr⟩);(·exact h0 h1);rw[h.kind_node hy hyk hkr] at hk;exact hyk hk
 rintro ⟨e,_⟩;exact absurd e h0
end
theorem zgB (es:List EqT) (h:zbw (es.map EqT.p)<=160):zbw ((zaC es).map EqT.p)<=160/\OkE ((zaC es).map EqT.p):=by
 have key:∀l:List EqT,zbw ((zaC l).map EqT.p)<=zbw (l.map EqT.p):=fun l=>by
  induction l with
  | nil=>simp[zaC]
  | cons e l ih =>
   unfold zaC at ih ⊢;rw[List.filter_cons];split;(·simp only[zy,zbw];omega);simp only[zy,zbw];omega
 have h1:=key es;refine ⟨by omega,fun e he=>?_⟩;have h2:=zeb he;obtain ⟨x,hx,rfl⟩:=zq.1 he;have h3:=(List.mem_filter.1 hx).2;simp only[EqT.ok,zw] at h3;exact ⟨h3.1,h3.2,by omega,by omega⟩
abbrev plE (es:List EqT) (k:Nat):List (Ty×Ty):=(zaC (es.take k)).map EqT.p
structure ClI (es:List EqT) (k:Nat) (S:CS) (sum was:Int):Prop where
 st:CSt (plE es k) S
 num:S.clash=false->sum=1+(zbw (plE es k):Int)/\was=S.steps
 low:S.clash=false->0<=S.steps/\S.steps+9 * (za8 S.F.up:Int)<=10 * (S.G.N.length:Int)+(k:Int)
structure EqI (l:List (Ty×Ty)) (S:CS):Prop where
 st:CSt l S
 cl:S.clash=false
 low:0<=S.steps/\S.steps+9 * (za8 S.F.up:Int)<=10 * (S.G.N.length:Int)+(l.length:Int)
theorem EqI.start:EqI [] CS0:=⟨CSt.none,rfl,by simp[CS0,za8]⟩
theorem EqI.step {l:List (Ty×Ty)} {S:CS} {e:Ty×Ty} {s:CS×Int} (h:EqI l S) (he:e.1.right=true/\e.2.right=true/\e.1.cnt<=400/\e.2.cnt<=400) (hl:zbw l<=1048576) (hll:l.length<=1048576)
  (hE:EqR S (zcf (eqF l).2) (eqF l).1 e.1 e.2 s) (hR:StepR S s.1) :
  CSt (l++[e]) s.1/\s.2=(if s.1.clash=true then 7 else 0)/\0<=s.1.steps/\s.1.steps<=10 * (zbw (l++[e]):Int)+(l.length:Int)+1/\(s.1.clash=false->EqI (l++[e]) s.1):=by
 have h1:=h.st.step he hE;obtain ⟨h4,h5⟩:=h.low;have hN:=h.st.len;have hN1:=h1.len;have hc:=h.cl
 have hst:S.steps<=s.1.steps/\s.1.steps+9 * (za8 s.1.F.up:Int)<=10 * (s.1.G.N.length:Int)+(l.length:Int)+1:=by
  (rcases hR with e1 | hR);(·rw[e1];omega);obtain ⟨a1,a2,a3⟩:=hR h4 tz1;omega
 have hr:s.2=(if s.1.clash=true then 7 else 0):=by
  (rcases hE with ⟨h2,_⟩ | ⟨_,h2,_⟩ | ⟨_,_,_,_,⟨a1,a2,_⟩ | ⟨a1,a2,_⟩⟩);(·rw[hc] at h2;cases h2);(·rw[he.1,he.2.1] at h2;cases h2);(·rw[a1,a2];rfl);rw[a1,a2];rfl
 refine ⟨h1,hr,by omega,by omega,fun hc1=>⟨h1,hc1,by omega,?_⟩⟩;have h9:=hst.2;simp only[zh,zB,zK];omega
def EqtR (l:List (Ty×Ty)) (s:CS×Int×Int):Prop :=
 ((s.2.1=7/\Clashes l)\/(s.2.1=8/\¬Clashes l/\∃(S:CS) (c:List Int) (y:Nat),PSt l (eqF l).1 c S/\Pls (zaG S) y y)\/(s.2.1=0/\CSt l s.1/\s.1.clash=false/\∃c,PSt l (eqF l).1 c s.1/\∀y,¬Pls (zaG s.1) y y)) /\
 (zbw l<=1048576->0<=s.2.2/\s.2.2<=22 * (zbw l:Int))
theorem EqtR.clash {l k:List (Ty×Ty)} {S:CS} {n:Int} (h:CSt l S) (hc:S.clash=true) (ho:OkE (l++k)) (hs:zbw l<=zbw (l++k)) (hn:0<=n/\n<=10 * (zbw l:Int)+(l.length:Int)) (hl:l.length<=zbw l) (T:CS):EqtR (l++k) (T,7,n) :=
 ⟨.inl ⟨rfl,(h.clash_iff.1 hc).more ho⟩,fun _=>by dsimp only;omega⟩
theorem EqtR.cycle {l:List (Ty×Ty)} {S:CS} {n:Int} (h:EqI l S) (hl:zbw l<=1048576) (hll:l.length<=zbw l) (hr:zgH S (false,n)) (T:CS):EqtR l (T,8,IntKind.i64.wrap (n+S.steps)):=by
 have hN:=h.st.len;obtain ⟨c,hp⟩:=h.st.pst h.cl tz1;obtain ⟨h1,h2,h3⟩:=hp.count hr;obtain ⟨h4,h5⟩:=h.low;have hm:=hp.gl;refine ⟨.inr (.inl ⟨rfl,fun hc=>?_,S,c,?_⟩),fun _=>?_⟩
 ·have:=h.st.clash_iff.2 hc
  rw[h.cl] at this;cases this
 ·rcases hr with ⟨h9,_⟩ | ⟨_,h9,_⟩
  (·rw[h.cl] at h9;cases h9);obtain ⟨y,_,hy⟩:=h9 rfl;exact ⟨y,hp,hy⟩
 dsimp only;rw[zal tz1 tz1];omega
theorem EqtR.good {l:List (Ty×Ty)} {S:CS} {n:Int} {F1:FS} (h:EqI l S) (hl:zbw l<=1048576) (hll:l.length<=zbw l) (hF:FSame S.F F1) (hr:zgH S (true,n)):EqtR l ({S with F:=F1},0,IntKind.i64.wrap (n+S.steps)):=by
 have hN:=h.st.len;obtain ⟨c,hp⟩:=h.st.pst h.cl tz1;obtain ⟨h1,h2,h3⟩:=hp.count hr;obtain ⟨h4,h5⟩:=h.low;have hm:=hp.gl;refine ⟨.inr (.inr ⟨rfl,h.st.fsame (S1:={S with F:=F1}) hF rfl,h.cl,c,hp.fsame hF,fun y=>?_⟩),fun _=>?_⟩
 ·rw[show zaG {S with F:=F1}=zaG S from funext fun z=>zbS hF z]
  (rcases hr with ⟨h9,_⟩ | ⟨_,_,h9,_⟩);(·rw[h.cl] at h9;cases h9);exact hp.no_loop (h9 rfl) y
 dsimp only;rw[zal tz1 tz1];omega
theorem EqtR.sol {l:List (Ty×Ty)} {s:CS×Int×Int} (h:EqtR l s) (ho:OkE l) (hne:s.2.1≠0):SolR l ([],s.2.1):=by
 (rcases h.1 with ⟨h1,h2⟩ | ⟨h1,_,S,c,y,h2,h3⟩ | ⟨h1,_⟩);(·rw[h1];exact .inr (.inl ⟨ho.rightE,h2,rfl⟩));(·rw[h1];exact h2.sol_cycle h3);exact absurd h1 hne
section
variable {S:CS} {F1:FS}
theorem whT_fsame (k:FSame S.F F1) (r:Nat) (ts:List Ty):whT {S with F:=F1} r ts=whT S r ts:=by
 (have h:rtB {S with F:=F1} r=rtB S r:=funext fun v=>zfU (S1:={S with F:=F1}) k rfl r v);unfold whT za5;rw[h];rfl
theorem ze2 (k:FSame S.F F1) (r:Nat) (L:List Int):za5 {S with F:=F1} r L=za5 S r L:=by
 (have h:rtB {S with F:=F1} r=rtB S r:=funext fun v=>zfU (S1:={S with F:=F1}) k rfl r v);unfold za5;rw[h]
theorem Wh.fsame (k:FSame S.F F1) {r:Nat} {t:Ty} (h:Wh S r t):Wh {S with F:=F1} r t:=by
 induction h with
 | mk r f hf ih =>
  have e:=zbS k r;rw[<- whT_fsame k,<- e];exact .mk r f fun v hv=>ih v (by rw[<- e];exact hv)
def KInv (S:CS) (K:List (Int×Ty)):Prop:=∀(k:Int) (t:Ty),zaH K k=some t->∃r:Nat,k=(r:Int)/\Wh S r t
theorem KInv.nil:KInv S []:=fun k t h=>by simp[zaH] at h
theorem KInv.set {K:List (Int×Ty)} (h:KInv S K) {r:Nat} {t:Ty} (ht:Wh S r t):KInv S (zeH K r t):=fun k u hk=>by
 rw[zg5] at hk;(split at hk);(·rename_i e;cases hk;exact ⟨r,e.symm,ht⟩);exact h k u hk
theorem KInv.at {K:List (Int×Ty)} (h:KInv S K) {r:Nat} {t u:Ty} (ht:Wh S r t) (hu:zaH K (r:Int)=some u):u=t:=by
 obtain ⟨q,e,hq⟩:=h _ _ hu;(obtain rfl:r=q:=by omega);exact hq.det ht
theorem whT_var {r:Nat} {ts:List Ty} (h:zbz S r=0):whT S r ts=vTy (za5 S r (vsS S)):=by unfold whT;rw[if_pos h]
theorem whT_node {r:Nat} {ts:List Ty} (h:zbz S r≠0):whT S r ts=.mk (zbz S r) 0 ts:=by unfold whT;rw[if_neg h]
theorem zhy {r:Nat} {x k:Int} (hx:S.W[r]?=some x) (hk:(x<0/\k=0)\/(0<=x/\∃g,S.G.N[x.toNat]?=some g/\k=g.k)):k=zbz S r:=by
 unfold zbz;rw[hx];dsimp only;(rcases hk with ⟨h1,rfl⟩ | ⟨h1,g,hg,rfl⟩);(·rw[if_pos h1]);rw[if_neg tz1,hg];rfl
end
end Go.Proofs.YtpfiliamceimmaaGreatDoor
namespace Go.Proofs.YtpfiliamceimmaaGreatDoor
open Go Go.RowKit
attribute [local irreducible] aops zaA
def Ty.big (t:Ty):Bool:=decide (t.room 100 30<0)
theorem Ty.big_cnt {t:Ty} (h:t.big=false):t.cnt<=100:=by
 simp only[Ty.big,ze] at h;have:=Ty.room_cnt t 100 30 tz1 tz1;omega
def bigE (e:Ty×Ty):Bool:=e.1.big||e.2.big
def zdE (l:List (Ty×Ty)):Bool:=(l.take 30).any bigE||decide (20<l.length)||decide (160<zbw (l.take 30))
theorem zcP {l:List (Ty×Ty)} {s:Nat} {e:Ty×Ty} (hp:l[s]?=some e) (hs:s<30) (h:bigE e=true):zdE l=true:=by
 have h1:(l.take 30).any bigE=true:=zce (i:=s) (p:=e) (by rw[List.getElem?_take,if_pos hs];exact hp) h;simp only[zdE,h1,Bool.true_or]
theorem zlU {l:List (Ty×Ty)} {s:Nat} (hs:¬(s<l.length/\s<30)) (h1:s<=l.length) (h2:s<=30) (h:∀(i:Nat) (p:Ty×Ty),i<s->l[i]?=some p->bigE p=false) :
  zdE l=(decide (20<l.length)||decide (160<zbw (l.take s))):=by
 have e:l.take 30=l.take s:=by
  rcases zD s 30 with h3 | h3
  ·have h4:s=l.length:=by omega
   subst h4;rw[zM,List.take_of_length_le tz1]
  rw[show s=30 by omega]
 have h0:(l.take s).any bigE=false:=zbZ fun i p hi hp=>by
  rw[List.getElem?_take] at hp;(split at hp);(·exact h i p (by assumption) hp);cases hp
 simp only[zdE,e,h0,Bool.false_or]
theorem zcO {l:List (Ty×Ty)} (h:zdE l=false):l.length<=20/\zbw l<=160:=by
 simp only[zdE,Bool.or_eq_false_iff,ze] at h;obtain ⟨⟨h1,h2⟩,h3⟩:=h;rw[List.take_of_length_le tz1] at h3;exact ⟨by omega,by omega⟩
theorem sumP_step {l:List (Ty×Ty)} {s:Nat} {e:Ty×Ty} (h:l[s]?=some e):zbw (l.take (s+1))=zbw (l.take s)+(e.1.cnt+e.2.cnt):=by
 rw[zR,h];exact zcC _ _
theorem zjI:∀(T:Ty) (n:Int) (d:Nat) (hn:0<=n) (hn2:n<=1099511627776) (hd:d<=1099511627776),APure Tryz.prog 84 [.agg T.cells,.v (.int .i64 n),.v (.int .i64 d)] (.v (.int .i64 (T.room n d))):=by
  refine Ty.ind fun T ih=>?_;intro n d hn hn2 hd;refine APure.mkL (.cons T.dataAgg (.cons (.v _) (.cons (.v _) .nil))) (.v _) ?_;refine aIn Tryz.func84 fun hm=>?_;simp only[Tryz.ntmps84,Tryz.results84,go_sem,seval];have hm1:=hm.wide (t:=T) tz4;have hw1:IntKind.i64.wrap (n-1)=n-1:=zal tz1 tz1;(iterate 2 (refine zZ fun _ u=>?_;apply z7;simp only[↓bO,go_sem,seval,hw1];apply u));refine zZ fun _ u=>?_;refine sqD ?_;apply z8 rfl <;> intro hb11
  ·
   (have hd0:d=0:=by simpa using hb11);refine sqD ?_;apply zaa;(try simp only[go_sem]);refine Le.of_eq (congrArg (fun n=>AV.v (.int .i64 n)) ?_);(first | (rw[hd0,Ty.room_zero];done) | skip);all_goals (rw[Ty.room_succ];simp only[ze] at hb20;rcases zD s T.ps.length with h5 | h5 <;> first | (rw[List.take_of_length_le h5];done) | (rw[Ty.roomL_stop T.ps s _ _ tz1];done))
  obtain ⟨e,rfl⟩:∃e,d=e+1:=⟨d-1,by simp at hb11;omega⟩;(have hw2:IntKind.i64.wrap ((e:Int)+1-1)=(e:Int):=by rw[zal tz1 tz1];omega);apply zac;apply u;refine zZ fun _ u=>?_;refine sqD ?_;apply zab;refine zah (σ:=Nat) (mB 33 142) (fun s=>s<=T.ps.length) (fun s=>[(1,.v (.int .i64 (Ty.roomL (T.ps.take s) (n-1) e))),(7,.v (.int .i64 (s:Int)))]) (fun s=>[]) (fun s=>T.ps.length-s) 0 tz1 ?_ (fun s hs=>?_)
  ·
   simp only[go_sem,seval,bL,Ty.roomL];exact clz3
  simp only[go_sem,seval];refine zZ fun _ w=>?_;refine zaU (mB 33 1048718) ([(20,.v (.bool (decide (s<T.ps.length/\0<=Ty.roomL (T.ps.take s) (n-1) e))))]) ([]) ?_ ?_
  ·
   apply z7;refine chS 4 ?_;refine chS 2 ?_;simp only[go_sem];refine zai 17 rfl (fun hc17=>?_) (fun hc17=>?_)
   ·
    simp only[go_sem];simp only[↓bO,go_sem,seval];(try simp only[go_sem,seval]);refine Weak.mk ?_ (fun _ _ h=>h) rfl rfl;simp only[go_sem,Le.refl,Le.any];all_goals (refine Le.of_eq (congrArg (fun b=>AV.v (.bool b)) ?_);rw[zF];simp only[zd,ze,ge_iff_le,zH,false_iff,Int.ofNat_lt] at *;omega)
   simp only[go_sem];simp only[↓bO,go_sem,seval];(try simp only[go_sem,seval]);refine Weak.mk ?_ (fun _ _ h=>h) rfl rfl;simp only[go_sem,Le.refl,Le.any];all_goals (refine Le.of_eq (congrArg (fun b=>AV.v (.bool b)) ?_);rw[zF];simp only[zd,ze,ge_iff_le,zH,false_iff,Int.ofNat_lt] at *;omega)
  simp only[go_sem,seval];apply z8 rfl <;> intro hb20
  ·
   (have hk:s<T.ps.length:=by simp only[zd] at hb20;exact hb20.1);obtain ⟨p,hp⟩:∃p,T.ps[s]?=some p:=⟨_,za hk⟩;have hw:IntKind.i64.wrap ((s:Int)+1)=(s:Int)+1:=zal tz1 (by have:=hm1.len;simp only[maxLen] at this;omega);(have hrm:0<=Ty.roomL (T.ps.take s) (n-1) e:=by simp only[zd] at hb20;exact hb20.2);have hrl:=Ty.roomL_le (T.ps.take s) (n-1) e tz1;apply zac;apply w;refine zZ fun _ w=>?_;apply zab;apply z7;(iterate 2 (refine chS 4 ?_ (by intro _ q;simp only[↓bO,go_sem,seval,hk,gM hp,zj,hw2];exact q)));refine z6 1 fun _ y=>?_;simp only[↓bO,go_sem,seval];refine APure.call (ih p (zc hp) _ e hrm tz1 tz1) ?_;apply y;clear y;simp only[↓bO,go_sem,seval,zj];apply w;apply z7;simp only[↓bO,go_sem,seval,zj,hw];refine ⟨(s+1),tz1,by omega,?_⟩;simp only[zas,zat,zag,zam,mB,seval,zj,zi,Ty.roomL_step hp (n-1) e hrm];exact zaK
  apply zaj;simp only[zaq,zak,zaf,bA,Nat.reduceEqDiff,↓reduceIte];apply u;refine sqD ?_;apply zaa;(try simp only[go_sem]);refine Le.of_eq (congrArg (fun n=>AV.v (.int .i64 n)) ?_);(first | (rw[hd0,Ty.room_zero];done) | skip);all_goals (rw[Ty.room_succ];simp only[ze] at hb20;rcases zD s T.ps.length with h5 | h5 <;> first | (rw[List.take_of_length_le h5];done) | (rw[Ty.roomL_stop T.ps s _ _ tz1];done))
theorem zha (T:Ty):APure Tryz.prog 44 [.agg T.cells] (.v (.bool T.big)):=by
 refine APure.mkL (.cons T.dataAgg .nil) (.v _) ?_;refine aIn Tryz.func44 fun hm=>?_;simp only[Tryz.ntmps44,Tryz.results44,go_sem,seval];simp only[Ty.cells_eq T,zt,zx];refine sqD ?_;refine sqR fun _ y=>?_;refine chS 1 ?_;refine z6 1 fun _ q=>?_;simp only[↓bO,go_sem,seval];refine APure.call (by have h9:=zjI T 100 30 tz1 tz1 tz1;rw[Ty.cells_eq T] at h9;exact h9) ?_;apply q;clear q;simp only[↓bO,go_sem,seval];apply y;apply zaa;(try simp only[go_sem]);exact Le.of_eq (congrArg (fun b=>AV.v (.bool b)) rfl)
theorem ziV (es:List EqT):APure Tryz.prog 12 [.sl 8 (es.map EqT.cells)] (.v (.bool (zdE (es.map EqT.p)))):=by
  refine APure.mkL (.cons (EqT.dataSl es) .nil) (.v _) ?_;refine aIn Tryz.func12 fun hm=>?_;simp only[Tryz.ntmps12,Tryz.results12,go_sem,seval];(iterate 2 (refine zZ fun _ u=>?_;apply z7;simp only[↓bO,go_sem,seval];apply u));refine zZ fun _ u=>?_;refine sqD ?_;apply zab;refine zah (σ:=Nat) (mB 51 25) (fun s=>s<=es.length/\s<=30/\zbw ((es.map EqT.p).take s)<=200 * s/\∀(i:Nat) (p:Ty×Ty),i<s->(es.map EqT.p)[i]?=some p->bigE p=false) (fun s=>[(3,.v (.int .i64 (zbw ((es.map EqT.p).take s):Nat))),(4,.v (.int .i64 (s:Int)))]) (fun s=>[]) (fun s=>30-s) 0 (⟨by omega,by omega,by simp[zbw],fun i p hi=>by omega⟩) ?_ (fun s hs=>?_)
  ·
   simp only[go_sem,seval,bL,zbw,zn];exact zaK
  simp only[go_sem,seval];refine zZ fun _ w=>?_;refine zaU (mB 51 4121) ([(12,.v (.bool (decide (s<es.length/\s<30))))]) ([]) ?_ ?_
  ·
   apply z7;(iterate 5 (refine chS 1 ?_));refine zai 9 rfl (fun hc9=>?_) (fun hc9=>?_)
   ·
    (iterate 2 (refine chS 1 ?_));simp only[↓bO,go_sem,seval];(try simp only[go_sem,seval]);refine Weak.mk ?_ (fun _ _ h=>h) rfl rfl;simp only[go_sem,Le.refl,Le.any];all_goals (refine Le.of_eq (congrArg (fun b=>AV.v (.bool b)) ?_);rw[zF];simp only[zd,ze,zH,false_iff,Int.ofNat_lt] at *;omega)
   (iterate 2 (refine chS 1 ?_));simp only[↓bO,go_sem,seval];(try simp only[go_sem,seval]);refine Weak.mk ?_ (fun _ _ h=>h) rfl rfl;simp only[go_sem,Le.refl,Le.any];all_goals (refine Le.of_eq (congrArg (fun b=>AV.v (.bool b)) ?_);rw[zF];simp only[zd,ze,zH,false_iff,Int.ofNat_lt] at *;omega)
  simp only[go_sem,seval];apply z8 rfl <;> intro hb12
  ·
   (have hk0:s<es.length/\s<30:=by simpa using hb12);have hk:s<es.length:=hk0.1;obtain ⟨e,he⟩:∃e,es[s]?=some e:=⟨_,za hk⟩;(have hep:(es.map EqT.p)[s]?=some e.p:=by rw[zO,he];rfl);have hss:=sumP_step hep;simp only[EqT.p] at hss;have hw:IntKind.i64.wrap ((s:Int)+1)=(s:Int)+1:=zal tz1 tz1;apply zac;apply w;refine zZ fun _ w=>?_;apply zab;refine zZ fun _ z=>?_;refine sqR fun _ x=>?_;(iterate 5 (refine chS 1 ?_ (by intro _ q;simp only[↓bO,go_sem,seval,hk,gM he,EqT.cells,Ty.refold];exact q)));refine z6 1 fun _ y=>?_;simp only[↓bO,go_sem,seval];refine APure.call (zha e.l) ?_;apply y;clear y;refine chS 1 ?_;simp only[go_sem];refine zai 21 rfl (fun hc21=>?_) (fun hc21=>?_)
   ·
    simp only[go_sem];(have hyb:bigE e.p=true:=by (have h9:e.l.big=true:=by simpa using hc21);exact (by rw[bigE,show e.p.1.big=true from h9];rfl));(iterate 6 (refine chS 1 ?_));simp only[↓bO,go_sem,seval];apply x;refine z8 (b:=true) (by first | exact rfl | exact congrArg (fun b=>AV.v (.bool b)) hb28) (fun _=>?_) (fun h=>(by cases h));refine sqD ?_;apply zaa;(try simp only[go_sem]);refine Le.of_eq (congrArg (fun b=>AV.v (.bool b)) ?_);(first | (rw[zcP hep tz1 hyb];done) | skip);all_goals (rw[hg1,zF];simp only[Bool.or_eq_true,zd,ze,true_iff,zH,false_iff] at *;omega)
   simp only[go_sem];(have hb1:e.l.big=false:=by simpa using hc21);(iterate 5 (refine chS 1 ?_ (by intro _ q;simp only[↓bO,go_sem,seval,hk,gM he,EqT.cells,Ty.refold];exact q)));refine z6 1 fun _ y=>?_;simp only[↓bO,go_sem,seval];refine APure.call (zha e.r) ?_;apply y;clear y;simp only[↓bO,go_sem,seval];apply x;apply z8 rfl <;> intro hb28
   ·
    (have hyb:bigE e.p=true:=by (have h9:e.r.big=true:=by simpa using hb28);exact (by rw[bigE,show e.p.2.big=true from h9,Bool.or_true]));refine sqD ?_;apply zaa;(try simp only[go_sem]);refine Le.of_eq (congrArg (fun b=>AV.v (.bool b)) ?_);(first | (rw[zcP hep tz1 hyb];done) | skip);all_goals (rw[hg1,zF];simp only[Bool.or_eq_true,zd,ze,true_iff,zH,false_iff] at *;omega)
   (have hb2:e.r.big=false:=by simpa using hb28);(have hnb:bigE e.p=false:=by rw[bigE,show e.p.1.big=false from hb1,show e.p.2.big=false from hb2];rfl);have hpc1:=Ty.big_cnt hb1;have hpc2:=Ty.big_cnt hb2;have hsz1:=Ty.sizeW_cnt e.l tz1;have hsz2:=Ty.sizeW_cnt e.r tz1;(have hw2:IntKind.i64.wrap ((zbw ((es.map EqT.p).take s):Int)+e.l.sizeW)=(zbw ((es.map EqT.p).take s):Int)+e.l.cnt:=by rw[hsz1,zal tz1 tz1]);(have hw3:IntKind.i64.wrap ((zbw ((es.map EqT.p).take s):Int)+e.l.cnt+e.r.sizeW)=(zbw ((es.map EqT.p).take (s+1)):Int):=by rw[hsz2,zal tz1 tz1];omega);apply zac;apply z;refine zaz 15 mixed tz0 fun J0 j0=>?_;(iterate 6 (simp only[go_sem];refine zae 1 fun _ y=>?_;simp only[↓zaA,↓dOp,↓bO,go_sem,seval,hk,gM he,EqT.cells,Ty.refold];apply y;clear y));simp only[go_sem];refine zae 1 fun _ y=>?_;simp only[↓zaA,↓dOp,↓bO,go_sem,seval];refine ⟨_,zd9 e.l,?_⟩;(iterate 7 (apply y;clear y;refine zae 1 fun _ y=>?_;simp only[↓zaA,↓dOp,↓bO,go_sem,seval,hk,gM he,EqT.cells,Ty.refold,hw2]));refine ⟨_,zd9 e.r,?_⟩;apply y;clear y;simp only[↓zaA,↓dOp,↓bO,go_sem,seval,hw3];refine j0 _ ?_;clear j0 J0;simp only[go_sem];simp only[↓bO,go_sem,seval];apply w;apply z7;(iterate 2 (refine chS 1 ?_ (by intro _ q;simp only[↓bO,go_sem,seval,hw];exact q)));simp only[↓bO,go_sem,seval];refine ⟨(s+1),⟨by omega,by omega,by omega,fun i p' hi h1=>(by rcases zD i s with h3 | h3 <;> first | exact hs.2.2.2 i p' h3 h1 | (obtain rfl:i=s:=tz1;rw[hep] at h1;cases h1;exact hnb))⟩,by omega,?_⟩;simp only[zas,zat,zag,zam,mB,seval,zj,zi];exact zaK
  (have hk0:¬(s<es.length/\s<30):=by simpa using hb12);have hg1:=zlU (l:=(es.map EqT.p)) (by rw[zC];exact hk0) (by rw[zC];exact hs.1) hs.2.1 hs.2.2.2;rw[zC] at hg1;apply zaj;simp only[zaq,zak,zaf,bA,Nat.reduceEqDiff,↓reduceIte];apply u;refine sqR fun _ u=>?_;(iterate 4 (refine chS 1 ?_));refine zai 47 rfl (fun hc47=>?_) (fun hc47=>?_)
  ·
   (iterate 3 (refine chS 1 ?_));simp only[↓bO,go_sem,seval];apply u;apply zaa;(try simp only[go_sem]);refine Le.of_eq (congrArg (fun b=>AV.v (.bool b)) ?_);(first | (rw[zcP hep tz1 hyb];done) | skip);all_goals (rw[hg1,zF];simp only[Bool.or_eq_true,zd,ze,true_iff,zH,false_iff] at *;omega)
  (iterate 3 (refine chS 1 ?_));simp only[↓bO,go_sem,seval];apply u;apply zaa;(try simp only[go_sem]);refine Le.of_eq (congrArg (fun b=>AV.v (.bool b)) ?_);(first | (rw[zcP hep tz1 hyb];done) | skip);all_goals (rw[hg1,zF];simp only[Bool.or_eq_true,zd,ze,true_iff,zH,false_iff] at *;omega)
theorem ACalls.freshE {P:Program} {f:Nat} {args:List AV} {σ:Type} {C:σ->Prop} {R R':σ->AV} {os1 os1':σ->Os} {k:Nat} {os':Os} {nx':Nat} {Q':AV->Os->Nat->Prop}
  (h:ACalls P f args [] 0 fun r os n=>(∃s,C s/\r=R s/\os=os1 s)/\n=k) (hd:DataL args) (hR:∀s,RenV (fun i=>nx'+i) (R s) (R' s)) (hnd:∀s,((os1 s).map Prod.fst).Nodup) (hos:∀s,OsRen (fun i=>nx'+i) (os1 s) (os1' s)) (hq:∀s,C s->Q' (R' s) (os1' s++os') (nx'+k)):ACalls P f args os' nx' Q':=by
 have same:∀(l:List AV),DataL l->RenL (fun i=>nx'+i) l l:=by
  intro l hl
  induction l with
  | nil=>trivial
  | cons x l ih=>exact ⟨.data (hl x tz4),ih fun y hy=>hl y (by simp[hy])⟩
 refine h.frame (fun i=>nx'+i) (fun i j e=>by simpa using e) (fun i hi=>by omega) (fun i _=>by simp) (same args hd) (fun i ob hg=>by cases hg) ?_;rintro r os1a n1 ⟨⟨s,hs,rfl,rfl⟩,rfl⟩;refine ⟨R' s,os1' s++os',hR s,hq s hs,fun id ob2 hg=>?_⟩;rw[zdV] at hg;split at hg
 ·rename_i x hx
  (cases hg);obtain ⟨i,x,e1,_,e3,e4⟩:=(hos s).get id _ hx;exact .inl ⟨i,x,e1,zdP (hnd s) e4,e3⟩
 exact .inr ⟨hg,fun ⟨i,_,hi⟩=>by omega⟩
theorem Le.slC {sz:Nat} {xs ys:List (List AV)} (hl:ys.length=xs.length) (hy:∀y∈ys,y.length=sz) (hf:LeL xs.flatten ys.flatten):Le (.sl sz xs) (.sl sz ys):=fun E A w u hr =>
 hr.slMap hl (fun _=>hy) hf.length.symm fun j c d u hc hd hk=>by
  obtain ⟨x,hx,hle⟩:=hf.get j d hd;rw[hc] at hx;cases hx;exact hle _ _ _ _ hk
def zgh (b:Nat) (S:CS):Os:=[((b+7),.tok 194 4 S.G.N.length),((b+6),.row 3 1 (S.W.map intC)),((b+5),.row 3 1 (S.F.rank.map intC)),((b+4),.row 3 1 (S.F.up.map nC)),((b+3),.cells 127 [.v (.int .i64 S.steps),.ptr (b+2) 0,.ptr (b+0) 0,.own (b+6) S.W.length,.v (.bool S.clash)]),((b+2),.cells 169 [.osl (b+7) 4 (S.G.N.map GNode.cells),.map (b+1)]),((b+1),.map (S.G.V.map vC)),((b+0),.cells 184 [.own (b+4) S.F.up.length,.own (b+5) S.F.rank.length,.v (.int .i64 S.F.sets),.v (.int .i64 S.F.steps)])]
theorem zkW (b:Nat) (S:CS):OsRen (fun i=>b+i) (zgh 0 S) (zgh b S) :=
 ⟨rfl,.tok,rfl,.row (zaF _),rfl,.row (zaF _),rfl,.row (zaZ _),rfl,.cells ⟨.v _,.ptr rfl,.ptr rfl,.own rfl,.v _,trivial⟩,rfl,.cells ⟨.osl rfl (GNode.dataRows S.G.N),.map rfl,trivial⟩,rfl,.map (zaR S.G.V),rfl,.cells ⟨.own rfl,.own rfl,.v _,.v _,trivial⟩,trivial⟩
theorem zfn (S:CS):UndOs 8 (zgh 0 S) :=
 ⟨by omega,trivial,by omega,Und.rowI (zaF _),by omega,Und.rowI (zaF _),by omega,Und.rowI (zaZ _),by omega,⟨.v _ _,.ptr tz1,.ptr tz1,.own tz1,.v _ _,trivial⟩,by omega,⟨Und.oslG tz1,.map tz1,trivial⟩,by omega,fun p hp=>.data (zaR _ p hp),by omega,⟨.own tz1,.own tz1,.v _ _,.v _ _,trivial⟩,trivial⟩
theorem coCalls {f:Nat} {args:List AV} {C:CS->Prop} (h:ACalls Tryz.prog f args [] 0 fun r os n=>(∃S,C S/\r=.ptr 3 0/\os=zgh 0 S)/\n=8) (hd:DataL args) {os':Os} {nx':Nat} {Q':AV->Os->Nat->Prop}
  (hq:∀S,C S->Q' (.ptr (nx'+3) 0) (zgh nx' S++os') (nx'+8)):ACalls Tryz.prog f args os' nx' Q' :=
 h.freshE (R:=fun _=>.ptr 3 0) (R':=fun _=>.ptr (nx'+3) 0) (os1:=fun S=>zgh 0 S) (os1':=fun S=>zgh nx' S) hd (fun _=>.ptr rfl) (fun S=>by simp[zgh]) (zkW nx') hq
theorem NewC_c:ACalls Tryz.prog 85 [] [] 0 fun r os n=>(∃S,S=CS0/\r=.ptr 3 0/\os=zgh 0 S)/\n=8:=by
 refine ACalls.cleanN (n:=8) (C:=fun r os=>∃S,S=CS0/\r=.ptr 3 0/\os=zgh 0 S) tz1 ?_;refine aIn Tryz.func85 fun hm=>?_;simp only[Tryz.ntmps85,Tryz.results85,go_sem,seval];refine sqD ?_;refine sqR fun _ y=>?_;refine z6 1 fun _ q=>?_;simp only[↓bO,go_sem,seval];refine UNew_calls.mono ?_;rintro r os' nx' ⟨⟨rfl,rfl⟩,rfl⟩;apply q;clear q;refine chS 4 ?_;simp only[↓bO,go_sem,seval];apply y;refine sqR fun _ y=>?_;refine z6 1 fun _ q=>?_;simp only[↓bO,go_sem,seval];refine ACalls.fresh (R':=.ptr 2 0) (os1':=[(2,.cells 169 [.v (.slice none 0 0),.map 1]),(1,.map [])]) New_calls .nil (.ptr rfl) tz3 ⟨rfl,.cells ⟨.v _,.map rfl,trivial⟩,rfl,.map (by intro p hp;cases hp),trivial⟩ ?_;simp only[zt,zx];apply q;clear q;simp only[↓bO,go_sem,seval];apply y;refine zaE (Weak.rowCell 3 1 0 (id:=0) rfl rfl) ?_;simp only[zam,Nat.reduceEqDiff,↓reduceIte,List.set_cons_zero,List.set_cons_succ,zt,zx];refine zaE (Weak.rowCell 3 1 1 (id:=0) rfl rfl) ?_;simp only[zam,Nat.reduceEqDiff,↓reduceIte,List.set_cons_zero,List.set_cons_succ,zt,zx];refine zaE (Weak.rowCell 3 1 3 (id:=3) rfl rfl) ?_;simp only[zam,Nat.reduceEqDiff,↓reduceIte,List.set_cons_zero,List.set_cons_succ,zt,zx];refine zaE (Weak.tokCell 194 4 (id:=2) (t:=169) [.osl 7 4 ([].map GNode.cells),.map 1] rfl ⟨.inr ⟨rfl,rfl⟩,.inl (.refl _),trivial⟩) ?_;simp only[zam,Nat.reduceEqDiff,↓reduceIte,List.set_cons_zero,List.set_cons_succ,zt,zx];apply zaa;(try simp only[go_sem]);refine ⟨_,zgh 0 CS0,(by first | exact ⟨CS0,rfl,rfl,rfl⟩ | exact ⟨rfl,rfl⟩),.ptr tz1,zfn _,Le.refl _,⟨0,rfl,rfl⟩,by omega⟩
theorem zkD (S:CS):CCalls (σ:=Unit) 87 [.ptr 0 0] (S) (fun s=>s.1=S) (fun s=>.v (.int .i64 S.steps)):=by
  refine ACalls.clean (C:=fun r os=>∃s:CS×Unit,(s.1=S)/\r=(fun s:Unit=>.v (.int .i64 S.steps)) s.2/\os=zad 0 (zan s.1)) ?_;refine aIn Tryz.func87 fun hm=>?_;simp only[Tryz.ntmps87,Tryz.results87,go_sem,seval];simp only[zan,zad,Nat.reduceAdd];refine sqD ?_;refine zZ fun _ q=>?_;refine sqR fun _ y=>?_;refine chS 1 ?_;simp only[↓bO,go_sem,seval];apply y;apply z8 rfl <;> intro hb4
  ·
   exact absurd hb4 tz4
  apply zac;apply q;refine sqR fun _ q=>?_;(iterate 5 (refine chS 1 ?_));simp only[↓bO,go_sem,seval];apply q;apply zaa;(try simp only[go_sem]);refine ⟨_,zad 0 (zan (S)),⟨(S,()),?_,rfl,rfl⟩,.v _ _,zcg tz1 _,?_,?_,by omega⟩;· exact rfl
  ·
   exact Le.refl _
  first | (refine ⟨0,rfl,rfl⟩) | (refine ⟨0,by simp only[zan,zad,zk,zf,Nat.reduceAdd],rfl⟩)
theorem OkE.take {l:List (Ty×Ty)} (h:OkE l) (k:Nat):OkE (l.take k):=fun e he=>h e (List.mem_of_mem_take he)
def eqtPtr (s:CS×Int×Int):AV:=if s.2.1=0 then .ptr 3 0 else .v (.pointer none)
def eqtA (s:CS×Int×Int):AV:=.tup [eqtPtr s,.v (.int .i64 s.2.1),.v (.int .i64 s.2.2)]
theorem Und.eqs {n:Nat} (l:List EqT):Und n (.sl 8 (l.map EqT.cells))=True:=eq_true (.data (EqT.dataSl l))
theorem zlJ (es:List EqT) (hl:es.length<=1048576) (hbad:∃e∈es,e.ok=false):APure Tryz.prog 45 [.sl 8 (es.map EqT.cells)] (.tup [.v (.pointer none),.v (.int .i64 1),.v (.int .i64 0)]):=by
  refine APure.mkL (.cons (EqT.dataSl es) .nil) ((.tup (.cons (.v _) (.cons (.v _) (.cons (.v _) .nil))))) ?_;refine aIn Tryz.func45 fun hm=>?_;simp only[Tryz.ntmps45,Tryz.results45,go_sem,seval];refine sqR fun _ u=>?_;(iterate 2 (refine chS 1 ?_));simp only[↓bO,go_sem,seval];apply u;refine zZ fun _ u=>?_;refine sqR fun _ w=>?_;(iterate 2 (refine chS 1 ?_));simp only[↓bO,go_sem,seval];apply w;apply zab;refine zah (σ:=Nat) (mB 63 57345) (fun s=>s<=es.length/\∀(i:Nat) (e:EqT),i<s->es[i]?=some e->e.ok=true) (fun s=>[(15,.v (.int .i64 (s:Int)))]) (fun s=>[]) (fun s=>es.length-s) 0 (⟨by omega,fun i p hi=>by omega⟩) ?_ (fun s hs=>?_)
  ·
   simp only[go_sem,seval];exact zaK
  simp only[go_sem,seval];refine sqD ?_;refine zZ fun _ w=>?_;apply z8 rfl <;> intro hb16
  ·
   (have hk:s<es.length:=by simpa using hb16);obtain ⟨e,he⟩:∃e,es[s]?=some e:=⟨_,za hk⟩;have hw:IntKind.i64.wrap ((s:Int)+1)=(s:Int)+1:=zal tz1 tz1;apply zac;apply w;refine zZ fun _ w=>?_;apply zab;refine sqR fun _ z=>?_;(iterate 3 (refine chS 1 ?_ (by intro _ q;simp only[↓bO,go_sem,seval,hk,gM he,EqT.cells];exact q)));simp only[↓bO,go_sem,seval];apply z;refine sqR fun _ z=>?_;(iterate 2 (refine chS 1 ?_ (by intro _ q;simp only[↓bO,go_sem,seval,Ty.refold];exact q)));refine z6 1 fun _ y=>?_;simp only[↓bO,go_sem,seval];refine APure.call (zbT e.l) ?_;(iterate 2 (apply y;clear y;refine z6 1 fun _ y=>?_;simp only[↓bO,go_sem,seval]));apply y;clear y;refine zai 23 rfl (fun hc23=>?_) (fun hc23=>?_)
   ·
    (iterate 4 (refine chS 1 ?_));simp only[↓bO,go_sem,seval];apply z;refine z8 (b:=true) (by first | exact rfl | exact congrArg (fun b=>AV.v (.bool b)) hb28) (fun _=>?_) (fun h=>(by cases h));refine sqR fun _ z=>?_;(iterate 2 (refine chS 1 ?_));simp only[↓bO,go_sem,seval];apply z;apply zaa;exact Le.refl _
   (iterate 2 (refine chS 1 ?_ (by intro _ q;simp only[↓bO,go_sem,seval,Ty.refold];exact q)));refine z6 1 fun _ y=>?_;simp only[↓bO,go_sem,seval];refine APure.call (zbT e.r) ?_;apply y;clear y;refine chS 1 ?_;simp only[↓bO,go_sem,seval];apply z;apply z8 rfl <;> intro hb28
   ·
    refine sqR fun _ z=>?_;(iterate 2 (refine chS 1 ?_));simp only[↓bO,go_sem,seval];apply z;apply zaa;exact Le.refl _
   (have hok:e.ok=true:=by (have h9:=hb28;simp[EqT.ok] at h9 ⊢;first | exact h9 | exact ⟨h9.1,h9.2⟩ | (simp_all)));apply zac;apply w;apply z7;refine chS 1 ?_ (by intro _ q;simp only[↓bO,go_sem,seval,hw];exact q);simp only[↓bO,go_sem,seval];refine ⟨(s+1),⟨by omega,fun i p' hi h1=>(by rcases zD i s with h3 | h3 <;> first | exact hs.2 i p' h3 h1 | (obtain rfl:i=s:=tz1;rw[he] at h1;cases h1;exact hok))⟩,by omega,?_⟩;simp only[zas,zat,zag,zam,mB,seval,zj,zi];(first | (refine Weak.drops 1 0 rfl rfl tz5 tz5 ?_ ?_ ?_) | (refine Weak.drops 0 0 rfl rfl tz5 tz5 ?_ ?_ ?_));(· simp only[go_sem,Le.refl,Le.any,zn,zi]);(· simp only[UndL,UndOs,Ob.Und,and_true,true_and,and_self,Und.v,Und.any,Und.ptr,Und.map,Nat.reduceLT,zL,Und.tys,Und.tyAgg,Und.oslTys,Und.oslTys1,Und.clo0,Und.ty,Und.eqs]);simp only[UndL,UndOs,Ob.Und,and_true,true_and,and_self,Und.v,Und.any,Und.ptr,Und.map,Nat.reduceLT,zL,Und.tys,Und.tyAgg,Und.oslTys,Und.oslTys1,Und.clo0,Und.ty,Und.eqs]
  (have hk:s=es.length:=by have:=hs.1;simp at hb16;omega);exact absurd hbad (fun ⟨e,he,h⟩=>(by obtain ⟨i,hi,e1⟩:=zU.1 he;rw[hs.2 i e tz1 (by rw[za hi,e1])] at h;cases h))
theorem clz9 {p:Prop} (h:p:=by repeat' first | exact trivial | exact .any _ | exact .ptr tz1 | exact .own tz1 | exact .v _ _ | exact Und.data (EqT.dataSl _) | exact Und.data (zap _) | (refine ⟨?_,?_⟩)):p:=h
theorem clz10 {p:Prop} (h:p:=by repeat' first | exact trivial | (with_reducible omega) | exact .any _ | exact .ptr tz1 | exact .own tz1 | exact .v _ _ | exact .map tz1 | exact Und.oslG tz1 | exact Und.rowI (zaZ _) | exact Und.rowI (zaF _) | exact (fun p hp=>.data (zaR _ p hp)) | (refine ⟨?_,?_⟩)):p:=h
theorem equate_c (es:List EqT) (ho:OkE (es.map EqT.p)) (hsum:zbw (es.map EqT.p)<=1048576):ACalls Tryz.prog 45 [.sl 8 (es.map EqT.cells)] [] 0 fun r os n=>(∃s,EqtR (es.map EqT.p) s/\r=eqtA s/\os=zgh 0 s.1)/\n=8:=by
  refine ACalls.cleanN (n:=8) (C:=fun r os=>∃s,EqtR (es.map EqT.p) s/\r=eqtA s/\os=zgh 0 s.1) tz1 ?_;refine aIn Tryz.func45 fun hm=>?_;simp only[Tryz.ntmps45,Tryz.results45,go_sem,seval];have hsl:=zcU (es.map EqT.p);rw[zC] at hsl;refine sqR fun _ w=>?_;(iterate 2 (refine chS 1 ?_));simp only[↓bO,go_sem,seval];apply w;refine zZ fun _ w=>?_;refine sqR fun _ z=>?_;(iterate 2 (refine chS 1 ?_));simp only[↓bO,go_sem,seval];apply z;apply zab;refine zah (σ:=Nat) (mB 63 57345) (fun s=>s<=es.length) (fun s=>[(15,.v (.int .i64 (s:Int)))]) (fun s=>[]) (fun s=>es.length-s) 0 (Nat.zero_le _) ?_ (fun s hs=>?_)
  ·
   simp only[go_sem,seval];exact zaK
  simp only[go_sem,seval];refine sqD ?_;refine zZ fun _ z=>?_;apply z8 rfl <;> intro hb16
  ·
   (have hk:s<es.length:=by simpa using hb16);obtain ⟨e,he⟩:∃e,es[s]?=some e:=⟨_,za hk⟩;have hw:IntKind.i64.wrap ((s:Int)+1)=(s:Int)+1:=zal tz1 tz1;have heo:=ho e.p (zq.2 ⟨e,zc he,rfl⟩);have hrl:e.l.right=true:=heo.1;have hrr:e.r.right=true:=heo.2.1;apply zac;apply z;refine zZ fun _ z=>?_;apply zab;refine sqR fun _ x=>?_;(iterate 3 (refine chS 1 ?_ (by intro _ q;simp only[↓bO,go_sem,seval,hk,gM he,EqT.cells];exact q)));simp only[↓bO,go_sem,seval];apply x;refine sqR fun _ x=>?_;(iterate 2 (refine chS 1 ?_ (by intro _ q;simp only[↓bO,go_sem,seval,Ty.refold];exact q)));refine z6 1 fun _ y=>?_;simp only[↓bO,go_sem,seval];refine APure.call (zbT e.l) ?_;(iterate 2 (apply y;clear y;refine z6 1 fun _ y=>?_;simp only[↓bO,go_sem,seval]));apply y;clear y;refine zai 23 rfl (fun hc23=>?_) (fun hc23=>?_)
   ·
    simp only[go_sem];exact absurd hc23 (by simp[hrl])
   (iterate 2 (refine chS 1 ?_ (by intro _ q;simp only[↓bO,go_sem,seval,Ty.refold];exact q)));refine z6 1 fun _ y=>?_;simp only[↓bO,go_sem,seval];refine APure.call (zbT e.r) ?_;apply y;clear y;refine chS 1 ?_;simp only[↓bO,go_sem,seval];apply x;apply z8 rfl <;> intro hb28
   ·
    exact absurd hb28 (by simp[hrr])
   apply zac;apply z;apply z7;refine chS 1 ?_ (by intro _ q;simp only[↓bO,go_sem,seval,hw];exact q);simp only[↓bO,go_sem,seval];refine ⟨(s+1),tz1,by omega,?_⟩;simp only[zas,zat,zag,zam,mB,seval,zj,zi];(first | (refine Weak.drops 1 0 rfl rfl tz5 tz5 ?_ ?_ ?_) | (refine Weak.drops 0 0 rfl rfl tz5 tz5 ?_ ?_ ?_));(· simp only[go_sem,Le.refl,Le.any,zn,zi]);(· simp only[UndL,UndOs,Ob.Und,and_true,true_and,and_self,Und.v,Und.any,Und.ptr,Und.map,Nat.reduceLT,zL,Und.tys,Und.tyAgg,Und.oslTys,Und.oslTys1,Und.clo0,Und.ty,Und.eqs]);simp only[UndL,UndOs,Ob.Und,and_true,true_and,and_self,Und.v,Und.any,Und.ptr,Und.map,Nat.reduceLT,zL,Und.tys,Und.tyAgg,Und.oslTys,Und.oslTys1,Und.clo0,Und.ty,Und.eqs]
  apply zaj;simp only[zaq,zak,zaf,bA,Nat.reduceEqDiff,↓reduceIte];apply w;refine sqR fun _ w=>?_;refine z6 1 fun _ y=>?_;simp only[↓bO,go_sem,seval];refine coCalls NewC_c .nil (fun S0 hS0=>?_);subst hS0;simp only[zgh,zt,zx,Nat.reduceAdd];apply y;clear y;simp only[↓bO,go_sem,seval];apply w;refine zZ fun _ w=>?_;refine sqR fun _ z=>?_;(iterate 2 (refine chS 1 ?_));simp only[↓bO,go_sem,seval];apply z;apply zab;refine zah (σ:=CS×Nat) (mB 63 15032385664) (fun u=>EqI ((es.map EqT.p).take u.2) u.1/\u.2<=es.length) (fun u=>[(33,.v (.int .i64 (u.2:Int)))]) (fun u=>[(7,.tok 194 4 u.1.G.N.length),(6,.row 3 1 (u.1.W.map intC)),(5,.row 3 1 (u.1.F.rank.map intC)),(4,.row 3 1 (u.1.F.up.map nC)),(3,.cells 127 [.v (.int .i64 u.1.steps),.ptr 2 0,.ptr 0 0,.own 6 u.1.W.length,.v (.bool u.1.clash)]),(2,.cells 169 [.osl 7 4 (u.1.G.N.map GNode.cells),.map 1]),(1,.map (u.1.G.V.map vC)),(0,.cells 184 [.own 4 u.1.F.up.length,.own 5 u.1.F.rank.length,.v (.int .i64 u.1.F.sets),.v (.int .i64 u.1.F.steps)])]) (fun u=>es.length-u.2) (CS0,0) (⟨EqI.start,by simp only;omega⟩) ?_ (fun u hu=>?_)
  ·
   simp only[go_sem,seval,CS0,bL];exact zaK
  simp only[go_sem,seval];refine sqD ?_;refine zZ fun _ z=>?_;apply z8 rfl <;> intro hb34
  ·
   (have hk:u.2<es.length:=by simpa using hb34);obtain ⟨e,he⟩:∃e,es[u.2]?=some e:=⟨_,za hk⟩;(have hep:(es.map EqT.p)[u.2]?=some e.p:=by rw[zO,he];rfl);(have het:(es.map EqT.p).take (u.2+1)=(es.map EqT.p).take u.2++[e.p]:=by rw[zR,hep];rfl);have hst:=zcF (es.map EqT.p) (u.2+1);have hst0:=zcF (es.map EqT.p) u.2;rw[het,zcC] at hst;simp only[EqT.p] at hst;have hw:IntKind.i64.wrap ((u.2:Int)+1)=(u.2:Int)+1:=zal tz1 tz1;have hl1:=hu.1.st.len;have heo:=ho e.p (zc hep);have heo3:e.l.cnt<=400:=heo.2.2.1;have heo4:e.r.cnt<=400:=heo.2.2.2;(have htl:((es.map EqT.p).take u.2).length<=es.length:=by (rw[List.length_take,zC];omega));apply zac;apply z;refine zZ fun _ z=>?_;apply zab;refine sqR fun _ x=>?_;(iterate 3 (refine chS 1 ?_ (by intro _ q;simp only[↓bO,go_sem,seval,hk,gM he,EqT.cells];exact q)));simp only[↓bO,go_sem,seval];apply x;refine sqR fun _ x=>?_;(iterate 5 (refine chS 1 ?_ (by intro _ q;simp only[↓bO,go_sem,seval,Ty.refold];exact q)));refine z6 1 fun _ y=>?_;simp only[↓bO,go_sem,seval];refine CCalls.at (Equate2_c u.1 (zcf (eqF ((es.map EqT.p).take u.2)).2) (eqF ((es.map EqT.p).take u.2)).1 e.l e.r (fun hc=>(hu.1.st.good hc).1.2) tz1 tz1 tz1) (.cons (Ty.dataAgg _) (.cons (Ty.dataAgg _) .nil)) (fun _=>.v _) (i0:=3) (i1:=2) (i2:=7) (i3:=1) (i4:=0) (i5:=4) (i6:=5) (i7:=6) tz3 tz4 zbd (fun S1 r1 hX1=>?_);(try dsimp only at hX1);simp only[zau,zl,zp,zm,zag,zam,Nat.reduceEqDiff,↓reduceIte];obtain ⟨hE1,hR1⟩:=hX1;obtain ⟨hc1,hr1,hp0,hp1,hI1⟩:=hu.1.step (e:=e.p) heo tz1 tz1 hE1 hR1;have hr2:r1=(if S1.clash=true then 7 else 0):=hr1;subst hr2;dsimp only at hp0 hp1 hc1 hI1;apply y;clear y;simp only[↓bO,go_sem,seval];apply x;refine sqR fun _ x=>?_;refine chS 1 ?_;simp only[↓bO,go_sem,seval];apply x;apply z8 rfl <;> intro hb44
   ·
    (have hcS:S1.clash=true:=by (cases h9:S1.clash with | true=>rfl | false=>(rw[h9] at hb44;simp at hb44)));(have h7:(if S1.clash=true then (7:Int) else 0)=7:=by rw[hcS];rfl);have hsp:=zcF (es.map EqT.p) (u.2+1);have hlp:=zcU ((es.map EqT.p).take (u.2+1));(have hfin:EqtR (es.map EqT.p) (S1,7,S1.steps):=by (have h9:=EqtR.clash (k:=(es.map EqT.p).drop (u.2+1)) (n:=S1.steps) hc1 hcS (by rw[<- het,List.take_append_drop];exact ho) (by rw[<- het,List.take_append_drop];exact hsp) ⟨hp0,by (rw[zh,List.length_singleton];omega)⟩ (by rw[<- het];omega) S1;rw[<- het,List.take_append_drop] at h9;exact h9));refine sqR fun _ x=>?_;(iterate 2 (refine chS 1 ?_));refine z6 1 fun _ y=>?_;simp only[↓bO,go_sem,seval];refine CCalls.at (zkD S1) (.nil) (fun _=>.v _) (i0:=3) (i1:=2) (i2:=7) (i3:=1) (i4:=0) (i5:=4) (i6:=5) (i7:=6) tz3 tz4 zbd (fun Z9 u9 hZ9=>?_);(try dsimp only at hZ9);simp only[zau,zl,zp,zm,zag,zam,Nat.reduceEqDiff,↓reduceIte];obtain rfl:S1=Z9:=hZ9.symm;(iterate 2 (apply y;clear y;refine z6 1 fun _ y=>?_;simp only[↓bO,go_sem,seval]));apply y;clear y;simp only[↓bO,go_sem,seval];apply x;apply zaa;(try simp only[go_sem]);refine ⟨_,zgh 0 (S1),⟨(S1,7,S1.steps),hfin,rfl,rfl⟩,.tup ⟨.v _ _,.v _ _,.v _ _,trivial⟩,zfn _,?_,?_,by omega⟩;(· exact Le.of_eq (by rw[h7];rfl));first | exact ⟨1,rfl,rfl⟩
   (have hcS:S1.clash=false:=by (cases h9:S1.clash with | false=>rfl | true=>(rw[h9] at hb44;simp at hb44)));apply zac;apply z;apply z7;refine chS 1 ?_ (by intro _ q;simp only[↓bO,go_sem,seval,hw];exact q);simp only[↓bO,go_sem,seval];refine ⟨(S1,u.2+1),⟨by rw[het];exact hI1 hcS,by simp only;omega⟩,tz5,?_⟩;simp only[zas,zat,zag,zam,mB,seval,zj,zi,zn];refine Weak.sub ?_ zbd tz2 tz2 ?_ ?_;(· simp only[go_sem,Le.refl,Le.any]);(· exact clz9);exact clz10
  (have hk:u.2=es.length:=by have h9:=hb34;simp at h9;have:=hu.2;omega);(have hCS:EqI (es.map EqT.p) u.1:=by (have h9:=hu.1;rw[hk,List.take_of_length_le tz4] at h9;exact h9));have hCl:=hCS.st.len;apply zaj;simp only[zaq,zak,zaf,bA,Nat.reduceEqDiff,↓reduceIte];apply w;refine sqR fun _ w=>?_;refine chS 1 ?_;refine z6 1 fun _ y=>?_;simp only[↓bO,go_sem,seval];refine CCalls.at (Count_c u.1 (hCS.st.cyG tz1)) (.nil) (fun _=>.tup (.cons (.v _) (.cons (.v _) .nil))) (i0:=3) (i1:=2) (i2:=7) (i3:=1) (i4:=0) (i5:=4) (i6:=5) (i7:=6) tz3 tz4 zbd (fun Z1 k1 hX1=>?_);(try dsimp only at hX1);simp only[zau,zl,zp,zm,zag,zam,Nat.reduceEqDiff,↓reduceIte];obtain ⟨F1,rfl⟩:∃F,Z1={u.1 with F:=F}:=⟨Z1.F,hX1.1⟩;dsimp only at hX1;obtain ⟨b1,n1⟩:=k1;obtain ⟨_,hX2,hX3⟩:=hX1;(iterate 4 (apply y;clear y;refine z6 1 fun _ y=>?_;simp only[↓bO,go_sem,seval]));apply y;clear y;simp only[↓bO,go_sem,seval];apply w;refine sqR fun _ w=>?_;(iterate 2 (refine chS 1 ?_));refine z6 1 fun _ y=>?_;simp only[↓bO,go_sem,seval];refine CCalls.at (zkD {u.1 with F:=F1}) (.nil) (fun _=>.v _) (i0:=3) (i1:=2) (i2:=7) (i3:=1) (i4:=0) (i5:=4) (i6:=5) (i7:=6) tz3 tz4 zbd (fun Z9 u9 hZ9=>?_);(try dsimp only at hZ9);simp only[zau,zl,zp,zm,zag,zam,Nat.reduceEqDiff,↓reduceIte];obtain rfl:{u.1 with F:=F1}=Z9:=hZ9.symm;apply y;clear y;refine chS 1 ?_;simp only[↓bO,go_sem,seval];apply w;refine zZ fun _ w=>?_;refine sqR fun _ z=>?_;refine chS 1 ?_;simp only[↓bO,go_sem,seval];apply z;apply z8 rfl <;> intro hb59
  ·
   (have hb1:b1=false:=by simpa using hb59);subst hb1;have hfin:=EqtR.cycle hCS hsum (by have h9:=zcU (es.map EqT.p);omega) hX3 {u.1 with F:=F1};refine sqR fun _ z=>?_;(iterate 3 (refine chS 1 ?_));simp only[↓bO,go_sem,seval];apply z;apply zaa;(try simp only[go_sem]);refine ⟨_,zgh 0 ({u.1 with F:=F1}),⟨({u.1 with F:=F1},8,IntKind.i64.wrap (n1+u.1.steps)),hfin,rfl,rfl⟩,.tup ⟨.v _ _,.v _ _,.v _ _,trivial⟩,zfn _,?_,?_,by omega⟩;(· exact Le.of_eq (rfl));first | exact ⟨0,rfl,rfl⟩ | exact ⟨1,rfl,rfl⟩
  (have hb1:b1=true:=by simpa using hb59);subst hb1;have hfin:=EqtR.good hCS hsum (by have h9:=zcU (es.map EqT.p);omega) (hX2 hCS.cl) hX3;apply zac;apply w;refine sqR fun _ w=>?_;(iterate 4 (refine chS 1 ?_));simp only[↓bO,go_sem,seval];apply w;apply zaa;(try simp only[go_sem]);refine ⟨_,zgh 0 ({u.1 with F:=F1}),⟨({u.1 with F:=F1},0,IntKind.i64.wrap (n1+u.1.steps)),hfin,rfl,rfl⟩,.tup ⟨.ptr tz1,.v _ _,.v _ _,trivial⟩,zfn _,?_,?_,by omega⟩;(· exact Le.of_eq (rfl));first | exact ⟨0,rfl,rfl⟩ | exact ⟨1,rfl,rfl⟩
end Go.Proofs.YtpfiliamceimmaaGreatDoor
namespace Go.Proofs.YtpfiliamceimmaaGreatDoor
open Go Go.RowKit
def zb4 (l:List Bd):List (Int×Ty):=l.map fun b=>(b.v,b.t)
def zif (l:List Bd):List (Int×Int):=l.map fun b=>(b.v,1)
theorem zgc {α:Type} {k:Int} {x:α}:∀{m:List (Int×α)},zaH m k=none->zeH m k x=m++[(k,x)]
 | [],_=>rfl
 | (i,y)::m,h=>by
  rw[zaH] at h;(split at h);(·cases h);(rename_i hne);rw[zeH,if_neg hne,zgc h];rfl
theorem zfO {α:Type} {k:Int}:∀{m:List (Int×α)},k∉m.map Prod.fst->zaH m k=none
 | [],_=>rfl
 | (i,y)::m,h=>by
  simp only[zy,zG,not_or] at h;rw[zaH,if_neg (fun e=>h.1 e.symm)];exact zfO h.2
theorem zd2 {α:Type} {k:Int} {x:α}:∀{m:List (Int×α)},zaH m k=some x->(k,x)∈m
 | (i,y)::m,h=>by
  rw[zaH] at h;(split at h);(·rename_i e;cases h;rw[e];simp);exact List.mem_cons_of_mem _ (zd2 h)
theorem zkh (l:List Bd):(zb4 l).map Prod.fst=l.map Bd.v:=by simp[zb4,Function.comp_def]
theorem onesM_fst (l:List Bd):(zif l).map Prod.fst=l.map Bd.v:=by simp[zif,Function.comp_def]
theorem zgK {l:List Bd} (hn:(l.map Bd.v).Nodup) {s:Nat} {b:Bd} (hb:l[s]?=some b):b.v∉(l.take s).map Bd.v:=by
 have hlt:=(zb.1 hb).1;have e:l.take (s+1)=l.take s++[b]:=by rw[zR,hb];rfl
 have h2:((l.take (s+1)).map Bd.v).Nodup:=by
  rw[List.map_take];exact hn.sublist (List.take_sublist _ _)
 rw[e,zu,List.nodup_append] at h2;exact fun h=>h2.2.2 _ h b.v tz4 rfl
theorem zh6 {l:List Bd} (hn:(l.map Bd.v).Nodup) {s:Nat} {b:Bd} (hb:l[s]?=some b):zaH (zif (l.take s)) b.v=none:=zfO (by rw[onesM_fst];exact zgK hn hb)
theorem zls {l:List Bd} (hn:(l.map Bd.v).Nodup) {s:Nat} {b:Bd} (hb:l[s]?=some b):zeH (zif (l.take s)) b.v 1=zif (l.take (s+1)):=by
 rw[zgc (zh6 hn hb),zR,hb];simp[zif]
theorem tabM_step {l:List Bd} (hn:(l.map Bd.v).Nodup) {s:Nat} {b:Bd} (hb:l[s]?=some b):zeH (zb4 (l.take s)) b.v b.t=zb4 (l.take (s+1)):=by
 rw[zgc (zfO (by rw[zkh];exact zgK hn hb)),zR,hb];simp[zb4]
mutual
/-- a type,variables standing for others -/
def Ty.subM (m:List (Int×Ty)):Ty->Ty
 | .mk k n ps=>match (if k=1 then zaH m n else none) with
  | some x=>x
  | none=>.mk k n (Ty.subML m ps)
def Ty.subML (m:List (Int×Ty)):List Ty->List Ty
 | []=>[]
 | p::ps=>Ty.subM m p::Ty.subML m ps
end
theorem Ty.subML_eq (m:List (Int×Ty)):∀ps,Ty.subML m ps=ps.map (Ty.subM m)
 | []=>by simp[Ty.subML]
 | p::ps=>by simp[Ty.subML,Ty.subML_eq m ps]
theorem Ty.subM_yes {m:List (Int×Ty)} {t x:Ty} (h:t.k=1) (hx:zaH m t.n=some x):t.subM m=x:=by
 obtain ⟨k,n,ps⟩:=t;simp only[Ty.k_mk,Ty.n_mk] at h hx;rw[Ty.subM,if_pos h,hx]
theorem Ty.subM_no {m:List (Int×Ty)} {t:Ty} (h:¬(t.k=1/\(zaH m t.n).isSome=true)):t.subM m=.mk t.k t.n (t.ps.map (Ty.subM m)):=by
 obtain ⟨k,n,ps⟩:=t;simp only[Ty.k_mk,Ty.n_mk,Ty.ps_mk] at h ⊢;rw[Ty.subM,<- Ty.subML_eq]
 by_cases hk:k=1
 ·cases hp:zaH m n with
  | none=>rw[if_pos hk]
  | some x=>exact absurd ⟨hk,by rw[hp];rfl⟩ h
 rw[if_neg hk]
theorem zlL (b:Bd) (l:List Bd) (v:Int):zbI (b::l) v=if b.v=v then 0 else if zbI l v<0 then -1 else zbI l v+1:=by
 unfold zbI zbv
 by_cases hb:b.v=v
 (·simp[hb,List.findIdx_cons]);(have hb2:(b.v==v)=false:=by simpa using hb);simp only[List.any_cons,hb2,Bool.false_or,List.findIdx_cons,cond_false,if_neg hb];split;(·rw[if_neg tz1];omega);rfl
theorem zh1 (v:Int):∀l:List Bd,zaH (zb4 l) v=if 0<=zbI l v then (l[(zbI l v).toNat]?).map Bd.t else none
 | []=>rfl
 | b::l=>by
  rw[zlL];show (if b.v=v then some b.t else zaH (zb4 l) v)=_
  by_cases hb:b.v=v
  (·rw[if_pos hb,if_pos hb];rfl);rw[if_neg hb,if_neg hb,zh1 v l]
  by_cases hl:zbI l v<0
  (·rw[if_neg tz1,if_pos hl];rfl);rw[if_pos tz1,if_neg hl,if_pos tz1];(have e:(zbI l v+1).toNat=(zbI l v).toNat+1:=by omega);rw[e];rfl
theorem zeh (l:List Bd) (v:Int):zgi l v=(zaH (zb4 l) v).getD (vTy v):=by
 rw[zh1,zgi];split
 ·rename_i h
  have hlt:(zbI l v).toNat<l.length:=by
   have h2:l.any (fun b=>b.v==v)=true:=by
    unfold zbI zbv at h;(split at h);(·assumption);omega
   unfold zbI zbv at *;rw[if_pos h2];rw[zI];obtain ⟨x,hx,hxv⟩:=List.any_eq_true.1 h2;exact List.findIdx_lt_length_of_exists ⟨x,hx,hxv⟩
  rw[za hlt];rfl
 rfl
theorem Ty.subM_bfun (l:List Bd):∀t:Ty,t.right=true->t.subM (zb4 l)=t.subF (zgi l):=by
 refine Ty.ind fun t ih hr=>?_
 by_cases hk:t.k=1
 ·rw[Ty.subF_var hk,zeh]
  cases hp:zaH (zb4 l) t.n with
  | some x=>rw[Ty.subM_yes hk hp];rfl
  | none =>
   have e:=Ty.right_var hr hk;rw[Ty.subM_no (by rw[hp];simp),e];rfl
 rw[Ty.subM_no (fun h=>hk h.1),Ty.subF_more hk];(congr 1);exact List.map_congr_left fun p hp=>ih p hp (Ty.right_part hr hp)
def ze9 (a b:List Bd):List Bd:=a.map (fun x=>⟨x.v,x.t.subM (zb4 b)⟩)++b.filter fun x=>!(zaH (zb4 a) x.v).isSome
theorem zgm {α:Type} {k:Int} {m:List (Int×α)}:(zaH m k).isSome=true↔k∈m.map Prod.fst:=by
 constructor
 ·intro h
  obtain ⟨x,hx⟩:=Option.isSome_iff_exists.1 h;exact zq.2 ⟨_,zd2 hx,rfl⟩
 intro h
 cases hp:zaH m k with
 | some x=>rfl
 | none =>
  exfalso
  induction m with
  | nil=>cases h
  | cons p m ih =>
   rw[zaH] at hp;(split at hp);(·cases hp);(rename_i hne);(rcases zG.1 h with h | h);(·exact hne h.symm);exact ih h hp
theorem zj0 {a b:List Bd} (ha:(a.map Bd.v).Nodup) (hb:(b.map Bd.v).Nodup):((ze9 a b).map Bd.v).Nodup:=by
 rw[ze9,zu,List.map_map,List.nodup_append];refine ⟨ha,hb.sublist (List.filter_sublist.map _),?_⟩;rintro x hx y hy rfl;obtain ⟨z,hz,rfl⟩:=zq.1 hy;have h1:=(List.mem_filter.1 hz).2;have h2:(zaH (zb4 a) z.v).isSome=true:=zgm.2 (by rw[zkh];exact hx);rw[h2] at h1;cases h1
theorem ziE {α:Type} (k:Int) (b:List (Int×α)):∀a:List (Int×α),zaH (a++b) k=(zaH a k).or (zaH b k)
 | []=>rfl
 | (i,y)::a=>by
  rw[zt,zaH,zaH];split;(·rfl);exact ziE k b a
theorem tabM_app (a b:List Bd):zb4 (a++b)=zb4 a++zb4 b:=by simp[zb4]
theorem zc9 {k:Int} {p:Bd->Bool} (hp:∀x:Bd,x.v=k->p x=true):∀b:List Bd,zaH (zb4 (b.filter p)) k=zaH (zb4 b) k
 | []=>rfl
 | x::b=>by
  by_cases hx:x.v=k
  ·rw[List.filter_cons_of_pos (hp x hx)]
   (show (if x.v=k then some x.t else _)=(if x.v=k then some x.t else _));rw[if_pos hx,if_pos hx]
  have e:zaH (zb4 (x::b)) k=zaH (zb4 b) k:=by
   (show (if x.v=k then some x.t else _)=_);rw[if_neg hx];rfl
  rw[e,List.filter_cons];split
  ·show (if x.v=k then some x.t else _)=_
   rw[if_neg hx];exact zc9 hp b
  exact zc9 hp b
theorem zgE (f:Ty->Ty) (k:Int):∀a:List Bd,zaH (zb4 (a.map fun x=>⟨x.v,f x.t⟩)) k=(zaH (zb4 a) k).map f
 | []=>rfl
 | x::a=>by
  (show (if x.v=k then some (f x.t) else _)=Option.map f (if x.v=k then some x.t else _));split;(·rfl);exact zgE f k a
theorem bfun_then {a b:List Bd} (ha:∀x∈a,x.t.right=true) (v:Int):zgi (ze9 a b) v=(zgi a v).subF (zgi b):=by
 rw[zeh,zeh a,ze9,tabM_app,ziE,zgE]
 cases hp:zaH (zb4 a) v with
 | some x =>
  obtain ⟨y,hy,he⟩:=zq.1 (zd2 hp);have hx:y.t=x:=congrArg Prod.snd he;simp only[zY,Option.some_or,Option.getD_some]
  rw[<- hx];exact Ty.subM_bfun b _ (ha y hy)
 | none =>
  simp only[Option.map_none,Option.none_or,Option.getD_none];rw[zc9 (fun x hx=>by rw[hx,hp];rfl),Ty.subF_var rfl];exact (zeh b v).symm
def zke (a b:List Bd) (L:List Int):Bool:=!L.any fun v=>!((vTy v).subM (zb4 a)).same ((vTy v).subM (zb4 b))
theorem zkL (l:List Bd) (v:Int):(vTy v).subM (zb4 l)=zgi l v:=by
 rw[zeh]
 cases hp:zaH (zb4 l) v with
 | some x=>rw[Ty.subM_yes (t:=vTy v) rfl hp];rfl
 | none=>rw[Ty.subM_no (t:=vTy v) (by rw[show (vTy v).n=v from rfl,hp];simp)];rfl
theorem zlu {a b:List Bd} {L:List Int}:zke a b L=true↔∀v∈L,zgi a v=zgi b v:=by
 unfold zke;rw[Bool.not_eq_true',List.any_eq_false];(refine forall_congr' fun v=>forall_congr' fun _=>?_);rw[zkL,zkL,Bool.not_eq_true,Bool.not_eq_false',Ty.same_iff]
def zfC (l:List Bd) (es:List (Ty×Ty)):Bool:=!es.any fun e=>!(e.1.subM (zb4 l)).same (e.2.subM (zb4 l))
theorem zi7 {l:List Bd} {es:List (Ty×Ty)} (hr:zfu es):zfC l es=true↔za0 (zgi l) es:=by
 unfold zfC za0;rw[Bool.not_eq_true',List.any_eq_false];(refine forall_congr' fun e=>forall_congr' fun he=>?_);rw[Bool.not_eq_true,Bool.not_eq_false',Ty.same_iff,Ty.subM_bfun l _ (hr e he).1,Ty.subM_bfun l _ (hr e he).2]
def solvedB (l:List Bd):Bool:=!l.any fun b=>(b.t.rvars []).any fun v=>(zaH (zb4 l) v).isSome
theorem zjv {α:Type} {C:List α->Prop} (h0:C []) (h1:∀l x,C l->C (l++[x])) (l:List α):C l:=by
 have h:∀k:List α,C k.reverse:=by
  intro k
  induction k with
  | nil=>exact h0
  | cons x k ih=>rw[List.reverse_cons];exact h1 _ _ ih
 have:=h l.reverse
 rwa [List.reverse_reverse] at this
def zh4 (l:List Bd) (i:Nat):Bool:=match l[i]? with
 | some b=>(zbI l b.v==(i:Int))&&(decide (0<=b.v)&&decide (b.v<1073741824))&&b.t.right
 | none=>true
def zfV (l:List Bd):Bool:=(List.range l.length).all (zh4 l)
theorem zbK {l:List Bd} {i:Nat} (h:zh4 l i=false):zfV l=false:=by
 have hi:i<l.length:=by
  (rcases zD i l.length with h1 | h1);(·exact h1);unfold zh4 at h;rw[List.getElem?_eq_none h1] at h;cases h
 unfold zfV;rw[Bool.eq_false_iff];intro h2;have:=zP.1 h2 i (List.mem_range.2 hi);rw[h] at this;cases this
theorem zbE {l:List Bd} (h:∀i,i<l.length->zh4 l i=true):zfV l=true:=zP.2 fun i hi=>h i (List.mem_range.1 hi)
theorem zid {v:Int}:(vTy v).right=(decide (0<=v)&&decide (v<1073741824)):=by
 rw[Ty.right_eq];simp[vTy,Ty.k,Ty.n,Ty.ps,okN]
theorem zjq {l:List Bd} (h:∀(i:Nat) (b:Bd),l[i]?=some b->zbI l b.v=(i:Int)):(l.map Bd.v).Nodup:=by
 rw[List.nodup_iff_pairwise_ne,List.pairwise_map];rw[List.pairwise_iff_getElem];intro i j hi hj hij e;have h1:=h i l[i] (za hi);have h2:=h j l[j] (za hj);rw[e,h2] at h1;omega
theorem zjJ {l:List Bd}:zfV l=true↔(l.map Bd.v).Nodup/\∀b∈l,(vTy b.v).right=true/\b.t.right=true:=by
 constructor
 ·intro h
  have h0:∀(i:Nat) (b:Bd),l[i]?=some b->zbI l b.v=(i:Int)/\(vTy b.v).right=true/\b.t.right=true:=by
   intro i b hb;have hi:=(zb.1 hb).1;have h1:=zP.1 h i (List.mem_range.2 hi);unfold zh4 at h1;rw[hb] at h1;simp only[zw,beq_iff_eq] at h1;exact ⟨h1.1.1,by rw[zid,zw];exact h1.1.2,h1.2⟩
  refine ⟨zjq fun i b hb=>(h0 i b hb).1,fun b hb=>?_⟩;obtain ⟨i,hi⟩:=List.getElem?_of_mem hb;exact (h0 i b hi).2
 rintro ⟨hn,h⟩;refine zbE fun i hi=>?_;have hb:l[i]?=some l[i]:=za hi;unfold zh4;rw[hb];have h1:=zkA hn hb;obtain ⟨h2,h3⟩:=h l[i] (zc hb);rw[zid] at h2;simp only[h1,h2,h3,beq_self_eq_true,Bool.and_true]
theorem addV_nd {l:List Int} {n:Int} (h:l.Nodup):(zgL l n).Nodup:=by
 unfold zgL;split;(·exact h);(rename_i hn);rw[List.nodup_append];refine ⟨h,by simp,?_⟩;rintro a ha b hb rfl;(simp at hb;subst hb);exact hn (List.any_eq_true.2 ⟨a,ha,by simp⟩)
theorem Ty.rvars_nd:∀(t:Ty) (l:List Int),l.Nodup->(t.rvars l).Nodup:=by
 refine Ty.ind fun t ih l hl=>?_;rw[Ty.rvars_eq]
 have key:∀ps:List Ty,(∀p∈ps,∀l:List Int,l.Nodup->(p.rvars l).Nodup)->∀l:List Int,l.Nodup->(Ty.rvarsL ps l).Nodup:=by
  intro ps
  induction ps with
  | nil=>intro _ l hl;exact hl
  | cons p ps ih2 =>
   intro h l hl;rw[Ty.rvarsL];exact ih2 (fun q hq=>h q (by simp[hq])) _ (h p tz4 l hl)
 refine key t.ps ih _ ?_;split;(·exact addV_nd hl);exact hl
def zaP (es:List (Ty×Ty)):List Int:=es.foldl (fun v e=>e.2.rvars (e.1.rvars v)) []
theorem zdK (es:List (Ty×Ty)) (e:Ty×Ty):zaP (es++[e])=e.2.rvars (e.1.rvars (zaP es)):=by simp[zaP,List.foldl_append]
theorem zg4 (es:List (Ty×Ty)):(zaP es).Nodup/\∀v,v∈zaP es↔OccE es v:=by
 induction es using zjv with
 | h0=>exact ⟨List.nodup_nil,fun v=>⟨fun h=>(by cases h),fun ⟨e,he,_⟩=>(by cases he)⟩⟩
 | h1 es e ih =>
  rw[zdK];refine ⟨Ty.rvars_nd _ _ (Ty.rvars_nd _ _ ih.1),fun v=>?_⟩;rw[Ty.mem_rvars,Ty.mem_rvars,ih.2];unfold OccE;constructor
  ·rintro ((⟨x,hx,h⟩ | h) | h)
   (·exact ⟨x,List.mem_append_left _ hx,h⟩);(·exact ⟨e,by simp,.inl h⟩);exact ⟨e,by simp,.inr h⟩
  rintro ⟨x,hx,h⟩;(rcases zE.1 hx with hx | hx);(·exact .inl (.inl ⟨x,hx,h⟩));(simp at hx;subst hx);(rcases h with h | h);(·exact .inl (.inr h));exact .inr h
theorem zgQ (es:List (Ty×Ty)):(zaP es).length<=(es.map fun e=>e.1.cnt+e.2.cnt).sum:=by
 induction es using zjv with
 | h0=>simp[zaP]
 | h1 es e ih =>
  rw[zdK];have h1:=e.2.rvars_len (e.1.rvars (zaP es));have h2:=e.1.rvars_len (zaP es);simp only[zu,zy,zW,List.sum_append,List.sum_cons,List.sum_nil];omega
def zjk (v:Int) (o:List Int):List Int:=o.takeWhile (fun x=>decide (x<v))++v::o.dropWhile (fun x=>decide (x<v))
theorem zkT {v x:Int} {o:List Int}:x∈zjk v o↔x=v\/x∈o:=by
 unfold zjk;have e:=List.takeWhile_append_dropWhile (p:=fun x=>decide (x<v)) (l:=o);constructor
 ·intro h
  (rcases zE.1 h with h | h);(·exact .inr (by rw[<- e];exact List.mem_append_left _ h));(rcases zG.1 h with h | h);(·exact .inl h);exact .inr (by rw[<- e];exact List.mem_append_right _ h)
 rintro (rfl | h);(·simp);rw[<- e] at h;(rcases zE.1 h with h | h);(·exact List.mem_append_left _ h);exact List.mem_append_right _ (List.mem_cons_of_mem _ h)
theorem insV_len (v:Int) (o:List Int):(zjk v o).length=o.length+1:=by
 have e:=congrArg List.length (List.takeWhile_append_dropWhile (p:=fun x=>decide (x<v)) (l:=o));rw[zh] at e;simp only[zjk,zh,zB];omega
theorem zgb {v:Int}:∀{o:List Int},o.Pairwise (· < ·)->v∉o->(zjk v o).Pairwise (· < ·)
 | [],_,_=>by simp[zjk]
 | x::o,h,hv=>by
  rw[List.pairwise_cons] at h;simp only[zG,not_or] at hv
  by_cases hx:x<v
  ·have e:zjk v (x::o)=x::zjk v o:=by simp[zjk,hx]
   rw[e,List.pairwise_cons];refine ⟨fun y hy=>?_,zgb h.2 hv.2⟩;(rcases zkT.1 hy with rfl | hy);(·exact hx);exact h.1 y hy
  (have e:zjk v (x::o)=v::x::o:=by simp[zjk,hx]);(have hlt:v<x:=by omega);rw[e,List.pairwise_cons];refine ⟨fun y hy=>?_,List.pairwise_cons.2 h⟩;(rcases zG.1 hy with rfl | hy);(·exact hlt);have:=h.1 y hy;omega
def zaI (l:List Int):List Int:=l.foldl (fun o v=>zjk v o) []
theorem zlt {l:List Int} {s:Nat} {v:Int} (h:l[s]?=some v):zaI (l.take (s+1))=zjk v (zaI (l.take s)):=by
 rw[zR,h];simp[zaI,List.foldl_append]
theorem zh9 (l:List Int):(zaI l).length=l.length/\(∀v,v∈zaI l↔v∈l)/\(l.Nodup->(zaI l).Pairwise (· < ·)):=by
 induction l using zjv with
 | h0=>exact ⟨rfl,fun v=>Iff.rfl,fun _=>.nil⟩
 | h1 l v ih =>
  (have e:zaI (l++[v])=zjk v (zaI l):=by simp[zaI,List.foldl_append]);rw[e];refine ⟨by rw[insV_len,ih.1];simp,fun x=>?_,fun hn=>?_⟩;(·rw[zkT,ih.2.1];simp[or_comm]);rw[List.nodup_append] at hn;exact zgb (ih.2.2 hn.1) fun h=>hn.2.2 v ((ih.2.1 v).1 h) v tz4 rfl
theorem zgR {p:Int->Bool}:∀{o:List Int} {k:Nat},(∀i x,i<k->o[i]?=some x->p x=true)->k<=o.length->(k=o.length\/∃x,o[k]?=some x/\p x=false)->o.takeWhile p=o.take k/\o.dropWhile p=o.drop k
 | [],k,_,hk,_=>by simp at hk;subst hk;simp
 | y::o,0,_,_,h=>by
  (rcases h with h | ⟨x,h1,h2⟩);·simp at h
  simp at h1;subst h1;simp[List.takeWhile,List.dropWhile,h2]
 | y::o,k+1,h,hk,h2=>by
  have h0:p y=true:=h 0 y tz1 rfl;obtain ⟨e1,e2⟩:=zgR (o:=o) (k:=k) (fun i x hi hx=>h (i+1) x tz1 hx) (by simpa using hk) (by simpa using h2);simp[List.takeWhile,List.dropWhile,h0,e1,e2]
end Go.Proofs.YtpfiliamceimmaaGreatDoor
namespace Go.Proofs.YtpfiliamceimmaaGreatDoor
open Go Go.RowKit
attribute [local irreducible] aops zaA
theorem APure.le {P:Program} {f:Nat} {args args':List AV} {x:AV} (h:APure P f args' x) (hl:LeL args args') (hd:DataL args):APure P f args x:=⟨hd,h.2.1,h.2.2.args hl⟩
theorem Find_pure (l:List Bd) (n:Int):APure Tryz.prog 71 [.sl 4 (l.map Bd.cells),.v (.int .i64 n)] (.v (.int .i64 (zbI l n))):=by
  refine APure.mkL (.cons (Bd.dataSl l) (.cons (.v _) .nil)) (.v _) ?_;refine aIn Tryz.func71 fun hm=>?_;simp only[Tryz.ntmps71,Tryz.results71,go_sem,seval];have hm1:=hm.len (sz:=4) (xs:=l.map Bd.cells) tz4;rw[zC] at hm1;refine sqD ?_;refine zZ fun _ y=>?_;refine sqD ?_;apply zab;refine zah (σ:=Nat) (mB 20 35) (fun s=>s<=l.length/\∀(i:Nat) (b:Bd),i<s->l[i]?=some b->(b.v==n)=false) (fun s=>[(5,.v (.int .i64 (s:Int)))]) (fun s=>[]) (fun s=>l.length-s) 0 (⟨by omega,fun i p hi=>by omega⟩) ?_ (fun s hs=>?_)
  ·
   simp only[go_sem,seval];exact zaK
  simp only[go_sem,seval];refine zZ fun _ u=>?_;refine sqD ?_;apply z8 rfl <;> intro hb9
  ·
   (have hk:s<l.length:=by simpa using hb9);obtain ⟨p,hp⟩:∃p,l[s]?=some p:=⟨_,za hk⟩;have hw:IntKind.i64.wrap ((s:Int)+1)=(s:Int)+1:=zal tz1 (by simp only[maxLen] at hm1;omega);apply zac;apply u;refine zZ fun _ u=>?_;apply zab;refine sqR fun _ w=>?_;refine chS 4 ?_ (by intro _ q;simp only[↓bO,go_sem,seval,hk,gM hp];exact q);simp only[↓bO,go_sem,seval,Bd.take1,Bd.cells_len];apply w;apply z8 rfl <;> intro hb18
   ·
    refine sqD ?_;apply zaa;(try simp only[go_sem]);refine Le.of_eq (congrArg (fun b=>AV.v (.int .i64 b)) ?_);first | (exact (zaO hp (by exact hb18) hs.2).symm) | (exact (za3 fun i p hi hp=>hs.2 i p tz1 hp).symm)
   apply zac;apply u;apply z7;simp only[↓bO,go_sem,seval,hw];refine ⟨(s+1),⟨by omega,fun i p' hi h1=>(by rcases zD i s with h3 | h3 <;> first | exact hs.2 i p' h3 h1 | (obtain rfl:i=s:=tz1;rw[hp] at h1;cases h1;exact hb18))⟩,by omega,?_⟩;simp only[zas,zat,zag,zam,mB,seval,zj,zi];exact zaK
  (have hk:s=l.length:=by have:=hs.1;simp at hb9;omega);apply zaj;simp only[zaq,zak,zaf,bA,Nat.reduceEqDiff,↓reduceIte];apply y;refine sqD ?_;apply zaa;(try simp only[go_sem]);refine Le.of_eq (congrArg (fun b=>AV.v (.int .i64 b)) ?_);first | (exact (zaO hp (by exact hb18) hs.2).symm) | (exact (za3 fun i p hi hp=>hs.2 i p tz1 hp).symm)
def sv (l:List Int):List (Int×AV):=l.map fun n=>(n,.v (.int .i64 1))
theorem wrap1:IntKind.i64.wrap 1=1:=zal tz1 tz1
def sObs (l:List Int):List Ob:=[.map (sv l),.cells 130 [.map 0],.cells 54 [.osl 3 1 (l.map intC)],.tok 3 1 l.length]
def SCalls (f:Nat) (args:List AV) (l:List Int) (R:AV) (l1:List Int):Prop :=
 ACalls Tryz.prog f args (zad 0 (sObs l)) 4 fun r os n=>(r=R/\os=zad 0 (sObs l1))/\n=4
end Go.Proofs.YtpfiliamceimmaaGreatDoor
