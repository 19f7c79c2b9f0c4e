/- packed, part 38 of 48. Conditions: none. -/
import Derived.Test.YtpfiliamceimmaaGreatDoorPk37
set_option linter.unusedVariables false
set_option linter.unusedSimpArgs false
set_option maxRecDepth 100000
set_option maxHeartbeats 4000000
namespace Go.Proofs.YtpfiliamceimmaaGreatDoor
open Go Go.RowKit
attribute [local irreducible] aops zaA
def za6 (W:WS):List Ob:=[.map (mC cI W.st),.map (mC cB W.cy),.map (mC cI W.de),.map (mC cI W.sz),.cells 134 [.map 8,.map 9,.map 10,.map 11,.v (.int .i64 W.steps),.v (.bool W.bad)]]
theorem wUnd {n:Nat} (h:13<=n) (S:CS) (W:WS):UndOs n (zad 0 (zan S++za6 W++[])) :=
 ⟨by omega,⟨.v _ _,.ptr tz1,.ptr tz1,.own tz1,.v _ _,trivial⟩,by omega,⟨.osl tz1 (.data (.sl (GNode.dataRows S.G.N))),.map tz1,trivial⟩,by omega,trivial,by omega,fun p hp=>.data (zaU S.G.V p hp),
  by omega,⟨.own tz1,.own tz1,.v _ _,.v _ _,trivial⟩,by omega,Und.rowI (zaY _),by omega,Und.rowI (zaJ _),by omega,Und.rowI (zaJ _),
  by omega,fun p hp=>.data (zaN _ p hp),by omega,fun p hp=>.data (zb4 _ p hp),by omega,fun p hp=>.data (zaN _ p hp),by omega,fun p hp=>.data (zaN _ p hp),by omega,⟨.map tz1,.map tz1,.map tz1,.map tz1,.v _ _,.v _ _,trivial⟩,trivial⟩
theorem renW (S:CS) (W:WS) (nx:Nat):RenOs (zbu [0,1,2,3,4,5,6,7,8,9,10,11,12] nx) 0 (zan S++za6 W) (zan S++za6 W) :=
 ⟨.cells ⟨.v _,.ptr rfl,.ptr rfl,.own rfl,.v _,trivial⟩,.cells ⟨.osl rfl (GNode.dataRows S.G.N),.map rfl,trivial⟩,.tok,.map (zaU S.G.V),.cells ⟨.own rfl,.own rfl,.v _,.v _,trivial⟩,.row (zaY _),.row (zaJ _),.row (zaJ _),
  .map (zaN _),.map (zb4 _),.map (zaN _),.map (zaN _),.cells ⟨.map rfl,.map rfl,.map rfl,.map rfl,.v _,.v _,trivial⟩,trivial⟩
def WCalls {σ:Type} (f:Nat) (args:List AV) (S:CS) (W:WS) (C:(FS×WS)×σ->Prop) (R:σ->AV):Prop :=
 ACalls Tryz.prog f args (zad 0 (zan S++za6 W++[])) 13 fun z os n=>(∃s:(FS×WS)×σ,C s/\z=R s.2/\os=zad 0 (zan {S with F:=s.1.1}++za6 s.1.2++[]))/\n=13
theorem WCalls.at {σ:Type} {f:Nat} {args:List AV} {S:CS} {W:WS} {C:(FS×WS)×σ->Prop} {R:σ->AV} (h:WCalls f args S W C R) {os':Os} {nx':Nat}
  (ha:RenL (zbu [0,1,2,3,4,5,6,7,8,9,10,11,12] nx') args args) (hR:∀s,RenV (zbu [0,1,2,3,4,5,6,7,8,9,10,11,12] nx') (R s) (R s)) (hlt:13<=nx') (hg:GetsO os' [0,1,2,3,4,5,6,7,8,9,10,11,12] (zan S++za6 W)) {Q':AV->Os->Nat->Prop}
  (hq:∀(F1:FS) (W1:WS) (s:σ),C ((F1,W1),s)->Q' (R s) (zah os' ([0,1,2,3,4,5,6,7,8,9,10,11,12].zip (zan {S with F:=F1}++za6 W1))) nx'):ACalls Tryz.prog f args os' nx' Q' :=
 ACalls.atE (σ:=(FS×WS)×σ) (C:=C) (args:=args) (R:=fun s=>R s.2) (R':=fun s=>R s.2) (obs:=zan S++za6 W) (obs1:=fun s=>zan {S with F:=s.1.1}++za6 s.1.2) (obs':=zan S++za6 W) (obs1':=fun s=>zan {S with F:=s.1.1}++za6 s.1.2) [0,1,2,3,4,5,6,7,8,9,10,11,12]
  (by unfold WCalls at h;simp only[List.append_nil] at h;exact h) rfl (fun _=>rfl) tz3 (by simp only[zE,List.not_mem_nil,or_false];omega) ha (fun s=>hR s.2) (renW S W nx') hg (fun s=>renW _ s.1.2 nx') (fun s hs=>hq s.1.1 s.1.2 s.2 hs)
theorem wrap_step {n:Int} (h0:0<=n) (h1:n<=1000000000):IntKind.i64.wrap (n+1)=n+1:=zal tz1 tz1
theorem zcc {p:Prop} (h:p:=by exact ⟨⟨_,_,rfl,by simp,rfl,trivial,trivial⟩,⟨_,_,rfl,by simp,rfl,trivial,trivial,trivial⟩,trivial⟩):p:=h
theorem tz17 {p:Prop} (h:p:=by exact ⟨⟨_,_,rfl,by simp,rfl,trivial,trivial,trivial⟩,trivial⟩):p:=h
theorem begin_c (S:CS) (hS:CyG S) (W:WS) (h0:0<=W.steps) (h1:W.steps<=1000000000) (r:Nat) (hr:Rt S.F.up r r):ACalls Tryz.prog 160 [.ptr 12 0,.agg [.ptr 0 0,.v (.int .i64 (r:Int))]] (zad 0 (zan (S)++za6 (W)++[])) 13 fun z os n=>(∃s:(FS×WS)×Unit,(FSame S.F s.1.1/\s.1.2=W.begin r)/\z=(fun s:Unit=>.agg (frC (zaK S) (r,0))) s.2/\os=zad 0 (zan {S with F:=s.1.1}++za6 s.1.2++[]))/\n=13:=by
  refine ACalls.clean (C:=fun zr zo=>∃s:(FS×WS)×Unit,(FSame S.F s.1.1/\s.1.2=W.begin r)/\zr=(fun s:Unit=>.agg (frC (zaK S) (r,0))) s.2/\zo=zad 0 (zan {S with F:=s.1.1}++za6 s.1.2++[])) ?_;refine aIn Tryz.func160 fun hm=>?_;simp only[Tryz.ntmps160,Tryz.results160,go_sem,seval];simp only[zan,za6,zw,zB,zad,Nat.reduceAdd];have hrl:=hr.lt;have hfl:=hS.c.fl;obtain ⟨x,hx⟩:∃x,S.W[r]?=some x:=⟨_,za tz1⟩;have hw1:=wrap_step h0 h1;refine sqR fun _ u=>?_;refine chS 1 ?_;simp only[↓bO,go_sem,seval];apply u;refine sqR fun _ u=>?_;(iterate 7 (refine chS 1 ?_ (by intro _ q;simp only[↓bO,go_sem,seval,hw1];exact q)));simp only[↓bO,go_sem,seval];apply u;refine z6 fun _ u=>?_;refine zax [(12,0,[.map 8]),(13,0,[.ptr 0 0,.v (.int .i64 (r:Int))])] 7 rfl mixed (zcc) rfl ?_;dsimp only;refine tkS 0 ?_;refine tkS 1 ?_;refine tkS 2 ?_;refine tkM 3 0 ?_;refine tkM 4 1 ?_;refine al1 (i:=5) ?_;refine opT fun _ y=>?_;simp only[↓bO,go_sem,seval];refine CCalls.atP (zdw (S) (r:Int)) (i0:=0) (i1:=1) (i2:=2) (i3:=3) (i4:=4) (i5:=5) (i6:=6) (i7:=7) tz6 (fun _=>by exact .v _) tz3 tz4 zbc (fun Z1 u1 hZ1=>?_);(try dsimp only at hZ1);simp only[zat,zl,zp,zm,zah,zam,Nat.reduceEqDiff,↓reduceIte];obtain rfl:S=Z1:=hZ1.symm;(try simp only[go_sem]);refine y _ ⟨zcc,?_⟩;clear y;refine al1 (i:=6) ?_;refine opT fun _ y=>?_;simp only[↓bO,go_sem,seval,upd_I];refine y _ ⟨zcc,?_⟩;clear y;refine dnA ?_;apply u;refine z6 fun _ u=>?_;refine zax [(13,0,[.ptr 0 0,.v (.int .i64 (r:Int))])] 6 rfl mixed (tz17) rfl ?_;dsimp only;refine tkM 0 0 ?_;refine tkM 2 0 ?_;refine al1 (i:=1) ?_;refine opT fun _ y=>?_;simp only[↓bO,go_sem,seval];refine CCalls.atP (zdw (S) (r:Int)) (i0:=0) (i1:=1) (i2:=2) (i3:=3) (i4:=4) (i5:=5) (i6:=6) (i7:=7) tz6 (fun _=>by exact .v _) tz3 tz4 zbc (fun Z2 u2 hZ2=>?_);(try dsimp only at hZ2);simp only[zat,zl,zp,zm,zah,zam,Nat.reduceEqDiff,↓reduceIte];obtain rfl:S=Z2:=hZ2.symm;(try simp only[go_sem]);refine y _ ⟨tz17,?_⟩;clear y;refine al1 (i:=3) ?_;refine opT fun _ y=>?_;simp only[↓bO,go_sem,seval];refine CCalls.atP (R':=fun s=>.sl 2 (s.map (zbQ 0))) (zkW S hS.c.f hS.c.pl hS.c.wr r x hx (hS.g0 r x hr hx)) (i0:=0) (i1:=1) (i2:=2) (i3:=3) (i4:=4) (i5:=5) (i6:=6) (i7:=7) tz6 (fun _=>by exact .parts rfl _) tz3 tz4 zbc (fun Z4 rs hZ4=>?_);(try dsimp only at hZ4);simp only[zat,zl,zp,zm,zah,zam,Nat.reduceEqDiff,↓reduceIte];obtain ⟨F2,rfl⟩:∃F2,Z4={S with F:=F2}:=⟨Z4.F,hZ4.2.1⟩;have hF2:FSame S.F F2:=hZ4.1;have hkd:zaK S r=rs:=zeb ⟨x,hx,hZ4.2.2⟩;(try simp only[go_sem]);refine y _ ⟨tz17,?_⟩;clear y;refine alS 4 ?_ (hH:=by exact tz17);refine alS 5 ?_ (hH:=by exact tz17);refine dnA ?_;apply u;apply zab;(try simp only[zao,zaj,zaf,zdg,zcC,za0,bS,bA,zaS,zav,zbP,bL,Nat.reduceAdd,Nat.reduceLeDiff,Nat.reduceEqDiff,↓reduceIte,ti198,zx,zH,Int.natCast_nonneg,zgH,look_B,upd_I,upd_B,hw1]);refine ⟨_,zad 0 (zan {S with F:=F2}++za6 (W.begin r)++[]),⟨((F2,W.begin r),()),?_,rfl,rfl⟩,.agg (Und.frame _ tz1 _),wUnd tz1 _ _,?_,?_,by omega⟩;· exact ⟨hF2,rfl⟩
  ·
   rw[frC,hkd];exact Le.refl _
  first | (refine ⟨2,rfl,rfl⟩) | (refine ⟨1,rfl,rfl⟩) | (refine ⟨0,rfl,rfl⟩) | (refine ⟨2,by simp only[zan,za6,zw,zB,zad,zk,zf,Nat.reduceAdd,WS.begin],rfl⟩) | (refine ⟨1,by simp only[zan,za6,zw,zB,zad,zk,zf,Nat.reduceAdd,WS.begin],rfl⟩) | (refine ⟨0,by simp only[zan,za6,zw,zB,zad,zk,zf,Nat.reduceAdd,WS.begin],rfl⟩)
theorem lUnd {n:Nat} (h:14<=n) (S:CS) (W:WS) (K:Nat->List Nat) (stk:List (Nat×Nat)):UndOs n (zad 0 (zan S++za6 W++[.row 198 3 (stk.map (frC K))])):=by
 have h1:=wUnd (n:=n) tz1 S W;obtain ⟨a0,a1,b0,b1,c0,c1,d0,d1,e0,e1,f0,f1,g0,g1,i0,i1,j0,j1,k0,k1,l0,l1,m0,m1,o0,o1,_⟩:=h1;exact ⟨a0,a1,b0,b1,c0,c1,d0,d1,e0,e1,f0,f1,g0,g1,i0,i1,j0,j1,k0,k1,l0,l1,m0,m1,o0,o1,by omega,Und.frames K tz1 stk,trivial⟩
theorem zfF {stk:List (Nat×Nat)} {m q:Nat} {p:Nat×Nat} {W:WS} (h:stk[m]?=some p):zbg q ((stk.take (m+1)).reverse.map Prod.fst) W=if p.1=q then W.mark p.1 else zbg q ((stk.take m).reverse.map Prod.fst) (W.mark p.1):=by
 rw[zM,h];simp only[Option.toList_some,List.reverse_append,List.reverse_cons,List.reverse_nil,zB,zw,zt,zbg]
theorem loop_c (S:CS) (hS:FInv S.F) (W:WS) (K:Nat->List Nat) (stk:List (Nat×Nat)) (hl:stk.length<=1048576) (q:Nat):ACalls Tryz.prog 161 [.ptr 12 0,.own 13 stk.length,.v (.int .i64 (q:Int))] (zad 0 (zan (S)++za6 (W)++[.row 198 3 (stk.map (frC K))])) 14 fun z os n=>(∃s:(FS×WS)×Unit,(s.1.1=S.F/\s.1.2=zbg q (stk.reverse.map Prod.fst) W)/\z=(fun s:Unit=>.tup []) s.2/\os=zad 0 (zan {S with F:=s.1.1}++za6 s.1.2++[.row 198 3 (stk.map (frC K))]))/\n=14:=by
  refine ACalls.clean (C:=fun zr zo=>∃s:(FS×WS)×Unit,(s.1.1=S.F/\s.1.2=zbg q (stk.reverse.map Prod.fst) W)/\zr=(fun s:Unit=>.tup []) s.2/\zo=zad 0 (zan {S with F:=s.1.1}++za6 s.1.2++[.row 198 3 (stk.map (frC K))])) ?_;refine aIn Tryz.func161 fun hm=>?_;simp only[Tryz.ntmps161,Tryz.results161,go_sem,seval];simp only[zan,za6,zw,zB,zad,Nat.reduceAdd];have hwl:IntKind.i64.wrap ((stk.length:Int)-1)=(stk.length:Int)-1:=zal tz1 tz1;refine sqR fun _ u=>?_;(iterate 3 (refine chS 1 ?_ (by intro _ q;simp only[↓bO,go_sem,seval,hwl];exact q)));simp only[↓bO,go_sem,seval];apply u;apply zac;refine zai (σ:=List (Int×Bool)×Nat) (mB 30 71) (fun s=>zbg q ((stk.take s.2).reverse.map Prod.fst) {W with cy:=s.1}=zbg q (stk.reverse.map Prod.fst) W/\s.2<=stk.length) (fun s=>[(6,.v (.int .i64 ((s.2:Int)-1)))]) (fun s=>[(9,.map (mC cB s.1))]) (fun s=>s.2) (W.cy,stk.length) (⟨by rw[zI],zQ _⟩) ?_ (fun s hs=>?_)
  ·
   simp only[go_sem,seval];exact zaL
  simp only[go_sem,seval];refine z6 fun _ u=>?_;refine sqR fun _ w=>?_;refine chS 1 ?_;simp only[↓bO,go_sem,seval];apply w;apply z8 rfl <;> intro hb11
  ·
   (have hk:1<=s.2:=by (have h9:=hb11;simp at h9;omega));obtain ⟨m,hm⟩:∃m,s.2=m+1:=⟨s.2-1,by omega⟩;(have hx1:(s.2:Int)-1=(m:Int):=by omega);(have hml:m<stk.length:=by have:=hs.2;omega);obtain ⟨p,hst⟩:∃p,stk[m]?=some p:=⟨_,za hml⟩;have hw1:IntKind.i64.wrap ((m:Int)-1)=(m:Int)-1:=zal tz1 tz1;apply zaa;apply u;refine z6 fun _ u=>?_;apply zac;refine z6 fun _ w=>?_;refine zay 9 mixed tz0 fun J0 j0=>?_;(iterate 8 (simp only[go_sem];refine zae 1 fun _ y=>?_;simp only[↓zaA,↓dOp,↓bO,go_sem,seval,hx1,hml];apply y;clear y));simp only[go_sem];simp only[↓zaA,↓dOp,↓bO,go_sem,seval,hml,gM hst,frC];refine j0 _ ?_;clear j0 J0;simp only[go_sem];simp only[↓bO,go_sem,seval,upd_B];apply w;refine sqR fun _ w=>?_;(iterate 6 (refine chS 1 ?_ (by intro _ q;simp only[↓bO,go_sem,seval,hml,gM hst,frC];exact q)));simp only[↓bO,go_sem,seval];apply w;apply z8 rfl <;> intro hb29
   ·
    (have hpq:p.1=q:=by (have h9:=hb29;simp at h9;omega));(have hres:{W with cy:=zgN s.1 p.1 true}=zbg q (stk.reverse.map Prod.fst) W:=by (have h9:=hs.1;rw[hm,zfF hst,if_pos hpq] at h9;exact h9));apply zab;(try simp only[go_sem]);refine ⟨_,zad 0 (zan {S with F:=S.F}++za6 ({W with cy:=zgN s.1 p.1 true})++[.row 198 3 (stk.map (frC K))]),⟨((S.F,{W with cy:=zgN s.1 p.1 true}),()),?_,rfl,rfl⟩,.tup trivial,lUnd tz1 _ _ K stk,?_,?_,by omega⟩;· exact ⟨rfl,hres⟩
    ·
     exact Le.refl _
    first | (refine ⟨0,rfl,rfl⟩) | (refine ⟨0,by simp only[zan,za6,zw,zB,zad,zk,zf,Nat.reduceAdd],rfl⟩)
   (have hne:¬p.1=q:=by (have h9:=hb29;simp at h9;omega));apply zaa;apply u;apply z7;(iterate 2 (refine chS 1 ?_ (by intro _ q;simp only[↓bO,go_sem,seval,hw1];exact q)));simp only[↓bO,go_sem,seval];refine ⟨(zgN s.1 p.1 true,m),⟨by (have h9:=hs.1;rw[hm,zfF hst,if_neg hne] at h9;exact h9),by simp only;omega⟩,tz5,?_⟩;simp only[zar,zas,zah,zam,mB,seval];exact zaL
  (have hk:s.2=0:=by (have h9:=hb11;simp at h9;omega));(have hres:{W with cy:=s.1}=zbg q (stk.reverse.map Prod.fst) W:=by (have h9:=hs.1;rw[hk] at h9;exact h9));apply zak;simp only[zao,zaj,zaf,bA,Nat.reduceEqDiff,↓reduceIte];(try simp only[go_sem]);refine ⟨_,zad 0 (zan {S with F:=S.F}++za6 ({W with cy:=s.1})++[.row 198 3 (stk.map (frC K))]),⟨((S.F,{W with cy:=s.1}),()),?_,rfl,rfl⟩,.tup trivial,lUnd tz1 _ _ K stk,?_,?_,by omega⟩;· exact ⟨rfl,hres⟩
  ·
   exact Le.refl _
  first | (refine ⟨0,rfl,rfl⟩) | (refine ⟨0,by simp only[zan,za6,zw,zB,zad,zk,zf,Nat.reduceAdd],rfl⟩)
def WBd (W:WS):Prop:=∀x,(0<=W.dg x/\W.dg x<=most)/\0<=W.zg x/\W.zg x<=most
theorem zfg {ch:List Nat} {r k p:Nat} {W:WS} (h:ch[k]?=some p):zaC r (ch.take (k+1)) W=zbH r (zaC r (ch.take k) W) p:=by
 unfold zaC;rw[zM,h,List.foldl_append];rfl
theorem ze1 {W:WS} (h:WBd W) (r:Nat) (ch:List Nat):(0<=(zaC r ch W).1.1/\(zaC r ch W).1.1<=most)/\(1<=(zaC r ch W).1.2/\(zaC r ch W).1.2<=most)/\WBd (zaC r ch W).2:=by
 obtain ⟨h1,h2,h3,h4,h5,h6,h7,h8⟩:=zb9 r ch ((0,1),{W with st:=zgN W.st r 2})
 have key:∀(ch:List Nat) (a:Int×Int),(0<=a.1/\a.1<=most)->(1<=a.2/\a.2<=most)->(0<=(ch.foldl (fun a p=>(max a.1 (W.dg p),min most (a.2+W.zg p))) a).1/\(ch.foldl (fun a p=>(max a.1 (W.dg p),min most (a.2+W.zg p))) a).1<=most) /\
   1<=(ch.foldl (fun a p=>(max a.1 (W.dg p),min most (a.2+W.zg p))) a).2/\(ch.foldl (fun a p=>(max a.1 (W.dg p),min most (a.2+W.zg p))) a).2<=most:=by
  intro ch
  induction ch with
  | nil=>intro a h1 h2;exact ⟨h1,h2⟩
  | cons p ch ih =>
   intro a h1 h2;have h9:=h p;simp only[most] at h1 h2 h9;exact ih _ ⟨by simp only;omega,by simp only[most];omega⟩ ⟨by simp only[most];omega,by simp only[most];omega⟩
 have hk:=key ch (0,1) (by simp[most]) (by simp[most]);have e:(zaC r ch W).1=ch.foldl (fun a p=>(max a.1 (W.dg p),min most (a.2+W.zg p))) (0,1):=h8;rw[e];refine ⟨hk.1,hk.2,fun x=>?_⟩;have hx:=h x;(have e1:(zaC r ch W).2.dg x=W.dg x:=by unfold WS.dg;rw[show (zaC r ch W).2.de=W.de from h2]);(have e2:(zaC r ch W).2.zg x=W.zg x:=by unfold WS.zg;rw[show (zaC r ch W).2.sz=W.sz from h3]);rw[e1,e2];exact hx
theorem tz18 {p:Prop} (h:p:=by exact ⟨⟨_,_,rfl,by simp,rfl,trivial,trivial⟩,⟨_,_,rfl,by simp,rfl,trivial,trivial⟩,⟨_,_,rfl,by simp,rfl,trivial,trivial,trivial⟩,trivial⟩):p:=h
theorem tz19 {p:Prop} (h:p:=by exact ⟨rfl,rfl,rfl,rfl,rfl,rfl,rfl,rfl,rfl,rfl,rfl,rfl,rfl,rfl,trivial⟩):p:=h
theorem end_c (S:CS) (W:WS) (hb:WBd W) (K:Nat->List Nat) (r nx:Nat) (hK:(K r).length<=8):ACalls Tryz.prog 162 [.ptr 12 0,.agg (frC K (r,nx))] (zad 0 (zan (S)++za6 (W)++[])) 13 fun z os n=>(∃s:(FS×WS)×Unit,(s.1.1=S.F/\s.1.2=W.fin r (K r))/\z=(fun s:Unit=>.tup []) s.2/\os=zad 0 (zan {S with F:=s.1.1}++za6 s.1.2++[]))/\n=13:=by
  refine ACalls.clean (C:=fun zr zo=>∃s:(FS×WS)×Unit,(s.1.1=S.F/\s.1.2=W.fin r (K r))/\zr=(fun s:Unit=>.tup []) s.2/\zo=zad 0 (zan {S with F:=s.1.1}++za6 s.1.2++[])) ?_;refine aIn Tryz.func162 fun hm=>?_;simp only[Tryz.ntmps162,Tryz.results162,go_sem,seval];simp only[zan,za6,zw,zB,zad,Nat.reduceAdd];obtain ⟨ch,hch⟩:∃ch,ch=K r:=⟨_,rfl⟩;rw[<- hch] at hK ⊢;simp only[frC];rw[<- hch];refine sqD ?_;refine z6 fun _ u=>?_;refine zay 6 mixed tz0 fun J0 j0=>?_;(iterate 5 (simp only[go_sem];refine zae 1 fun _ y=>?_;simp only[↓zaA,↓dOp,↓bO,go_sem,seval];apply y;clear y));simp only[go_sem];simp only[↓zaA,↓dOp,↓bO,go_sem,seval];refine j0 _ ?_;clear j0 J0;simp only[go_sem];simp only[↓bO,go_sem,seval,upd_I];apply u;refine sqR fun _ u=>?_;refine chS 1 ?_;simp only[↓bO,go_sem,seval];apply u;refine z6 fun _ u=>?_;refine sqR fun _ w=>?_;(iterate 3 (refine chS 1 ?_));simp only[↓bO,go_sem,seval];apply w;apply zac;refine zai (σ:=Nat) (mB 83 229433) (fun s=>s<=ch.length) (fun s=>[(4,.v (.int .i64 (zaC r (ch.take s) W).1.1)),(5,.v (.int .i64 (zaC r (ch.take s) W).1.2)),(17,.v (.int .i64 (s:Int)))]) (fun s=>[(8,.map (mC cI (zaC r (ch.take s) W).2.st)),(9,.map (mC cB (zaC r (ch.take s) W).2.cy)),(10,.map (mC cI (zaC r (ch.take s) W).2.de)),(11,.map (mC cI (zaC r (ch.take s) W).2.sz))]) (fun s=>ch.length-s) 0 (Nat.zero_le _) ?_ (fun s hs=>?_)
  ·
   simp only[go_sem,seval,List.take_zero,zaC,List.foldl_nil];exact zaL
  simp only[go_sem,seval];refine sqD ?_;refine z6 fun _ w=>?_;apply z8 rfl <;> intro hb18
  ·
   (have hk:s<ch.length:=by simpa using hb18);obtain ⟨p,hp⟩:∃p,ch[s]?=some p:=⟨_,za hk⟩;have hbd:=ze1 hb r (ch.take s);have hbp:=hbd.2.2 p;simp only[most,WS.dg,WS.zg] at hbd hbp;have hw1:IntKind.i64.wrap ((s:Int)+1)=(s:Int)+1:=zal tz1 tz1;have hw2:IntKind.i64.wrap ((zaC r (ch.take s) W).1.2+(zcL (zaC r (ch.take s) W).2.sz (p:Int)).getD 0)=(zaC r (ch.take s) W).1.2+(zcL (zaC r (ch.take s) W).2.sz (p:Int)).getD 0:=zal tz1 tz1;apply zaa;apply w;refine z6 fun _ w=>?_;apply zac;refine sqR fun _ x=>?_;(iterate 3 (refine chS 1 ?_ (by intro _ q;simp only[↓bO,go_sem,seval,hk,gM hp,zbQ];exact q)));simp only[↓bO,go_sem,seval];apply x;refine z6 fun _ x=>?_;refine zax [(12,2,[.map 10]),(14,0,[.ptr 0 0,.v (.int .i64 (p:Int))])] 10 rfl mixed (zcc) rfl ?_;dsimp only;refine tkS 0 ?_;refine tkS 1 ?_;refine tkS 2 ?_;refine tkS 3 ?_;refine tkM 4 0 ?_;refine tkM 5 1 ?_;refine al1 (i:=6) ?_;refine opT fun _ y=>?_;simp only[↓bO,go_sem,seval];refine CCalls.atP (zdw (S) (p:Int)) (i0:=0) (i1:=1) (i2:=2) (i3:=3) (i4:=4) (i5:=5) (i6:=6) (i7:=7) tz6 (fun _=>by exact .v _) tz3 tz4 zbc (fun Z27 u27 hZ27=>?_);(try dsimp only at hZ27);simp only[zat,zl,zp,zm,zah,zam,Nat.reduceEqDiff,↓reduceIte];obtain rfl:S=Z27:=hZ27.symm;(try simp only[go_sem]);refine y _ ⟨zcc,?_⟩;clear y;refine al1 (i:=7) ?_;refine opT fun _ y=>?_;simp only[↓bO,go_sem,seval,zgH];refine y _ ⟨zcc,?_⟩;clear y;refine alS 8 ?_ (hH:=by exact zcc);refine tkS 9 ?_;refine dnA ?_;apply x;refine z6 fun _ x=>?_;refine zax [(12,3,[.map 11]),(14,0,[.ptr 0 0,.v (.int .i64 (p:Int))])] 11 rfl mixed (zcc) rfl ?_;dsimp only;refine tkS 0 ?_;refine tkS 1 ?_;refine tkS 2 ?_;refine tkS 3 ?_;refine tkM 4 0 ?_;refine tkM 5 1 ?_;refine al1 (i:=6) ?_;refine opT fun _ y=>?_;simp only[↓bO,go_sem,seval];refine CCalls.atP (zdw (S) (p:Int)) (i0:=0) (i1:=1) (i2:=2) (i3:=3) (i4:=4) (i5:=5) (i6:=6) (i7:=7) tz6 (fun _=>by exact .v _) tz3 tz4 zbc (fun Z36 u36 hZ36=>?_);(try dsimp only at hZ36);simp only[zat,zl,zp,zm,zah,zam,Nat.reduceEqDiff,↓reduceIte];obtain rfl:S=Z36:=hZ36.symm;(try simp only[go_sem]);refine y _ ⟨zcc,?_⟩;clear y;refine al1 (i:=7) ?_;refine opT fun _ y=>?_;simp only[↓bO,go_sem,seval,zgH];refine y _ ⟨zcc,?_⟩;clear y;refine al1 (i:=8) ?_;refine opT fun _ y=>?_;simp only[↓bO,go_sem,seval,hw2];refine y _ ⟨zcc,?_⟩;clear y;refine alS 9 ?_ (hH:=by exact zcc);refine tkS 10 ?_;refine dnA ?_;apply x;refine zax [(12,1,[.map 9]),(13,0,[.v (.int .i64 (r:Int))]),(14,0,[.ptr 0 0,.v (.int .i64 (p:Int))])] 23 rfl mixed (tz18) rfl ?_;dsimp only;refine tkS 0 ?_;refine tkS 1 ?_;refine tkS 2 ?_;refine tkM 3 0 ?_;refine tkS 4 ?_;refine tkM 5 1 ?_;refine tkS 6 ?_;refine tkS 7 ?_;refine tkS 8 ?_;refine tkM 9 0 ?_;refine tkS 10 ?_;refine tkM 11 1 ?_;refine al1 (i:=12) ?_;refine opT fun _ y=>?_;simp only[↓bO,go_sem,seval,look_B];refine y _ ⟨tz18,?_⟩;clear y;refine tkS 13 ?_;refine zjf 53 rfl (fun hc53=>?_) (fun hc53=>?_)
   ·
    simp only[go_sem];(have hor:(WS.cg (zaC r (ch.take s) W).2 r||WS.cg (zaC r (ch.take s) W).2 p)=true:=by (have h9:WS.cg (zaC r (ch.take s) W).2 r=true:=hc53;rw[h9];rfl));refine zaZ 14 rfl tz0 tz0 tz0 (fun _ _ h=>h) tz0 ?_;simp only[go_sem];refine zaZ 15 rfl tz0 tz0 tz0 (fun _ _ h=>h) tz0 ?_;simp only[go_sem];refine zaZ 16 rfl tz0 tz0 tz0 (fun _ _ h=>h) tz0 ?_;simp only[go_sem];refine zaZ 17 rfl tz0 tz0 tz0 (fun _ _ h=>h) tz0 ?_;simp only[go_sem];refine zaZ 18 rfl tz0 tz0 tz0 (fun _ _ h=>h) tz0 ?_;simp only[go_sem];refine zaZ 19 rfl tz0 tz0 tz0 (fun _ _ h=>h) tz0 ?_;simp only[go_sem];refine zaZ 20 rfl tz0 tz0 tz0 (fun _ _ h=>h) tz0 ?_;simp only[go_sem];refine alS 21 ?_ (hH:=by exact tz18);refine al1 (i:=22) ?_;refine opT fun _ y=>?_;simp only[↓bO,go_sem,seval,upd_B];refine y _ ⟨tz18,?_⟩;clear y;refine dnA ?_;apply w;apply z7;refine chS 1 ?_ (by intro _ q;simp only[↓bO,go_sem,seval,hw1];exact q);simp only[↓bO,go_sem,seval];refine ⟨(s+1),tz1,by omega,?_⟩;simp only[zar,zas,zah,zam,mB,seval,zj,zh,zn];rw[zfg hp];simp only[zbH,hor,WS.dg,WS.zg,most];refine Weak.sub ?_ tz19 tz2 tz2 ?_ ?_;(· simp only[go_sem,Le.refl,Le.any]);(· repeat' first | exact trivial | exact .any _ | exact .ptr tz1 | exact .own tz1 | exact .v _ _ | exact Und.data (EqT.dataSl _) | exact Und.parts tz1 _ | (refine ⟨?_,?_⟩));repeat' first | exact trivial | (with_reducible omega) | exact .any _ | exact .ptr tz1 | exact .own tz1 | exact .v _ _ | exact .map tz1 | exact Und.oslG tz1 | exact Und.rowI (zaY _) | exact Und.rowI (zaJ _) | exact (fun p hp=>.data (zaU _ p hp)) | exact Und.parts tz1 _ | exact (fun p hp=>.data (zaN _ p hp)) | exact (fun p hp=>.data (zb4 _ p hp)) | (refine ⟨?_,?_⟩)
   simp only[go_sem];(have hor:(WS.cg (zaC r (ch.take s) W).2 r||WS.cg (zaC r (ch.take s) W).2 p)=WS.cg (zaC r (ch.take s) W).2 p:=by (have h9:WS.cg (zaC r (ch.take s) W).2 r=false:=hc53;rw[h9];rfl));refine zb0 14 rfl tz0 tz0 tz0 (fun _ _ h=>h) tz0 fun _ y=>?_;simp only[↓bO,go_sem,seval];apply y;clear y;refine zb0 15 rfl tz0 tz0 tz0 (fun _ _ h=>h) tz0 fun _ y=>?_;simp only[↓bO,go_sem,seval];apply y;clear y;refine zb0 16 rfl tz0 tz0 tz0 (fun _ _ h=>h) tz0 fun _ y=>?_;simp only[↓bO,go_sem,seval];apply y;clear y;refine zgq 17 0 rfl rfl tz0 tz0 tz0 (fun _ _ h=>h) tz0 fun _ y=>?_;simp only[↓bO,go_sem,seval];apply y;clear y;refine zgq 18 2 rfl rfl tz0 tz0 tz0 (fun _ _ h=>h) tz0 fun _ y=>?_;simp only[↓bO,go_sem,seval];apply y;clear y;refine al1 (i:=19) ?_;refine aAt_if rfl fun _ y=>?_;simp only[↓bO,go_sem,seval];refine CCalls.atP (zdw (S) (p:Int)) (i0:=0) (i1:=1) (i2:=2) (i3:=3) (i4:=4) (i5:=5) (i6:=6) (i7:=7) tz6 (fun _=>by exact .v _) tz3 tz4 zbc (fun Z59 u59 hZ59=>?_);(try dsimp only at hZ59);simp only[zat,zl,zp,zm,zah,zam,Nat.reduceEqDiff,↓reduceIte];obtain rfl:S=Z59:=hZ59.symm;(try simp only[go_sem]);refine y _ ⟨tz18,?_⟩;clear y;refine al1 (i:=20) ?_;refine aAt_if rfl fun _ y=>?_;simp only[↓bO,go_sem,seval,look_B];refine y _ ⟨tz18,?_⟩;clear y;refine alS 21 ?_ (hH:=by exact tz18);refine al1 (i:=22) ?_;refine opT fun _ y=>?_;simp only[↓bO,go_sem,seval,upd_B];refine y _ ⟨tz18,?_⟩;clear y;refine dnA ?_;apply w;apply z7;refine chS 1 ?_ (by intro _ q;simp only[↓bO,go_sem,seval,hw1];exact q);simp only[↓bO,go_sem,seval];refine ⟨(s+1),tz1,by omega,?_⟩;simp only[zar,zas,zah,zam,mB,seval,zj,zh,zn];rw[zfg hp];simp only[zbH,hor,WS.dg,WS.zg,most];refine Weak.sub ?_ tz19 tz2 tz2 ?_ ?_;(· simp only[go_sem,Le.refl,Le.any]);(· repeat' first | exact trivial | exact .any _ | exact .ptr tz1 | exact .own tz1 | exact .v _ _ | exact Und.data (EqT.dataSl _) | exact Und.parts tz1 _ | (refine ⟨?_,?_⟩));repeat' first | exact trivial | (with_reducible omega) | exact .any _ | exact .ptr tz1 | exact .own tz1 | exact .v _ _ | exact .map tz1 | exact Und.oslG tz1 | exact Und.rowI (zaY _) | exact Und.rowI (zaJ _) | exact (fun p hp=>.data (zaU _ p hp)) | exact Und.parts tz1 _ | exact (fun p hp=>.data (zaN _ p hp)) | exact (fun p hp=>.data (zb4 _ p hp)) | (refine ⟨?_,?_⟩)
  (have hk:s=ch.length:=by simp at hb18;omega);have hbd:=ze1 hb r ch;simp only[most] at hbd;have hw3:IntKind.i64.wrap ((zaC r ch W).1.1+1)=(zaC r ch W).1.1+1:=zal tz1 tz1;(have hes:zaC r (ch.take s) W=zaC r ch W:=by rw[hk,zI]);rw[hes];have hes1:(zaC r ch W).2.steps=W.steps:=(zb9 r ch _).2.2.2.1;have hes2:(zaC r ch W).2.bad=W.bad:=(zb9 r ch _).2.2.2.2.1;apply zak;simp only[zao,zaj,zaf,bA,Nat.reduceEqDiff,↓reduceIte];apply u;refine zax [(12,2,[.map 10]),(12,3,[.map 11]),(13,0,[.v (.int .i64 (r:Int))])] 22 rfl mixed (tz9) rfl ?_;dsimp only;refine tkS 0 ?_;refine tkS 1 ?_;refine tkS 2 ?_;refine tkM 3 0 ?_;refine tkS 4 ?_;refine tkM 5 2 ?_;refine tkS 6 ?_;refine tkS 7 ?_;refine tkS 8 ?_;refine tkM 9 1 ?_;refine tkS 10 ?_;refine tkM 11 2 ?_;refine tkS 12 ?_;refine zhm 13 rfl rfl tz0 tz0 tz0 (fun _ _ h=>h) fun _ y=>?_;simp only[↓bO,go_sem,seval,aInt,hw3];apply y;clear y;refine zhm 14 rfl rfl tz0 tz0 tz0 (fun _ _ h=>h) fun _ y=>?_;simp only[↓bO,go_sem,seval,aInt];apply y;clear y;refine tkS 15 ?_;refine zhj (i:=16) (j:=17) (k:=18) rfl rfl rfl tz0 tz0 tz0 ⟨rfl,rfl,rfl⟩ ⟨rfl,rfl,rfl⟩ ⟨rfl,rfl,rfl⟩ ⟨by simp,by simp,by decide⟩ ⟨by simp,by simp,by simp,by simp⟩ rfl rfl rfl mz130 rfl ⟨tz9,?_⟩;simp only[↓bO,go_sem,seval,upd_I];refine zhj (i:=19) (j:=20) (k:=21) rfl rfl rfl tz0 tz0 tz0 ⟨rfl,rfl,rfl⟩ ⟨rfl,rfl,rfl⟩ ⟨rfl,rfl,rfl⟩ ⟨by simp,by simp,by decide⟩ ⟨by simp,by simp,by simp,by simp⟩ rfl rfl rfl mz130 rfl ⟨tz9,?_⟩;simp only[↓bO,go_sem,seval,upd_I];refine dnA ?_;simp only[go_sem];(try simp only[go_sem]);refine ⟨_,zad 0 (zan {S with F:=S.F}++za6 (W.fin r ch)++[]),⟨((S.F,W.fin r ch),()),?_,rfl,rfl⟩,.tup trivial,wUnd tz1 _ _,?_,?_,by omega⟩;· exact ⟨rfl,rfl⟩
  ·
   exact Le.refl _
  first | (refine ⟨1,rfl,rfl⟩) | (refine ⟨0,rfl,rfl⟩) | (refine ⟨1,by simp only[zan,za6,zw,zB,zad,zk,zf,Nat.reduceAdd,WS.fin,hes1,hes2,most],rfl⟩) | (refine ⟨0,by simp only[zan,za6,zw,zB,zad,zk,zf,Nat.reduceAdd,WS.fin,hes1,hes2,most],rfl⟩)
theorem begin_w (S:CS) (hS:CyG S) (W:WS) (h0:0<=W.steps) (h1:W.steps<=1000000000) (r:Nat) (hr:Rt S.F.up r r):WCalls (σ:=Unit) 160 [.ptr 12 0,.agg [.ptr 0 0,.v (.int .i64 (r:Int))]] S W (fun s=>FSame S.F s.1.1/\s.1.2=W.begin r) (fun _=>.agg (frC (zaK S) (r,0))):=begin_c S hS W h0 h1 r hr
theorem end_w (S:CS) (W:WS) (hb:WBd W) (K:Nat->List Nat) (r nx:Nat) (hK:(K r).length<=8):WCalls (σ:=Unit) 162 [.ptr 12 0,.agg (frC K (r,nx))] S W (fun s=>s.1.1=S.F/\s.1.2=W.fin r (K r)) (fun _=>.tup []):=end_c S W hb K r nx hK
theorem loop_at (S:CS) (hS:FInv S.F) (W:WS) (K:Nat->List Nat) (stk:List (Nat×Nat)) (hl:stk.length<=1048576) (n:Nat) (hn:stk.length=n) (q:Nat) {os':Os} {nx':Nat} (hlt:15<=nx') (hg:GetsO os' [0,1,2,3,4,5,6,7,8,9,10,11,12,14] (zan S++za6 W++[.row 198 3 (stk.map (frC K))])) {Q':AV->Os->Nat->Prop}
  (hq:Q' (.tup []) (zah os' ([0,1,2,3,4,5,6,7,8,9,10,11,12,14].zip (zan S++za6 (zbg q (stk.reverse.map Prod.fst) W)++[.row 198 3 (stk.map (frC K))]))) nx'):ACalls Tryz.prog 161 [.ptr 12 0,.own 14 n,.v (.int .i64 (q:Int))] os' nx' Q':=by
 subst hn
 have ren:∀(S:CS) (W:WS),RenOs (zbu [0,1,2,3,4,5,6,7,8,9,10,11,12,14] nx') 0 (zan S++za6 W++[.row 198 3 (stk.map (frC K))]) (zan S++za6 W++[.row 198 3 (stk.map (frC K))]):=fun S W =>
  ⟨.cells ⟨.v _,.ptr rfl,.ptr rfl,.own rfl,.v _,trivial⟩,.cells ⟨.osl rfl (GNode.dataRows S.G.N),.map rfl,trivial⟩,.tok,.map (zaU S.G.V),.cells ⟨.own rfl,.own rfl,.v _,.v _,trivial⟩,.row (zaY _),.row (zaJ _),.row (zaJ _),
   .map (zaN _),.map (zb4 _),.map (zaN _),.map (zaN _),.cells ⟨.map rfl,.map rfl,.map rfl,.map rfl,.v _,.v _,trivial⟩,.rowR rfl Iff.rfl (.frames K rfl stk),trivial⟩
 exact ACalls.atE (σ:=(FS×WS)×Unit) (C:=fun s=>s.1.1=S.F/\s.1.2=zbg q (stk.reverse.map Prod.fst) W) (args:=[.ptr 12 0,.own 13 stk.length,.v (.int .i64 (q:Int))]) (R:=fun _=>.tup []) (R':=fun _=>.tup []) (obs:=zan S++za6 W++[.row 198 3 (stk.map (frC K))])
  (obs1:=fun s=>zan {S with F:=s.1.1}++za6 s.1.2++[.row 198 3 (stk.map (frC K))]) (obs':=zan S++za6 W++[.row 198 3 (stk.map (frC K))]) (obs1':=fun s=>zan {S with F:=s.1.1}++za6 s.1.2++[.row 198 3 (stk.map (frC K))]) [0,1,2,3,4,5,6,7,8,9,10,11,12,14]
  (loop_c S hS W K stk hl q) rfl (fun _=>rfl) tz3 (by simp only[zE,List.not_mem_nil,or_false];omega) ⟨.ptr rfl,.own rfl,.v _,trivial⟩ (fun _=>.tup trivial) (ren S W) hg (fun s=>ren _ s.1.2) (fun s hs=>by
   obtain ⟨⟨F1,W1⟩,_⟩:=s;obtain ⟨h1,h2⟩:=hs;dsimp only at h1 h2;subst h1;subst h2
   exact hq)
theorem CInv.fsame {S:CS} {F1:FS} (h:CInv S) (k:FSame S.F F1):CInv {S with F:=F1}:=⟨h.g,k.inv,k.len.trans h.fl,h.wl,h.wr,h.pl,h.pr⟩
theorem Frs.sumN {K:Nat->List Nat} {P:Nat->Prop} (h8:∀u,(K u).length<=8):∀{a:Option Nat} {l:List (Nat×Nat)},Frs K P a l->sumN l<=8 * l.length
 | _,[],_=>by simp[Go.Proofs.YtpfiliamceimmaaGreatDoor.sumN]
 | _,(u,nx)::l,⟨h1,_,_,h4⟩=>by
  have h2:=Frs.sumN h8 h4;have h3:=h8 u;simp only[Go.Proofs.YtpfiliamceimmaaGreatDoor.sumN,zz];omega
theorem StI.small {K:Nat->List Nat} {W:WS} {stk:List (Nat×Nat)} {fo:List Nat} {c:Int} {N:Nat} (h:StI K W stk fo c) (hD:DfI K N W stk fo) (h8:∀u,(K u).length<=8) (hN:N<=1048576) (hc:c<=1):W.steps<=100000000/\fo.length+stk.length<=N:=by
 have h1:=zdC hD.nd hD.lt;rw[zi,zx] at h1;have h2:=Frs.sumN h8 hD.fr;have h3:=zke h8 fo;have h4:=h.le;omega
theorem WBd.fin {W:WS} (h:WBd W) (r:Nat) (ch:List Nat):WBd (W.fin r ch):=by
 obtain ⟨h1,h2,h3⟩:=ze1 h r ch;intro x;have hx:=h3 x;unfold WS.dg WS.zg at hx ⊢;unfold WS.fin;(simp only);rw[zbC,zbC];simp only[most] at *;split;(·simp only[Option.getD_some];omega);exact hx
structure WI (S:CS) (fo:List Nat) (r:Nat) (s:FS×WS×List (Nat×Nat)×List Nat):Prop where
 f:FSame S.F s.1
 d:DfI (zaK S) S.F.up.length s.2.1 s.2.2.1.reverse s.2.2.2
 t:StI (zaK S) s.2.1 s.2.2.1.reverse s.2.2.2 0
 b:WBd s.2.1
 sub:∀x∈fo,x∈s.2.2.2
 r:r∈s.2.2.2\/r∈s.2.2.1.map Prod.fst
theorem Und.rptr {n id k sz i off:Nat} (h:id<n):Und n (.rptr id k sz i off):=fun E A w v hr=>by
 cases hr with | rptr hv hl hc=>exact .rptr (E:=E.cut n) ⟨hv,h⟩ hl hc
theorem zdH {α:Type} (l:List α) (x:α):(l++[x]).reverse=x::l.reverse:=by simp
theorem frame_set {K:Nat->List Nat} (l:List (Nat×Nat)) (u nx:Nat):((l++[(u,nx)]).map (frC K)).set l.length [.v (.int .i64 (u:Int)),.sl 2 ((K u).map (zbQ 0)),.v (.int .i64 ((nx:Int)+1))]=(l++[(u,nx+1)]).map (frC K):=by
 simp only[zu,zt,zW];rw[List.set_append_right _ _ tz4];simp[frC]
theorem zl3 {K:Nat->List Nat} (l:List (Nat×Nat)) (p:Nat×Nat):((l++[p]).map (frC K)).take l.length=l.map (frC K):=by
 rw[zu,List.take_append_of_le_length tz4,List.take_of_length_le tz4]
theorem snoc_last {α:Type} (l:List α) (x:α):(l++[x])[l.length]?=some x:=by simp
theorem ex_snoc {α:Type}:∀{l:List α},0<l.length->∃a x,l=a++[x]:=fun {l} h=>by
 (have hne:l≠[]:=by intro e;rw[e] at h;simp at h);exact ⟨l.dropLast,l.getLast hne,(List.dropLast_concat_getLast hne).symm⟩
theorem tz20 {p:Prop} (h:p:=by exact ⟨rfl,rfl,rfl,rfl,rfl,rfl,rfl,rfl,rfl,rfl,rfl,rfl,rfl,trivial⟩):p:=h
theorem clz9 {p:Prop} (h:p:=by repeat' first | exact trivial | exact .any _ | exact .ptr tz1 | exact .own tz1 | exact .v _ _ | exact Und.data (EqT.dataSl _) | exact Und.parts tz1 _ | exact .rptr tz1 | (refine ⟨?_,?_⟩)):p:=h
theorem clz10 {p:Prop} (h:p:=by repeat' first | exact trivial | (with_reducible omega) | exact .any _ | exact .ptr tz1 | exact .own tz1 | exact .v _ _ | exact .map tz1 | exact Und.oslG tz1 | exact Und.rowI (zaY _) | exact Und.rowI (zaJ _) | exact (fun p hp=>.data (zaU _ p hp)) | exact Und.parts tz1 _ | exact Und.frames (zaK S) tz1 _ | exact (fun p hp=>.data (zaN _ p hp)) | exact (fun p hp=>.data (zb4 _ p hp)) | (refine ⟨?_,?_⟩)):p:=h
theorem walk_c (S:CS) (hS:CyG S) (W:WS) (fo:List Nat) (hD:DfI (zaK S) S.F.up.length W [] fo) (hst:StI (zaK S) W [] fo 0) (hb:WBd W) (r:Nat) (hr:Rt S.F.up r r):ACalls Tryz.prog 149 [.ptr 12 0,.agg [.ptr 0 0,.v (.int .i64 (r:Int))]] (zad 0 (zan (S)++za6 (W)++[])) 13 fun z os n=>(∃s:(FS×WS)×List Nat,(FSame S.F s.1.1/\DfI (zaK S) S.F.up.length s.1.2 [] s.2/\StI (zaK S) s.1.2 [] s.2 0/\WBd s.1.2/\r∈s.2/\∀x∈fo,x∈s.2)/\z=(fun s:List Nat=>.tup []) s.2/\os=zad 0 (zan {S with F:=s.1.1}++za6 s.1.2++[]))/\n=13:=by
  refine ACalls.clean (C:=fun zr zo=>∃s:(FS×WS)×List Nat,(FSame S.F s.1.1/\DfI (zaK S) S.F.up.length s.1.2 [] s.2/\StI (zaK S) s.1.2 [] s.2 0/\WBd s.1.2/\r∈s.2/\∀x∈fo,x∈s.2)/\zr=(fun s:List Nat=>.tup []) s.2/\zo=zad 0 (zan {S with F:=s.1.1}++za6 s.1.2++[])) ?_;refine aIn Tryz.func149 fun hm=>?_;simp only[Tryz.ntmps149,Tryz.results149,go_sem,seval];simp only[zan,za6,zw,zB,zad,Nat.reduceAdd];refine sqD ?_;refine zel ?_;refine z6 fun _ w=>?_;refine z6 fun _ k=>?_;refine zax [(12,0,[.map 8]),(13,0,[.ptr 0 0,.v (.int .i64 (r:Int))])] 8 rfl mixed (zcc) rfl ?_;dsimp only;refine tkS 0 ?_;refine tkS 1 ?_;refine tkS 2 ?_;refine tkM 3 0 ?_;refine tkM 4 1 ?_;refine al1 (i:=5) ?_;refine opT fun _ y=>?_;simp only[↓bO,go_sem,seval];refine CCalls.atP (zdw (S) (r:Int)) (i0:=0) (i1:=1) (i2:=2) (i3:=3) (i4:=4) (i5:=5) (i6:=6) (i7:=7) tz6 (fun _=>by exact .v _) tz3 tz4 zbc (fun Z1 u1 hZ1=>?_);(try dsimp only at hZ1);simp only[zat,zl,zp,zm,zah,zam,Nat.reduceEqDiff,↓reduceIte];obtain rfl:S=Z1:=hZ1.symm;(try simp only[go_sem]);refine y _ ⟨zcc,?_⟩;clear y;refine al1 (i:=6) ?_;refine opT fun _ y=>?_;simp only[↓bO,go_sem,seval,zgH];refine y _ ⟨zcc,?_⟩;clear y;refine alS 7 ?_ (hH:=by exact zcc);refine dnA ?_;apply k;apply z8 rfl <;> intro hb14
  ·
   (have hne:W.sg r≠0:=by simpa [WS.sg,WS.tick] using hb14);have hrf:r∈fo:=hD.done hne (fun e=>by have:=hD.isOpen e;simp at this);apply zab;(try simp only[go_sem]);refine ⟨_,zad 0 (zan {S with F:=S.F}++za6 (W)++[]),⟨((S.F,W),fo),?_,rfl,rfl⟩,.tup trivial,wUnd tz1 _ _,?_,?_,by omega⟩;· exact ⟨FSame.refl hS.c.f,hD,hst,hb,hrf,fun x h=>h⟩
   ·
    exact Le.refl _
   first | (refine ⟨1,rfl,rfl⟩) | (refine ⟨0,rfl,rfl⟩) | (refine ⟨1,by simp only[zan,za6,zw,zB,zad,zk,zf,Nat.reduceAdd],rfl⟩) | (refine ⟨0,by simp only[zan,za6,zw,zB,zad,zk,zf,Nat.reduceAdd],rfl⟩)
  (have hz:W.sg r=0:=by simpa [WS.sg,WS.tick] using hb14);apply zaa;apply w;refine sqR fun _ w=>?_;(iterate 2 (refine chS 1 ?_));refine zZ 1 fun _ y=>?_;simp only[↓bO,go_sem,seval];refine WCalls.at (begin_w S hS W hst.pos (by have:=hst.small hD (zcj hS) hS.nl tz1;omega) r hr) (by exact ⟨.ptr rfl,.agg ⟨.ptr rfl,.v _,trivial⟩,trivial⟩) (fun _=>by exact .agg ⟨.v _,.parts rfl _,.v _,trivial⟩) tz1 tz20 (fun F1 W1 _ hX1=>?_);dsimp only at hX1;simp only[zan,za6,zw,zB,zl,zp,zm,zah,zam,Nat.reduceEqDiff,↓reduceIte];obtain ⟨hF1,rfl⟩:=hX1;apply y;clear y;refine chS 1 ?_ (by intro _ q;simp only[↓bO,go_sem,seval,↓zfk,frC];exact q);simp only[↓bO,go_sem,seval];apply w;refine z6 fun _ w=>?_;refine zex ?_;apply w;apply zac;refine zai (σ:=FS×WS×List (Nat×Nat)×List Nat) (mB 103 17) (fun s=>WI S fo r s) (fun s=>[(4,.own 14 s.2.2.1.length)]) (fun s=>[(4,.cells 184 [.own 5 s.1.up.length,.own 6 s.1.rank.length,.v (.int .i64 s.1.sets),.v (.int .i64 s.1.steps)]),(5,.row 3 1 (s.1.up.map nC)),(6,.row 3 1 (s.1.rank.map intC)),(8,.map (mC cI s.2.1.st)),(9,.map (mC cB s.2.1.cy)),(10,.map (mC cI s.2.1.de)),(11,.map (mC cI s.2.1.sz)),(12,.cells 134 [.map 8,.map 9,.map 10,.map 11,.v (.int .i64 s.2.1.steps),.v (.bool s.2.1.bad)]),(14,.row 198 3 (s.2.2.1.map (frC (zaK S))))]) (fun s=>2 * (S.F.up.length-(s.2.2.2.length+s.2.2.1.length))+s.2.2.1.length) (F1,W.begin r,[(r,0)],fo) (⟨hF1,hD.begin hz hr.lt trivial,hst.start,hb,fun x h=>h,.inr tz4⟩) ?_ (fun s hs=>?_)
  ·
   simp only[go_sem,seval,bL,WS.begin];exact zaL
  simp only[go_sem,seval];refine z6 fun _ w=>?_;refine sqR fun _ k=>?_;(iterate 2 (refine chS 1 ?_));simp only[↓bO,go_sem,seval];apply k;apply z8 rfl <;> intro hb21
  ·
   (have hk0:0<s.2.2.1.length:=by simpa using hb21);obtain ⟨s9,⟨u,nx⟩,hstk⟩:=ex_snoc hk0;obtain ⟨Fc,Wc,stk,fc⟩:=s;dsimp only at hstk hb21 hk0;subst hstk;obtain ⟨hF,hDc,hTc,hBc,hsub,hrin⟩:=hs;dsimp only at hF hDc hTc hBc hsub hrin;rw[zdH] at hDc hTc;have hsz:=(hTc.small hDc (zcj hS) hS.nl tz1).2;have hsp:=(hTc.small hDc (zcj hS) hS.nl tz1).1;have hpp:=hTc.pos;simp only[zz,List.length_reverse] at hsz;have hNl:=hS.nl;(have hlen:(s9++[(u,nx)]).length=s9.length+1:=by simp);have hwt:IntKind.i64.wrap (Wc.steps+1)=Wc.steps+1:=zal tz1 tz1;(have hwl:IntKind.i64.wrap ((s9.length:Int)+1-1)=(s9.length:Int):=by rw[show ((s9.length:Int)+1-1)=(s9.length:Int) from by omega];exact zal tz1 tz1);(have hls:s9.length<s9.length+1:=by omega);(have hb1:(s9.length+1+1) * 40<=140737488355328:=by omega);(have hb2:s9.length+1+1<=maxLen:=by simp only[maxLen];omega);(have hls2:(s9.length:Int)<(s9.length:Int)+1:=by omega);(have hkF:zaK {S with F:=Fc}=zaK S:=funext fun z=>zbZ hF z);have hSc:CyG {S with F:=Fc}:=hS.fsame hF (hS.c.fsame hF);simp only[zi,zz,zJ,zO];apply zaa;apply w;apply zac;refine sqR fun _ w=>?_;(iterate 7 (refine chS 1 ?_ (by intro _ q;simp only[↓bO,go_sem,seval,hwt,zj];exact q)));simp only[↓bO,go_sem,seval,zi];apply w;refine sqR fun _ w=>?_;(iterate 5 (refine chS 1 ?_ (by intro _ q;simp only[↓bO,go_sem,seval,hwl,hls2,zj,zi];exact q)));simp only[↓bO,go_sem,seval,zi];apply w;refine z6 fun _ w=>?_;apply zac;refine zai (σ:=WS×Nat) (mB 103 49) (fun t=>DfI (zaK S) S.F.up.length t.1 ((u,t.2)::s9.reverse) fc/\StI (zaK S) t.1 ((u,t.2)::s9.reverse) fc 1/\WBd t.1) (fun t=>[]) (fun t=>[(8,.map (mC cI t.1.st)),(9,.map (mC cB t.1.cy)),(10,.map (mC cI t.1.de)),(11,.map (mC cI t.1.sz)),(12,.cells 134 [.map 8,.map 9,.map 10,.map 11,.v (.int .i64 t.1.steps),.v (.bool t.1.bad)]),(14,.row 198 3 ((s9++[(u,t.2)]).map (frC (zaK S))))]) (fun t=>(zaK S u).length-t.2) (Wc.tick,nx) (⟨hDc.tick,hTc.tick,hBc⟩) ?_ (fun t ht=>?_)
   ·
    simp only[zar,zas,zah,zam,mB,seval,WS.tick];exact zaL
   simp only[zar,zas,zah,zam,mB,seval];have hlast:=snoc_last s9 (u,t.2);have hDt:=ht.1;have hT2:=ht.2.1.part;have hk8:=zcj hS u;have hft:=hDt.fr.1;have hst1:=(ht.2.1.small ht.1 (zcj hS) hS.nl tz1).1;have hst2:=ht.2.1.pos;have hwt2:IntKind.i64.wrap (t.1.steps+1)=t.1.steps+1:=zal tz1 tz1;have hwn:IntKind.i64.wrap ((t.2:Int)+1)=(t.2:Int)+1:=zal tz1 tz1;have hfs:=frame_set (K:=zaK S) s9 u t.2;(have hsm2:t.1.tick.steps<=1000000000:=by (simp only[WS.tick];omega));refine z6 fun _ k=>?_;refine z6 fun _ j=>?_;refine zay 10 mixed tz0 fun J0 j0=>?_;(iterate 9 (simp only[go_sem];refine zae 1 fun _ y=>?_;simp only[↓zaA,↓dOp,↓bO,go_sem,seval,frC,hls,zi,gM hlast];apply y;clear y));simp only[go_sem];simp only[↓zaA,↓dOp,↓bO,go_sem,seval];refine j0 _ ?_;clear j0 J0;simp only[bL,aops,zao,zaj,zaf];apply j;apply z8 rfl <;> intro hb43
   ·
    (have hkj:t.2<(zaK S u).length:=by simpa using hb43);obtain ⟨q,hkq⟩:∃q,(zaK S u)[t.2]?=some q:=⟨_,za hkj⟩;have hrq0:Rt S.F.up q q:=zcu u q (zc hkq);have hqN:=hrq0.lt;have hrq:Rt Fc.up q q:=(hF.rt _ _).2 hrq0;apply zaa;apply k;apply zac;refine z6 fun _ k=>?_;refine zay 11 mixed tz0 fun J0 j0=>?_;(iterate 10 (simp only[go_sem];refine zae 1 fun _ y=>?_;simp only[↓zaA,↓dOp,↓bO,go_sem,seval,frC,hls,zi,gM hlast,hkj,gM hkq,zbQ];apply y;clear y));simp only[go_sem];simp only[↓zaA,↓dOp,↓bO,go_sem,seval];refine j0 _ ?_;clear j0 J0;simp only[go_sem];simp only[↓bO,go_sem,seval,zi];apply k;refine sqR fun _ k=>?_;(iterate 7 (refine chS 1 ?_ (by intro _ q;simp only[↓bO,go_sem,seval,frC,hls,zi,gM hlast,hwn];exact q)));simp only[↓bO,go_sem,seval,frC,hls,zi,gM hlast,hfs];apply k;refine sqR fun _ k=>?_;(iterate 7 (refine chS 1 ?_ (by intro _ q;simp only[↓bO,go_sem,seval,hwt2];exact q)));simp only[↓bO,go_sem,seval,zi];apply k;refine z6 fun _ k=>?_;refine zax [(12,0,[.map 8]),(15,0,[.ptr 0 0,.v (.int .i64 (q:Int))])] 7 rfl mixed (zcc) rfl ?_;dsimp only;refine tkS 0 ?_;refine tkS 1 ?_;refine tkS 2 ?_;refine tkM 3 0 ?_;refine tkM 4 1 ?_;refine al1 (i:=5) ?_;refine opT fun _ y=>?_;simp only[↓bO,go_sem,seval];refine CCalls.atP (zdw ({S with F:=Fc}) (q:Int)) (i0:=0) (i1:=1) (i2:=2) (i3:=3) (i4:=4) (i5:=5) (i6:=6) (i7:=7) tz6 (fun _=>by exact .v _) tz3 tz4 zbc (fun Z73 u73 hZ73=>?_);(try dsimp only at hZ73);simp only[zat,zl,zp,zm,zah,zam,Nat.reduceEqDiff,↓reduceIte];obtain rfl:{S with F:=Fc}=Z73:=hZ73.symm;(try simp only[go_sem]);refine y _ ⟨zcc,?_⟩;clear y;refine al1 (i:=6) ?_;refine opT fun _ y=>?_;simp only[↓bO,go_sem,seval,zgH];refine y _ ⟨zcc,?_⟩;clear y;refine dnA ?_;apply k;apply zac;refine sqR fun _ k=>?_;refine chS 1 ?_;simp only[↓bO,go_sem,seval,zi];apply k;apply z8 rfl <;> intro hb75
    ·
     (have hq0:t.1.tick.sg q=0:=by simpa [WS.sg,WS.tick] using hb75);have hDp:=hDt.tick.push hkq hq0 hqN;have hTp:=hT2.push (q:=q);refine sqR fun _ k=>?_;(iterate 3 (refine chS 1 ?_));refine zZ 1 fun _ y=>?_;simp only[↓bO,go_sem,seval];refine WCalls.at (begin_w {S with F:=Fc} hSc t.1.tick (hT2.pos) (by have:=hsm2;omega) q hrq) (by exact ⟨.ptr rfl,.agg ⟨.ptr rfl,.v _,trivial⟩,trivial⟩) (fun _=>by exact .agg ⟨.v _,.parts rfl _,.v _,trivial⟩) tz1 tz20 (fun F5 W5 _ hX5=>?_);dsimp only at hX5;simp only[zan,za6,zw,zB,zl,zp,zm,zah,zam,Nat.reduceEqDiff,↓reduceIte];obtain ⟨hF5,rfl⟩:=hX5;rw[hkF];(have hfp:((s9++[(u,t.2+1)]).map (frC (zaK S)))++[[.v (.int .i64 (q:Int)),.sl 2 ((zaK S q).map (zbQ 0)),.v (.int .i64 0)]]=(s9++[(u,t.2+1)]++[(q,0)]).map (frC (zaK S)):=by simp[frC]);apply y;clear y;refine chS 1 ?_ (by intro _ q;simp only[↓bO,go_sem,seval,↓zfk,frC,WS.tick];exact q);refine chS 1 ?_ (by intro _ q;simp only[↓bO,go_sem,seval,hb1,hb2,zi];exact q);simp only[↓bO,go_sem,seval,zi];apply k;apply zak;simp only[zao,zaj,zaf,bA,Nat.reduceEqDiff,↓reduceIte];refine ⟨(F5,t.1.tick.begin q,s9++[(u,t.2+1)]++[(q,0)],fc),⟨hF.trans hF5,by (dsimp only;rw[zdH,zdH];exact hDp),by (dsimp only;rw[zdH,zdH];exact hTp),ht.2.2,hsub,by (dsimp only;rcases hrin with h9 | h9;exact .inl h9;exact .inr (by simp at h9 ⊢;(rcases h9 with h8 | h8;exact .inl h8;exact .inr (.inl h8))))⟩,(by have:=(hTp.small hDp (zcj hS) hS.nl tz1).2;simp only[zi,zz,zJ,List.length_reverse] at this ⊢;omega),?_⟩;simp only[zar,zas,zah,zam,mB,seval,zh,zn];(try simp only[hwl]);(try simp only[hfp]);refine Weak.sub ?_ ⟨rfl,rfl,rfl,rfl,rfl,rfl,rfl,rfl,rfl,rfl,rfl,rfl,rfl,rfl,rfl,trivial⟩ tz2 tz2 ?_ ?_;(· simp only[go_sem,zi,zz,zJ,zO,Le.refl,Le.any]);(· exact clz9);exact clz10
    (have hq0:¬t.1.tick.sg q=0:=by simpa [WS.sg,WS.tick] using hb75);refine sqR fun _ k=>?_;refine chS 1 ?_;simp only[↓bO,go_sem,seval,zi];apply k;apply z8 rfl <;> intro hb83
    ·
     (have hq1:t.1.tick.sg q=1:=by simpa [WS.sg,WS.tick] using hb83);have hDb:=hDt.tick.back hkq hq1;have hTb:=hT2.back q (((u,t.2)::s9.reverse).map Prod.fst);(have hlb:(s9++[(u,t.2+1)]).reverse.map Prod.fst=((u,t.2)::s9.reverse).map Prod.fst:=by rw[zdH];rfl);refine sqR fun _ k=>?_;(iterate 3 (refine chS 1 ?_));simp only[↓bO,go_sem,seval,zi];apply k;apply z7;(iterate 3 (refine chS 1 ?_));refine zZ 1 fun _ y=>?_;simp only[↓bO,go_sem,seval];refine CCalls.atP (zdw ({S with F:=Fc}) (q:Int)) (i0:=0) (i1:=1) (i2:=2) (i3:=3) (i4:=4) (i5:=5) (i6:=6) (i7:=7) tz6 (fun _=>by exact .v _) tz3 tz4 zbc (fun Z91 u91 hZ91=>?_);(try dsimp only at hZ91);simp only[zat,zl,zp,zm,zah,zam,Nat.reduceEqDiff,↓reduceIte];obtain rfl:{S with F:=Fc}=Z91:=hZ91.symm;apply y;clear y;simp only[↓bO,go_sem,seval,zi];refine loop_at {S with F:=Fc} hF.inv {t.1.tick with bad:=true} (zaK S) (s9++[(u,t.2+1)]) tz8 (s9.length+1) tz4 q tz1 tz19 ?_;rw[hlb];obtain ⟨m1,m2,m3,m4,m5⟩:=zc9 q (((u,t.2)::s9.reverse).map Prod.fst) {t.1.tick with bad:=true};simp only[zan,za6,zw,zB,zl,zp,zm,zah,zam,Nat.reduceEqDiff,↓reduceIte];(try simp only[go_sem]);refine ⟨(zbg q (((u,t.2)::s9.reverse).map Prod.fst) {t.1.tick with bad:=true},t.2+1),⟨hDb,hTb,fun x=>by (have h9:=ht.2.2 x;unfold WS.dg WS.zg at h9 ⊢;rw[m2,m3];exact h9)⟩,tz5,?_⟩;simp only[zar,zas,zah,zam,mB,seval,zh,zn];(try simp only[hwl]);(try simp only[hfp]);refine Weak.sub ?_ ⟨rfl,rfl,rfl,rfl,rfl,rfl,rfl,rfl,rfl,rfl,rfl,rfl,rfl,rfl,rfl,trivial⟩ tz2 tz2 ?_ ?_;(· simp only[go_sem,Le.refl,Le.any]);(· exact clz9);exact clz10
    (have hq1:¬t.1.tick.sg q=1:=by simpa [WS.sg,WS.tick] using hb83);have hDd:=hDt.tick.pass hkq (.inl (hDt.tick.done hq0 hq1));apply zaa;(try simp only[go_sem]);refine ⟨(t.1.tick,t.2+1),⟨hDd,hT2,ht.2.2⟩,tz5,?_⟩;simp only[zar,zas,zah,zam,mB,seval,zh,zn];(try simp only[hwl]);(try simp only[hfp]);refine Weak.sub ?_ ⟨rfl,rfl,rfl,rfl,rfl,rfl,rfl,rfl,rfl,rfl,rfl,rfl,rfl,rfl,rfl,trivial⟩ tz2 tz2 ?_ ?_;(· simp only[go_sem,Le.refl,Le.any]);(· exact clz9);exact clz10
   (have hnx:(zaK S u).length<=t.2:=by simpa using hb43);(have hr1:(0:Int)<=(s9.length:Int):=by omega);(have hr2:(s9.length:Int)<=((s9.length+1:Nat):Int):=by omega);(have hr3:(s9.length:Int)<=(s9.length:Int)+1:=by omega);apply zak;simp only[zao,zaj,zaf,bA,Nat.reduceEqDiff,↓reduceIte];apply w;refine sqR fun _ w=>?_;(iterate 4 (refine chS 1 ?_ (by intro _ q;simp only[↓bO,go_sem,seval,frC,hls,zi,gM hlast];exact q)));simp only[↓bO,go_sem,seval,zi];refine WCalls.at (end_w {S with F:=Fc} t.1 ht.2.2 (zaK S) u t.2 (zcj hS u)) (by exact ⟨.ptr rfl,.agg ⟨.v _,.parts rfl _,.v _,trivial⟩,trivial⟩) (fun _=>by exact .tup trivial) tz1 tz20 (fun F6 W6 _ hX6=>?_);dsimp only at hX6;simp only[zan,za6,zw,zB,zl,zp,zm,zah,zam,Nat.reduceEqDiff,↓reduceIte];obtain ⟨e6,rfl⟩:=hX6;rw[e6];apply w;apply z7;(iterate 5 (refine chS 1 ?_ (by intro _ q;simp only[↓bO,go_sem,seval,hwl,zj,zi,zl3,zck,zma,List.filter_cons,List.filter_nil,Nat.reduceBEq,hr1,hr3];exact q)));simp only[↓bO,go_sem,seval,zi];refine ⟨(Fc,t.1.fin u (zaK S u),s9,fc++[u]),⟨hF,ht.1.fin hnx (by have:=hS.nl;omega),ht.2.1.fin hDt.fr.1,ht.2.2.fin u _,fun x hx=>zD.2 (.inl (hsub x hx)),by (dsimp only;rcases hrin with h9 | h9;exact .inl (by simp[h9]);(simp at h9;rcases h9 with h8 | h8;(exact .inr (by simpa using h8));exact .inl (by simp[h8])))⟩,(by simp only[zi,zz,zJ] at hsz ⊢;omega),?_⟩;simp only[zar,zas,zah,zam,mB,seval,zh,zn];(try simp only[hwl]);refine Weak.backOwn 14 15 4 s9.length tz2 tz2 tz2 ?_ ?_ ?_ ?_ ?_;· simp only[List.set_cons_zero,List.set_cons_succ,zi,zz,zJ,zO,LeL,Le.refl,Le.any,and_self]
   ·
    simp only[go_sem];repeat' first | exact trivial | exact .any | exact .ptr rfl | exact .own rfl | exact .v _ | (refine ⟨?_,?_⟩)
   (· exact ⟨⟨_,rfl,.rowR rfl Iff.rfl (.frames (zaK S) rfl _)⟩,⟨_,rfl,.cells ⟨.ptr rfl,.v _,trivial⟩⟩,⟨_,rfl,.cells ⟨.v _,.ptr rfl,.ptr rfl,.own rfl,.v _,trivial⟩⟩,⟨_,rfl,.cells ⟨.osl rfl (GNode.dataRows _),.map rfl,trivial⟩⟩,⟨_,rfl,.tok⟩,⟨_,rfl,.map (zaU _)⟩,⟨_,rfl,.cells ⟨.own rfl,.own rfl,.v _,.v _,trivial⟩⟩,⟨_,rfl,.row (zaY _)⟩,⟨_,rfl,.row (zaJ _)⟩,⟨_,rfl,.row (zaJ _)⟩,⟨_,rfl,.map (zaN _)⟩,⟨_,rfl,.map (zb4 _)⟩,⟨_,rfl,.map (zaN _)⟩,⟨_,rfl,.map (zaN _)⟩,⟨_,rfl,.cells ⟨.map rfl,.map rfl,.map rfl,.map rfl,.v _,.v _,trivial⟩⟩,trivial⟩);(· exact clz9);exact clz10
  have hnil:s.2.2.1=[]:=List.eq_nil_of_length_eq_zero (by (have h9:=hb21;simp at h9;simpa using h9));apply zak;simp only[zao,zaj,zaf,bA,Nat.reduceEqDiff,↓reduceIte];(try simp only[go_sem]);refine ⟨_,zad 0 (zan {S with F:=s.1}++za6 (s.2.1)++[]),⟨((s.1,s.2.1),s.2.2.2),?_,rfl,rfl⟩,.tup trivial,wUnd tz1 _ _,?_,?_,by omega⟩;· exact ⟨hs.f,by (have h9:=hs.d;rw[hnil] at h9;exact h9),by (have h9:=hs.t;rw[hnil] at h9;exact h9),hs.b,by (have h9:=hs.r;rw[hnil] at h9;simpa using h9),hs.sub⟩
  ·
   exact Le.refl _
  first | (refine ⟨2,rfl,rfl⟩) | (refine ⟨1,rfl,rfl⟩) | (refine ⟨0,rfl,rfl⟩) | (refine ⟨2,by simp only[zan,za6,zw,zB,zad,zk,zf,Nat.reduceAdd],rfl⟩) | (refine ⟨1,by simp only[zan,za6,zw,zB,zad,zk,zf,Nat.reduceAdd],rfl⟩) | (refine ⟨0,by simp only[zan,za6,zw,zB,zad,zk,zf,Nat.reduceAdd],rfl⟩)
theorem xUnd {n:Nat} (h:14<=n) (S:CS) (W:WS):UndOs n (zad 0 (zan S++za6 W++[.cells 129 [.ptr 12 0]])):=by
 have h1:=wUnd (n:=n) tz1 S W;obtain ⟨a0,a1,b0,b1,c0,c1,d0,d1,e0,e1,f0,f1,g0,g1,i0,i1,j0,j1,k0,k1,l0,l1,m0,m1,o0,o1,_⟩:=h1;exact ⟨a0,a1,b0,b1,c0,c1,d0,d1,e0,e1,f0,f1,g0,g1,i0,i1,j0,j1,k0,k1,l0,l1,m0,m1,o0,o1,by omega,⟨.ptr tz1,trivial⟩,trivial⟩
structure WK (S:CS) (W:WS) (fo:List Nat):Prop where
 d:DfI (zaK S) S.F.up.length W [] fo
 t:StI (zaK S) W [] fo 0
 b:WBd W
theorem WK.nil (S:CS):WK S WS0 []:=⟨.nil _ _,.nil _,fun x=>by simp[WS0,WS.dg,WS.zg,zcL,most]⟩
theorem WK.fsame {S:CS} {W:WS} {fo:List Nat} (h:WK S W fo) {F1:FS} (k:FSame S.F F1):WK {S with F:=F1} W fo:=by
 (have e:zaK {S with F:=F1}=zaK S:=funext fun z=>zbZ k z);refine ⟨?_,?_,h.b⟩;(·rw[e];dsimp only;rw[k.len];exact h.d);rw[e];exact h.t
theorem WK.back {S:CS} {W:WS} {fo:List Nat} {F1:FS} (k:FSame S.F F1) (h:WK {S with F:=F1} W fo):WK S W fo:=by
 (have e:zaK {S with F:=F1}=zaK S:=funext fun z=>zbZ k z);obtain ⟨h1,h2,h3⟩:=h;rw[e] at h1 h2;dsimp only at h1;rw[k.len] at h1;exact ⟨h1,h2,h3⟩
theorem walk_w (S:CS) (hS:CyG S) (W:WS) (fo:List Nat) (h:WK S W fo) (r:Nat) (hr:Rt S.F.up r r):WCalls (σ:=List Nat) 149 [.ptr 12 0,.agg [.ptr 0 0,.v (.int .i64 (r:Int))]] S W (fun s=>FSame S.F s.1.1/\DfI (zaK S) S.F.up.length s.1.2 [] s.2/\StI (zaK S) s.1.2 [] s.2 0/\WBd s.1.2/\r∈s.2/\∀x∈fo,x∈s.2) (fun _=>.tup []):=walk_c S hS W fo h.d h.t h.b r hr
def XWCalls {σ:Type} (f:Nat) (args:List AV) (S:CS) (W:WS) (C:(FS×WS)×σ->Prop) (R:σ->AV):Prop :=
 ACalls Tryz.prog f args (zad 0 (zan S++za6 W++[.cells 129 [.ptr 12 0]])) 14 fun z os n=>(∃s:(FS×WS)×σ,C s/\z=R s.2/\os=zad 0 (zan {S with F:=s.1.1}++za6 s.1.2++[.cells 129 [.ptr 12 0]]))/\n=14
theorem XWCalls.at {σ:Type} {f:Nat} {args:List AV} {S:CS} {W:WS} {C:(FS×WS)×σ->Prop} {R:σ->AV} (h:XWCalls f args S W C R) {os':Os} {nx':Nat}
  (ha:RenL (zbu [0,1,2,3,4,5,6,7,8,9,10,11,12,13] nx') args args) (hR:∀s,RenV (zbu [0,1,2,3,4,5,6,7,8,9,10,11,12,13] nx') (R s) (R s)) (hlt:14<=nx') (hg:GetsO os' [0,1,2,3,4,5,6,7,8,9,10,11,12,13] (zan S++za6 W++[.cells 129 [.ptr 12 0]])) {Q':AV->Os->Nat->Prop}
  (hq:∀(F1:FS) (W1:WS) (s:σ),C ((F1,W1),s)->Q' (R s) (zah os' ([0,1,2,3,4,5,6,7,8,9,10,11,12,13].zip (zan {S with F:=F1}++za6 W1++[.cells 129 [.ptr 12 0]]))) nx'):ACalls Tryz.prog f args os' nx' Q':=by
 have ren:∀(S:CS) (W:WS),RenOs (zbu [0,1,2,3,4,5,6,7,8,9,10,11,12,13] nx') 0 (zan S++za6 W++[.cells 129 [.ptr 12 0]]) (zan S++za6 W++[.cells 129 [.ptr 12 0]]):=fun S W =>
  ⟨.cells ⟨.v _,.ptr rfl,.ptr rfl,.own rfl,.v _,trivial⟩,.cells ⟨.osl rfl (GNode.dataRows S.G.N),.map rfl,trivial⟩,.tok,.map (zaU S.G.V),.cells ⟨.own rfl,.own rfl,.v _,.v _,trivial⟩,.row (zaY _),.row (zaJ _),.row (zaJ _),
   .map (zaN _),.map (zb4 _),.map (zaN _),.map (zaN _),.cells ⟨.map rfl,.map rfl,.map rfl,.map rfl,.v _,.v _,trivial⟩,.cells ⟨.ptr rfl,trivial⟩,trivial⟩
 exact ACalls.atE (σ:=(FS×WS)×σ) (C:=C) (args:=args) (R:=fun s=>R s.2) (R':=fun s=>R s.2) (obs:=zan S++za6 W++[.cells 129 [.ptr 12 0]]) (obs1:=fun s=>zan {S with F:=s.1.1}++za6 s.1.2++[.cells 129 [.ptr 12 0]]) (obs':=zan S++za6 W++[.cells 129 [.ptr 12 0]]) (obs1':=fun s=>zan {S with F:=s.1.1}++za6 s.1.2++[.cells 129 [.ptr 12 0]]) [0,1,2,3,4,5,6,7,8,9,10,11,12,13]
  (by unfold XWCalls at h;exact h) rfl (fun _=>rfl) tz3 (by simp only[zE,List.not_mem_nil,or_false];omega) ha (fun s=>hR s.2) (ren S W) hg (fun s=>ren _ s.1.2) (fun s hs=>hq s.1.1 s.1.2 s.2 hs)
theorem all1_c (S:CS) (hS:CyG S) (W:WS) (fo:List Nat) (hW:WK S W fo) (v:Int) (r:Nat) (hr:Rt S.F.up r r):ACalls Tryz.prog 148 [.v (.int .i64 v),.agg [.ptr 0 0,.v (.int .i64 (r:Int))],.ptr 13 0] (zad 0 (zan (S)++za6 (W)++[.cells 129 [.ptr 12 0]])) 14 fun z os n=>(∃s:(FS×WS)×List Nat,(FSame S.F s.1.1/\WK S s.1.2 s.2/\r∈s.2/\∀x∈fo,x∈s.2)/\z=(fun s:List Nat=>.tup []) s.2/\os=zad 0 (zan {S with F:=s.1.1}++za6 s.1.2++[.cells 129 [.ptr 12 0]]))/\n=14:=by
  refine ACalls.clean (C:=fun zr zo=>∃s:(FS×WS)×List Nat,(FSame S.F s.1.1/\WK S s.1.2 s.2/\r∈s.2/\∀x∈fo,x∈s.2)/\zr=(fun s:List Nat=>.tup []) s.2/\zo=zad 0 (zan {S with F:=s.1.1}++za6 s.1.2++[.cells 129 [.ptr 12 0]])) ?_;refine aIn Tryz.func148 fun hm=>?_;simp only[Tryz.ntmps148,Tryz.results148,go_sem,seval];simp only[zan,za6,zw,zB,zad,Nat.reduceAdd];refine sqD ?_;apply z7;(iterate 2 (refine chS 1 ?_));simp only[↓bO,go_sem,seval];refine WCalls.at (walk_w S hS W fo hW r hr) (by exact ⟨.ptr rfl,.agg ⟨.ptr rfl,.v _,trivial⟩,trivial⟩) (fun _=>by exact .tup trivial) tz1 tz20 (fun F1 W1 fo1 hX1=>?_);dsimp only at hX1;simp only[zan,za6,zw,zB,zl,zp,zm,zah,zam,Nat.reduceEqDiff,↓reduceIte];(try simp only[go_sem]);(try simp only[go_sem]);refine ⟨_,zad 0 (zan {S with F:=F1}++za6 (W1)++[.cells 129 [.ptr 12 0]]),⟨((F1,W1),fo1),?_,rfl,rfl⟩,.tup trivial,xUnd tz1 _ _,?_,?_,by omega⟩;· exact ⟨hX1.1,⟨hX1.2.1,hX1.2.2.1,hX1.2.2.2.1⟩,hX1.2.2.2.2.1,hX1.2.2.2.2.2⟩
  ·
   exact Le.refl _
  first | (refine ⟨1,rfl,rfl⟩) | (refine ⟨0,rfl,rfl⟩) | (refine ⟨1,by simp only[zan,za6,zw,zB,zad,zk,zf,Nat.reduceAdd],rfl⟩) | (refine ⟨0,by simp only[zan,za6,zw,zB,zad,zk,zf,Nat.reduceAdd],rfl⟩)
theorem each1_c (S:CS) (hS:CyG S) (hc:S.clash=false) (W:WS) (fo:List Nat) (hW:WK S W fo):ACalls Tryz.prog 147 [.ptr 0 0,.clo 148 [.ptr 13 0]] (zad 0 (zan (S)++za6 (W)++[.cells 129 [.ptr 12 0]])) 14 fun z os n=>(∃s:(FS×WS)×List Nat,(FSame S.F s.1.1/\WK S s.1.2 s.2/\∀(v i:Int) (q:Nat),zaw S.G.V v=some i->Rt S.F.up i.toNat q->q∈s.2)/\z=(fun s:List Nat=>.tup []) s.2/\os=zad 0 (zan {S with F:=s.1.1}++za6 s.1.2++[.cells 129 [.ptr 12 0]]))/\n=14:=by
  refine ACalls.clean (C:=fun zr zo=>∃s:(FS×WS)×List Nat,(FSame S.F s.1.1/\WK S s.1.2 s.2/\∀(v i:Int) (q:Nat),zaw S.G.V v=some i->Rt S.F.up i.toNat q->q∈s.2)/\zr=(fun s:List Nat=>.tup []) s.2/\zo=zad 0 (zan {S with F:=s.1.1}++za6 s.1.2++[.cells 129 [.ptr 12 0]])) ?_;refine aIn Tryz.func147 fun hm=>?_;simp only[Tryz.ntmps147,Tryz.results147,go_sem,seval];simp only[zan,za6,zw,zB,zad,Nat.reduceAdd];have hvl:=hS.vl;refine sqR fun _ u=>?_;refine chS 1 ?_;refine zZ 1 fun _ y=>?_;simp only[↓bO,go_sem,seval];refine CCalls.at (zfy S (fun _=>hS.h64) (fun _=>by omega)) (.nil) (fun _=>zap _) (i0:=0) (i1:=1) (i2:=2) (i3:=3) (i4:=4) (i5:=5) (i6:=6) (i7:=7) tz3 tz4 zbc (fun Z9 u9 hZ9=>?_);(try dsimp only at hZ9);simp only[zat,zl,zp,zm,zah,zam,Nat.reduceEqDiff,↓reduceIte];obtain rfl:S=Z9:=hZ9.symm;rw[if_neg (show ¬(S.clash=true) from by rw[hc];decide)];obtain ⟨L,hL⟩:∃L,L=zcf (S.G.V.map Prod.fst):=⟨_,rfl⟩;rw[<- hL];(have hLl:L.length<=1048576:=by (rw[hL,List.length_mergeSort,zx];exact hvl));apply y;clear y;refine chS 1 ?_;simp only[↓bO,go_sem,seval];apply u;apply zac;refine zai (σ:=FS×WS×List Nat×Nat) (mB 26 3587) (fun s=>FSame S.F s.1/\WK S s.2.1 s.2.2.1/\s.2.2.2<=L.length/\(∀(j:Nat) (v i:Int) (q:Nat),j<s.2.2.2->L[j]?=some v->zaw S.G.V v=some i->Rt S.F.up i.toNat q->q∈s.2.2.1)) (fun s=>[(11,.v (.int .i64 (s.2.2.2:Int)))]) (fun s=>[(4,.cells 184 [.own 5 s.1.up.length,.own 6 s.1.rank.length,.v (.int .i64 s.1.sets),.v (.int .i64 s.1.steps)]),(5,.row 3 1 (s.1.up.map nC)),(6,.row 3 1 (s.1.rank.map intC)),(8,.map (mC cI s.2.1.st)),(9,.map (mC cB s.2.1.cy)),(10,.map (mC cI s.2.1.de)),(11,.map (mC cI s.2.1.sz)),(12,.cells 134 [.map 8,.map 9,.map 10,.map 11,.v (.int .i64 s.2.1.steps),.v (.bool s.2.1.bad)])]) (fun s=>L.length-s.2.2.2) (S.F,W,fo,0) (⟨FSame.refl hS.c.f,hW,Nat.zero_le _,fun j v i q hj=>by simp at hj⟩) ?_ (fun s hs=>?_)
  ·
   simp only[go_sem,seval];exact zaL
  simp only[go_sem,seval];refine sqD ?_;refine z6 fun _ u=>?_;apply z8 rfl <;> intro hb12
  ·
   (have hk:s.2.2.2<L.length:=by simpa using hb12);obtain ⟨v,he⟩:∃v,L[s.2.2.2]?=some v:=⟨_,za hk⟩;obtain ⟨i,hvi⟩:=zeL (V:=S.G.V) v (by rw[<- hL];exact zc he);have hw1:IntKind.i64.wrap ((s.2.2.2:Int)+1)=(s.2.2.2:Int)+1:=zal tz1 tz1;apply zaa;apply u;refine z6 fun _ u=>?_;apply zac;refine sqR fun _ w=>?_;(iterate 2 (refine chS 1 ?_ (by intro _ q;simp only[↓bO,go_sem,seval,hk,gM he,intC];exact q)));simp only[↓bO,go_sem,seval];apply w;refine zcA (σ:=FS×Nat) (mB 26 3683) (fun g=>[(6,.eptr [.ptr 0 0,.v (.int .i64 (g.2:Int))])]) (fun g=>[(0,.cells 127 [.v (.int .i64 S.steps),.ptr 1 0,.ptr 4 0,.own 7 S.W.length,.v (.bool S.clash)]),(1,.cells 169 [.osl 2 4 (S.G.N.map GNode.cells),.map 3]),(2,.tok 194 4 S.G.N.length),(3,.map (S.G.V.map vC)),(4,.cells 184 [.own 5 g.1.up.length,.own 6 g.1.rank.length,.v (.int .i64 g.1.sets),.v (.int .i64 g.1.steps)]),(5,.row 3 1 (g.1.up.map nC)),(6,.row 3 1 (g.1.rank.map intC)),(7,.row 3 1 (S.W.map intC)),(8,.map (mC cI s.2.1.st)),(9,.map (mC cB s.2.1.cy)),(10,.map (mC cI s.2.1.de)),(11,.map (mC cI s.2.1.sz)),(12,.cells 134 [.map 8,.map 9,.map 10,.map 11,.v (.int .i64 s.2.1.steps),.v (.bool s.2.1.bad)]),(13,.cells 129 [.ptr 12 0])]) 14 (fun g=>FSame S.F g.1/\Rt S.F.up i.toNat g.2) ?_ (fun g hy3=>?_)
   ·
    apply z7;(iterate 2 (refine chS 1 ?_));refine zZ 1 fun _ y=>?_;simp only[↓bO,go_sem,seval];refine CCalls.atP (R':=fun s=>.tup [.agg (zbQ 0 s),.v (.bool true)]) (zj3 {S with F:=s.1} hs.1.inv (fun n k h=>by have:=hS.vin n k h;dsimp only;rw[hs.1.len];exact this) hc v i hvi) (i0:=0) (i1:=1) (i2:=2) (i3:=3) (i4:=4) (i5:=5) (i6:=6) (i7:=7) (by exact ⟨.ptr rfl,.v _,trivial⟩) (fun _=>by exact .tup ⟨.part rfl _,.v _,trivial⟩) tz3 tz4 zbc (fun Z1 r1 hX1=>?_);(try dsimp only at hX1);simp only[zat,zl,zp,zm,zah,zam,Nat.reduceEqDiff,↓reduceIte];obtain ⟨F1,rfl⟩:∃F,Z1={S with F:=F}:=⟨Z1.F,hX1.2.1⟩;dsimp only at hX1;have hF1:FSame S.F F1:=hs.1.trans hX1.1;have hrt:=(hs.1.rt _ _).1 hX1.2.2;(iterate 5 (apply y;clear y;refine zZ 1 fun _ y=>?_;simp only[↓bO,go_sem,seval,zbQ]));apply y;clear y;simp only[↓bO,go_sem,seval];(try simp only[go_sem,seval]);refine ⟨(F1,r1),⟨hF1,hrt⟩,?_⟩;refine Weak.freeze ?_ tz19 tz2 tz2 ?_ ?_;(· exact zjz);(· repeat' first | exact trivial | exact .any _ | exact .ptr tz1 | exact .own tz1 | exact .v _ _ | exact Und.data (EqT.dataSl _) | exact Und.data (zap _) | exact Und.eptr ⟨.ptr tz1,.v _ _,trivial⟩ | exact .clo ⟨.ptr tz1,trivial⟩ | (refine ⟨?_,?_⟩));repeat' first | exact trivial | (with_reducible omega) | exact .any _ | exact .ptr tz1 | exact .own tz1 | exact .v _ _ | exact .map tz1 | exact Und.oslG tz1 | exact Und.rowI (zaY _) | exact Und.rowI (zaJ _) | exact (fun p hp=>.data (zaU _ p hp)) | exact (fun p hp=>.data (zaN _ p hp)) | exact (fun p hp=>.data (zb4 _ p hp)) | (refine ⟨?_,?_⟩)
   simp only[go_sem,seval];obtain ⟨F1,r1⟩:=g;obtain ⟨hF1,hrt⟩:=hy3;dsimp only at hF1 hrt;dsimp only;apply z7;(iterate 3 (refine chS 1 ?_));simp only[↓bO,go_sem,seval];refine ACalls.mono (show ACalls Tryz.prog 148 _ (zad 0 (zan {S with F:=F1}++za6 s.2.1++[.cells 129 [.ptr 12 0]])) 14 _ from all1_c {S with F:=F1} (hS.fsame hF1 (hS.c.fsame hF1)) s.2.1 s.2.2.1 (hs.2.1.fsame hF1) v r1 ((hF1.rt _ _).2 (zcd.1 hrt.root))) ?_;rintro z os' nx' ⟨⟨⟨⟨F2,W2⟩,fo2⟩,hY,rfl,rfl⟩,rfl⟩;dsimp only at hY;obtain ⟨w,x,g,y4⟩:=hY;have hF2:=hF1.trans w;have hK2:=WK.back hF1 x;simp only[zan,za6,zw,zB,zad,Nat.reduceAdd];apply u;apply z7;refine chS 1 ?_ (by intro _ q;simp only[↓bO,go_sem,seval,hw1];exact q);simp only[↓bO,go_sem,seval];refine ⟨(F2,W2,fo2,s.2.2.2+1),⟨hF2,hK2,by simp only;omega,fun j v9 i9 q9 hj hv9 hi9 hq9=>(by (rcases zG j s.2.2.2 with h9 | h9;exact y4 q9 (hs.2.2.2 j v9 i9 q9 h9 hv9 hi9 hq9);(obtain rfl:j=s.2.2.2:=by (simp only at hj;omega));rw[he] at hv9;cases hv9;rw[hvi] at hi9;cases hi9;rw[Rt.det hq9 hrt];exact g))⟩,tz5,?_⟩;simp only[zar,zas,zah,zam,mB,seval,zj,zh,zn];exact zaL
  (have hk:s.2.2.2=L.length:=by (have h9:=hb12;simp at h9;have:=hs.2.2.1;omega));apply zak;simp only[zao,zaj,zaf,bA,Nat.reduceEqDiff,↓reduceIte];(try simp only[go_sem]);refine ⟨_,zad 0 (zan {S with F:=s.1}++za6 (s.2.1)++[.cells 129 [.ptr 12 0]]),⟨((s.1,s.2.1),s.2.2.1),?_,rfl,rfl⟩,.tup trivial,xUnd tz1 _ _,?_,?_,by omega⟩;· exact ⟨hs.1,hs.2.1,fun v i q hvi hq=>(by (obtain ⟨j,hj,e⟩:=zS.1 (show v∈L from by (rw[hL];exact (List.mergeSort_perm _ _).mem_iff.2 (zq.2 ⟨_,zb6 hvi,rfl⟩)));exact hs.2.2.2 j v i q (by rw[hk];exact hj) (by rw[za hj,e]) hvi hq))⟩
  ·
   exact Le.refl _
  first | (refine ⟨0,rfl,rfl⟩) | (refine ⟨0,by simp only[zan,za6,zw,zB,zad,zk,zf,Nat.reduceAdd],rfl⟩)
def aOs (S:CS) (W:WS):Os:=(12,.cells 134 [.map 8,.map 9,.map 10,.map 11,.v (.int .i64 W.steps),.v (.bool W.bad)])::(11,.map (mC cI W.sz))::(10,.map (mC cI W.de))::(9,.map (mC cB W.cy))::(8,.map (mC cI W.st))::zad 0 (zan S)
theorem aUnd {n:Nat} (h:13<=n) (S:CS) (W:WS):UndOs n (aOs S W) :=
 ⟨by omega,⟨.map tz1,.map tz1,.map tz1,.map tz1,.v _ _,.v _ _,trivial⟩,by omega,fun p hp=>.data (zaN _ p hp),by omega,fun p hp=>.data (zaN _ p hp),by omega,fun p hp=>.data (zb4 _ p hp),by omega,fun p hp=>.data (zaN _ p hp),zcg tz1 S⟩
def AllR (S:CS) (s:(FS×WS)×List Nat):Prop:=(S.clash=true/\s.1.1=S.F/\s.1.2={WS0 with bad:=true}/\s.2=[]) \/
 (S.clash=false/\FSame S.F s.1.1/\WK S s.1.2 s.2/\∀(v i:Int) (q:Nat),zaw S.G.V v=some i->Rt S.F.up i.toNat q->q∈s.2)
def zg7 (S:CS) (s:Bool×Int):Prop:=(S.clash=true/\s=(false,0)) \/
 (S.clash=false/\(s.1=false->∃y,y<S.F.up.length/\Pls (zaK S) y y)/\(s.1=true->∀(v i:Int) (q:Nat),zaw S.G.V v=some i->Rt S.F.up i.toNat q->¬Lp (zaK S) q)/\0<=s.2/\s.2<=11 * (S.F.up.length:Int))
theorem AllR.count {S:CS} {F1:FS} {W1:WS} {fo1:List Nat} (hS:S.clash=false->CyG S) (h:AllR S ((F1,W1),fo1)):zg7 S (!W1.bad,W1.steps):=by
 rcases h with ⟨h1,_,h2,_⟩ | ⟨h1,h2,h3,h4⟩
 ·dsimp only at h2
  subst h2;exact .inl ⟨h1,rfl⟩
 dsimp only at h2 h3 h4;have hd:=h3.d
 have hn:fo1.length<=S.F.up.length:=by
  have h5:=zdC (by simpa using hd.nd) (fun r hr=>hd.lt r (by simpa using hr));exact h5
 have hst:=h3.t.bound (zcj (hS h1));refine .inr ⟨h1,fun hb=>?_,fun hb v i q hv hq hl=>?_,h3.t.pos,by omega⟩
 ·obtain ⟨y,hy,hp⟩:=hd.bad_iff.1 (by simpa using hb)
  exact ⟨y,hd.lt y (by simpa using hy),hp⟩
 obtain ⟨y,h5,h6⟩:=hl;have h7:=hd.rch h5 (h4 v i q hv hq);have:=hd.bad_iff.2 ⟨y,h7,h6⟩;rw[this] at hb;cases hb
theorem each1_w (S:CS) (hS:CyG S) (hc:S.clash=false) (W:WS) (fo:List Nat) (hW:WK S W fo):XWCalls (σ:=List Nat) 147 [.ptr 0 0,.clo 148 [.ptr 13 0]] S W (fun s=>FSame S.F s.1.1/\WK S s.1.2 s.2/\∀(v i:Int) (q:Nat),zaw S.G.V v=some i->Rt S.F.up i.toNat q->q∈s.2) (fun _=>.tup []):=each1_c S hS hc W fo hW
theorem all_c (S:CS) (hS:S.clash=false->CyG S):ACalls Tryz.prog 124 [.ptr 0 0] (zad 0 (zan S)) 8 fun z os n=>(∃s:(FS×WS)×List Nat,AllR S s/\z=.ptr 12 0/\os=aOs {S with F:=s.1.1} s.1.2)/\n=13:=by
  refine ACalls.cleanN (n:=13) (C:=fun zr zo=>∃s:(FS×WS)×List Nat,AllR S s/\zr=.ptr 12 0/\zo=aOs {S with F:=s.1.1} s.1.2) tz1 ?_;refine aIn Tryz.func124 fun hm=>?_;simp only[Tryz.ntmps124,Tryz.results124,go_sem,seval];simp only[zan,zad,Nat.reduceAdd];refine sqD ?_;refine sqR fun _ y=>?_;(iterate 7 (refine chS 1 ?_));simp only[↓bO,go_sem,seval];apply y;refine z6 fun _ y=>?_;refine sqR fun _ u=>?_;refine chS 1 ?_;refine zZ 1 fun _ q=>?_;simp only[↓bO,go_sem,seval];refine CCalls.at (Err_c S) (.nil) (fun _=>.v _) (i0:=0) (i1:=1) (i2:=2) (i3:=3) (i4:=4) (i5:=5) (i6:=6) (i7:=7) tz3 tz4 zbc (fun Z9 u9 hZ9=>?_);(try dsimp only at hZ9);simp only[zat,zl,zp,zm,zah,zam,Nat.reduceEqDiff,↓reduceIte];obtain rfl:S=Z9:=hZ9.symm;apply q;clear q;simp only[↓bO,go_sem,seval];apply u;apply z8 rfl <;> intro hb12
  ·
   (have hcs:S.clash=true:=by (have h9:=hb12;cases hc:S.clash <;> simp[hc] at h9 ⊢));refine sqR fun _ u=>?_;(iterate 3 (refine chS 1 ?_));simp only[↓bO,go_sem,seval];apply u;refine sqR fun _ u=>?_;refine chS 1 ?_;simp only[↓bO,go_sem,seval];apply u;apply zab;(try simp only[go_sem]);refine ⟨_,aOs {S with F:=S.F} ({WS0 with bad:=true}),⟨((S.F,{WS0 with bad:=true}),[]),?_,rfl,rfl⟩,.ptr tz1,aUnd tz1 _ _,Le.refl _,?_,by omega⟩;(· exact .inl ⟨hcs,rfl,rfl,rfl⟩);exact ⟨1,rfl,rfl⟩
  (have hcs:S.clash=false:=by (have h9:=hb12;cases hc:S.clash <;> simp[hc] at h9 ⊢));apply zaa;apply y;refine sqR fun _ y=>?_;(iterate 2 (refine chS 1 ?_));simp only[↓bO,go_sem,seval];refine XWCalls.at (σ:=List Nat) (S:=S) (W:=WS0) (each1_w S (hS hcs) hcs WS0 [] (WK.nil S)) (by exact ⟨.ptr rfl,.clo ⟨.ptr rfl,trivial⟩,trivial⟩) (fun _=>by exact .tup trivial) tz1 tz19 (fun F1 W1 fo1 hX1=>?_);dsimp only at hX1;simp only[zan,za6,zw,zB,zl,zp,zm,zah,zam,Nat.reduceEqDiff,↓reduceIte];apply y;refine sqR fun _ y=>?_;refine chS 1 ?_;simp only[↓bO,go_sem,seval];apply y;apply zab;(try simp only[go_sem]);refine ⟨_,aOs {S with F:=F1} (W1),⟨((F1,W1),fo1),?_,rfl,rfl⟩,.ptr tz1,aUnd tz1 _ _,Le.refl _,?_,by omega⟩;(· exact .inr ⟨hcs,hX1.1,hX1.2.1,hX1.2.2⟩);exact ⟨1,rfl,rfl⟩
theorem Count_c (S:CS) (hS:S.clash=false->CyG S):CCalls (σ:=Bool×Int) 88 [.ptr 0 0] (S) (fun s=>s.1={S with F:=s.1.F}/\(S.clash=false->FSame S.F s.1.F)/\zg7 S s.2) (fun s=>.tup [.v (.bool s.1),.v (.int .i64 s.2)]):=by
  refine ACalls.clean (C:=fun r os=>∃s:CS×Bool×Int,(s.1={S with F:=s.1.F}/\(S.clash=false->FSame S.F s.1.F)/\zg7 S s.2)/\r=(fun s:Bool×Int=>.tup [.v (.bool s.1),.v (.int .i64 s.2)]) s.2/\os=zad 0 (zan s.1)) ?_;refine aIn Tryz.func88 fun hm=>?_;simp only[Tryz.ntmps88,Tryz.results88,go_sem,seval];simp only[zan,zad,Nat.reduceAdd];refine sqR fun _ y=>?_;refine chS 1 ?_;simp only[↓bO,go_sem,seval];apply y;refine sqR fun _ y=>?_;refine chS 1 ?_;refine zZ 1 fun _ q=>?_;simp only[↓bO,go_sem,seval];refine ACalls.mono (show ACalls Tryz.prog 124 _ (zad 0 (zan S)) 8 _ from all_c S hS) ?_;rintro z os' nx' ⟨⟨⟨⟨F1,W1⟩,fo1⟩,hA,rfl,rfl⟩,rfl⟩;dsimp only;simp only[aOs,zan,zad,Nat.reduceAdd];apply q;clear q;simp only[↓bO,go_sem,seval];apply y;refine z6 fun _ y=>?_;refine zax [(12,5,[.v (.bool W1.bad)]),(12,4,[.v (.int .i64 W1.steps)])] 11 rfl mixed (tz14) rfl ?_;dsimp only;refine tkS 0 ?_;refine tkS 1 ?_;refine tkS 2 ?_;refine tkM 3 0 ?_;refine tkS 5 ?_;refine tkS 6 ?_;refine tkS 7 ?_;refine tkM 8 1 ?_;refine alS 4 ?_ (hH:=by exact tz14);refine tkS 9 ?_;refine tkS 10 ?_;refine dnA ?_;apply y;apply zab;(try simp only[go_sem]);refine ⟨_,zad 0 (zan ({S with F:=F1})),⟨({S with F:=F1},(!W1.bad,W1.steps)),?_,rfl,rfl⟩,.tup ⟨.v _ _,.v _ _,trivial⟩,zcg tz1 _,?_,?_,by omega⟩;· exact ⟨rfl,fun hc=>(by rcases hA with ⟨h9,_⟩ | ⟨_,h9,_⟩;(rw[hc] at h9;cases h9);exact h9),hA.count hS⟩
  ·
   exact Le.refl _
  first | (refine ⟨5,rfl,rfl⟩) | (refine ⟨5,by simp only[zan,zad,zk,zf,Nat.reduceAdd],rfl⟩)
def sG (sn:List (Int×Bool)) (x:Nat):Bool:=(zcL sn x).getD false
structure ReR (K:Nat->List Nat) (W:WS) (r:Nat) (sn sn':List (Int×Bool)) (b:Bool):Prop where
 mono:∀x,sG sn x=true->sG sn' x=true
 yes:b=true->∃v,Rch K r v/\W.cg v=true
 no:b=false->sG sn' r=true/\(W.cg r=false)/\∀x,sG sn' x=true->sG sn x=true\/(W.cg x=false/\∀c∈K x,sG sn' c=true)
structure ReL (K:Nat->List Nat) (W:WS) (r:Nat) (sn sn':List (Int×Bool)) (k:Nat):Prop where
 mono:∀x,sG sn x=true->sG sn' x=true
 self:sG sn' r=true
 done:∀(j v:Nat),j<k->(K r)[j]?=some v->sG sn' v=true
 new:∀x,sG sn' x=true->sG sn x=true\/x=r\/(W.cg x=false/\∀c∈K x,sG sn' c=true)
def YCalls (f:Nat) (args:List AV) (S:CS) (W:WS) (sn:List (Int×Bool)) (C:(FS×WS)×List (Int×Bool)×Bool->Prop):Prop :=
 ACalls Tryz.prog f args (zad 0 (zan S++za6 W++[.map (mC cB sn)])) 14 fun z os n=>(∃s:(FS×WS)×List (Int×Bool)×Bool,C s/\z=(fun s:List (Int×Bool)×Bool=>.v (.bool s.2)) s.2/\os=zad 0 (zan {S with F:=s.1.1}++za6 s.1.2++[.map (mC cB s.2.1)]))/\n=14
end Go.Proofs.YtpfiliamceimmaaGreatDoor
namespace Go.Proofs.YtpfiliamceimmaaGreatDoor
open Go Go.RowKit
theorem zgs:∀{l m:List Int},l.Nodup->(∀x∈l,x∈m)->l.length<=m.length
 | [],m,_,_=>by simp
 | x::l,m,hn,hs=>by
  have h1:=List.nodup_cons.1 hn;(have h2:=zgs (l:=l) (m:=m.erase x) h1.2 fun y hy=>(List.mem_erase_of_ne (fun (e:y=x)=>h1.1 (by rw[<- e];exact hy))).2 (hs y (by simp[hy])));rw[List.length_erase_of_mem (hs x tz4)] at h2;have:=List.length_pos_of_mem (hs x tz4);rw[zz];omega
def zkh (M:List RNode) (c:List Int):Prop:=c.length=M.length/\∀i,(zbF M c i).length<=8/\∀p∈zbF M c i,0<=p/\p<(M.length:Int)
structure CoI (M:List RNode) (c:List Int) (i:Nat) (out nx:List Int) (n:Nat):Prop where
 nd:out.Nodup
 src:∀x∈out,∃j,j<M.length/\Pls (zbm M c) i j/\c[j]?=some x
 nxt:∀q∈nx,0<=q/\q<(M.length:Int)/\Pls (zbm M c) i q.toNat
 done:∀(m:Nat) (q:Int),m<n->nx[m]?=some q->∃x∈out,c[q.toNat]?=some x
 cov:∀x∈out,∀j,j<M.length->c[j]?=some x->∀p∈zbF M c j,p∈nx
 st:∀p∈zbF M c i,p∈nx
 len:nx.length<=8 * (out.length+1)
 le:n<=nx.length
def ComesR (M:List RNode) (c:List Int) (i:Nat) (L:List Int):Prop:=L.length<=M.length/\∀x,x∈L↔∃j,j<M.length/\Pls (zbm M c) i j/\c[j]?=some x
section
variable {M:List RNode} {c:List Int} {i n:Nat} {out nx:List Int}
theorem ziC {p:Int} {j:Nat} (h:p∈zbF M c j):p.toNat∈zbm M c j:=zq.2 ⟨p,h,rfl⟩
theorem CoI.start (h:zkh M c) (i:Nat):CoI M c i [] (zbF M c i) 0 :=
 ⟨by simp,by simp,fun q hq=>⟨((h.2 i).2 q hq).1,((h.2 i).2 q hq).2,⟨_,ziC hq,.refl _⟩⟩,fun m q hm=>by omega,by simp,fun _ hp=>hp,by have:=(h.2 i).1;simpa using this,Nat.zero_le _⟩
theorem CoI.outs (h:CoI M c i out nx n) (hc:zkh M c):out.length<=M.length:=by
 have h1:=zgs h.nd (m:=c) fun x hx=>by
  obtain ⟨j,_,_,e⟩:=h.src x hx;exact zc e
 rw[hc.1] at h1;exact h1
theorem CoI.bound (h:CoI M c i out nx n) (hc:zkh M c):nx.length<=8 * (M.length+1):=by
 have:=h.outs hc;have:=h.len;omega
theorem CoI.known (h:CoI M c i out nx n) {q x:Int} (hq:nx[n]?=some q) (hx:c[q.toNat]?=some x) (hm:x∈out):CoI M c i out nx (n+1) :=
 ⟨h.nd,h.src,h.nxt,fun m p hm2 hp=>by
  (rcases zG m n with h1 | h1);(·exact h.done m p h1 hp);obtain rfl:m=n:=by omega
  rw[hq] at hp;cases hp;exact ⟨x,hm,hx⟩,h.cov,h.st,h.len,(zb.1 hq).1⟩
theorem CoI.new (h:CoI M c i out nx n) (hc:zkh M c) {q x:Int} (hq:nx[n]?=some q) (hx:c[q.toNat]?=some x) (hm:x∉out):CoI M c i (out++[x]) (nx++zbF M c q.toNat) (n+1):=by
 have hqm:=h.nxt q (zc hq);(have hql:q.toNat<M.length:=by omega);refine ⟨?_,fun y hy=>?_,fun p hp=>?_,fun m p hm2 hp=>?_,fun y hy j hj hcj p hp=>?_,fun p hp=>zD.2 (.inl (h.st p hp)),?_,?_⟩
 ·rw[List.nodup_append]
  exact ⟨h.nd,by simp,fun a ha b hb=>by simp at hb;subst hb;exact fun e=>hm (e▸ha)⟩
 ·rcases zD.1 hy with hy | hy
  (·exact h.src y hy);simp at hy;subst hy;exact ⟨q.toNat,hql,hqm.2.2,hx⟩
 ·rcases zD.1 hp with hp | hp
  (·exact h.nxt p hp);have h1:=(hc.2 q.toNat).2 p hp;exact ⟨h1.1,h1.2,hqm.2.2.next (ziC hp)⟩
 ·have hnl:=(zb.1 hq).1
  rw[zA tz1] at hp;rcases zG m n with h1 | h1
  ·obtain ⟨y,hy,e⟩:=h.done m p h1 hp
   exact ⟨y,zD.2 (.inl hy),e⟩
  (obtain rfl:m=n:=by omega);rw[hq] at hp;cases hp;exact ⟨x,by simp,hx⟩
 ·rcases zD.1 hy with hy | hy
  (·exact zD.2 (.inl (h.cov y hy j hj hcj p hp)));(simp at hy;subst hy);rw[nextI_col (hcj.trans hx.symm)] at hp;exact zD.2 (.inr hp)
 ·have:=h.len
  have:=(hc.2 q.toNat).1;simp only[zi,List.length_singleton];omega
 have:=(zb.1 hq).1;rw[zi];omega
theorem CoI.fin (h:CoI M c i out nx n) (hc:zkh M c) (hn:nx.length<=n):ComesR M c i out:=by
 have hQ:∀p∈nx,∃x∈out,c[p.toNat]?=some x:=fun p hp=>by
  obtain ⟨m,hm,e⟩:=zS.1 hp;exact h.done m p tz1 (by rw[za hm,e])
 have hstep:∀(u v:Nat),u<M.length->(∃x∈out,c[u]?=some x)->v∈zbm M c u->v<M.length/\∃x∈out,c[v]?=some x:=fun u v hu ⟨x,hx,e⟩ hv=>by
  obtain ⟨p,hp,rfl⟩:=zq.1 hv;have h1:=(hc.2 u).2 p hp;exact ⟨by omega,hQ p (h.cov x hx u hu e p hp)⟩
 have hrch:∀{u v:Nat},Rch (zbm M c) u v->u<M.length->(∃x∈out,c[u]?=some x)->∃x∈out,c[v]?=some x:=fun hr=>by
  induction hr with
  | refl _=>exact fun _ h=>h
  | @step u v w hv _ ih=>exact fun hu hx=>ih (hstep u v hu hx hv).1 (hstep u v hu hx hv).2
 refine ⟨h.outs hc,fun x=>⟨h.src x,?_⟩⟩;rintro ⟨j,hj,⟨v,hv,hr⟩,e⟩;obtain ⟨p,hp,rfl⟩:=zq.1 hv;have h1:=(hc.2 i).2 p hp;obtain ⟨y,hy,e2⟩:=hrch hr tz1 (hQ p (h.st p hp));rw[e] at e2;cases e2;exact hy
theorem ComesR.loop (h:ComesR M c i out) {x:Int} (hx:c[i]?=some x):x∈out↔zjO M c i:=by
 rw[h.2 x,zjO,hx]
end
open Classical in
noncomputable def zh0 (M:List RNode) (c:List Int) (i:Nat):Bool:=decide (zjO M c i)
open Classical in
noncomputable def zjs (M:List RNode) (c:List Int):Bool:=decide (∀i,i<M.length->¬zjO M c i)
theorem zeB {M:List RNode} {c:List Int} {i:Nat}:zh0 M c i=true↔zjO M c i:=by
 classical
 unfold zh0;rw[zd]
theorem zfn {M:List RNode} {c:List Int}:zjs M c=true↔∀i,i<M.length->¬zjO M c i:=by
 classical
 unfold zjs;rw[zd]
section
variable {l:List (Ty×Ty)} {M:List RNode} {c:List Int} {S:CS}
theorem PSt.var_at (h:PSt l M c S) {a:Int} (ha:a∈varsI M):∃q:Nat,zbE (RNode.isVar a) M=(q:Int)/\q<M.length/\zaw S.G.V a=some (q:Int):=by
 obtain ⟨q,hq,hl⟩:=var_idx ha;exact ⟨q,hq,hl,Go.Proofs.YtpfiliamceimmaaGreatDoor.var_at h hq⟩
theorem PSt.fin_iff (h:PSt l M c S):zjs M c=true↔∀y,¬Pls (zaK S) y y:=by
 rw[zfn];constructor
 ·intro hf y hp
  (have hy:y<M.length:=by rw[<- h.nl];exact hp.root.lt);exact hf y hy ((h.loop_iff hy).2 (by rw[zbt hp.root];exact hp))
 exact fun hf i hi hl=>hf _ ((h.loop_iff hi).1 hl)
theorem PSt.count (h:PSt l M c S) {b:Bool} {n:Int} (hr:zg7 S (b,n)):b=zjs M c/\0<=n/\n<=11 * (M.length:Int):=by
 (rcases hr with ⟨h1,_⟩ | ⟨_,h2,h3,h4,h5⟩);(·rw[h.h.1] at h1;cases h1);refine ⟨?_,h4,by have:=h.nl;dsimp only at h5;omega⟩;dsimp only at h2 h3
 cases b with
 | true=>exact (h.fin_iff.2 fun y=>h.no_loop (h3 rfl) y).symm
 | false =>
  cases hf:zjs M c with
  | false=>rfl
  | true =>
   obtain ⟨y,_,hp⟩:=h2 rfl;exact absurd hp (h.fin_iff.1 hf y)
end
theorem Holds.pst {l:List (Ty×Ty)} {S:CS} (ho:OkE l) (h:Holds l S) (hk:S.G.V.map Prod.fst=vns (eqF l).1) (hl:(eqF l).1.length<=1048576):∃c,PSt l (eqF l).1 c S:=by
 refine ⟨(List.range (eqF l).1.length).map fun i=>(za4 S i:Int),h,⟨ho,by simp,fun i k hi hk=>?_⟩,rfl,hl,hk⟩;rw[zN,zN,List.getElem?_range hi,List.getElem?_range hk];simp only[zY,Option.some.injEq];have h1:Rt S.F.up i (za4 S i):=zfr h.2.w.c (by rw[h.2.rel.len];exact hi);have h2:Rt S.F.up k (za4 S k):=zfr h.2.w.c (by rw[h.2.rel.len];exact hk);rw[<- zbV h h1];constructor
 ·intro e
  (have e2:za4 S i=za4 S k:=by omega);rw[e2];exact h2
 intro hr;rw[Rt.det h2 hr]
theorem CSt.pst {l:List (Ty×Ty)} {S:CS} (h:CSt l S) (hc:S.clash=false) (hl:S.G.N.length<=1048576):∃c,PSt l (eqF l).1 c S:=by
 obtain ⟨hH,hK⟩:=h.good hc;exact hH.pst h.ok hK (by rw[<- hH.2.rel.len];exact hl)
theorem CSt.cyG {l:List (Ty×Ty)} {S:CS} (h:CSt l S) (hl:S.G.N.length<=1048576):S.clash=false->CyG S:=fun hc=>by
 obtain ⟨c,hp⟩:=h.pst hc hl;exact hp.cyG
theorem zfG {P:Ty->Prop}:∀(ps:List Ty),(∀p∈ps,∀m:List RNode,(∀r∈m,P r.t)->∀r∈(p.radd m).1,P r.t)->∀(m:List RNode) (l:List Int),(∀r∈m,P r.t)->∀r∈(Ty.raddL ps m l).1,P r.t
 | [],_,m,l,hm=>by unfold Ty.raddL;exact hm
 | p::ps,h,m,l,hm=>by
  unfold Ty.raddL;exact zfG ps (fun q hq=>h q (by simp[hq])) _ _ (h p tz4 m hm)
theorem zgU {P:Ty->Prop} (hP:∀t,P t->∀p∈t.ps,P p):∀t:Ty,P t->∀m:List RNode,(∀r∈m,P r.t)->∀r∈(t.radd m).1,P r.t:=by
 refine Ty.ind fun t ih ht m hm=>?_;obtain ⟨k,n,ps⟩:=t;unfold Ty.radd;split;(·exact hm);intro r hr;dsimp only at hr;(rcases zD.1 hr with hr | hr);(·exact zfG ps (fun p hp=>ih p hp (hP _ ht p hp)) m [] hm r hr);simp at hr;subst hr;exact ht
theorem eqF_types {P:Ty->Prop} (hP:∀t,P t->∀p∈t.ps,P p):∀l,OkE l->(∀e∈l,P e.1/\P e.2)->∀r∈(eqF l).1,P r.t :=
 zga (P:=fun l=>(∀e∈l,P e.1/\P e.2)->∀r∈(eqF l).1,P r.t) (fun _ r hr=>by simp[eqF] at hr) fun d e _ _ ih he r hr=>by
  rw[za1] at hr;(have h1:=ih fun x hx=>he x (by simp[hx]));have h2:=he e tz4;exact zgU hP e.2 h2.2 _ (zgU hP e.1 h2.1 _ h1) r hr
theorem eqF_src:∀l,OkE l->∀x∈zcn (eqF l).2,∃e∈l,(((eqF l).1[x.1]?).map RNode.t=some e.1)/\(((eqF l).1[x.2]?).map RNode.t=some e.2) :=
 zga (fun x hx=>by simp[eqF,zcn] at hx) fun d e h hd ih x hx=>by
  have hp:=zhU h;(obtain ⟨⟨G,hG⟩,_⟩:=zdl d fun x hx=>hd x hx);obtain ⟨h1,h2,h3,h4⟩:=h e tz4;have s1:=zbM e.1 h1 h3 G _ hG;have s2:=zbM e.2 h2 h4 _ _ s1.rel;rw[za1] at hx;simp only[zdS,zcn,zu,zD,zt,zW] at hx;rcases hx with hx | hx
  ·obtain ⟨y,hy,e1,e2⟩:=ih x hx
   exact ⟨y,by simp[hy],hp.get e1,hp.get e2⟩
  simp only[List.mem_singleton] at hx;subst hx;refine ⟨e,by simp,?_,?_⟩;(·rw[za1];exact s2.pre.get s1.at');rw[za1];exact s2.at'
def vT (i:Nat):Ty:=.mk 1 (i:Int) []
def dT (i:Nat):Ty:=.mk 4 0 [vT (i+1),vT (i+1)]
def iT:Ty:=.mk 2 0 []
inductive ValT (k:Nat):Ty->Nat->Prop
 | var (i:Nat) (h:i<=k):ValT k (vT i) (k-i)
 | int:ValT k iT 0
 | fn (i:Nat) (h:i<k):ValT k (dT i) (k-i)
theorem ValT.inv {k:Nat} {t:Ty} {n:Nat} (h:ValT k t n):(∃i,i<=k/\t=vT i/\n=k-i)\/(t=iT/\n=0)\/∃i,i<k/\t=dT i/\n=k-i:=by
 cases h with
 | var i h=>exact .inl ⟨i,h,rfl,rfl⟩
 | int=>exact .inr (.inl ⟨rfl,rfl⟩)
 | fn i h=>exact .inr (.inr ⟨i,h,rfl,rfl⟩)
end Go.Proofs.YtpfiliamceimmaaGreatDoor
namespace Go.Proofs.YtpfiliamceimmaaGreatDoor
open Go Go.RowKit
attribute [local irreducible] aops zaA
def zh3 {α:Type} (f:α->α->Bool):List α->List α->Bool
 | [],[]=>true
 | p::ps,q::qs=>f p q&&zh3 f ps qs
 | _,_=>false
theorem zeq {α:Type} {f:α->α->Bool}:∀{ps qs:List α},ps.length≠qs.length->zh3 f ps qs=false
 | [],[],h=>by simp at h
 | [],_::_,_=>rfl
 | _::_,[],_=>rfl
 | p::ps,q::qs,h=>by simp only[zh3];rw[zeq (by simpa using h)];simp
theorem zcM {α:Type} {f:α->α->Bool}:∀{ps qs:List α} {k:Nat} {p q:α},ps[k]?=some p->qs[k]?=some q->f p q=false->zh3 f ps qs=false
 | [],_,k,p,q,h,_,_=>by simp at h
 | _::_,[],k,p,q,_,h,_=>by simp at h
 | a::ps,b::qs,0,p,q,h1,h2,hf=>by simp at h1 h2;subst h1;subst h2;simp[zh3,hf]
 | a::ps,b::qs,k+1,p,q,h1,h2,hf=>by simp only[zh3];rw[zcM (k:=k) (by simpa using h1) (by simpa using h2) hf];simp
theorem zcS {α:Type} {f:α->α->Bool}:∀{ps qs:List α},ps.length=qs.length->(∀(k:Nat) (p q:α),ps[k]?=some p->qs[k]?=some q->f p q=true)->zh3 f ps qs=true
 | [],[],_,_=>rfl
 | [],_::_,h,_=>by simp at h
 | _::_,[],h,_=>by simp at h
 | a::ps,b::qs,h,hf=>by
  simp only[zh3];rw[hf 0 a b rfl rfl,zcS (by simpa using h) fun k p q hp hq=>hf (k+1) p q (by simpa using hp) (by simpa using hq)];rfl
theorem zi6:∀ps qs:List Ty,Ty.sameL ps qs=zh3 Ty.same ps qs
 | [],[]=>by simp[Ty.sameL,zh3]
 | [],_::_=>by simp[Ty.sameL,zh3]
 | _::_,[]=>by simp[Ty.sameL,zh3]
 | p::ps,q::qs=>by simp[Ty.sameL,zh3,zi6 ps qs]
def zg6 (l:List Int) (n:Int):List Int:=if l.any (fun x=>x==n) then l else l++[n]
mutual
def Ty.rvars:Ty->List Int->List Int
 | .mk k n ps,l=>Ty.rvarsL ps (if k=1 then zg6 l n else l)
def Ty.rvarsL:List Ty->List Int->List Int
 | [],l=>l
 | p::ps,l=>Ty.rvarsL ps (Ty.rvars p l)
end
theorem Ty.rvars_eq (t:Ty) (l:List Int):t.rvars l=Ty.rvarsL t.ps (if t.k=1 then zg6 l t.n else l):=by cases t;rw[Ty.rvars];rfl
theorem Ty.rvarsL_append:∀(ps qs:List Ty) (l:List Int),Ty.rvarsL (ps++qs) l=Ty.rvarsL qs (Ty.rvarsL ps l)
 | [],qs,l=>by simp[Ty.rvarsL]
 | p::ps,qs,l=>by simp[Ty.rvarsL,Ty.rvarsL_append ps qs]
theorem Ty.rvarsL_step {ps:List Ty} {s:Nat} {p:Ty} (hp:ps[s]?=some p) (l:List Int):Ty.rvarsL (ps.take (s+1)) l=p.rvars (Ty.rvarsL (ps.take s) l):=by
 rw[zM,hp,Ty.rvarsL_append];simp[Ty.rvarsL]
theorem zcW (k n:Int) (l:List Int):(k=1->(l.any fun x=>x==n)=false->(if k=1 then zg6 l n else l)=l++[n])/\((l.any fun x=>x==n)=true->(if k=1 then zg6 l n else l)=l)/\(¬k=1->(if k=1 then zg6 l n else l)=l):=by
 refine ⟨fun h1 h2=>?_,fun h1=>?_,fun h1=>?_⟩;·rw[if_pos h1,zg6,if_neg (by rw[h2];simp)]
 ·split
  (·rw[zg6,if_pos h1]);rfl
 rw[if_neg h1]
theorem zkV (l:List Int) (n:Int):(zg6 l n).length<=l.length+1:=by unfold zg6;split <;> simp
theorem Ty.rvars_len:∀(t:Ty) (l:List Int),(t.rvars l).length<=l.length+t.cnt:=by
 refine Ty.ind fun t ih=>?_
 have key:∀ps:List Ty,(∀p∈ps,∀l:List Int,(p.rvars l).length<=l.length+p.cnt)->∀l:List Int,(Ty.rvarsL ps l).length<=l.length+Ty.cntL ps:=by
  intro ps
  induction ps with
  | nil=>intro _ l;simp[Ty.rvarsL,Ty.cntL]
  | cons p ps ihp =>
   intro hp l;have h1:=hp p tz4 l;have h2:=ihp (fun q hq=>hp q (by simp[hq])) (p.rvars l);simp only[Ty.rvarsL,Ty.cntL];omega
 intro l;rw[Ty.rvars_eq,Ty.cnt_eq];have:=key t.ps ih (if t.k=1 then zg6 l t.n else l);(have h2:(if t.k=1 then zg6 l t.n else l).length<=l.length+1:=by split <;> first | exact zkV l t.n | omega);omega
theorem Ty.rvarsL_len (ps:List Ty) (l:List Int):(Ty.rvarsL ps l).length<=l.length+Ty.cntL ps:=by
 have:=Ty.rvars_len (.mk 0 0 ps) l;rw[Ty.rvars_eq,Ty.cnt_eq] at this
 induction ps generalizing l with
 | nil=>simp[Ty.rvarsL,Ty.cntL]
 | cons p ps ih =>
  have h1:=p.rvars_len l;have h2:=ih (p.rvars l) (by have:=Ty.rvars_len (.mk 0 0 ps) (p.rvars l);rw[Ty.rvars_eq,Ty.cnt_eq] at this;exact this);simp only[Ty.rvarsL,Ty.cntL];omega
structure Bd where
 v:Int
 t:Ty
def Bd.cells (b:Bd):List AV:=.v (.int .i64 b.v)::b.t.cells
theorem Bd.cells_eq (b:Bd):b.cells=[.v (.int .i64 b.v),.v (.int .i64 b.t.k),.v (.int .i64 b.t.n),.sl 3 (b.t.ps.map Ty.cells)]:=by rw[Bd.cells,Ty.cells_eq]
theorem Bd.cells_len (b:Bd):b.cells.length=4:=by rw[b.cells_eq];rfl
theorem Bd.data (b:Bd):DataL b.cells:=.cons (.v _) b.t.data
theorem Bd.dataSl (l:List Bd):Data (.sl 4 (l.map Bd.cells)):=.sl fun x hx=>by
 obtain ⟨y,_,rfl⟩:=zq.1 hx;exact y.data
theorem Bd.take1 (b:Bd):b.cells.take 1=[.v (.int .i64 b.v)]:=by rw[b.cells_eq];rfl
theorem Bd.drop1 (b:Bd):b.cells.drop 1=b.t.cells:=rfl
theorem Bd.one (b:Bd):b.cells.all AV.one=true:=by rw[b.cells_eq];rfl
def zbi (l:List Bd) (n:Int):Int:=zbE (fun b=>b.v==n) l
mutual
/-- what a substitution makes of a type -/
def Ty.sub (l:List Bd):Ty->Ty
 | .mk k n ps=>if k=1/\0<=zbi l n then ((l[(zbi l n).toNat]?).map Bd.t).getD (.mk 0 0 []) else .mk k n (Ty.subL l ps)
def Ty.subL (l:List Bd):List Ty->List Ty
 | []=>[]
 | p::ps=>Ty.sub l p::Ty.subL l ps
end
theorem Ty.subL_eq (l:List Bd):∀ps,Ty.subL l ps=ps.map (Ty.sub l)
 | []=>by simp[Ty.subL]
 | p::ps=>by simp[Ty.subL,Ty.subL_eq l ps]
theorem Ty.sub_yes {l:List Bd} {t:Ty} {b:Bd} (h:t.k=1) (h0:0<=zbi l t.n) (hb:l[(zbi l t.n).toNat]?=some b):t.sub l=b.t:=by
 obtain ⟨k,n,ps⟩:=t;simp only[Ty.k,Ty.n] at h h0 hb;rw[Ty.sub,if_pos ⟨h,h0⟩,hb];rfl
theorem Ty.sub_no {l:List Bd} {t:Ty} (h:¬(t.k=1/\0<=zbi l t.n)):t.sub l=.mk t.k t.n (t.ps.map (Ty.sub l)):=by
 obtain ⟨k,n,ps⟩:=t;have h:¬(k=1/\0<=zbi l n):=h;rw[Ty.sub,if_neg h,Ty.subL_eq];rfl
def zjC (a b:List Bd):Bool:=zh3 (fun x y=>x.v==y.v&&x.t.same y.t) a b
theorem In_pure (l:List Int) (n:Int):APure Tryz.prog 69 [.sl 1 (l.map intC),.v (.int .i64 n)] (.v (.bool (l.any fun x=>x==n))):=by
  refine APure.mkL (.cons (zap l) (.cons (.v _) .nil)) (.v _) ?_;refine aIn Tryz.func69 fun hm=>?_;simp only[Tryz.ntmps69,Tryz.results69,go_sem,seval];have hm1:=hm.len (sz:=1) (xs:=l.map intC) tz4;rw[zx] at hm1;refine sqD ?_;refine z6 fun _ y=>?_;refine sqD ?_;apply zac;refine zai (σ:=Nat) (mB 18 35) (fun s=>s<=l.length/\∀(i:Nat) (p:Int),i<s->l[i]?=some p->(p==n)=false) (fun s=>[(5,.v (.int .i64 (s:Int)))]) (fun s=>[]) (fun s=>l.length-s) 0 (⟨by omega,fun i p hi=>by omega⟩) ?_ (fun s hs=>?_)
  ·
   simp only[go_sem,seval];exact zaL
  simp only[go_sem,seval];refine z6 fun _ u=>?_;refine sqD ?_;apply z8 rfl <;> intro hb9
  ·
   (have hk:s<l.length:=by simpa using hb9);obtain ⟨p,hp⟩:∃p,l[s]?=some p:=⟨_,za hk⟩;have hw:IntKind.i64.wrap ((s:Int)+1)=(s:Int)+1:=zal tz1 (by simp only[maxLen] at hm1;omega);apply zaa;apply u;refine z6 fun _ u=>?_;apply zac;refine sqR fun _ w=>?_;refine chS 4 ?_ (by intro _ q;simp only[↓bO,go_sem,seval,hk,gM hp,intC];exact q);simp only[↓bO,go_sem,seval];apply w;apply z8 rfl <;> intro hb17
   ·
    refine sqD ?_;apply zab;(try simp only[go_sem]);refine Le.of_eq (congrArg (fun b=>AV.v (.bool b)) ?_);first | (rw[zcT hp (by exact hb17)];done) | (rw[zcH (fun i p hi hp=>hs.2 i p tz1 hp)];done)
   apply zaa;apply u;apply z7;simp only[↓bO,go_sem,seval,hw];refine ⟨(s+1),⟨by omega,fun i p' hi h1=>(by rcases zG i s with h3 | h3 <;> first | exact hs.2 i p' h3 h1 | (obtain rfl:i=s:=tz1;rw[hp] at h1;cases h1;exact hb17))⟩,by omega,?_⟩;simp only[zar,zas,zah,zam,mB,seval,zj,zh];exact zaL
  (have hk:s=l.length:=by have:=hs.1;simp at hb9;omega);apply zak;simp only[zao,zaj,zaf,bA,Nat.reduceEqDiff,↓reduceIte];apply y;refine sqD ?_;apply zab;(try simp only[go_sem]);refine Le.of_eq (congrArg (fun b=>AV.v (.bool b)) ?_);first | (rw[zcT hp (by exact hb17)];done) | (rw[zcH (fun i p hi hp=>hs.2 i p tz1 hp)];done)
theorem zeM:∀(T:Ty) (l:List Int) (hl:l.length+T.cnt<=1099511627776),APure Tryz.prog 62 [.agg T.cells,.sl 1 (l.map intC)] (.sl 1 ((T.rvars l).map intC)):=by
  refine Ty.ind fun T ih=>?_;intro l hl;refine APure.mkL (.cons T.dataAgg (.cons (zap l) .nil)) ((zap _)) ?_;refine aIn Tryz.func62 fun hm=>?_;simp only[Tryz.ntmps62,Tryz.results62,go_sem,seval];have hcn:=T.cnt_eq;have hcl:=Ty.cntL_len T.ps;simp only[Ty.cells_eq T,zw,zB];(have hl0:(if T.k=1 then zg6 l T.n else l).length<=l.length+1:=by split <;> first | exact zkV l T.n | omega);(have hb1:l.length * 8<=140737488355328:=by omega);(have hb2:l.length<=maxLen:=by simp only[maxLen];omega);(have hb3:(l.length+1) * 8<=140737488355328:=by omega);(have hb4:l.length+1<=maxLen:=by simp only[maxLen];omega);have hon:=zk7 l;refine sqD ?_;refine zaQ (mB 38 6) ([(1,.sl 1 ((if T.k=1 then zg6 l T.n else l).map intC))]) [(0,.cells 28 [.v (.int .i64 T.k),.v (.int .i64 T.n),.sl 3 (T.ps.map Ty.cells)])] 1 (True) ?_ (fun hC=>?_)
  ·
   refine sqR fun _ u=>?_;refine chS 4 ?_;simp only[go_sem];refine zag 9 rfl (fun hc9=>?_) (fun hc9=>?_)
   ·
    refine chS 3 ?_;refine zZ 1 fun _ y=>?_;simp only[↓bO,go_sem,seval];refine APure.call (In_pure l T.n) ?_;apply y;clear y;simp only[↓bO,go_sem,seval];apply u;apply z8 rfl <;> intro hb15
    ·
     refine zax [(0,1,[.v (.int .i64 T.n)])] 8 rfl mixed (zeg) rfl ?_;dsimp only;refine tkS 1 ?_;refine tkS 3 ?_;refine tkM 4 0 ?_;refine al2 (i:=0) (j:=5) ?_ ?_
     ·
      refine opT fun _ y=>?_;simp only[↓bO,go_sem,seval,↓bs0_1];refine y _ ⟨zeg,?_⟩;clear y;refine al2 (i:=2) (j:=5) ?_ ?_
      ·
       refine opT fun _ y=>?_;simp only[↓bO,go_sem,seval,hb1,hb2,hon];refine y _ ⟨zeg,?_⟩;clear y;refine al1 (i:=5) ?_;refine opT fun _ y=>?_;simp only[↓bO,go_sem,seval,↓zcQ];refine y _ ⟨zeg,?_⟩;clear y;refine al1 (i:=6) ?_;refine opT fun _ y=>?_;simp only[↓bO,go_sem,seval,hb3,hb4];refine y _ ⟨zeg,?_⟩;clear y;refine tkS 7 ?_;refine dnA ?_;simp only[go_sem];(try simp only[go_sem,seval]);(first | refine ⟨trivial,?_⟩ | skip);have h9:=zcW T.k T.n l;(first | (have h9:=h9.1 (by simpa using hc9) (by simpa using hb15);rw[h9]) | (have h9:=h9.2.1 (by simpa using hb15);rw[h9]) | (have h9:=h9.2.2 (by simpa using hc9);rw[h9]));(first | (refine Weak.drops 0 1 rfl rfl tz5 tz5 ?_ ?_ ?_) | (refine Weak.drops 1 1 rfl rfl tz5 tz5 ?_ ?_ ?_));(· simp only[go_sem,Le.refl,Le.any,Le.oslL,zu,zt,zW]);(· simp only[UndL,Und.any,Und.v,Und.ptr,zen,zU,Nat.reduceLT,and_self]);simp only[UndOs,Ob.Und,UndL,Und.v,Und.tys,zU,Nat.reduceLT,and_self]
      refine opT fun _ y=>?_;simp only[↓bO,go_sem,seval,↓zcQ];refine y _ ⟨zeg,?_⟩;clear y;refine al1 (i:=2) ?_;refine opT fun _ y=>?_;simp only[↓bO,go_sem,seval,hb1,hb2,hon];refine y _ ⟨zeg,?_⟩;clear y;refine al1 (i:=6) ?_;refine opT fun _ y=>?_;simp only[↓bO,go_sem,seval,hb3,hb4];refine y _ ⟨zeg,?_⟩;clear y;refine tkS 7 ?_;refine dnA ?_;simp only[go_sem];(try simp only[go_sem,seval]);(first | refine ⟨trivial,?_⟩ | skip);have h9:=zcW T.k T.n l;(first | (have h9:=h9.1 (by simpa using hc9) (by simpa using hb15);rw[h9]) | (have h9:=h9.2.1 (by simpa using hb15);rw[h9]) | (have h9:=h9.2.2 (by simpa using hc9);rw[h9]));(first | (refine Weak.drops 0 1 rfl rfl tz5 tz5 ?_ ?_ ?_) | (refine Weak.drops 1 1 rfl rfl tz5 tz5 ?_ ?_ ?_));(· simp only[go_sem,Le.refl,Le.any,Le.oslL,zu,zt,zW]);(· simp only[UndL,Und.any,Und.v,Und.ptr,zen,zU,Nat.reduceLT,and_self]);simp only[UndOs,Ob.Und,UndL,Und.v,Und.tys,zU,Nat.reduceLT,and_self]
     refine opT fun _ y=>?_;simp only[↓bO,go_sem,seval,↓zcQ];refine y _ ⟨zeg,?_⟩;clear y;refine al1 (i:=0) ?_;refine opT fun _ y=>?_;simp only[↓bO,go_sem,seval,↓bs0_1];refine y _ ⟨zeg,?_⟩;clear y;refine al1 (i:=2) ?_;refine opT fun _ y=>?_;simp only[↓bO,go_sem,seval,hb1,hb2,hon];refine y _ ⟨zeg,?_⟩;clear y;refine al1 (i:=6) ?_;refine opT fun _ y=>?_;simp only[↓bO,go_sem,seval,hb3,hb4];refine y _ ⟨zeg,?_⟩;clear y;refine tkS 7 ?_;refine dnA ?_;simp only[go_sem];(try simp only[go_sem,seval]);(first | refine ⟨trivial,?_⟩ | skip);have h9:=zcW T.k T.n l;(first | (have h9:=h9.1 (by simpa using hc9) (by simpa using hb15);rw[h9]) | (have h9:=h9.2.1 (by simpa using hb15);rw[h9]) | (have h9:=h9.2.2 (by simpa using hc9);rw[h9]));(first | (refine Weak.drops 0 1 rfl rfl tz5 tz5 ?_ ?_ ?_) | (refine Weak.drops 1 1 rfl rfl tz5 tz5 ?_ ?_ ?_));(· simp only[go_sem,Le.refl,Le.any,Le.oslL,zu,zt,zW]);(· simp only[UndL,Und.any,Und.v,Und.ptr,zen,zU,Nat.reduceLT,and_self]);simp only[UndOs,Ob.Und,UndL,Und.v,Und.tys,zU,Nat.reduceLT,and_self]
    apply zaa;(try simp only[go_sem]);(try simp only[go_sem,seval]);(first | refine ⟨trivial,?_⟩ | skip);have h9:=zcW T.k T.n l;(first | (have h9:=h9.1 (by simpa using hc9) (by simpa using hb15);rw[h9]) | (have h9:=h9.2.1 (by simpa using hb15);rw[h9]) | (have h9:=h9.2.2 (by simpa using hc9);rw[h9]));(first | (refine Weak.drops 0 1 rfl rfl tz5 tz5 ?_ ?_ ?_) | (refine Weak.drops 1 1 rfl rfl tz5 tz5 ?_ ?_ ?_));(· simp only[go_sem,Le.refl,Le.any]);(· simp only[UndL,Und.any,Und.v,Und.ptr,zen,zU,Nat.reduceLT,and_self]);simp only[UndOs,Ob.Und,UndL,Und.v,Und.tys,zU,Nat.reduceLT,and_self]
   refine chS 4 ?_;simp only[↓bO,go_sem,seval];apply u;refine z8 (b:=false) (by first | exact rfl | exact congrArg (fun b=>AV.v (.bool b)) hb15) (fun h=>(by cases h)) (fun _=>?_);apply zaa;(try simp only[go_sem]);(try simp only[go_sem,seval]);(first | refine ⟨trivial,?_⟩ | skip);have h9:=zcW T.k T.n l;(first | (have h9:=h9.1 (by simpa using hc9) (by simpa using hb15);rw[h9]) | (have h9:=h9.2.1 (by simpa using hb15);rw[h9]) | (have h9:=h9.2.2 (by simpa using hc9);rw[h9]));(first | (refine Weak.drops 0 1 rfl rfl tz5 tz5 ?_ ?_ ?_) | (refine Weak.drops 1 1 rfl rfl tz5 tz5 ?_ ?_ ?_));(· simp only[go_sem,Le.refl,Le.any]);(· simp only[UndL,Und.any,Und.v,Und.ptr,zen,zU,Nat.reduceLT,and_self]);simp only[UndOs,Ob.Und,UndL,Und.v,Und.tys,zU,Nat.reduceLT,and_self]
  simp only[go_sem,seval];refine z6 fun _ u=>?_;refine sqD ?_;apply zac;refine zai (σ:=Nat) (mB 38 38) (fun s=>s<=T.ps.length) (fun s=>[(1,.sl 1 ((Ty.rvarsL (T.ps.take s) (if T.k=1 then zg6 l T.n else l)).map intC)),(5,.v (.int .i64 (s:Int)))]) (fun s=>[]) (fun s=>T.ps.length-s) 0 tz1 ?_ (fun s hs=>?_)
  ·
   simp only[go_sem,seval,bL,Ty.rvarsL];exact clz5
  simp only[go_sem,seval];refine z6 fun _ w=>?_;refine sqR fun _ z=>?_;refine chS 4 ?_;simp only[↓bO,go_sem,seval];apply z;apply z8 rfl <;> intro hb27
  ·
   (have hk:s<T.ps.length:=by simpa using hb27);obtain ⟨p,hp⟩:∃p,T.ps[s]?=some p:=⟨_,za hk⟩;have hpc:=Ty.cntL_step hp;have hvl:=Ty.rvarsL_len (T.ps.take s) (if T.k=1 then zg6 l T.n else l);have hw:IntKind.i64.wrap ((s:Int)+1)=(s:Int)+1:=zal tz1 tz1;apply zaa;apply w;refine z6 fun _ w=>?_;apply zac;apply z7;refine chS 4 ?_ (by intro _ q;simp only[↓bO,go_sem,seval,hk,gM hp];exact q);refine chS 2 ?_;refine zZ 1 fun _ y=>?_;simp only[↓bO,go_sem,seval];refine APure.call (ih p (zc hp) (Ty.rvarsL (T.ps.take s) (if T.k=1 then zg6 l T.n else l)) tz1) ?_;apply y;clear y;simp only[↓bO,go_sem,seval];apply w;apply z7;simp only[↓bO,go_sem,seval,hw];refine ⟨(s+1),tz1,by omega,?_⟩;simp only[zar,zas,zah,zam,mB,seval,zj,zh,Ty.rvarsL_step hp];exact zaL
  (have hk:s=T.ps.length:=by simp at hb27;omega);apply zak;simp only[zao,zaj,zaf,bA,Nat.reduceEqDiff,↓reduceIte];apply u;refine sqD ?_;apply zab;(try simp only[go_sem]);refine Le.of_eq ?_;rw[Ty.rvars_eq,hk,zI]
end Go.Proofs.YtpfiliamceimmaaGreatDoor
namespace Go.Proofs.YtpfiliamceimmaaGreatDoor
open Go Go.RowKit
theorem Ty.k_mk (k n:Int) (ps:List Ty):(Ty.mk k n ps).k=k:=rfl
theorem Ty.n_mk (k n:Int) (ps:List Ty):(Ty.mk k n ps).n=n:=rfl
theorem Ty.ps_mk (k n:Int) (ps:List Ty):(Ty.mk k n ps).ps=ps:=rfl
theorem okN_one {n:Int} {len:Nat} (h:okN 1 n len=true):0<=n/\n<1073741824/\len=0:=by
 simp only[okN,zd] at h;omega
theorem okN_more {k n:Int} {len:Nat} (h:okN k n len=true) (hk:¬k=1):n=0:=by
 simp only[okN,zd] at h;omega
theorem Ty.right_part {t p:Ty} (h:t.right=true) (hp:p∈t.ps):p.right=true:=by
 rw[Ty.right_eq,zy] at h;exact zV.1 h.2 p hp
theorem Ty.right_var {t:Ty} (h:t.right=true) (hk:t.k=1):t=.mk 1 t.n []:=by
 obtain ⟨k,n,ps⟩:=t;have hk:k=1:=hk;subst hk;rw[Ty.right_eq,zy] at h;have:=(okN_one h.1).2.2;simp only[Ty.ps,List.length_eq_zero_iff] at this;simp[Ty.n,this]
theorem Ty.right_n {t:Ty} (h:t.right=true) (hk:¬t.k=1):t.n=0:=by
 rw[Ty.right_eq,zy] at h;exact okN_more h.1 hk
theorem zkr {α:Type} {f:α->α->Bool}:∀{ps qs:List α},(∀p∈ps,∀q,f p q=true↔p=q)->(zh3 f ps qs=true↔ps=qs)
 | [],[],_=>by simp[zh3]
 | [],_::_,_=>by simp[zh3]
 | _::_,[],_=>by simp[zh3]
 | p::ps,q::qs,h=>by
  simp only[zh3,zy,List.cons.injEq];rw[h p tz4 q,zkr fun p' hp q'=>h p' (by simp[hp]) q']
theorem Ty.same_iff:∀T U:Ty,T.same U=true↔T=U:=by
 (refine Ty.ind fun T ih=>fun U=>?_);rw[Ty.same_eq,zi6,zy,zy,zkr ih];obtain ⟨k,n,ps⟩:=T;obtain ⟨k',n',ps'⟩:=U;simp only[Ty.k,Ty.n,Ty.ps,beq_iff_eq,Ty.mk.injEq];exact ⟨fun h=>⟨h.1.1,h.1.2,h.2⟩,fun h=>⟨⟨h.1,h.2.1⟩,h.2.2⟩⟩
def za3 {α:Type}:List (Int×α)->Int->Option α
 | [],_=>none
 | (k,x)::r,i=>if k=i then some x else za3 r i
def zfb {α:Type}:List (Int×α)->Int->α->List (Int×α)
 | [],k,x=>[(k,x)]
 | (k',y)::r,k,x=>if k'=k then (k,x)::r else (k',y)::zfb r k x
theorem zg1 {α:Type} (k:Int) (x:α) (i:Int):∀m:List (Int×α),za3 (zfb m k x) i=if k=i then some x else za3 m i
 | []=>by simp[zfb,za3]
 | (a,b)::m=>by
  simp only[zfb];split;(·rename_i e;subst e;simp only[za3];split <;> rfl);(rename_i e);simp only[za3,zg1 k x i m]
  by_cases h1:k=i
  (·subst h1;simp[e]);simp[h1]
theorem zfL {α:Type} (f:α->AV) (i:Int):∀m:List (Int×α),zbS (m.map fun p=>(p.1,f p.2)) i=(za3 m i).map f
 | []=>rfl
 | (a,b)::m=>by simp only[zt,zbS,za3];split <;> simp[zfL f i m]
theorem aSet_p {α:Type} (f:α->AV) (k:Int) (x:α):∀m:List (Int×α),zef (m.map fun p=>(p.1,f p.2)) k (f x)=(zfb m k x).map fun p=>(p.1,f p.2)
 | []=>rfl
 | (a,b)::m=>by simp only[zt,zef,zfb];split <;> simp[aSet_p f k x m]
def Ty.occ (v:Int) (t:Ty):Prop:=v∈t.rvars []
theorem zkw {l:List Int} {n v:Int}:v∈zg6 l n↔v∈l\/v=n:=by
 unfold zg6;split
 ·rename_i h
  obtain ⟨x,hx,e⟩:=List.any_eq_true.1 h;simp only[beq_iff_eq] at e;subst e;exact ⟨.inl,fun h=>h.elim id fun h=>h▸hx⟩
 simp
theorem Ty.mem_rvars (v:Int):∀(t:Ty) (l:List Int),v∈t.rvars l↔v∈l\/t.occ v:=by
 have key:∀t:Ty,(∀p∈t.ps,∀l:List Int,v∈p.rvars l↔v∈l\/p.occ v)->∀l,v∈t.rvars l↔v∈l\/(t.k=1/\v=t.n)\/∃p∈t.ps,p.occ v:=by
  intro t ih l
  have hL:∀ps:List Ty,(∀p∈ps,∀l:List Int,v∈p.rvars l↔v∈l\/p.occ v)->∀l:List Int,v∈Ty.rvarsL ps l↔v∈l\/∃p∈ps,p.occ v:=by
   intro ps
   induction ps with
   | nil=>intro _ l;simp[Ty.rvarsL]
   | cons p ps ih2 =>
    intro h l;rw[Ty.rvarsL,ih2 (fun q hq=>h q (by simp[hq])),h p tz4];simp only[zE,exists_eq_or_imp,or_assoc]
  rw[Ty.rvars_eq,hL t.ps ih];split;(·rename_i hk;simp only[zkw,hk,true_and,or_assoc]);rename_i hk;simp only[hk,false_and,false_or]
 refine Ty.ind fun t ih l=>?_;have h1:=key t ih l;have h2:=key t ih [];unfold Ty.occ;rw[h1,h2];simp
theorem Ty.occ_iff (v:Int) (t:Ty):t.occ v↔(t.k=1/\v=t.n)\/∃p∈t.ps,p.occ v:=by
 have hL:∀(ps:List Ty) (l:List Int),v∈Ty.rvarsL ps l↔v∈l\/∃p∈ps,p.occ v:=by
  intro ps
  induction ps with
  | nil=>intro l;simp[Ty.rvarsL]
  | cons p ps ih2 =>
   intro l;rw[Ty.rvarsL,ih2,Ty.mem_rvars];simp only[zE,exists_eq_or_imp,or_assoc]
 rw[Ty.occ,Ty.rvars_eq,hL];split;(·rename_i hk;simp[zkw,hk]);rename_i hk;simp[hk]
mutual
/-- what a function of variables makes of a type -/
def Ty.subF (σ:Int->Ty):Ty->Ty
 | .mk k n ps=>if k=1 then σ n else .mk k n (Ty.subFL σ ps)
def Ty.subFL (σ:Int->Ty):List Ty->List Ty
 | []=>[]
 | p::ps=>Ty.subF σ p::Ty.subFL σ ps
end
theorem Ty.subFL_eq (σ:Int->Ty):∀ps,Ty.subFL σ ps=ps.map (Ty.subF σ)
 | []=>by simp[Ty.subFL]
 | p::ps=>by simp[Ty.subFL,Ty.subFL_eq σ ps]
theorem Ty.subF_var {σ:Int->Ty} {t:Ty} (h:t.k=1):t.subF σ=σ t.n:=by
 obtain ⟨k,n,ps⟩:=t;have h:k=1:=h;rw[Ty.subF,if_pos h];rfl
theorem Ty.subF_more {σ:Int->Ty} {t:Ty} (h:¬t.k=1):t.subF σ=.mk t.k t.n (t.ps.map (Ty.subF σ)):=by
 obtain ⟨k,n,ps⟩:=t;have h:¬k=1:=h;rw[Ty.subF,if_neg h,Ty.subFL_eq];rfl
theorem Ty.subF_congr {σ τ:Int->Ty}:∀t:Ty,(∀v,t.occ v->σ v=τ v)->t.subF σ=t.subF τ:=by
 refine Ty.ind fun t ih h=>?_
 by_cases hk:t.k=1
 ·rw[Ty.subF_var hk,Ty.subF_var hk]
  exact h _ ((Ty.occ_iff _ _).2 (.inl ⟨hk,rfl⟩))
 rw[Ty.subF_more hk,Ty.subF_more hk];(congr 1);exact List.map_congr_left fun p hp=>ih p hp fun v hv=>h v ((Ty.occ_iff _ _).2 (.inr ⟨p,hp,hv⟩))
def zem (l:List Bd) (n:Int):Ty:=if 0<=zbi l n then ((l[(zbi l n).toNat]?).map Bd.t).getD (.mk 0 0 []) else .mk 1 n []
theorem Ty.sub_subF (l:List Bd):∀t:Ty,t.right=true->t.sub l=t.subF (zem l):=by
 refine Ty.ind fun t ih hr=>?_
 by_cases hk:t.k=1
 ·have e:=Ty.right_var hr hk
  rw[Ty.subF_var hk]
  conv=>lhs;rw[e]
  simp only[Ty.sub,zem,true_and,Ty.subL]
 rw[Ty.subF_more hk,Ty.sub_no fun h=>hk h.1];(congr 1);exact List.map_congr_left fun p hp=>ih p hp (Ty.right_part hr hp)
mutual
/-- matching: what is told behind what was -/
def Ty.match:Ty->Ty->List (Int×Ty)->Bool×List (Int×Ty)
 | .mk k n ps,t,m=>if k=1 then (match za3 m n with | none=>(true,zfb m n t) | some x=>(x.same t,m)) else if k=t.k/\ps.length=t.ps.length then Ty.matchL ps t.ps m else (false,m)
def Ty.matchL:List Ty->List Ty->List (Int×Ty)->Bool×List (Int×Ty)
 | p::ps,q::qs,m=>if (Ty.match p q m).1 then Ty.matchL ps qs (Ty.match p q m).2 else (false,(Ty.match p q m).2)
 | [],_,m=>(true,m)
 | _::_,[],m=>(true,m)
end
theorem Ty.subF_k {σ:Int->Ty} {x:Ty} (h:(x.subF σ).k=1):x.k=1:=by
 by_cases hk:x.k=1
 (·exact hk);rw[Ty.subF_more hk] at h;exact absurd h hk
end Go.Proofs.YtpfiliamceimmaaGreatDoor
namespace Go.Proofs.YtpfiliamceimmaaGreatDoor
open Go Go.RowKit
abbrev vTy (n:Int):Ty:=.mk 1 n []
theorem Ty.subF_subF (σ τ:Int->Ty):∀t:Ty,(t.subF σ).subF τ=t.subF fun v=>(σ v).subF τ:=by
 refine Ty.ind fun t ih=>?_
 by_cases hk:t.k=1
 (·rw[Ty.subF_var hk,Ty.subF_var hk]);rw[Ty.subF_more hk,Ty.subF_more (σ:=fun v=>(σ v).subF τ) hk,Ty.subF_more (by exact hk)];simp only[Ty.k_mk,Ty.n_mk,Ty.ps_mk,List.map_map];(congr 1);exact List.map_congr_left fun p hp=>ih p hp
theorem Ty.subF_fixed {σ:Int->Ty}:∀t:Ty,t.right=true->(∀v,t.occ v->σ v=vTy v)->t.subF σ=t:=by
 refine Ty.ind fun t ih hr h=>?_
 by_cases hk:t.k=1
 ·rw[Ty.subF_var hk,h _ ((Ty.occ_iff _ _).2 (.inl ⟨hk,rfl⟩))]
  exact (Ty.right_var hr hk).symm
 rw[Ty.subF_more hk];have e:t.ps.map (Ty.subF σ)=t.ps:=(List.map_congr_left fun p hp=>ih p hp (Ty.right_part hr hp) fun v hv=>h v ((Ty.occ_iff _ _).2 (.inr ⟨p,hp,hv⟩))).trans (List.map_id t.ps);rw[e,Ty.eta]
theorem zkt {α:Type} {f:α->α}:∀{l:List α},l.map f=l->∀x∈l,f x=x
 | [],_,x,hx=>by cases hx
 | a::l,h,x,hx=>by
  simp only[zt,List.cons.injEq] at h;(rcases zE.1 hx with rfl | hx);(·exact h.1);exact zkt h.2 x hx
theorem Ty.fixed_of {σ:Int->Ty}:∀t:Ty,t.right=true->t.subF σ=t->∀v,t.occ v->σ v=vTy v:=by
 refine Ty.ind fun t ih hr h v hv=>?_
 by_cases hk:t.k=1
 ·have e:=Ty.right_var hr hk
  rw[Ty.subF_var hk] at h;(rcases (Ty.occ_iff _ _).1 hv with ⟨_,rfl⟩ | ⟨p,hp,_⟩);(·rw[h];exact e);rw[e] at hp;cases hp
 rw[Ty.subF_more hk] at h
 have h2:t.ps.map (Ty.subF σ)=t.ps:=by
  have:=congrArg Ty.ps h;simpa [Ty.ps_mk] using this
 (rcases (Ty.occ_iff _ _).1 hv with ⟨h3,_⟩ | ⟨p,hp,hv2⟩);(·exact absurd h3 hk);exact ih p hp (Ty.right_part hr hp) (zkt h2 p hp) v hv2
theorem Ty.occ_vTy {v w:Int}:(vTy v).occ w↔w=v:=by
 rw[Ty.occ_iff];simp[vTy,Ty.k,Ty.n,Ty.ps]
theorem Ty.cnt_lt {t p:Ty} (h:p∈t.ps):p.cnt<t.cnt:=by
 rw[t.cnt_eq];have:=Ty.cnt_mem h;omega
theorem Ty.cnt_pos (t:Ty):1<=t.cnt:=by rw[t.cnt_eq];omega
def zaV (σ:Int->Ty) (l:List (Ty×Ty)):Prop:=∀e∈l,e.1.subF σ=e.2.subF σ
structure MG (l:List (Ty×Ty)) (σ:Int->Ty):Prop where
 solves:zaV σ l
 most:∀θ:Int->Ty,zaV θ l->∀v,(σ v).subF θ=θ v
structure Norm (L:List Int) (σ:Int->Ty):Prop where
 right:∀v∈L,(σ v).right=true
 out:∀v,v∉L->σ v=vTy v
 fix:∀v∈L,∀u,(σ v).occ u->u∈L/\σ u=vTy u
 least:∀v∈L,∀u,σ v=vTy u->u<=v
theorem zkI {t:Ty} (hr:t.right=true) (hk:t.k=1):t=vTy t.n:=Ty.right_var hr hk
theorem Norm.var {L:List Int} {σ τ:Int->Ty} (h:Norm L σ) (k:Norm L τ) (h1:∀v∈L,(σ v).subF τ=τ v) (h2:∀v∈L,(τ v).subF σ=σ v) {u:Int} (hu:u∈L) (e:σ u=vTy u):τ u=vTy u:=by
 have h3:=h2 u hu;rw[e] at h3;have hk:(τ u).k=1:=Ty.subF_k (σ:=σ) (by rw[h3];rfl);have e2:=zkI (k.right u hu) hk;obtain ⟨hw,e3⟩:=k.fix u hu (τ u).n (by rw[e2];exact Ty.occ_vTy.2 rfl);rw[e2,Ty.subF_var rfl] at h3;have h5:=h.least _ hw u h3;have h6:=k.least u hu _ e2;(have:(τ u).n=u:=by omega);rw[e2,this]
theorem Norm.unique {L:List Int} {σ τ:Int->Ty} (h:Norm L σ) (k:Norm L τ) (h1:∀v∈L,(σ v).subF τ=τ v) (h2:∀v∈L,(τ v).subF σ=σ v) (v:Int):σ v=τ v:=by
 by_cases hv:v∈L
 ·rw[<- h1 v hv]
  refine (Ty.subF_fixed (σ v) (h.right v hv) fun u hu=>?_).symm;obtain ⟨h3,h4⟩:=h.fix v hv u hu;exact h.var k h1 h2 h3 h4
 rw[h.out v hv,k.out v hv]
theorem MG.unique {L:List Int} {l:List (Ty×Ty)} {σ τ:Int->Ty} (h:Norm L σ) (k:Norm L τ) (hs:MG l σ) (ks:MG l τ):σ=τ :=
 funext fun v=>h.unique k (fun v _=>hs.most τ ks.solves v) (fun v _=>ks.most σ hs.solves v) v
structure Raw (L:List Int) (l:List (Ty×Ty)) (o:Int->Ty):Prop where
 right:∀v∈L,(o v).right=true
 out:∀v,v∉L->o v=vTy v
 rng:∀v∈L,∀u,(o v).occ u->u∈L
 idem:∀v∈L,(o v).subF o=o v
 mg:MG l o
def zkx (L:List Int) (o:Int->Ty) (w:Int):Ty:=match L.find? fun v=>(o v).same (vTy w) with
 | some v=>vTy v
 | none=>vTy w
theorem Raw.told {L:List Int} {l:List (Ty×Ty)} {o σ:Int->Ty} (h:Raw L l o) (k:Norm L σ) (ks:MG l σ) (hL:L.Pairwise (· < ·)) {v:Int} (hv:v∈L):(o v).subF (zkx L o)=σ v:=by
 rw[<- h.mg.most σ ks.solves v];refine Ty.subF_congr _ fun w hw=>?_;have hwL:=h.rng v hv w hw;have how:o w=vTy w:=Ty.fixed_of _ (h.right v hv) (h.idem v hv) w hw;have h1:=ks.most o h.mg.solves w;rw[how] at h1;have hk:(σ w).k=1:=Ty.subF_k (σ:=o) (by rw[h1];rfl);have e2:=zkI (k.right w hwL) hk;obtain ⟨huL,hu⟩:=k.fix w hwL (σ w).n (by rw[e2];exact Ty.occ_vTy.2 rfl);rw[e2,Ty.subF_var rfl] at h1;unfold zkx
 cases hf:L.find? fun v=>(o v).same (vTy w) with
 | none =>
  have:=List.find?_eq_none.1 hf w hwL
  exact absurd ((Ty.same_iff _ _).2 how) this
 | some x =>
  (simp only);have hx:=List.find?_some hf;have hxL:=List.mem_of_find?_eq_some hf;have hx2:=(Ty.same_iff _ _).1 hx
  have h3:σ x=σ w:=by
   have h4:=h.mg.most σ ks.solves x;rw[hx2,Ty.subF_var rfl] at h4;exact h4.symm
  have h5:(σ w).n<=x:=k.least x hxL _ (by rw[h3];exact e2)
  have h6:¬(σ w).n<x:=fun hlt=>by
   obtain ⟨a,b,e3⟩:∃a b,L=a++x::b/\∀y∈a,¬(o y).same (vTy w)=true:=by
    obtain ⟨_,a,b,e3,e4⟩:=List.find?_eq_some_iff_append.1 hf;exact ⟨a,b,e3,fun y hy=>by simpa using e4 y hy⟩
   have hin:(σ w).n∈a:=by
    have h7:=huL;rw[e3.1] at h7 hL;(rcases zD.1 h7 with h8 | h8);(·exact h8);exfalso;have h9:=(List.pairwise_append.1 hL).2.1;(rcases zE.1 h8 with h8 | h8);(·omega);have:=(List.pairwise_cons.1 h9).1 _ h8;omega
   exact e3.2 _ hin ((Ty.same_iff _ _).2 h1)
  (have:(σ w).n=x:=by omega);rw[e2,this]
def zbK (S:CS) (r:Nat):Int:=match S.W[r]? with
 | some x=>if x<0 then 0 else ((S.G.N[x.toNat]?).map GNode.k).getD 0
 | none=>0
abbrev vsS (S:CS):List Int:=zcf (S.G.V.map Prod.fst)
noncomputable def whT (S:CS) (r:Nat) (ts:List Ty):Ty:=if zbK S r=0 then vTy (za9 S r (vsS S)) else .mk (zbK S r) 0 ts
inductive Wh (S:CS):Nat->Ty->Prop
 | mk (r:Nat) (f:Nat->Ty) (h:∀v∈zaK S r,Wh S v (f v)):Wh S r (whT S r ((zaK S r).map f))
theorem Wh.det {S:CS} {r:Nat} {a b:Ty} (h:Wh S r a):Wh S r b->a=b:=by
 induction h generalizing b with
 | mk r f hf ih =>
  intro hb
  cases hb with
  | mk _ g hg =>
   (congr 1);exact List.map_congr_left fun v hv=>ih v hv (hg v hv)
open Classical in
theorem Wh.of_tl {S:CS} {r:Nat} {a:Int×Int} (h:Tl (zaK S) r a):∃t,Wh S r t:=by
 induction h with
 | mk u f hf ih =>
  exact ⟨_,.mk u (fun v=>if h:∃t,Wh S v t then Classical.choose h else vTy 0) fun v hv=>by
   have h:=ih v hv;simp only[dif_pos h]
   exact Classical.choose_spec h⟩
open Classical in
noncomputable def wOf (S:CS) (r:Nat):Ty:=if h:∃t,Wh S r t then Classical.choose h else vTy 0
theorem zdd {S:CS} {r:Nat} {t:Ty} (h:Wh S r t):wOf S r=t:=by
 classical
 have h1:∃t,Wh S r t:=⟨t,h⟩;unfold wOf;rw[dif_pos h1];exact (Classical.choose_spec h1).det h
theorem zdL {S:CS} {r:Nat} {t:Ty} (h:Wh S r t):wOf S r=whT S r ((zaK S r).map (wOf S)):=by
 rw[zdd h]
 cases h with
 | mk _ f hf =>
  (congr 1);exact List.map_congr_left fun v hv=>(zdd (hf v hv)).symm
noncomputable def wF (S:CS) (v:Int):Ty:=match zaw S.G.V v with
 | some i=>wOf S (za4 S i.toNat)
 | none=>vTy v
section
variable {l:List (Ty×Ty)} {M:List RNode} {c:List Int} {S:CS}
theorem PSt.rightN (h:PSt l M c S) {u:Nat} {z:RNode} (hz:M[u]?=some z):z.t.right=true/\z.parts.length=z.t.ps.length:=by
 have hm:=h.m;subst hm;have hu:=(zb.1 hz).1;obtain ⟨_,_,_,_,_,f6,f7,_⟩:=h.h.2.rel.node u _ _ (za (by rw[h.h.2.rel.len];exact hu)) hz;exact ⟨f6,f7⟩
theorem PSt.partT (h:PSt l M c S) {u j:Nat} {z:RNode} {w:Int} (hz:M[u]?=some z) (hw:z.parts[j]?=some w):∃r:RNode,z.t.ps[j]?=some r.t/\M[w.toNat]?=some r/\r.t∈z.t.ps:=by
 have hm:=h.m;subst hm;have hu:=(zb.1 hz).1;obtain ⟨_,_,_,_,_,_,f7,f8⟩:=h.h.2.rel.node u _ _ (za (by rw[h.h.2.rel.len];exact hu)) hz;have hj:=(zb.1 hw).1;have ht:z.t.ps[j]?=some (z.t.ps[j]'tz1):=za tz1;obtain ⟨r,hr,er⟩:=Option.map_eq_some_iff.1 (f8 j w _ hw ht).2.2;exact ⟨r,by rw[er];exact ht,hr,by rw[er];exact List.getElem_mem _⟩
theorem relPart {G:GS} {m:List RNode} (hG:Rel G m) {u j:Nat} {z:RNode} {w:Int} (hz:m[u]?=some z) (hw:z.parts[j]?=some w):∃r:RNode,z.t.ps[j]?=some r.t/\m[w.toNat]?=some r:=by
 have hu:=(zb.1 hz).1;obtain ⟨_,_,_,_,_,_,f7,f8⟩:=hG.node u _ _ (za (by rw[hG.len];exact hu)) hz;have hj:=(zb.1 hw).1;have ht:z.t.ps[j]?=some (z.t.ps[j]'tz1):=za tz1;obtain ⟨r,hr,er⟩:=Option.map_eq_some_iff.1 (f8 j w _ hw ht).2.2;exact ⟨r,by rw[er];exact ht,hr⟩
theorem zhb {θ:Int->Ty} {a b:Ty} (ha:a.k≠1) (hb:b.k≠1) (h:a.subF θ=b.subF θ):a.k=b.k/\a.ps.length=b.ps.length/\∀(j:Nat) (p q:Ty),a.ps[j]?=some p->b.ps[j]?=some q->p.subF θ=q.subF θ:=by
 rw[Ty.subF_more ha,Ty.subF_more hb] at h;have h1:=congrArg Ty.k h;have h2:=congrArg Ty.ps h;simp only[Ty.k_mk,Ty.ps_mk] at h1 h2;refine ⟨h1,by have:=congrArg List.length h2;simpa using this,fun j p q hp hq=>?_⟩;have h3:=congrArg (fun l=>l[j]?) h2;simp only[zN,hp,hq,zY,Option.some.injEq] at h3;exact h3
theorem zgZ {θ:Int->Ty} (ho:OkE l) (hθ:zaV θ l):Closed (shR (eqF l).1) (zcn (eqF l).2) (fun i j=>i=j\/∃x y:RNode,(eqF l).1[i]?=some x/\(eqF l).1[j]?=some y/\x.t.subF θ=y.t.subF θ):=by
 (obtain ⟨⟨G,hG⟩,_⟩:=zdl l fun x hx=>ho x hx);refine ⟨fun e he=>?_,fun _=>.inl rfl,fun i j h=>?_,fun a b d h1 h2=>?_,fun a b j cc p q ps qs h ha hb hc hl hp hq=>?_⟩
 ·obtain ⟨x,hx,e1,e2⟩:=eqF_src _ ho e he
  obtain ⟨a,ha,ea⟩:=Option.map_eq_some_iff.1 e1;obtain ⟨b,hb,eb⟩:=Option.map_eq_some_iff.1 e2;exact .inr ⟨a,b,ha,hb,by rw[ea,eb];exact hθ x hx⟩
 ·rcases h with rfl | ⟨x,y,h1,h2,h3⟩
  (·exact .inl rfl);exact .inr ⟨y,x,h2,h1,h3.symm⟩
 ·rcases h1 with rfl | ⟨x,y,h1,h2',h3⟩
  (·exact h2);(rcases h2 with rfl | ⟨x',y',g1,g2,g3⟩);(·exact .inr ⟨x,y,h1,h2',h3⟩);rw[h2'] at g1;cases g1;exact .inr ⟨x,y',h1,g2,h3.trans g3⟩
 (rcases h with rfl | ⟨x,y,h1,h2,h3⟩);(·rw[ha] at hb;cases hb;rw[hp] at hq;cases hq;exact .inl rfl);obtain ⟨x',hx',rfl,rfl⟩:=zdQ ha;obtain ⟨y',hy',hyk,rfl⟩:=zdQ hb;rw[h1] at hx';cases hx';rw[h2] at hy';cases hy';obtain ⟨r,ht,hr⟩:=relPart hG h1 hp;obtain ⟨r',ht',hr'⟩:=relPart hG h2 hq;exact .inr ⟨r,r',hr,hr',(zhb hc (by rw[hyk];exact hc) h3).2.2 j _ _ ht ht'⟩
theorem zgx {θ:Int->Ty} (ho:OkE l) (hθ:zaV θ l):¬Clashes l:=by
 (obtain ⟨⟨G,hG⟩,_⟩:=zdl l fun x hx=>ho x hx);rintro ⟨i,j,hc,k,d,ps,qs,hi,hj,h1,h2,h3⟩;obtain ⟨x,hx,rfl,rfl⟩:=zdQ hi;obtain ⟨y,hy,rfl,rfl⟩:=zdQ hj
 have len:∀{u:Nat} {z:RNode},(eqF l).1[u]?=some z->z.parts.length=z.t.ps.length:=fun {u z} hz=>by
  have hu:=(zb.1 hz).1;exact (hG.node u _ _ (za (by rw[hG.len];exact hu)) hz).2.2.2.2.2.2.1
 rcases Cl.least (zgZ ho hθ) hc with rfl | ⟨x',y',e1,e2,e3⟩
 ·rw[hx] at hy;cases hy
  rcases h3 with h3 | h3 <;> exact h3 rfl
 rw[hx] at e1;cases e1;rw[hy] at e2;cases e2;obtain ⟨g1,g2,_⟩:=zhb h1 h2 e3;(rcases h3 with h3 | h3);(·exact h3 g1);exact h3 (by rw[len hx,len hy];exact g2)
theorem PSt.cl_sub (h:PSt l M c S) {θ:Int->Ty} (hθ:zaV θ l) {i j:Nat} {x y:RNode} (hx:M[i]?=some x) (hy:M[j]?=some y) (he:za4 S i=za4 S j):x.t.subF θ=y.t.subF θ:=by
 have hi:=(zb.1 hx).1;have hj:=(zb.1 hy).1;have hri:=h.rt hi;have hrj:=h.rt hj;rw[<- he] at hrj;have hcl:=(zbV h.h hri).1 hrj;have hm:=h.m;subst hm;(rcases Cl.least (zgZ h.hc.ok hθ) hcl with rfl | ⟨x',y',e1,e2,e3⟩);(·rw[hx] at hy;cases hy;rfl);rw[hx] at e1;cases e1;rw[hy] at e2;cases e2;exact e3
theorem PSt.cls (h:PSt l M c S) {i r:Nat} (hr:Rt S.F.up i r):(zbK S r=0/\zaK S r=[]/\∀(k:Nat) (y:RNode),M[k]?=some y->Rt S.F.up k r->y.t.k=1) \/
  ∃(k:Nat) (y:RNode),M[k]?=some y/\y.t.k≠1/\Rt S.F.up k r:=by
 have hm:=h.m;subst hm;have hW:=h.h.2.w;obtain ⟨x,hx⟩:=hW.c.wat hr;rcases Int.lt_or_le x 0 with hx0 | hx0
 ·refine .inl ⟨by unfold zbK;rw[hx];simp only[if_pos hx0],zeb ⟨x,hx,.inl ⟨hx0,rfl⟩⟩,fun k y hy hk=>?_⟩
  exact hW.neg r k x _ _ hx hx0 hk (by rw[h.h.2.rel.sh];exact zdp hy)
 obtain ⟨hxr,d,ps,hsx,hd,_⟩:=hW.pos r x (zcd.1 hr.root) hx hx0;rw[h.h.2.rel.sh] at hsx;obtain ⟨y,hy,rfl,_⟩:=zdQ hsx;exact .inr ⟨x.toNat,y,hy,hd,hxr⟩
theorem PSt.kind_node (h:PSt l M c S) {k r:Nat} {y:RNode} (hy:M[k]?=some y) (hk:y.t.k≠1) (hr:Rt S.F.up k r):zbK S r=y.t.k:=by
 have hm:=h.m;subst hm;have hW:=h.h.2.w;obtain ⟨x,hx⟩:=hW.c.wat hr;(have hsk:shG S.G k=some (y.t.k,y.parts):=by rw[h.h.2.rel.sh];exact zdp hy);(have hx0:¬x<0:=fun h1=>hk (hW.neg r k x _ _ hx h1 hr hsk));obtain ⟨_,d,ps,hsx,hd,hall⟩:=hW.pos r x (zcd.1 hr.root) hx tz1;obtain ⟨g,hg,hgk,_⟩:=shG_at hsx;obtain ⟨e1,_,_⟩:=hall k _ _ hr hsk hk;unfold zbK;rw[hx];simp only[if_neg hx0,hg,zY,Option.getD_some];rw[hgk,e1]
theorem PSt.kind_ne (h:PSt l M c S) {k r:Nat} {y:RNode} (hy:M[k]?=some y) (hk:y.t.k≠1) (hr:Rt S.F.up k r):zbK S r≠0:=by
 rw[h.kind_node hy hk hr];have:=zjS (h.rightN hy).1;omega
theorem PSt.least_var (h:PSt l M c S) {i r:Nat} {x:RNode} (hx:M[i]?=some x) (hr:Rt S.F.up i r) (hk:x.t.k=1):∃(j:Nat) (z:RNode),M[j]?=some z/\z.t=vTy (za9 S r (vsS S))/\Rt S.F.up j r/\za9 S r (vsS S)∈vsS S /\
  ∀(v i':Int),v∈vsS S->zaw S.G.V v=some i'->Rt S.F.up i'.toNat r->za9 S r (vsS S)<=v:=by
 have hxv:=h.var_node hx hk;(have hin:∀{v i':Int},zaw S.G.V v=some i'->v∈vsS S:=fun hv=>(List.mergeSort_perm _ _).mem_iff.2 (zq.2 ⟨_,zb6 hv,rfl⟩));have hrt:rtB S r x.t.n=true:=zdi.2 ⟨_,hxv.2,by rw[zH];exact hr⟩;unfold za9
 cases hf:(vsS S).find? (rtB S r) with
 | none =>
  have:=List.find?_eq_none.1 hf _ (hin hxv.2);rw[hrt] at this
  exact absurd rfl this
 | some u =>
  simp only[Option.getD_some];have hu:=List.find?_some hf;have huL:=List.mem_of_find?_eq_some hf;obtain ⟨i',hi',hr'⟩:=zdi.1 hu;obtain ⟨q,h1,h2,h3⟩:=h.var_at (a:=u) (by rw[<- h.sort];exact huL);rw[hi'] at h3;cases h3;rw[zH] at hr';have hz:M[q]?=some (M[q]'h2):=za h2
  have h4:(M[q]'h2).t=vTy u:=by
   obtain ⟨z,hz2,hg⟩:=zdZ (g:=RNode.isVar u) (l:=M) tz1;rw[h1,zH,hz] at hz2;(cases hz2);simp only[RNode.isVar,zy,beq_iff_eq] at hg;have:=Ty.right_var (h.rightN hz).1 hg.1;rw[hg.2] at this;exact this
  refine ⟨q,_,hz,h4,hr',huL,fun v i2 hv hvi hvr=>?_⟩;obtain ⟨_,a,b,e3,e4⟩:=List.find?_eq_some_iff_append.1 hf
  have hs:(vsS S).Pairwise (·<=·):=by
   (have tr:∀a b c:Int,decide (a<=b)=true->decide (b<=c)=true->decide (a<=c)=true:=fun a b c h1 h2=>by simp only[zd] at *;omega);(have to:∀a b:Int,(decide (a<=b)||decide (b<=a))=true:=fun a b=>by simp only[Bool.or_eq_true,zd];omega);exact (List.pairwise_mergeSort (le:=fun x y:Int=>decide (x<=y)) tr to _).imp fun h=>by simpa using h
  rw[e3] at hv hs;rcases zD.1 hv with h8 | h8
  ·have h9:=e4 v h8
   rw[zdi.2 ⟨_,hvi,hvr⟩] at h9;cases h9
  (rcases zE.1 h8 with rfl | h8);(·exact Int.le_refl _);exact (List.pairwise_cons.1 (List.pairwise_append.1 hs).2.1).1 _ h8
theorem Wh.sub (h:PSt l M c S) {θ:Int->Ty} (hθ:zaV θ l) {r:Nat} {w:Ty} (hw:Wh S r w):∀(i:Nat) (x:RNode),M[i]?=some x->za4 S i=r->w.subF θ=x.t.subF θ:=by
 induction hw with
 | mk r f hf ih =>
  intro i x hx hr;have hi:=(zb.1 hx).1;have hrt:=h.rt hi;rw[hr] at hrt;rcases h.cls hrt with ⟨h1,h2,h3⟩ | ⟨k,y,hy,hk,hkr⟩
  ·obtain ⟨j,z,hz,hzt,hjr,_⟩:=h.least_var hx hrt (h3 i x hx hrt)
   unfold whT;rw[if_pos h1,<- hzt];exact h.cl_sub hθ hz hx (by rw[zbt hjr,hr])
  have hkind:=h.kind_node hy hk hkr;have hne:=h.kind_ne hy hk hkr;have hkids:=h.kids_node hy hk hkr;have hr9:=h.rightN hy;unfold whT;rw[if_neg hne,hkind,Ty.subF_more (by exact hk),<- h.cl_sub hθ hy hx (by rw[zbt hkr,hr]),Ty.subF_more hk,Ty.right_n hr9.1 hk];simp only[Ty.k_mk,Ty.n_mk,Ty.ps_mk];(congr 1);refine List.ext_getElem? fun j=>?_;rw[hkids];simp only[List.map_map,zN]
  cases hp:y.parts[j]? with
  | none =>
   have h5:y.t.ps[j]?=none:=by
    rw[List.getElem?_eq_none_iff] at hp ⊢;omega
   rw[h5];rfl
  | some p =>
   obtain ⟨q,hq1,hq2,_⟩:=h.partT hy hp;rw[hq1];simp only[zY,Function.comp,Option.some.injEq];exact ih (za4 S p.toNat) (by rw[hkids];exact zq.2 ⟨p.toNat,zq.2 ⟨p,zc hp,rfl⟩,rfl⟩) p.toNat q hq2 rfl
theorem PSt.wh (h:PSt l M c S) (hno:∀y,¬Pls (zaK S) y y) {r:Nat} (hr:r<S.F.up.length):∃t,Wh S r t:=by
 obtain ⟨a,ha⟩:=Tl.all (K:=zaK S) (N:=S.F.up.length) (fun _ _ _ hj=>kids_lt hj) (fun y _=>hno y) hr;exact Wh.of_tl ha
theorem PSt.wF_var (h:PSt l M c S) {j:Nat} {z:RNode} (hz:M[j]?=some z) (hk:z.t.k=1):wF S z.t.n=wOf S (za4 S j):=by
 unfold wF;rw[(h.var_node hz hk).2];simp only[zH]
theorem PSt.wF_node (h:PSt l M c S) (hno:∀y,¬Pls (zaK S) y y):∀(i:Nat) (x:RNode),M[i]?=some x->x.t.subF (wF S)=wOf S (za4 S i):=by
 intro i
 induction i using Nat.strongRecOn with
 | ind i ih =>
 intro x hx;have hi:=(zb.1 hx).1;have hrt:=h.rt hi
 by_cases hk:x.t.k=1
 ·rw[Ty.subF_var hk]
  exact h.wF_var hx hk
 obtain ⟨t,ht⟩:=h.wh hno hrt.lt;rw[zdL ht,whT,if_neg (h.kind_ne hx hk hrt),h.kind_node hx hk hrt,Ty.subF_more hk,Ty.right_n (h.rightN hx).1 hk,h.kids_node hx hk hrt];(congr 1);refine List.ext_getElem? fun j=>?_;simp only[List.map_map,zN]
 cases hp:x.parts[j]? with
 | none =>
  have h5:x.t.ps[j]?=none:=by
   have:=(h.rightN hx).2;rw[List.getElem?_eq_none_iff] at hp ⊢;omega
  rw[h5];rfl
 | some p =>
  obtain ⟨q,hq1,hq2,_⟩:=h.partT hx hp;have hlt:=(h.parts hx).2 p (zc hp);rw[hq1];simp only[zY,Function.comp,Option.some.injEq];exact ih p.toNat tz1 q hq2
theorem PSt.wF_solves (h:PSt l M c S) (hno:∀y,¬Pls (zaK S) y y):zaV (wF S) l:=fun e he=>by
 obtain ⟨a,b,ha,hb,hcl⟩:=zhM _ h.hc.ok _ he;rw[<- h.m] at ha hb;obtain ⟨x,hx,ex⟩:=Option.map_eq_some_iff.1 ha;obtain ⟨z,hz,ez⟩:=Option.map_eq_some_iff.1 hb;rw[<- ex,<- ez,h.wF_node hno a x hx,h.wF_node hno b z hz];have hra:=h.rt (zb.1 hx).1;rw[zbt ((zbV h.h hra).2 hcl)]
theorem PSt.wF_mg (h:PSt l M c S) (hno:∀y,¬Pls (zaK S) y y):MG l (wF S):=by
 refine ⟨h.wF_solves hno,fun θ hθ v=>?_⟩;unfold wF
 cases hv:zaw S.G.V v with
 | none=>simp only;rw[Ty.subF_var rfl];rfl
 | some i =>
  (simp only);have hin:=h.h.2.vin v i hv;(have hil:i.toNat<M.length:=by have:=h.nl;omega);obtain ⟨x,hx⟩:∃x,M[i.toNat]?=some x:=⟨_,za hil⟩;obtain ⟨t,ht⟩:=h.wh hno (h.rt hil).lt;rw[zdd ht,ht.sub h hθ _ x hx rfl];obtain ⟨q,h1,h2,h3⟩:=h.var_at (a:=v) (by rw[<- h.sort];exact (List.mergeSort_perm _ _).mem_iff.2 (zq.2 ⟨_,zb6 hv,rfl⟩));rw[hv] at h3;cases h3;rw[zH] at hx;obtain ⟨z,hz2,hg⟩:=zdZ (g:=RNode.isVar v) (l:=M) tz1;rw[h1,zH,hx] at hz2;(cases hz2);simp only[RNode.isVar,zy,beq_iff_eq] at hg;rw[Ty.subF_var hg.1,hg.2]
theorem Wh.occ (h:PSt l M c S) {r:Nat} {w:Ty} (hw:Wh S r w):∀(i:Nat),i<M.length->za4 S i=r->w.right=true/\∀u,w.occ u->u∈vsS S/\wF S u=vTy u:=by
 induction hw with
 | mk r f hf ih =>
  intro i hi hr;obtain ⟨x,hx⟩:∃x,M[i]?=some x:=⟨_,za hi⟩;have hrt:=h.rt hi;rw[hr] at hrt;rcases h.cls hrt with ⟨h1,h2,h3⟩ | ⟨k,y,hy,hk,hkr⟩
  ·obtain ⟨j,z,hz,hzt,hjr,huL,_⟩:=h.least_var hx hrt (h3 i x hx hrt)
   have hwh:=Wh.mk r f hf;(have e1:whT S r ((zaK S r).map f)=vTy (za9 S r (vsS S)):=by unfold whT;rw[if_pos h1]);rw[e1] at hwh ⊢;refine ⟨by rw[<- hzt];exact (h.rightN hz).1,fun u hu=>?_⟩;obtain rfl:=Ty.occ_vTy.1 hu;refine ⟨huL,?_⟩;have h4:=h.wF_var hz (by rw[hzt];rfl);rw[zbt hjr,zdd hwh,hzt] at h4;exact h4
  have hkind:=h.kind_node hy hk hkr;have hne:=h.kind_ne hy hk hkr;have hkids:=h.kids_node hy hk hkr;have hr9:=h.rightN hy;have hpp:=h.parts hy;have hyl:=(zb.1 hy).1
  have hall:∀v∈zaK S r,(f v).right=true/\∀u,(f v).occ u->u∈vsS S/\wF S u=vTy u:=fun v hv=>by
   have hv0:=hv;rw[hkids] at hv;obtain ⟨p',hp',rfl⟩:=zq.1 hv;obtain ⟨p,hp,rfl⟩:=zq.1 hp';have:=hpp.2 p hp;exact ih _ hv0 p.toNat tz1 rfl
  unfold whT;rw[if_neg hne,hkind];constructor
  ·rw[Ty.right_eq,zy]
   refine ⟨?_,?_⟩
   ·have h5:=hr9.1
    rw[Ty.right_eq,zy,Ty.right_n hr9.1 hk] at h5;(have e:((zaK S r).map f).length=y.t.ps.length:=by rw[hkids];simp[hr9.2]);simp only[Ty.k_mk,Ty.n_mk,Ty.ps_mk,e];exact h5.1
   refine zV.2 fun q hq=>?_;obtain ⟨v,hv,rfl⟩:=zq.1 hq;exact (hall v hv).1
  intro u hu;(rcases (Ty.occ_iff _ _).1 hu with ⟨h5,_⟩ | ⟨q,hq,hqu⟩);(·exact absurd h5 hk);obtain ⟨v,hv,rfl⟩:=zq.1 hq;exact (hall v hv).2 u hqu
theorem PSt.wF_norm (h:PSt l M c S) (hno:∀y,¬Pls (zaK S) y y):Norm (vsS S) (wF S):=by
 have hat:∀v∈vsS S,∃(q:Nat) (t:Ty),zaw S.G.V v=some (q:Int)/\q<M.length/\Wh S (za4 S q) t/\wF S v=t:=fun v hv=>by
  obtain ⟨q,h1,h2,h3⟩:=h.var_at (a:=v) (by rw[<- h.sort];exact hv);obtain ⟨t,ht⟩:=h.wh hno (h.rt h2).lt;refine ⟨q,t,h3,h2,ht,?_⟩;unfold wF;rw[h3];simp only[zH];exact zdd ht
 refine ⟨fun v hv=>?_,fun v hv=>?_,fun v hv u hu=>?_,fun v hv u hu=>?_⟩
 ·obtain ⟨q,t,_,hq,ht,e⟩:=hat v hv
  rw[e];exact (ht.occ h q hq rfl).1
 ·unfold wF
  cases hf:zaw S.G.V v with
  | none=>rfl
  | some i=>exact absurd ((List.mergeSort_perm _ _).mem_iff.2 (zq.2 ⟨_,zb6 hf,rfl⟩)) hv
 ·obtain ⟨q,t,_,hq,ht,e⟩:=hat v hv
  rw[e] at hu;exact (ht.occ h q hq rfl).2 u hu
 obtain ⟨q,t,hvf,hq,ht,e⟩:=hat v hv;obtain ⟨x,hx⟩:∃x,M[q]?=some x:=⟨_,za hq⟩;have hrt:=h.rt hq;rw[hu] at e;subst e;rcases h.cls hrt with ⟨h1,h2,h3⟩ | ⟨k,y,hy,hk,hkr⟩
 ·obtain ⟨j,z,hz,hzt,hjr,huL,hle⟩:=h.least_var hx hrt (h3 q x hx hrt)
  have h4:=zdL ht;rw[zdd ht,whT,if_pos h1] at h4
  have:u=za9 S (za4 S q) (vsS S):=by
   have:=congrArg Ty.n h4;exact this
  rw[this];exact hle v q hv hvf (by rw[zH];exact hrt)
 have h4:=zdL ht;rw[zdd ht,whT,if_neg (h.kind_ne hy hk hkr),h.kind_node hy hk hkr] at h4;have:=congrArg Ty.k h4;exact absurd this.symm hk
theorem PSt.solves_noLoop (h:PSt l M c S) {θ:Int->Ty} (hθ:zaV θ l) (y:Nat):¬Pls (zaK S) y y:=by
 have key:∀{u v:Nat} {a b:RNode},Rt S.F.up u u->M[u]?=some a->M[v]?=some b->v∈zaK S u->(b.t.subF θ).cnt<(a.t.subF θ).cnt:=fun {u v a b} hu ha hb hv=>by
  (rcases h.cls hu with ⟨_,h2,_⟩ | ⟨k,z,hz,hk,hkr⟩);(·rw[h2] at hv;cases hv);rw[h.kids_node hz hk hkr] at hv;obtain ⟨p',hp',rfl⟩:=zq.1 hv;obtain ⟨p,hp,rfl⟩:=zq.1 hp';obtain ⟨j,hj,ej⟩:=zS.1 hp;obtain ⟨q,hq1,hq2,hq3⟩:=h.partT hz (by rw[za hj,ej]);have hpl:=(zb.1 hq2).1;rw[h.cl_sub hθ ha hz (by rw[zbt hu,zbt hkr]),h.cl_sub hθ hb hq2 (zbt (zcd.1 (h.rt hpl).root)),Ty.subF_more hk];exact Ty.cnt_lt (zq.2 ⟨q.t,hq3,rfl⟩)
 have hat:∀{u:Nat},Rt S.F.up u u->∃a,M[u]?=some a:=fun hu=>⟨_,za (by rw[<- h.nl];exact hu.lt)⟩
 have hrch:∀{u w:Nat},Rch (zaK S) u w->Rt S.F.up u u->∀a b,M[u]?=some a->M[w]?=some b->(b.t.subF θ).cnt<=(a.t.subF θ).cnt:=fun hr=>by
  induction hr with
  | refl _=>intro _ a b ha hb;rw[ha] at hb;cases hb;exact zQ _
  | @step u v w hv _ ih =>
   intro hu a b ha hb;have hvr:=zcu u v hv;obtain ⟨d,hd⟩:=hat hvr;have h1:=key hu ha hd hv;have h2:=ih hvr d b hd hb;omega
 intro hp;have hy:=hp.root;obtain ⟨a,ha⟩:=hat hy;obtain ⟨v,hv,hr⟩:=hp;have hvr:=zcu y v hv;obtain ⟨d,hd⟩:=hat hvr;have h1:=key hy ha hd hv;have h2:=hrch hr hvr d a hd ha;omega
end
theorem Ty.subF_right {σ:Int->Ty}:∀t:Ty,t.right=true->(∀v,t.occ v->(σ v).right=true)->(t.subF σ).right=true:=by
 refine Ty.ind fun t ih hr h=>?_
 by_cases hk:t.k=1
 (·rw[Ty.subF_var hk];exact h _ ((Ty.occ_iff _ _).2 (.inl ⟨hk,rfl⟩)));rw[Ty.subF_more hk,Ty.right_eq,zy];have hr2:=hr;rw[Ty.right_eq,zy] at hr2;refine ⟨by simp only[Ty.k_mk,Ty.n_mk,Ty.ps_mk,zx];exact hr2.1,zV.2 fun q hq=>?_⟩;obtain ⟨p,hp,rfl⟩:=zq.1 hq;exact ih p hp (Ty.right_part hr hp) fun v hv=>h v ((Ty.occ_iff _ _).2 (.inr ⟨p,hp,hv⟩))
theorem Ty.subF_occ {σ:Int->Ty}:∀(t:Ty) (u:Int),(t.subF σ).occ u->∃v,t.occ v/\(σ v).occ u:=by
 refine Ty.ind fun t ih u h=>?_
 by_cases hk:t.k=1
 ·rw[Ty.subF_var hk] at h
  exact ⟨t.n,(Ty.occ_iff _ _).2 (.inl ⟨hk,rfl⟩),h⟩
 rw[Ty.subF_more hk] at h;(rcases (Ty.occ_iff _ _).1 h with ⟨h1,_⟩ | ⟨q,hq,h2⟩);(·exact absurd h1 hk);obtain ⟨p,hp,rfl⟩:=zq.1 hq;obtain ⟨v,h3,h4⟩:=ih p hp u h2;exact ⟨v,(Ty.occ_iff _ _).2 (.inr ⟨p,hp,h3⟩),h4⟩
theorem Ty.cnt_subF {σ:Int->Ty}:∀t:Ty,t.right=true->t.cnt<=(t.subF σ).cnt:=by
 refine Ty.ind fun t ih hr=>?_
 by_cases hk:t.k=1
 ·rw[Ty.subF_var hk]
  have e:=Ty.right_var hr hk;(have h1:t.cnt=1:=by rw[e];simp[Ty.cnt,Ty.cntL]);have:=(σ t.n).cnt_pos;omega
 rw[Ty.subF_more hk,t.cnt_eq,Ty.cnt_eq]
 have key:∀ps:List Ty,(∀p∈ps,p.cnt<=(p.subF σ).cnt)->Ty.cntL ps<=Ty.cntL (ps.map (Ty.subF σ)):=by
  intro ps
  induction ps with
  | nil=>intro _;simp
  | cons p ps ih2 =>
   intro h;have h1:=h p tz4;(have h2:=ih2 fun q hq=>h q (by simp[hq]));simp only[zt,Ty.cntL];omega
 (have:=key t.ps fun p hp=>ih p hp (Ty.right_part hr hp));simp only[Ty.ps_mk];omega
theorem Ty.occ_lt {σ:Int->Ty} {v:Int}:∀t:Ty,t.right=true->t.occ v->¬(t.k=1)->(σ v).cnt<(t.subF σ).cnt:=by
 refine Ty.ind fun t ih hr h hk=>?_;(rcases (Ty.occ_iff _ _).1 h with ⟨h1,_⟩ | ⟨p,hp,hv⟩);(·exact absurd h1 hk);rw[Ty.subF_more hk];have h2:(p.subF σ).cnt<(Ty.mk t.k t.n (t.ps.map (Ty.subF σ))).cnt:=Ty.cnt_lt (zq.2 ⟨p,hp,rfl⟩);have hpr:=Ty.right_part hr hp
 by_cases hpk:p.k=1
 ·rw[Ty.subF_var hpk] at h2
  rw[Ty.right_var hpr hpk] at hv;rw[Ty.occ_vTy.1 hv];exact h2
 have:=ih p hp hpr hv hpk;omega
def OccE (l:List (Ty×Ty)) (v:Int):Prop:=∃e∈l,e.1.occ v\/e.2.occ v
def zdc (l:List (Ty×Ty)):Prop:=∀e∈l,e.1.right=true/\e.2.right=true
theorem zis {o:List Bd} {v:Int} (h:v∉o.map Bd.v):zbi o v=-1:=by
 unfold zbi
 exact zbT fun j q hj hq=>by
  have h1:=zc hq
  cases hb:q.v==v with
  | false=>rfl
  | true=>exact absurd (zq.2 ⟨q,h1,by simpa using hb⟩) h
theorem zbs {o:List Bd} {v:Int} (h:v∉o.map Bd.v):zem o v=vTy v:=by
 unfold zem;rw[zis h,if_neg tz1]
theorem zhZ {o:List Bd} (hn:(o.map Bd.v).Nodup) {i:Nat} {b:Bd} (hb:o[i]?=some b):zbi o b.v=(i:Int):=by
 unfold zbi;refine zbl (p:=b) hb tz4 fun j q hj hq=>?_
 cases hg:q.v==b.v with
 | false=>rfl
 | true =>
  have h1:=List.pairwise_iff_getElem.1 hn j i (by have:=(zb.1 hq).1;simpa using this) (by have:=(zb.1 hb).1;simpa using this) hj;simp only[List.getElem_map] at h1;rw[(zb.1 hq).2,(zb.1 hb).2] at h1;exact absurd (by simpa using hg) h1
theorem zeO {o:List Bd} (hn:(o.map Bd.v).Nodup) {b:Bd} (hb:b∈o):zem o b.v=b.t:=by
 obtain ⟨i,hi⟩:=List.mem_iff_getElem?.1 hb;unfold zem;rw[zhZ hn hi,if_pos tz1,zH,hi];rfl
theorem zhV (n:Int) (b:Ty) (v:Int):zem [⟨n,b⟩] v=if v=n then b else vTy v:=by
 by_cases h:v=n
 ·subst h
  rw[if_pos rfl];exact zeO (o:=[⟨v,b⟩]) tz4 (b:=⟨v,b⟩) tz4
 rw[if_neg h,zbs (by simpa using h)]
theorem zdr {n:Int} {b:Ty} {θ:Int->Ty} (hb:b.subF θ=θ n) (t:Ty) (hr:t.right=true):(t.sub [⟨n,b⟩]).subF θ=t.subF θ:=by
 rw[Ty.sub_subF _ _ hr,Ty.subF_subF];refine Ty.subF_congr t fun v _=>?_;rw[zhV]
 by_cases h:v=n
 (·rw[if_pos h,hb,h]);rw[if_neg h,Ty.subF_var rfl];rfl
theorem Ty.var_right {v:Int}:∀{t:Ty},t.right=true->t.occ v->(vTy v).right=true:=by
 have key:∀t:Ty,t.right=true->t.occ v->(vTy v).right=true:=by
  refine Ty.ind fun t ih hr h=>?_;(rcases (Ty.occ_iff _ _).1 h with ⟨h1,rfl⟩ | ⟨p,hp,hv⟩);(·exact (congrArg Ty.right (Ty.right_var hr h1)).symm.trans hr);exact ih p hp (Ty.right_part hr hp) hv
 exact fun {t}=>key t
theorem zf5 {n:Int} {b:Ty} (hb:b.right=true) (t:Ty) (hr:t.right=true):(t.sub [⟨n,b⟩]).right=true:=by
 rw[Ty.sub_subF _ _ hr];refine Ty.subF_right t hr fun v hv=>?_;rw[zhV];split;(·exact hb);(rename_i hne);have h:=Ty.var_right hr hv;exact h
theorem one_occ {n:Int} {b:Ty} (t:Ty) (hr:t.right=true) {u:Int} (h:(t.sub [⟨n,b⟩]).occ u):(t.occ u/\u≠n)\/(t.occ n/\b.occ u):=by
 rw[Ty.sub_subF _ _ hr] at h;obtain ⟨v,h1,h2⟩:=Ty.subF_occ t u h;rw[zhV] at h2
 by_cases he:v=n
 ·rw[if_pos he] at h2
  exact .inr ⟨he▸h1,h2⟩
 rw[if_neg he] at h2;have:=Ty.occ_vTy.1 h2;subst this;exact .inl ⟨h1,he⟩
structure RInv (l l':List (Ty×Ty)) (o:List Bd):Prop where
 rl:zdc l'
 ro:∀b∈o,b.t.right=true
 nd:(o.map Bd.v).Nodup
 vl:∀v,OccE l' v->OccE l v/\v∉o.map Bd.v
 vo:∀b∈o,OccE l b.v/\∀v,b.t.occ v->OccE l v/\v∉o.map Bd.v
 fwd:∀θ:Int->Ty,zaV θ l->zaV θ l'/\∀b∈o,b.t.subF θ=θ b.v
 bwd:∀θ:Int->Ty,zaV θ l'->(∀b∈o,b.t.subF θ=θ b.v)->zaV θ l
theorem RInv.start {l:List (Ty×Ty)} (h:zdc l):RInv l l [] :=
 ⟨h,by simp,by simp,fun v hv=>⟨hv,by simp⟩,by simp,fun θ hθ=>⟨hθ,by simp⟩,fun θ hθ _=>hθ⟩
section
variable {l l':List (Ty×Ty)} {o:List Bd} {a b:Ty}
theorem RInv.drop (h:RInv l ((a,b)::l') o) (he:a=b):RInv l l' o :=
 ⟨fun e he=>h.rl e (by simp[he]),h.ro,h.nd,fun v ⟨e,he,hv⟩=>h.vl v ⟨e,by simp[he],hv⟩,h.vo,fun θ hθ=>⟨fun e he=>(h.fwd θ hθ).1 e (by simp[he]),(h.fwd θ hθ).2⟩,
  fun θ h1 h2=>h.bwd θ (fun e hm=>by
   (rcases zE.1 hm with rfl | hm);·simp only[he]
   exact h1 e hm) h2⟩
theorem zhO {ps qs:List Ty} {e:Ty×Ty} (h:e∈ps.zip qs):e.1∈ps/\e.2∈qs:=by
 obtain ⟨x,y⟩:=e;exact ⟨(List.of_mem_zip h).1,(List.of_mem_zip h).2⟩
theorem zkM {θ:Int->Ty}:∀{ps qs:List Ty},ps.length=qs.length->(∀e∈ps.zip qs,e.1.subF θ=e.2.subF θ)->ps.map (Ty.subF θ)=qs.map (Ty.subF θ)
 | [],[],_,_=>rfl
 | p::ps,q::qs,hl,h=>by
  rw[zt,zt,h (p,q) tz4,zkM (by simpa using hl) fun e he=>h e (by simp[he])]
 | [],_::_,hl,_=>by simp at hl
 | _::_,[],hl,_=>by simp at hl
theorem RInv.split (h:RInv l ((a,b)::l') o) (ha:a.k≠1) (hb:b.k≠1) (hk:a.k=b.k) (hl:a.ps.length=b.ps.length):RInv l (l'++a.ps.zip b.ps) o:=by
 have hab:=h.rl (a,b) tz4;refine ⟨fun e he=>?_,h.ro,h.nd,fun v ⟨e,he,hv⟩=>?_,h.vo,fun θ hθ=>⟨fun e he=>?_,(h.fwd θ hθ).2⟩,fun θ h1 h2=>h.bwd θ (fun e hm=>?_) h2⟩
 ·rcases zD.1 he with he | he
  (·exact h.rl e (by simp[he]));exact ⟨Ty.right_part hab.1 (zhO he).1,Ty.right_part hab.2 (zhO he).2⟩
 ·rcases zD.1 he with he | he
  (·exact h.vl v ⟨e,by simp[he],hv⟩);refine h.vl v ⟨(a,b),by simp,hv.imp (fun hv=>?_) (fun hv=>?_)⟩;(·exact (Ty.occ_iff _ _).2 (.inr ⟨_,(zhO he).1,hv⟩));exact (Ty.occ_iff _ _).2 (.inr ⟨_,(zhO he).2,hv⟩)
 ·rcases zD.1 he with he | he
  (·exact (h.fwd θ hθ).1 e (by simp[he]));have h3:=(h.fwd θ hθ).1 (a,b) tz4;rw[Ty.subF_more ha,Ty.subF_more hb] at h3;have h4:=congrArg Ty.ps h3;simp only[Ty.ps_mk] at h4;obtain ⟨j,hj⟩:=List.mem_iff_getElem?.1 he;obtain ⟨x,y⟩:=e;obtain ⟨h5,h6⟩:=List.getElem?_zip_eq_some.1 hj;have h7:=congrArg (fun l=>l[j]?) h4;simp only[zN,h5,h6,zY,Option.some.injEq] at h7;exact h7
 rcases zE.1 hm with rfl | hm
 ·simp only
  rw[Ty.subF_more ha,Ty.subF_more hb,hk,Ty.right_n hab.1 ha,Ty.right_n hab.2 hb,zkM hl fun e he=>h1 e (by simp[he])]
 exact h1 e (by simp[hm])
def subE (n:Int) (b:Ty) (l:List (Ty×Ty)):List (Ty×Ty):=l.map fun e=>(e.1.sub [⟨n,b⟩],e.2.sub [⟨n,b⟩])
def subB (n:Int) (b:Ty) (o:List Bd):List Bd:=o.map (fun x=>⟨x.v,x.t.sub [⟨n,b⟩]⟩)++[⟨n,b⟩]
theorem zkE (n:Int) (b:Ty) (o:List Bd):(subB n b o).map Bd.v=o.map Bd.v++[n]:=by simp[subB,Function.comp]
theorem RInv.bind {n:Int} {e:Ty×Ty} (h:RInv l (e::l') o) (he:e=(vTy n,b)\/e=(b,vTy n)) (hn:¬b.occ n):RInv l (subE n b l') (subB n b o):=by
 have hbr:b.right=true:=by
  have:=h.rl e tz4;(rcases he with rfl | rfl);(·exact this.2);exact this.1
 have hocc:∀v,(v=n\/b.occ v)->OccE (e::l') v:=fun v hv=>⟨e,by simp,by
  (rcases he with rfl | rfl);·exact hv.imp (fun h=>Ty.occ_vTy.2 h) id
  exact hv.symm.imp id (fun h=>Ty.occ_vTy.2 h)⟩
 have hnl:=h.vl n (hocc n (.inl rfl))
 have hbl:∀v,b.occ v->OccE l v/\v∉(subB n b o).map Bd.v:=fun v hv=>by
  have h1:=h.vl v (hocc v (.inr hv));refine ⟨h1.1,?_⟩;rw[zkE,zD];rintro (h2 | h2);(·exact h1.2 h2);simp at h2;subst h2;exact hn hv
 have heq:∀θ:Int->Ty,e.1.subF θ=e.2.subF θ↔b.subF θ=θ n:=fun θ=>by
  (rcases he with rfl | rfl);(·simp only;rw[Ty.subF_var (t:=vTy n) rfl];exact eq_comm);simp only;rw[Ty.subF_var (t:=vTy n) rfl];rfl
 refine ⟨fun x hx=>?_,fun x hx=>?_,?_,fun v hv=>?_,fun x hx=>?_,fun θ hθ=>?_,fun θ h1 h2=>?_⟩
 ·obtain ⟨y,hy,rfl⟩:=zq.1 hx
  have:=h.rl y (by simp[hy]);exact ⟨zf5 hbr _ this.1,zf5 hbr _ this.2⟩
 ·rcases zD.1 hx with hx | hx
  ·obtain ⟨y,hy,rfl⟩:=zq.1 hx
   exact zf5 hbr _ (h.ro y hy)
  simp at hx;subst hx;exact hbr
 ·rw[zkE,List.nodup_append]
  exact ⟨h.nd,by simp,fun x hx y hy=>by simp at hy;subst hy;exact fun e=>hnl.2 (e▸hx)⟩
 ·obtain ⟨x,hx,hv⟩:=hv
  obtain ⟨y,hy,rfl⟩:=zq.1 hx;have hyr:=h.rl y (by simp[hy])
  have key:∀t:Ty,t.right=true->(∀u,t.occ u->OccE (e::l') u)->(t.sub [⟨n,b⟩]).occ v->OccE l v/\v∉(subB n b o).map Bd.v:=fun t ht hto hv=>by
   rcases one_occ t ht hv with ⟨h1,h2⟩ | ⟨_,h2⟩
   ·have h3:=h.vl v (hto v h1)
    refine ⟨h3.1,?_⟩;rw[zkE,zD];rintro (h4 | h4);(·exact h3.2 h4);simp at h4;exact h2 h4
   exact hbl v h2
  (rcases hv with hv | hv);(·exact key _ hyr.1 (fun u hu=>⟨y,by simp[hy],.inl hu⟩) hv);exact key _ hyr.2 (fun u hu=>⟨y,by simp[hy],.inr hu⟩) hv
 ·rcases zD.1 hx with hx | hx
  ·obtain ⟨y,hy,rfl⟩:=zq.1 hx
   have h3:=h.vo y hy;refine ⟨h3.1,fun v hv=>?_⟩;rcases one_occ _ (h.ro y hy) hv with ⟨h1,h2⟩ | ⟨_,h2⟩
   ·have h4:=h3.2 v h1
    refine ⟨h4.1,?_⟩;rw[zkE,zD];rintro (h5 | h5);(·exact h4.2 h5);simp at h5;exact h2 h5
   exact hbl v h2
  (simp at hx;subst hx);exact ⟨hnl.1,hbl⟩
 ·obtain ⟨h1,h2⟩:=h.fwd θ hθ
  have hb:=(heq θ).1 (h1 e tz4);refine ⟨fun x hx=>?_,fun x hx=>?_⟩
  ·obtain ⟨y,hy,rfl⟩:=zq.1 hx
   have hyr:=h.rl y (by simp[hy]);(simp only);rw[zdr hb _ hyr.1,zdr hb _ hyr.2];exact h1 y (by simp[hy])
  rcases zD.1 hx with hx | hx
  ·obtain ⟨y,hy,rfl⟩:=zq.1 hx
   (simp only);rw[zdr hb _ (h.ro y hy)];exact h2 y hy
  simp at hx;subst hx;exact hb
 have hb:b.subF θ=θ n:=h2 ⟨n,b⟩ (by simp[subB]);refine h.bwd θ (fun x hx=>?_) fun x hx=>?_
 ·rcases zE.1 hx with rfl | hx
  (·exact (heq θ).2 hb);have hyr:=h.rl x (by simp[hx]);have:=h1 _ (zq.2 ⟨x,hx,rfl⟩);simp only at this
  rwa [zdr hb _ hyr.1,zdr hb _ hyr.2] at this
 have:=h2 ⟨x.v,x.t.sub [⟨n,b⟩]⟩ (zD.2 (.inl (zq.2 ⟨x,hx,rfl⟩)));simp only at this
 rwa [zdr hb _ (h.ro x hx)] at this
theorem RInv.cycle {n:Int} {e:Ty×Ty} (h:RInv l (e::l') o) (he:e=(vTy n,b)\/e=(b,vTy n)) (hne:b≠vTy n) (hn:b.occ n) (θ:Int->Ty):¬zaV θ l:=fun hθ=>by
 have h1:=(h.fwd θ hθ).1 e tz4
 have hbr:b.right=true:=by
  have:=h.rl e tz4;(rcases he with rfl | rfl);(·exact this.2);exact this.1
 have hk:¬b.k=1:=fun hk=>by
  have e2:=Ty.right_var hbr hk;rw[e2] at hn;rw[<- Ty.occ_vTy.1 hn] at e2;exact hne e2
 have h2:=Ty.occ_lt (σ:=θ) b hbr hn hk;rcases he with rfl | rfl
 ·simp only at h1
  rw[Ty.subF_var (t:=vTy n) rfl] at h1;have h3:(θ n).cnt=(b.subF θ).cnt:=congrArg Ty.cnt h1;omega
 (simp only at h1);rw[Ty.subF_var (t:=vTy n) rfl] at h1;have h3:(b.subF θ).cnt=(θ n).cnt:=congrArg Ty.cnt h1;omega
theorem RInv.raw {L:List Int} (h:RInv l [] o) (hr:zdc l) (hL:∀v,v∈L↔OccE l v):Raw L l (zem o):=by
 have hfix:∀b∈o,b.t.subF (zem o)=b.t:=fun b hb=>Ty.subF_fixed _ (h.ro b hb) fun v hv=>zbs ((h.vo b hb).2 v hv).2
 have hin:∀v,v∈o.map Bd.v->∃b∈o,b.v=v/\zem o v=b.t:=fun v hv=>by
  obtain ⟨b,hb,rfl⟩:=zq.1 hv;exact ⟨b,hb,rfl,zeO h.nd hb⟩
 refine ⟨fun v hv=>?_,fun v hv=>?_,fun v hv u hu=>?_,fun v hv=>?_,⟨h.bwd _ (fun e he=>by cases he) fun b hb=>?_,fun θ hθ v=>?_⟩⟩
 ·by_cases hm:v∈o.map Bd.v
  ·obtain ⟨b,hb,_,e⟩:=hin v hm
   rw[e];exact h.ro b hb
  rw[zbs hm];obtain ⟨e,he,hv⟩:=(hL v).1 hv;(rcases hv with hv | hv);(·exact Ty.var_right (hr e he).1 hv);exact Ty.var_right (hr e he).2 hv
 ·by_cases hm:v∈o.map Bd.v
  ·obtain ⟨b,hb,e,_⟩:=hin v hm
   exact absurd ((hL v).2 (e▸(h.vo b hb).1)) hv
  exact zbs hm
 ·by_cases hm:v∈o.map Bd.v
  ·obtain ⟨b,hb,_,e⟩:=hin v hm
   rw[e] at hu;exact (hL u).2 ((h.vo b hb).2 u hu).1
  rw[zbs hm] at hu;rw[Ty.occ_vTy.1 hu];exact hv
 ·by_cases hm:v∈o.map Bd.v
  ·obtain ⟨b,hb,_,e⟩:=hin v hm
   rw[e];exact hfix b hb
  rw[zbs hm,Ty.subF_var rfl];exact zbs hm
 ·rw[zeO h.nd hb];exact hfix b hb
 by_cases hm:v∈o.map Bd.v
 ·obtain ⟨b,hb,e1,e2⟩:=hin v hm
  rw[e2,<- e1];exact (h.fwd θ hθ).2 b hb
 rw[zbs hm,Ty.subF_var rfl];rfl
def mu (σ:Int->Ty):List (Ty×Ty)->Nat
 | []=>0
 | e::l=>(e.1.subF σ).cnt+(e.2.subF σ).cnt+mu σ l
theorem mu_app (σ:Int->Ty):∀a b:List (Ty×Ty),mu σ (a++b)=mu σ a+mu σ b
 | [],b=>by simp[mu]
 | e::a,b=>by simp only[zw,mu,mu_app σ a b];omega
theorem mu_subE {σ:Int->Ty} {n:Int} {b:Ty} (hb:b.subF σ=σ n):∀l:List (Ty×Ty),zdc l->mu σ (subE n b l)=mu σ l
 | [],_=>rfl
 | e::l,h=>by
  have he:=h e tz4;(have ih:=mu_subE hb l fun x hx=>h x (by simp[hx]));unfold subE at ih ⊢;simp only[zt,mu,zdr hb _ he.1,zdr hb _ he.2,ih]
theorem mu_zip {σ:Int->Ty}:∀ps qs:List Ty,ps.length=qs.length->mu σ (ps.zip qs)=Ty.cntL (ps.map (Ty.subF σ))+Ty.cntL (qs.map (Ty.subF σ))
 | [],[],_=>rfl
 | p::ps,q::qs,h=>by
  have ih:=mu_zip (σ:=σ) ps qs (by simpa using h)
  simp only[zl,mu,zt,Ty.cntL,ih];omega
 | [],_::_,h=>by simp at h
 | _::_,[],h=>by simp at h
theorem mu_split {σ:Int->Ty} (ha:a.k≠1) (hb:b.k≠1) (hl:a.ps.length=b.ps.length):mu σ (l'++a.ps.zip b.ps)+2=mu σ ((a,b)::l'):=by
 rw[mu_app,mu_zip _ _ hl];simp only[mu];rw[Ty.subF_more ha,Ty.subF_more hb,Ty.cnt_eq,Ty.cnt_eq];simp only[Ty.ps_mk];omega
theorem mu_len (σ:Int->Ty):∀l:List (Ty×Ty),2 * l.length<=mu σ l
 | []=>by simp[mu]
 | e::l=>by
  have:=mu_len σ l;have:=(e.1.subF σ).cnt_pos;have:=(e.2.subF σ).cnt_pos;simp only[mu,zz];omega
theorem mu_cnt {σ:Int->Ty}:∀{l:List (Ty×Ty)},zdc l->∀e∈l,e.1.cnt+e.2.cnt<=mu σ l
 | x::l,h,e,he=>by
  simp only[mu];rcases zE.1 he with rfl | he
  ·have h1:=h e tz4
   have:=Ty.cnt_subF (σ:=σ) e.1 h1.1;have:=Ty.cnt_subF (σ:=σ) e.2 h1.2;omega
  have:=mu_cnt (σ:=σ) (fun y hy=>h y (by simp[hy])) e he;omega
end
theorem OkE.rightE {l:List (Ty×Ty)} (h:OkE l):zdc l:=fun e he=>⟨(h e he).1,(h e he).2.1⟩
theorem OccE.part {l:List (Ty×Ty)}:∀t:Ty,(∀v,t.occ v->OccE l v)->∀p∈t.ps,∀v,p.occ v->OccE l v:=fun t h p hp v hv=>h v ((Ty.occ_iff _ _).2 (.inr ⟨p,hp,hv⟩))
theorem vns_occ {l:List (Ty×Ty)} (ho:OkE l) (v:Int):v∈vns (eqF l).1↔OccE l v:=by
 constructor
 ·intro h
  obtain ⟨i,r,hr,hk,rfl⟩:=zeG.1 h;have:=eqF_types (P:=fun t=>∀v,t.occ v->OccE l v) (fun t h p hp=>OccE.part t h p hp) l ho (fun e he=>⟨fun v hv=>⟨e,he,.inl hv⟩,fun v hv=>⟨e,he,.inr hv⟩⟩) r (zc hr);exact this _ ((Ty.occ_iff _ _).2 (.inl ⟨hk,rfl⟩))
 rintro ⟨e,he,hv⟩;obtain ⟨⟨G,hG⟩,_⟩:=zdl l fun x hx=>ho x hx
 have down:∀(i:Nat) (r:RNode),(eqF l).1[i]?=some r->r.t.occ v->v∈vns (eqF l).1:=by
  intro i
  induction i using Nat.strongRecOn with
  | ind i ih =>
  intro r hr hv;(rcases (Ty.occ_iff _ _).1 hv with ⟨hk,rfl⟩ | ⟨p,hp,hpv⟩);(·exact zeG.2 ⟨i,r,hr,hk,rfl⟩);have hu:=(zb.1 hr).1;obtain ⟨_,_,_,_,_,_,f7,f8⟩:=hG.node i _ _ (za (by rw[hG.len];exact hu)) hr;obtain ⟨j,hj⟩:=List.mem_iff_getElem?.1 hp;have hjl:=(zb.1 hj).1;obtain ⟨h1,h2,h3⟩:=f8 j (r.parts[j]'tz1) p (za tz1) hj;obtain ⟨q,hq,eq⟩:=Option.map_eq_some_iff.1 h3;exact ih _ tz1 q hq (by rw[eq];exact hpv)
 obtain ⟨a,b,ha,hb,_⟩:=zhM l ho e he;obtain ⟨x,hx,ex⟩:=Option.map_eq_some_iff.1 ha;obtain ⟨z,hz,ez⟩:=Option.map_eq_some_iff.1 hb;(rcases hv with hv | hv);(·exact down a x hx (by rw[ex];exact hv));exact down b z hz (by rw[ez];exact hv)
theorem zim {a:List Int} (h:a.Nodup):(zcf a).Pairwise (· < ·):=by
 (have tr:∀a b c:Int,decide (a<=b)=true->decide (b<=c)=true->decide (a<=c)=true:=fun a b c h1 h2=>by simp only[zd] at *;omega);(have to:∀a b:Int,(decide (a<=b)||decide (b<=a))=true:=fun a b=>by simp only[Bool.or_eq_true,zd];omega);have h1:=(List.pairwise_mergeSort (le:=fun x y:Int=>decide (x<=y)) tr to a);have h2:(zcf a).Nodup:=(List.mergeSort_perm _ _).nodup_iff.2 h;exact h1.imp₂ (fun x y hx hy=>by simp only[zd] at hx;have:x≠y:=hy;omega) h2
theorem zet:∀{a b:List Int},a.Pairwise (· < ·)->b.Pairwise (· < ·)->(∀v,v∈a↔v∈b)->a=b
 | [],[],_,_,_=>rfl
 | [],y::b,_,_,h=>by have:=(h y).2 tz4;cases this
 | x::a,[],_,_,h=>by have:=(h x).1 tz4;cases this
 | x::a,y::b,ha,hb,h=>by
  obtain ⟨h1,h2⟩:=List.pairwise_cons.1 ha;obtain ⟨h3,h4⟩:=List.pairwise_cons.1 hb
  have e:x=y:=by
   (rcases zE.1 ((h x).1 tz4) with e | e);(·exact e);(rcases zE.1 ((h y).2 tz4) with e2 | e2);(·exact e2.symm);have:=h3 x e;have:=h1 y e2;omega
  subst e;(congr 1);refine zet h2 h4 fun v=>⟨fun hv=>?_,fun hv=>?_⟩
  ·rcases zE.1 ((h v).1 (by simp[hv])) with e | e
   (·subst e;exact absurd (h1 v hv) tz1);exact e
  (rcases zE.1 ((h v).2 (by simp[hv])) with e | e);(·subst e;exact absurd (h3 v hv) tz1);exact e
section
variable {l:List (Ty×Ty)} {M:List RNode} {c:List Int} {S:CS}
theorem PSt.vs_mem (h:PSt l M c S) (v:Int):v∈vsS S↔OccE l v:=by
 (have e:S.G.V.map Prod.fst=vns (eqF l).1:=by rw[h.keys,h.m]);rw[<- vns_occ h.hc.ok v,<- e];exact (List.mergeSort_perm _ _).mem_iff
theorem PSt.vs_strict (h:PSt l M c S):(vsS S).Pairwise (· < ·):=by
 (have e:S.G.V.map Prod.fst=vns (eqF l).1:=by rw[h.keys,h.m]);unfold vsS;rw[e];exact zim (zdt (zez l h.hc.ok))
end
def zaB (L:List Int) (σ:Int->Ty):List Bd:=(L.filter fun v=>!(σ v).same (vTy v)).map fun v=>⟨v,σ v⟩
theorem zgT (L:List Int) (σ:Int->Ty):(zaB L σ).length<=L.length:=by
 unfold zaB;rw[zx];exact List.length_filter_le _ _
theorem zky (L:List Int) (σ:Int->Ty):(zaB L σ).map Bd.v=L.filter fun v=>!(σ v).same (vTy v):=by
 unfold zaB;rw[List.map_map];exact (List.map_congr_left fun v _=>rfl).trans (List.map_id _)
theorem zlr {L:List Int} {σ:Int->Ty} {s:Nat} {v:Int} (h:L[s]?=some v) (hv:(σ v).same (vTy v)=false):zaB (L.take (s+1)) σ=zaB (L.take s) σ++[⟨v,σ v⟩]:=by
 rw[zM,h,zaB,List.filter_append,zu];simp[zaB,hv]
theorem bindsL_no {L:List Int} {σ:Int->Ty} {s:Nat} {v:Int} (h:L[s]?=some v) (hv:(σ v).same (vTy v)=true):zaB (L.take (s+1)) σ=zaB (L.take s) σ:=by
 rw[zM,h,zaB,List.filter_append,zu];simp[zaB,hv]
theorem zdu {L:List Int} (h:L.Pairwise (· < ·)):L.Nodup:=h.imp fun hlt e=>by omega
theorem zje {L:List Int} {σ:Int->Ty} (h:L.Pairwise (· < ·)):((zaB L σ).map Bd.v).Nodup:=by
 rw[zky];exact (zdu h).filter _
theorem zl0 {L:List Int} {σ:Int->Ty} (h:L.Pairwise (· < ·)) (hout:∀v,v∉L->σ v=vTy v):zem (zaB L σ)=σ:=by
 funext v
 by_cases hv:v∈(zaB L σ).map Bd.v
 ·obtain ⟨b,hb,rfl⟩:=zq.1 hv
  rw[zeO (zje h) hb];obtain ⟨u,_,rfl⟩:=zq.1 hb;rfl
 rw[zbs hv]
 by_cases hL:v∈L
 ·have h1:(σ v).same (vTy v)=true:=by
   cases hs:(σ v).same (vTy v) with
   | true=>rfl
   | false=>exact absurd (by rw[zky];exact List.mem_filter.2 ⟨hL,by rw[hs];rfl⟩) hv
  exact ((Ty.same_iff _ _).1 h1).symm
 exact (hout v hL).symm
def eqsB (o:List Bd):List (Ty×Ty):=o.map fun b=>(vTy b.v,b.t)
theorem bfun_cons (b:Bd) (o:List Bd) (w:Int):zem (b::o) w=if b.v=w then b.t else zem o w:=by
 by_cases h:b.v=w
 ·rw[if_pos h]
  have:zbi (b::o) w=(0:Nat):=by
   unfold zbi;exact zbl (p:=b) rfl (by simpa using h) fun j q hj=>by omega
  unfold zem;rw[this];rfl
 rw[if_neg h]
 by_cases hm:w∈o.map Bd.v
 ·have ha:o.any (fun x=>x.v==w)=true:=by
   obtain ⟨x,hx,e⟩:=zq.1 hm;exact List.any_eq_true.2 ⟨x,hx,by simpa using e⟩
  (have ha2:(b::o).any (fun x=>x.v==w)=true:=by rw[List.any_cons,ha,Bool.or_true]);unfold zem zbi zbE;rw[if_pos ha,if_pos ha2,List.findIdx_cons];(have hb:(b.v==w)=false:=by simpa using h);rw[hb];simp only[cond_false];rw[if_pos tz1,if_pos tz1];(have e1:(((List.findIdx (fun x=>x.v==w) o+1:Nat):Int)).toNat=List.findIdx (fun x=>x.v==w) o+1:=by omega);rw[e1,zH,List.getElem?_cons_succ]
 rw[zbs hm,zbs (by simp only[zt,zE,not_or];exact ⟨fun e=>h e.symm,hm⟩)]
def za7 (L:List Int) (o:Int->Ty):List Bd:=(L.filter fun v=>decide ((o v).k=1)).map fun v=>⟨(o v).n,vTy v⟩
theorem zec (v:Int) (L:List Int) (o:Int->Ty):za7 (v::L) o=if (o v).k=1 then ⟨(o v).n,vTy v⟩::za7 L o else za7 L o:=by
 unfold za7;rw[List.filter_cons]
 by_cases h:(o v).k=1 <;> simp[h]
theorem zl9 (L:List Int) (o:Int->Ty):(za7 L o).length<=L.length:=by
 unfold za7;rw[zx];exact List.length_filter_le _ _
theorem zhg {o:Int->Ty} (w:Int):∀L:List Int,(∀v∈L,(o v).right=true)->zem (za7 L o) w=zkx L o w
 | [],_=>by
  rw[zbs (by simp[za7])];rfl
 | v::L,h=>by
  (have ih:=zhg (o:=o) w L fun u hu=>h u (by simp[hu]));have hr:=h v tz4;unfold zkx at ih ⊢;rw[zec,List.find?_cons]
  by_cases hk:(o v).k=1
  ·rw[if_pos hk,bfun_cons]
   by_cases hw:(o v).n=w
   ·have e:(o v).same (vTy w)=true:=(Ty.same_iff _ _).2 (by rw[<- hw];exact Ty.right_var hr hk)
    rw[if_pos hw,e]
   have e:(o v).same (vTy w)=false:=by
    cases hs:(o v).same (vTy w) with
    | false=>rfl
    | true=>exact absurd (congrArg Ty.n ((Ty.same_iff _ _).1 hs)) hw
   rw[if_neg hw,e];exact ih
  have e:(o v).same (vTy w)=false:=by
   cases hs:(o v).same (vTy w) with
   | false=>rfl
   | true=>exact absurd (congrArg Ty.k ((Ty.same_iff _ _).1 hs)) hk
  rw[if_neg hk,e];exact ih
theorem ze2 {L:List Int} {σ τ:Int->Ty} (h:∀v∈L,σ v=τ v):zaB L σ=zaB L τ:=by
 unfold zaB;(have e:L.filter (fun v=>!(σ v).same (vTy v))=L.filter (fun v=>!(τ v).same (vTy v)):=List.filter_congr fun v hv=>by rw[h v hv]);rw[e];exact List.map_congr_left fun v hv=>by rw[h v (List.mem_filter.1 hv).1]
theorem Raw.told_binds {L:List Int} {l:List (Ty×Ty)} {o:List Bd} {σ:Int->Ty} (h:Raw L l (zem o)) (k:Norm L σ) (ks:MG l σ) (hL:L.Pairwise (· < ·)):zaB L (fun v=>(zem o v).subF (zem (za7 L (zem o))))=zaB L σ :=
 ze2 fun v hv=>by
  rw[<- h.told k ks hL hv];exact Ty.subF_congr _ fun w _=>zhg w L h.right
inductive Hv (D:Nat->List Nat):Nat->Nat->Prop
 | mk (u:Nat) (f:Nat->Nat) (h:∀v∈D u,Hv D v (f v)):Hv D u (1+((D u).map f).sum)
theorem zhE:∀ts:List Ty,Ty.cntL ts=(ts.map Ty.cnt).sum
 | []=>rfl
 | t::ts=>by simp only[Ty.cntL,zt,List.sum_cons,zhE ts]
section
variable {l:List (Ty×Ty)} {M:List RNode} {c:List Int} {S:CS}
theorem PSt.hv_of (h:PSt l M c S) {r:Nat} {t:Ty} (hw:Wh S r t):∀i,i<M.length->za4 S i=r->Hv (zbm M c) i t.cnt:=by
 induction hw with
 | mk r f hf ih =>
  intro i hi hr;have hrt:=h.rt hi;have hkn:=h.kids_next hi hrt;rw[hr] at hrt hkn;have hlt:=h.way.lt i hi;rcases h.cls hrt with ⟨h1,h2,_⟩ | ⟨k,y,hy,hk,hkr⟩
  ·rw[h2] at hkn
   have hnil:zbm M c i=[]:=by
    have:=congrArg List.length hkn;(simp at this);exact List.length_eq_zero_iff.1 this.symm
   have e:(whT S r ((zaK S r).map f)).cnt=1+((zbm M c i).map fun _=>0).sum:=by
    unfold whT;rw[if_pos h1,hnil];simp[Ty.cnt,Ty.cntL]
   rw[e];exact .mk i _ fun v hv=>by rw[hnil] at hv;cases hv
  have e:(whT S r ((zaK S r).map f)).cnt=1+((zbm M c i).map fun v=>(f (za4 S v)).cnt).sum:=by
   unfold whT;rw[if_neg (h.kind_ne hy hk hkr),Ty.cnt_eq];simp only[Ty.ps_mk];rw[zhE,hkn];simp only[List.map_map];rfl
  rw[e];refine .mk i _ fun v hv=>?_;exact ih (za4 S v) (by rw[hkn];exact zq.2 ⟨v,hv,rfl⟩) v (hlt v hv) rfl
theorem PSt.hv (h:PSt l M c S) (hno:∀y,¬Pls (zaK S) y y) {i:Nat} (hi:i<M.length):Hv (zbm M c) i (wOf S (za4 S i)).cnt:=by
 obtain ⟨t,ht⟩:=h.wh hno (h.rt hi).lt;rw[zdd ht];exact h.hv_of ht i hi rfl
end
theorem zkK {f:Nat->Int×Int} {g:Nat->Nat}:∀(ch:List Nat) (b:Int×Int) (m:Nat),(∀v∈ch,(f v).2=min most (g v:Int))->b.2=min most (m:Int)->(ch.foldl (fun a p=>(max a.1 (f p).1,min most (a.2+(f p).2))) b).2=min most ((m+(ch.map g).sum:Nat):Int)
 | [],b,m,_,hb=>by simpa using hb
 | v::ch,b,m,h,hb=>by
  rw[List.foldl_cons,zkK (g:=g) ch _ (m+g v) (fun u hu=>h u (by simp[hu])) ?_]
  ·simp only[zt,List.sum_cons]
   (congr 2);omega
  have:=h v tz4;simp only[most] at *;omega
theorem Wh.size {S:CS} {r:Nat} {t:Ty} (hk:∀r,zbK S r=0->zaK S r=[]) (h:Wh S r t):∀{a:Int×Int},Tl (zaK S) r a->a.2=min most (t.cnt:Int):=by
 induction h with
 | mk r f hf ih =>
  intro a ha
  cases ha with
  | mk _ g hg =>
   have hs:∀v∈zaK S r,(g v).2=min most ((f v).cnt:Int):=fun v hv=>ih v hv (hg v hv)
   have e:(tell g (zaK S r)).2=min most ((1+((zaK S r).map fun v=>(f v).cnt).sum:Nat):Int):=by
    unfold tell;exact zkK (zaK S r) (0,1) 1 hs (by simp only[most];omega)
   rw[e];(congr 2);unfold whT
   by_cases h0:zbK S r=0
   ·rw[if_pos h0,hk r h0]
    simp[Ty.cnt,Ty.cntL]
   rw[if_neg h0,Ty.cnt_eq];simp only[Ty.ps_mk];rw[zhE,List.map_map];rfl
theorem PSt.kids_zero {l:List (Ty×Ty)} {M:List RNode} {c:List Int} {S:CS} (h:PSt l M c S) (r:Nat) (h0:zbK S r=0):zaK S r=[]:=by
 classical
 unfold zbK at h0;unfold zaK;split
 ·rename_i he
  obtain ⟨x,hx,hR⟩:=Classical.choose_spec he;rw[hx] at h0;(simp only at h0);(rcases hR with ⟨_,h2⟩ | ⟨h1,g,hg,_⟩);(·exact h2);exfalso;rw[if_neg tz1,hg] at h0;simp only[zY,Option.getD_some] at h0;have hm:=h.m;subst hm;have hgl:=(zb.1 hg).1;have hy:(eqF l).1[x.toNat]?=some ((eqF l).1[x.toNat]'(by rw[<- h.h.2.rel.len];exact hgl)):=za _;obtain ⟨f1,_,_,_,_,f6,_⟩:=h.h.2.rel.node x.toNat _ _ hg hy;have:=zjS f6;omega
 rfl
theorem PSt.size {l:List (Ty×Ty)} {M:List RNode} {c:List Int} {S:CS} (h:PSt l M c S) (hno:∀y,¬Pls (zaK S) y y) {i:Nat} (hi:i<M.length) {a:Int×Int} (ha:Tl (zaK S) (za4 S i) a):a.2=min most ((wOf S (za4 S i)).cnt:Int):=by
 obtain ⟨t,ht⟩:=h.wh hno (h.rt hi).lt;rw[zdd ht];exact ht.size h.kids_zero ha
def SolR (l:List (Ty×Ty)) (r:List Bd×Int):Prop :=
 (¬zdc l/\r=([],1))\/(zdc l/\Clashes l/\r=([],7))\/(zdc l/\¬Clashes l/\(∀θ,¬zaV θ l)/\r=([],8)) \/
 (zdc l/\∃(L:List Int) (σ:Int->Ty),L.Pairwise (· < ·)/\(∀v,v∈L↔OccE l v)/\Norm L σ/\MG l σ/\r=(zaB L σ,0))
def RightB (o:List Bd):Prop:=(o.map Bd.v).Nodup/\∀b∈o,(vTy b.v).right=true/\b.t.right=true
def SolvedB (o:List Bd):Prop:=∀b∈o,∀v,b.t.occ v->v∉o.map Bd.v
section
variable {l:List (Ty×Ty)} {M:List RNode} {c:List Int} {S:CS}
theorem PSt.wF_at (h:PSt l M c S) {v:Int} (hv:v∈vsS S):∃q:Nat,zbE (RNode.isVar v) M=(q:Int)/\q<M.length/\zaw S.G.V v=some (q:Int)/\wF S v=wOf S (za4 S q):=by
 obtain ⟨q,h1,h2,h3⟩:=h.var_at (a:=v) (by rw[<- h.sort];exact hv);refine ⟨q,h1,h2,h3,?_⟩;unfold wF;rw[h3];simp only[zH]
theorem PSt.wF_same (h:PSt l M c S) (hno:∀y,¬Pls (zaK S) y y) {v:Int} {q:Nat} (hq:q<M.length) (hv:wF S v=wOf S (za4 S q)):(wF S v).same (vTy v)=(decide (zbK S (za4 S q)=0)&&decide (za9 S (za4 S q) (vsS S)=v)):=by
 obtain ⟨t,ht⟩:=h.wh hno (h.rt hq).lt;rw[hv,zdL ht];rw[zF,Ty.same_iff,zy,zd,zd];unfold whT
 by_cases h0:zbK S (za4 S q)=0
 ·rw[if_pos h0]
  constructor
  ·intro e
   exact ⟨h0,congrArg Ty.n e⟩
  rintro ⟨_,e⟩;rw[e]
 rw[if_neg h0];constructor
 ·intro e
  exfalso;have hk:=congrArg Ty.k e;simp only[Ty.k_mk] at hk;(rcases h.cls (h.rt hq) with ⟨h1,_⟩ | ⟨k,y,hy,hyk,hkr⟩);(·exact h0 h1);rw[h.kind_node hy hyk hkr] at hk;exact hyk hk
 rintro ⟨e,_⟩;exact absurd e h0
end
theorem zeW (es:List EqT) (h:zbD (es.map EqT.p)<=160):zbD ((zaE es).map EqT.p)<=160/\OkE ((zaE es).map EqT.p):=by
 have key:∀l:List EqT,zbD ((zaE l).map EqT.p)<=zbD (l.map EqT.p):=fun l=>by
  induction l with
  | nil=>simp[zaE]
  | cons e l ih =>
   unfold zaE at ih ⊢;rw[List.filter_cons];split;(·simp only[zt,zbD];omega);simp only[zt,zbD];omega
 have h1:=key es;refine ⟨by omega,fun e he=>?_⟩;have h2:=zfo he;obtain ⟨x,hx,rfl⟩:=zq.1 he;have h3:=(List.mem_filter.1 hx).2;simp only[EqT.ok,zy] at h3;exact ⟨h3.1,h3.2,by omega,by omega⟩
abbrev plE (es:List EqT) (k:Nat):List (Ty×Ty):=(zaE (es.take k)).map EqT.p
structure ClI (es:List EqT) (k:Nat) (S:CS) (sum was:Int):Prop where
 st:CSt (plE es k) S
 num:S.clash=false->sum=1+(zbD (plE es k):Int)/\was=S.steps
 low:S.clash=false->0<=S.steps/\S.steps+9 * (zbd S.F.up:Int)<=10 * (S.G.N.length:Int)+(k:Int)
structure EqI (l:List (Ty×Ty)) (S:CS):Prop where
 st:CSt l S
 cl:S.clash=false
 low:0<=S.steps/\S.steps+9 * (zbd S.F.up:Int)<=10 * (S.G.N.length:Int)+(l.length:Int)
theorem EqI.start:EqI [] CS0:=⟨CSt.none,rfl,by simp[CS0,zbd]⟩
theorem EqI.step {l:List (Ty×Ty)} {S:CS} {e:Ty×Ty} {s:CS×Int} (h:EqI l S) (he:e.1.right=true/\e.2.right=true/\e.1.cnt<=400/\e.2.cnt<=400) (hl:zbD l<=1048576) (hll:l.length<=1048576)
  (hE:EqR S (zcn (eqF l).2) (eqF l).1 e.1 e.2 s) (hR:StepR S s.1) :
  CSt (l++[e]) s.1/\s.2=(if s.1.clash=true then 7 else 0)/\0<=s.1.steps/\s.1.steps<=10 * (zbD (l++[e]):Int)+(l.length:Int)+1/\(s.1.clash=false->EqI (l++[e]) s.1):=by
 have h1:=h.st.step he hE;obtain ⟨h4,h5⟩:=h.low;have hN:=h.st.len;have hN1:=h1.len;have hc:=h.cl
 have hst:S.steps<=s.1.steps/\s.1.steps+9 * (zbd s.1.F.up:Int)<=10 * (s.1.G.N.length:Int)+(l.length:Int)+1:=by
  (rcases hR with e1 | hR);(·rw[e1];omega);obtain ⟨a1,a2,a3⟩:=hR h4 tz1;omega
 have hr:s.2=(if s.1.clash=true then 7 else 0):=by
  (rcases hE with ⟨h2,_⟩ | ⟨_,h2,_⟩ | ⟨_,_,_,_,⟨a1,a2,_⟩ | ⟨a1,a2,_⟩⟩);(·rw[hc] at h2;cases h2);(·rw[he.1,he.2.1] at h2;cases h2);(·rw[a1,a2];rfl);rw[a1,a2];rfl
 refine ⟨h1,hr,by omega,by omega,fun hc1=>⟨h1,hc1,by omega,?_⟩⟩;have h9:=hst.2;simp only[zi,zz,zJ];omega
def EqtR (l:List (Ty×Ty)) (s:CS×Int×Int):Prop :=
 ((s.2.1=7/\Clashes l)\/(s.2.1=8/\¬Clashes l/\∃(S:CS) (c:List Int) (y:Nat),PSt l (eqF l).1 c S/\Pls (zaK S) y y)\/(s.2.1=0/\CSt l s.1/\s.1.clash=false/\∃c,PSt l (eqF l).1 c s.1/\∀y,¬Pls (zaK s.1) y y)) /\
 (zbD l<=1048576->0<=s.2.2/\s.2.2<=22 * (zbD l:Int))
theorem EqtR.clash {l k:List (Ty×Ty)} {S:CS} {n:Int} (h:CSt l S) (hc:S.clash=true) (ho:OkE (l++k)) (hs:zbD l<=zbD (l++k)) (hn:0<=n/\n<=10 * (zbD l:Int)+(l.length:Int)) (hl:l.length<=zbD l) (T:CS):EqtR (l++k) (T,7,n) :=
 ⟨.inl ⟨rfl,(h.clash_iff.1 hc).more ho⟩,fun _=>by dsimp only;omega⟩
theorem EqtR.cycle {l:List (Ty×Ty)} {S:CS} {n:Int} (h:EqI l S) (hl:zbD l<=1048576) (hll:l.length<=zbD l) (hr:zg7 S (false,n)) (T:CS):EqtR l (T,8,IntKind.i64.wrap (n+S.steps)):=by
 have hN:=h.st.len;obtain ⟨c,hp⟩:=h.st.pst h.cl tz1;obtain ⟨h1,h2,h3⟩:=hp.count hr;obtain ⟨h4,h5⟩:=h.low;have hm:=hp.gl;refine ⟨.inr (.inl ⟨rfl,fun hc=>?_,S,c,?_⟩),fun _=>?_⟩
 ·have:=h.st.clash_iff.2 hc
  rw[h.cl] at this;cases this
 ·rcases hr with ⟨h9,_⟩ | ⟨_,h9,_⟩
  (·rw[h.cl] at h9;cases h9);obtain ⟨y,_,hy⟩:=h9 rfl;exact ⟨y,hp,hy⟩
 dsimp only;rw[zal tz1 tz1];omega
theorem EqtR.good {l:List (Ty×Ty)} {S:CS} {n:Int} {F1:FS} (h:EqI l S) (hl:zbD l<=1048576) (hll:l.length<=zbD l) (hF:FSame S.F F1) (hr:zg7 S (true,n)):EqtR l ({S with F:=F1},0,IntKind.i64.wrap (n+S.steps)):=by
 have hN:=h.st.len;obtain ⟨c,hp⟩:=h.st.pst h.cl tz1;obtain ⟨h1,h2,h3⟩:=hp.count hr;obtain ⟨h4,h5⟩:=h.low;have hm:=hp.gl;refine ⟨.inr (.inr ⟨rfl,h.st.fsame (S1:={S with F:=F1}) hF rfl,h.cl,c,hp.fsame hF,fun y=>?_⟩),fun _=>?_⟩
 ·rw[show zaK {S with F:=F1}=zaK S from funext fun z=>zbZ hF z]
  (rcases hr with ⟨h9,_⟩ | ⟨_,_,h9,_⟩);(·rw[h.cl] at h9;cases h9);exact hp.no_loop (h9 rfl) y
 dsimp only;rw[zal tz1 tz1];omega
section
variable {S:CS} {F1:FS}
theorem whT_fsame (k:FSame S.F F1) (r:Nat) (ts:List Ty):whT {S with F:=F1} r ts=whT S r ts:=by
 (have h:rtB {S with F:=F1} r=rtB S r:=funext fun v=>zf8 (S1:={S with F:=F1}) k rfl r v);unfold whT za9;rw[h];rfl
theorem ze7 (k:FSame S.F F1) (r:Nat) (L:List Int):za9 {S with F:=F1} r L=za9 S r L:=by
 (have h:rtB {S with F:=F1} r=rtB S r:=funext fun v=>zf8 (S1:={S with F:=F1}) k rfl r v);unfold za9;rw[h]
theorem Wh.fsame (k:FSame S.F F1) {r:Nat} {t:Ty} (h:Wh S r t):Wh {S with F:=F1} r t:=by
 induction h with
 | mk r f hf ih =>
  have e:=zbZ k r;rw[<- whT_fsame k,<- e];exact .mk r f fun v hv=>ih v (by rw[<- e];exact hv)
def KInv (S:CS) (K:List (Int×Ty)):Prop:=∀(k:Int) (t:Ty),za3 K k=some t->∃r:Nat,k=(r:Int)/\Wh S r t
theorem KInv.nil:KInv S []:=fun k t h=>by simp[za3] at h
theorem KInv.set {K:List (Int×Ty)} (h:KInv S K) {r:Nat} {t:Ty} (ht:Wh S r t):KInv S (zfb K r t):=fun k u hk=>by
 rw[zg1] at hk;(split at hk);(·rename_i e;cases hk;exact ⟨r,e.symm,ht⟩);exact h k u hk
theorem KInv.at {K:List (Int×Ty)} (h:KInv S K) {r:Nat} {t u:Ty} (ht:Wh S r t) (hu:za3 K (r:Int)=some u):u=t:=by
 obtain ⟨q,e,hq⟩:=h _ _ hu;(obtain rfl:r=q:=by omega);exact hq.det ht
theorem whT_var {r:Nat} {ts:List Ty} (h:zbK S r=0):whT S r ts=vTy (za9 S r (vsS S)):=by unfold whT;rw[if_pos h]
theorem whT_node {r:Nat} {ts:List Ty} (h:zbK S r≠0):whT S r ts=.mk (zbK S r) 0 ts:=by unfold whT;rw[if_neg h]
theorem zhr {r:Nat} {x k:Int} (hx:S.W[r]?=some x) (hk:(x<0/\k=0)\/(0<=x/\∃g,S.G.N[x.toNat]?=some g/\k=g.k)):k=zbK S r:=by
 unfold zbK;rw[hx];dsimp only;(rcases hk with ⟨h1,rfl⟩ | ⟨h1,g,hg,rfl⟩);(·rw[if_pos h1]);rw[if_neg tz1,hg];rfl
end
end Go.Proofs.YtpfiliamceimmaaGreatDoor
namespace Go.Proofs.YtpfiliamceimmaaGreatDoor
open Go Go.RowKit
attribute [local irreducible] aops zaA
def Ty.big (t:Ty):Bool:=decide (t.room 100 30<0)
theorem Ty.big_cnt {t:Ty} (h:t.big=false):t.cnt<=100:=by
 simp only[Ty.big,ze] at h;have:=Ty.room_cnt t 100 30 tz1 tz1;omega
def bigE (e:Ty×Ty):Bool:=e.1.big||e.2.big
def zdx (l:List (Ty×Ty)):Bool:=(l.take 30).any bigE||decide (20<l.length)||decide (160<zbD (l.take 30))
theorem zda {l:List (Ty×Ty)} {s:Nat} {e:Ty×Ty} (hp:l[s]?=some e) (hs:s<30) (h:bigE e=true):zdx l=true:=by
 have h1:(l.take 30).any bigE=true:=zcT (i:=s) (p:=e) (by rw[List.getElem?_take,if_pos hs];exact hp) h;simp only[zdx,h1,Bool.true_or]
theorem zmg {l:List (Ty×Ty)} {s:Nat} (hs:¬(s<l.length/\s<30)) (h1:s<=l.length) (h2:s<=30) (h:∀(i:Nat) (p:Ty×Ty),i<s->l[i]?=some p->bigE p=false) :
  zdx l=(decide (20<l.length)||decide (160<zbD (l.take s))):=by
 have e:l.take 30=l.take s:=by
  rcases zG s 30 with h3 | h3
  ·have h4:s=l.length:=by omega
   subst h4;rw[zI,List.take_of_length_le tz1]
  rw[show s=30 by omega]
 have h0:(l.take s).any bigE=false:=zcH fun i p hi hp=>by
  rw[List.getElem?_take] at hp;(split at hp);(·exact h i p (by assumption) hp);cases hp
 simp only[zdx,e,h0,Bool.false_or]
theorem zcr {l:List (Ty×Ty)} (h:zdx l=false):l.length<=20/\zbD l<=160:=by
 simp only[zdx,Bool.or_eq_false_iff,ze] at h;obtain ⟨⟨h1,h2⟩,h3⟩:=h;rw[List.take_of_length_le tz1] at h3;exact ⟨by omega,by omega⟩
theorem sumP_step {l:List (Ty×Ty)} {s:Nat} {e:Ty×Ty} (h:l[s]?=some e):zbD (l.take (s+1))=zbD (l.take s)+(e.1.cnt+e.2.cnt):=by
 rw[zM,h];exact zcV _ _
theorem zko:∀(T:Ty) (n:Int) (d:Nat) (hn:0<=n) (hn2:n<=1099511627776) (hd:d<=1099511627776),APure Tryz.prog 84 [.agg T.cells,.v (.int .i64 n),.v (.int .i64 d)] (.v (.int .i64 (T.room n d))):=by
  refine Ty.ind fun T ih=>?_;intro n d hn hn2 hd;refine APure.mkL (.cons T.dataAgg (.cons (.v _) (.cons (.v _) .nil))) (.v _) ?_;refine aIn Tryz.func84 fun hm=>?_;simp only[Tryz.ntmps84,Tryz.results84,go_sem,seval];have hm1:=hm.wide (t:=T) tz4;have hw1:IntKind.i64.wrap (n-1)=n-1:=zal tz1 tz1;(iterate 2 (refine z6 fun _ u=>?_;apply z7;simp only[↓bO,go_sem,seval,hw1];apply u));refine z6 fun _ u=>?_;refine sqD ?_;apply z8 rfl <;> intro hb11
  ·
   (have hd0:d=0:=by simpa using hb11);refine sqD ?_;apply zab;(try simp only[go_sem]);refine Le.of_eq (congrArg (fun n=>AV.v (.int .i64 n)) ?_);(first | (rw[hd0,Ty.room_zero];done) | skip);all_goals (rw[Ty.room_succ];simp only[ze] at hb20;rcases zG s T.ps.length with h5 | h5 <;> first | (rw[List.take_of_length_le h5];done) | (rw[Ty.roomL_stop T.ps s _ _ tz1];done))
  obtain ⟨e,rfl⟩:∃e,d=e+1:=⟨d-1,by simp at hb11;omega⟩;(have hw2:IntKind.i64.wrap ((e:Int)+1-1)=(e:Int):=by rw[zal tz1 tz1];omega);apply zaa;apply u;refine z6 fun _ u=>?_;refine sqD ?_;apply zac;refine zai (σ:=Nat) (mB 33 142) (fun s=>s<=T.ps.length) (fun s=>[(1,.v (.int .i64 (Ty.roomL (T.ps.take s) (n-1) e))),(7,.v (.int .i64 (s:Int)))]) (fun s=>[]) (fun s=>T.ps.length-s) 0 tz1 ?_ (fun s hs=>?_)
  ·
   simp only[go_sem,seval,bL,Ty.roomL];exact clz3
  simp only[go_sem,seval];refine z6 fun _ w=>?_;refine zaP (mB 33 1048718) ([(20,.v (.bool (decide (s<T.ps.length/\0<=Ty.roomL (T.ps.take s) (n-1) e))))]) ([]) ?_ ?_
  ·
   apply z7;refine chS 4 ?_;refine chS 2 ?_;simp only[go_sem];refine zag 17 rfl (fun hc17=>?_) (fun hc17=>?_)
   ·
    simp only[go_sem];simp only[↓bO,go_sem,seval];(try simp only[go_sem,seval]);refine Weak.mk ?_ (fun _ _ h=>h) rfl rfl;simp only[go_sem,Le.refl,Le.any];all_goals (refine Le.of_eq (congrArg (fun b=>AV.v (.bool b)) ?_);rw[zF];simp only[zd,ze,ge_iff_le,zL,false_iff,Int.ofNat_lt] at *;omega)
   simp only[go_sem];simp only[↓bO,go_sem,seval];(try simp only[go_sem,seval]);refine Weak.mk ?_ (fun _ _ h=>h) rfl rfl;simp only[go_sem,Le.refl,Le.any];all_goals (refine Le.of_eq (congrArg (fun b=>AV.v (.bool b)) ?_);rw[zF];simp only[zd,ze,ge_iff_le,zL,false_iff,Int.ofNat_lt] at *;omega)
  simp only[go_sem,seval];apply z8 rfl <;> intro hb20
  ·
   (have hk:s<T.ps.length:=by simp only[zd] at hb20;exact hb20.1);obtain ⟨p,hp⟩:∃p,T.ps[s]?=some p:=⟨_,za hk⟩;have hw:IntKind.i64.wrap ((s:Int)+1)=(s:Int)+1:=zal tz1 (by have:=hm1.len;simp only[maxLen] at this;omega);(have hrm:0<=Ty.roomL (T.ps.take s) (n-1) e:=by simp only[zd] at hb20;exact hb20.2);have hrl:=Ty.roomL_le (T.ps.take s) (n-1) e tz1;apply zaa;apply w;refine z6 fun _ w=>?_;apply zac;apply z7;(iterate 2 (refine chS 4 ?_ (by intro _ q;simp only[↓bO,go_sem,seval,hk,gM hp,zj,hw2];exact q)));refine zZ 1 fun _ y=>?_;simp only[↓bO,go_sem,seval];refine APure.call (ih p (zc hp) _ e hrm tz1 tz1) ?_;apply y;clear y;simp only[↓bO,go_sem,seval,zj];apply w;apply z7;simp only[↓bO,go_sem,seval,zj,hw];refine ⟨(s+1),tz1,by omega,?_⟩;simp only[zar,zas,zah,zam,mB,seval,zj,zh,Ty.roomL_step hp (n-1) e hrm];exact zaL
  apply zak;simp only[zao,zaj,zaf,bA,Nat.reduceEqDiff,↓reduceIte];apply u;refine sqD ?_;apply zab;(try simp only[go_sem]);refine Le.of_eq (congrArg (fun n=>AV.v (.int .i64 n)) ?_);(first | (rw[hd0,Ty.room_zero];done) | skip);all_goals (rw[Ty.room_succ];simp only[ze] at hb20;rcases zG s T.ps.length with h5 | h5 <;> first | (rw[List.take_of_length_le h5];done) | (rw[Ty.roomL_stop T.ps s _ _ tz1];done))
theorem zg8 (T:Ty):APure Tryz.prog 44 [.agg T.cells] (.v (.bool T.big)):=by
 refine APure.mkL (.cons T.dataAgg .nil) (.v _) ?_;refine aIn Tryz.func44 fun hm=>?_;simp only[Tryz.ntmps44,Tryz.results44,go_sem,seval];simp only[Ty.cells_eq T,zw,zB];refine sqD ?_;refine sqR fun _ y=>?_;refine chS 1 ?_;refine zZ 1 fun _ q=>?_;simp only[↓bO,go_sem,seval];refine APure.call (by have h9:=zko T 100 30 tz1 tz1 tz1;rw[Ty.cells_eq T] at h9;exact h9) ?_;apply q;clear q;simp only[↓bO,go_sem,seval];apply y;apply zab;(try simp only[go_sem]);exact Le.of_eq (congrArg (fun b=>AV.v (.bool b)) rfl)
theorem zjd (es:List EqT):APure Tryz.prog 12 [.sl 8 (es.map EqT.cells)] (.v (.bool (zdx (es.map EqT.p)))):=by
  refine APure.mkL (.cons (EqT.dataSl es) .nil) (.v _) ?_;refine aIn Tryz.func12 fun hm=>?_;simp only[Tryz.ntmps12,Tryz.results12,go_sem,seval];(iterate 2 (refine z6 fun _ u=>?_;apply z7;simp only[↓bO,go_sem,seval];apply u));refine z6 fun _ u=>?_;refine sqD ?_;apply zac;refine zai (σ:=Nat) (mB 51 25) (fun s=>s<=es.length/\s<=30/\zbD ((es.map EqT.p).take s)<=200 * s/\∀(i:Nat) (p:Ty×Ty),i<s->(es.map EqT.p)[i]?=some p->bigE p=false) (fun s=>[(3,.v (.int .i64 (zbD ((es.map EqT.p).take s):Nat))),(4,.v (.int .i64 (s:Int)))]) (fun s=>[]) (fun s=>30-s) 0 (⟨by omega,by omega,by simp[zbD],fun i p hi=>by omega⟩) ?_ (fun s hs=>?_)
  ·
   simp only[go_sem,seval,bL,zbD,zn];exact zaL
  simp only[go_sem,seval];refine z6 fun _ w=>?_;refine zaP (mB 51 4121) ([(12,.v (.bool (decide (s<es.length/\s<30))))]) ([]) ?_ ?_
  ·
   apply z7;(iterate 5 (refine chS 1 ?_));refine zag 9 rfl (fun hc9=>?_) (fun hc9=>?_)
   ·
    (iterate 2 (refine chS 1 ?_));simp only[↓bO,go_sem,seval];(try simp only[go_sem,seval]);refine Weak.mk ?_ (fun _ _ h=>h) rfl rfl;simp only[go_sem,Le.refl,Le.any];all_goals (refine Le.of_eq (congrArg (fun b=>AV.v (.bool b)) ?_);rw[zF];simp only[zd,ze,zL,false_iff,Int.ofNat_lt] at *;omega)
   (iterate 2 (refine chS 1 ?_));simp only[↓bO,go_sem,seval];(try simp only[go_sem,seval]);refine Weak.mk ?_ (fun _ _ h=>h) rfl rfl;simp only[go_sem,Le.refl,Le.any];all_goals (refine Le.of_eq (congrArg (fun b=>AV.v (.bool b)) ?_);rw[zF];simp only[zd,ze,zL,false_iff,Int.ofNat_lt] at *;omega)
  simp only[go_sem,seval];apply z8 rfl <;> intro hb12
  ·
   (have hk0:s<es.length/\s<30:=by simpa using hb12);have hk:s<es.length:=hk0.1;obtain ⟨e,he⟩:∃e,es[s]?=some e:=⟨_,za hk⟩;(have hep:(es.map EqT.p)[s]?=some e.p:=by rw[zN,he];rfl);have hss:=sumP_step hep;simp only[EqT.p] at hss;have hw:IntKind.i64.wrap ((s:Int)+1)=(s:Int)+1:=zal tz1 tz1;apply zaa;apply w;refine z6 fun _ w=>?_;apply zac;refine z6 fun _ z=>?_;refine sqR fun _ x=>?_;(iterate 5 (refine chS 1 ?_ (by intro _ q;simp only[↓bO,go_sem,seval,hk,gM he,EqT.cells,Ty.refold];exact q)));refine zZ 1 fun _ y=>?_;simp only[↓bO,go_sem,seval];refine APure.call (zg8 e.l) ?_;apply y;clear y;refine chS 1 ?_;simp only[go_sem];refine zag 21 rfl (fun hc21=>?_) (fun hc21=>?_)
   ·
    simp only[go_sem];(have hyb:bigE e.p=true:=by (have h9:e.l.big=true:=by simpa using hc21);exact (by rw[bigE,show e.p.1.big=true from h9];rfl));(iterate 6 (refine chS 1 ?_));simp only[↓bO,go_sem,seval];apply x;refine z8 (b:=true) (by first | exact rfl | exact congrArg (fun b=>AV.v (.bool b)) hb28) (fun _=>?_) (fun h=>(by cases h));refine sqD ?_;apply zab;(try simp only[go_sem]);refine Le.of_eq (congrArg (fun b=>AV.v (.bool b)) ?_);(first | (rw[zda hep tz1 hyb];done) | skip);all_goals (rw[hg1,zF];simp only[Bool.or_eq_true,zd,ze,true_iff,zL,false_iff] at *;omega)
   simp only[go_sem];(have hb1:e.l.big=false:=by simpa using hc21);(iterate 5 (refine chS 1 ?_ (by intro _ q;simp only[↓bO,go_sem,seval,hk,gM he,EqT.cells,Ty.refold];exact q)));refine zZ 1 fun _ y=>?_;simp only[↓bO,go_sem,seval];refine APure.call (zg8 e.r) ?_;apply y;clear y;simp only[↓bO,go_sem,seval];apply x;apply z8 rfl <;> intro hb28
   ·
    (have hyb:bigE e.p=true:=by (have h9:e.r.big=true:=by simpa using hb28);exact (by rw[bigE,show e.p.2.big=true from h9,Bool.or_true]));refine sqD ?_;apply zab;(try simp only[go_sem]);refine Le.of_eq (congrArg (fun b=>AV.v (.bool b)) ?_);(first | (rw[zda hep tz1 hyb];done) | skip);all_goals (rw[hg1,zF];simp only[Bool.or_eq_true,zd,ze,true_iff,zL,false_iff] at *;omega)
   (have hb2:e.r.big=false:=by simpa using hb28);(have hnb:bigE e.p=false:=by rw[bigE,show e.p.1.big=false from hb1,show e.p.2.big=false from hb2];rfl);have hpc1:=Ty.big_cnt hb1;have hpc2:=Ty.big_cnt hb2;have hsz1:=Ty.sizeW_cnt e.l tz1;have hsz2:=Ty.sizeW_cnt e.r tz1;(have hw2:IntKind.i64.wrap ((zbD ((es.map EqT.p).take s):Int)+e.l.sizeW)=(zbD ((es.map EqT.p).take s):Int)+e.l.cnt:=by rw[hsz1,zal tz1 tz1]);(have hw3:IntKind.i64.wrap ((zbD ((es.map EqT.p).take s):Int)+e.l.cnt+e.r.sizeW)=(zbD ((es.map EqT.p).take (s+1)):Int):=by rw[hsz2,zal tz1 tz1];omega);apply zaa;apply z;refine zay 15 mixed tz0 fun J0 j0=>?_;(iterate 6 (simp only[go_sem];refine zae 1 fun _ y=>?_;simp only[↓zaA,↓dOp,↓bO,go_sem,seval,hk,gM he,EqT.cells,Ty.refold];apply y;clear y));simp only[go_sem];refine zae 1 fun _ y=>?_;simp only[↓zaA,↓dOp,↓bO,go_sem,seval];refine ⟨_,zb5 e.l,?_⟩;(iterate 7 (apply y;clear y;refine zae 1 fun _ y=>?_;simp only[↓zaA,↓dOp,↓bO,go_sem,seval,hk,gM he,EqT.cells,Ty.refold,hw2]));refine ⟨_,zb5 e.r,?_⟩;apply y;clear y;simp only[↓zaA,↓dOp,↓bO,go_sem,seval,hw3];refine j0 _ ?_;clear j0 J0;simp only[go_sem];simp only[↓bO,go_sem,seval];apply w;apply z7;(iterate 2 (refine chS 1 ?_ (by intro _ q;simp only[↓bO,go_sem,seval,hw];exact q)));simp only[↓bO,go_sem,seval];refine ⟨(s+1),⟨by omega,by omega,by omega,fun i p' hi h1=>(by rcases zG i s with h3 | h3 <;> first | exact hs.2.2.2 i p' h3 h1 | (obtain rfl:i=s:=tz1;rw[hep] at h1;cases h1;exact hnb))⟩,by omega,?_⟩;simp only[zar,zas,zah,zam,mB,seval,zj,zh];exact zaL
  (have hk0:¬(s<es.length/\s<30):=by simpa using hb12);have hg1:=zmg (l:=(es.map EqT.p)) (by rw[zx];exact hk0) (by rw[zx];exact hs.1) hs.2.1 hs.2.2.2;rw[zx] at hg1;apply zak;simp only[zao,zaj,zaf,bA,Nat.reduceEqDiff,↓reduceIte];apply u;refine sqR fun _ u=>?_;(iterate 4 (refine chS 1 ?_));refine zag 47 rfl (fun hc47=>?_) (fun hc47=>?_)
  ·
   (iterate 3 (refine chS 1 ?_));simp only[↓bO,go_sem,seval];apply u;apply zab;(try simp only[go_sem]);refine Le.of_eq (congrArg (fun b=>AV.v (.bool b)) ?_);(first | (rw[zda hep tz1 hyb];done) | skip);all_goals (rw[hg1,zF];simp only[Bool.or_eq_true,zd,ze,true_iff,zL,false_iff] at *;omega)
  (iterate 3 (refine chS 1 ?_));simp only[↓bO,go_sem,seval];apply u;apply zab;(try simp only[go_sem]);refine Le.of_eq (congrArg (fun b=>AV.v (.bool b)) ?_);(first | (rw[zda hep tz1 hyb];done) | skip);all_goals (rw[hg1,zF];simp only[Bool.or_eq_true,zd,ze,true_iff,zL,false_iff] at *;omega)
theorem ACalls.freshE {P:Program} {f:Nat} {args:List AV} {σ:Type} {C:σ->Prop} {R R':σ->AV} {os1 os1':σ->Os} {k:Nat} {os':Os} {nx':Nat} {Q':AV->Os->Nat->Prop}
  (h:ACalls P f args [] 0 fun r os n=>(∃s,C s/\r=R s/\os=os1 s)/\n=k) (hd:DataL args) (hR:∀s,RenV (fun i=>nx'+i) (R s) (R' s)) (hnd:∀s,((os1 s).map Prod.fst).Nodup) (hos:∀s,OsRen (fun i=>nx'+i) (os1 s) (os1' s)) (hq:∀s,C s->Q' (R' s) (os1' s++os') (nx'+k)):ACalls P f args os' nx' Q':=by
 have same:∀(l:List AV),DataL l->RenL (fun i=>nx'+i) l l:=by
  intro l hl
  induction l with
  | nil=>trivial
  | cons x l ih=>exact ⟨.data (hl x tz4),ih fun y hy=>hl y (by simp[hy])⟩
 refine h.frame (fun i=>nx'+i) (fun i j e=>by simpa using e) (fun i hi=>by omega) (fun i _=>by simp) (same args hd) (fun i ob hg=>by cases hg) ?_;rintro r os1a n1 ⟨⟨s,hs,rfl,rfl⟩,rfl⟩;refine ⟨R' s,os1' s++os',hR s,hq s hs,fun id ob2 hg=>?_⟩;rw[zd4] at hg;split at hg
 ·rename_i x hx
  (cases hg);obtain ⟨i,x,e1,_,e3,e4⟩:=(hos s).get id _ hx;exact .inl ⟨i,x,e1,zd8 (hnd s) e4,e3⟩
 exact .inr ⟨hg,fun ⟨i,_,hi⟩=>by omega⟩
theorem Le.slC {sz:Nat} {xs ys:List (List AV)} (hl:ys.length=xs.length) (hy:∀y∈ys,y.length=sz) (hf:LeL xs.flatten ys.flatten):Le (.sl sz xs) (.sl sz ys):=fun E A w u hr =>
 hr.slMap hl (fun _=>hy) hf.length.symm fun j c d u hc hd hk=>by
  obtain ⟨x,hx,hle⟩:=hf.get j d hd;rw[hc] at hx;cases hx;exact hle _ _ _ _ hk
def zgh (b:Nat) (S:CS):Os:=[((b+7),.tok 194 4 S.G.N.length),((b+6),.row 3 1 (S.W.map intC)),((b+5),.row 3 1 (S.F.rank.map intC)),((b+4),.row 3 1 (S.F.up.map nC)),((b+3),.cells 127 [.v (.int .i64 S.steps),.ptr (b+2) 0,.ptr (b+0) 0,.own (b+6) S.W.length,.v (.bool S.clash)]),((b+2),.cells 169 [.osl (b+7) 4 (S.G.N.map GNode.cells),.map (b+1)]),((b+1),.map (S.G.V.map vC)),((b+0),.cells 184 [.own (b+4) S.F.up.length,.own (b+5) S.F.rank.length,.v (.int .i64 S.F.sets),.v (.int .i64 S.F.steps)])]
theorem zkq (b:Nat) (S:CS):OsRen (fun i=>b+i) (zgh 0 S) (zgh b S) :=
 ⟨rfl,.tok,rfl,.row (zaJ _),rfl,.row (zaJ _),rfl,.row (zaY _),rfl,.cells ⟨.v _,.ptr rfl,.ptr rfl,.own rfl,.v _,trivial⟩,rfl,.cells ⟨.osl rfl (GNode.dataRows S.G.N),.map rfl,trivial⟩,rfl,.map (zaU S.G.V),rfl,.cells ⟨.own rfl,.own rfl,.v _,.v _,trivial⟩,trivial⟩
theorem zfv (S:CS):UndOs 8 (zgh 0 S) :=
 ⟨by omega,trivial,by omega,Und.rowI (zaJ _),by omega,Und.rowI (zaJ _),by omega,Und.rowI (zaY _),by omega,⟨.v _ _,.ptr tz1,.ptr tz1,.own tz1,.v _ _,trivial⟩,by omega,⟨Und.oslG tz1,.map tz1,trivial⟩,by omega,fun p hp=>.data (zaU _ p hp),by omega,⟨.own tz1,.own tz1,.v _ _,.v _ _,trivial⟩,trivial⟩
theorem coCalls {f:Nat} {args:List AV} {C:CS->Prop} (h:ACalls Tryz.prog f args [] 0 fun r os n=>(∃S,C S/\r=.ptr 3 0/\os=zgh 0 S)/\n=8) (hd:DataL args) {os':Os} {nx':Nat} {Q':AV->Os->Nat->Prop}
  (hq:∀S,C S->Q' (.ptr (nx'+3) 0) (zgh nx' S++os') (nx'+8)):ACalls Tryz.prog f args os' nx' Q' :=
 h.freshE (R:=fun _=>.ptr 3 0) (R':=fun _=>.ptr (nx'+3) 0) (os1:=fun S=>zgh 0 S) (os1':=fun S=>zgh nx' S) hd (fun _=>.ptr rfl) (fun S=>by simp[zgh]) (zkq nx') hq
theorem NewC_c:ACalls Tryz.prog 85 [] [] 0 fun r os n=>(∃S,S=CS0/\r=.ptr 3 0/\os=zgh 0 S)/\n=8:=by
 refine ACalls.cleanN (n:=8) (C:=fun r os=>∃S,S=CS0/\r=.ptr 3 0/\os=zgh 0 S) tz1 ?_;refine aIn Tryz.func85 fun hm=>?_;simp only[Tryz.ntmps85,Tryz.results85,go_sem,seval];refine sqD ?_;refine sqR fun _ y=>?_;refine zZ 1 fun _ q=>?_;simp only[↓bO,go_sem,seval];refine UNew_calls.mono ?_;rintro r os' nx' ⟨⟨rfl,rfl⟩,rfl⟩;apply q;clear q;refine chS 4 ?_;simp only[↓bO,go_sem,seval];apply y;refine sqR fun _ y=>?_;refine zZ 1 fun _ q=>?_;simp only[↓bO,go_sem,seval];refine ACalls.fresh (R':=.ptr 2 0) (os1':=[(2,.cells 169 [.v (.slice none 0 0),.map 1]),(1,.map [])]) New_calls .nil (.ptr rfl) tz3 ⟨rfl,.cells ⟨.v _,.map rfl,trivial⟩,rfl,.map (by intro p hp;cases hp),trivial⟩ ?_;simp only[zw,zB];apply q;clear q;simp only[↓bO,go_sem,seval];apply y;refine zaH (Weak.rowCell 3 1 0 (id:=0) rfl rfl) ?_;simp only[zam,Nat.reduceEqDiff,↓reduceIte,List.set_cons_zero,List.set_cons_succ,zw,zB];refine zaH (Weak.rowCell 3 1 1 (id:=0) rfl rfl) ?_;simp only[zam,Nat.reduceEqDiff,↓reduceIte,List.set_cons_zero,List.set_cons_succ,zw,zB];refine zaH (Weak.rowCell 3 1 3 (id:=3) rfl rfl) ?_;simp only[zam,Nat.reduceEqDiff,↓reduceIte,List.set_cons_zero,List.set_cons_succ,zw,zB];refine zaH (Weak.tokCell 194 4 (id:=2) (t:=169) [.osl 7 4 ([].map GNode.cells),.map 1] rfl ⟨.inr ⟨rfl,rfl⟩,.inl (.refl _),trivial⟩) ?_;simp only[zam,Nat.reduceEqDiff,↓reduceIte,List.set_cons_zero,List.set_cons_succ,zw,zB];apply zab;(try simp only[go_sem]);refine ⟨_,zgh 0 CS0,(by first | exact ⟨CS0,rfl,rfl,rfl⟩ | exact ⟨rfl,rfl⟩),.ptr tz1,zfv _,Le.refl _,⟨0,rfl,rfl⟩,by omega⟩
theorem zkX (S:CS):CCalls (σ:=Unit) 87 [.ptr 0 0] (S) (fun s=>s.1=S) (fun s=>.v (.int .i64 S.steps)):=by
  refine ACalls.clean (C:=fun r os=>∃s:CS×Unit,(s.1=S)/\r=(fun s:Unit=>.v (.int .i64 S.steps)) s.2/\os=zad 0 (zan s.1)) ?_;refine aIn Tryz.func87 fun hm=>?_;simp only[Tryz.ntmps87,Tryz.results87,go_sem,seval];simp only[zan,zad,Nat.reduceAdd];refine sqD ?_;refine z6 fun _ q=>?_;refine sqR fun _ y=>?_;refine chS 1 ?_;simp only[↓bO,go_sem,seval];apply y;apply z8 rfl <;> intro hb4
  ·
   exact absurd hb4 tz4
  apply zaa;apply q;refine sqR fun _ q=>?_;(iterate 5 (refine chS 1 ?_));simp only[↓bO,go_sem,seval];apply q;apply zab;(try simp only[go_sem]);refine ⟨_,zad 0 (zan (S)),⟨(S,()),?_,rfl,rfl⟩,.v _ _,zcg tz1 _,?_,?_,by omega⟩;· exact rfl
  ·
   exact Le.refl _
  first | (refine ⟨0,rfl,rfl⟩) | (refine ⟨0,by simp only[zan,zad,zk,zf,Nat.reduceAdd],rfl⟩)
end Go.Proofs.YtpfiliamceimmaaGreatDoor
