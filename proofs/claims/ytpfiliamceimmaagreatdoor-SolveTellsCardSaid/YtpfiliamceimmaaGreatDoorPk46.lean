/- Texts of the abstract walk, of the contracts and of the plain laws, packed (part 46 of 50): Cy1 Cy2 Cy3 Cy4 Cy5 Cy6 CyV CyM SolB SolD SolE SolF SolG UmK UcS SoE SolJ Rob2 Rob3 McT Rob5 Fng So11. Conditions: none. -/
import Derived.Test.YtpfiliamceimmaaGreatDoorPk45
set_option linter.unusedVariables false
set_option linter.unusedSimpArgs false
set_option maxRecDepth 100000
set_option maxHeartbeats 4000000
namespace Go.Proofs.YtpfiliamceimmaaGreatDoor
open Go Go.RowKit
attribute [local irreducible] aops za1
def zbe (W:WS):List Ob:=[.map (mC cI W.st),.map (mC cB W.cy),.map (mC cI W.de),.map (mC cI W.sz),.cells 134 [.map 8,.map 9,.map 10,.map 11,.v (.int .i64 W.steps),.v (.bool W.bad)]]
theorem wUnd {n:Nat} (h:13≤n) (S:CS) (W:WS):UndOs n (zai 0 (zaF S++zbe W++[])) :=
  ⟨by omega,⟨.v _ _,.ptr (by omega),.ptr (by omega),.own (by omega),.v _ _,trivial⟩,by omega,⟨.osl (by omega) (.data (.sl (GNode.dataRows S.G.N))),.map (by omega),trivial⟩,by omega,trivial,by omega,fun p hp=>.data (zbb S.G.V p hp),
    by omega,⟨.own (by omega),.own (by omega),.v _ _,.v _ _,trivial⟩,by omega,Und.rowI (zbg _),by omega,Und.rowI (za2 _),by omega,Und.rowI (za2 _),
    by omega,fun p hp=>.data (za5 _ p hp),by omega,fun p hp=>.data (zbJ _ p hp),by omega,fun p hp=>.data (za5 _ p hp),by omega,fun p hp=>.data (za5 _ p hp),by omega,⟨.map (by omega),.map (by omega),.map (by omega),.map (by omega),.v _ _,.v _ _,trivial⟩,trivial⟩
theorem renW (S:CS) (W:WS) (nx:Nat):RenOs (zbs [0,1,2,3,4,5,6,7,8,9,10,11,12] nx) 0 (zaF S++zbe W) (zaF S++zbe W) :=
  ⟨.cells ⟨.v _,.ptr rfl,.ptr rfl,.own rfl,.v _,trivial⟩,.cells ⟨.osl rfl (GNode.dataRows S.G.N),.map rfl,trivial⟩,.tok,.map (zbb S.G.V),.cells ⟨.own rfl,.own rfl,.v _,.v _,trivial⟩,.row (zbg _),.row (za2 _),.row (za2 _),
    .map (za5 _),.map (zbJ _),.map (za5 _),.map (za5 _),.cells ⟨.map rfl,.map rfl,.map rfl,.map rfl,.v _,.v _,trivial⟩,trivial⟩
def WCalls {σ:Type} (f:Nat) (args:List AV) (S:CS) (W:WS) (C:(FS×WS)×σ→Prop) (R:σ→AV):Prop :=
  ACalls Tryz.prog f args (zai 0 (zaF S++zbe W++[])) 13 fun z os n=>(∃s:(FS×WS)×σ,C s∧z=R s.2∧os=zai 0 (zaF {S with F:=s.1.1}++zbe s.1.2++[]))∧n=13
theorem WCalls.at {σ:Type} {f:Nat} {args:List AV} {S:CS} {W:WS} {C:(FS×WS)×σ→Prop} {R:σ→AV} (h:WCalls f args S W C R) {os':Os} {nx':Nat}
    (ha:RenL (zbs [0,1,2,3,4,5,6,7,8,9,10,11,12] nx') args args) (hR:∀s,RenV (zbs [0,1,2,3,4,5,6,7,8,9,10,11,12] nx') (R s) (R s)) (hlt:13≤nx') (hg:GetsO os' [0,1,2,3,4,5,6,7,8,9,10,11,12] (zaF S++zbe W)) {Q':AV→Os→Nat→Prop}
    (hq:∀(F1:FS) (W1:WS) (s:σ),C ((F1,W1),s)→Q' (R s) (zaq os' ([0,1,2,3,4,5,6,7,8,9,10,11,12].zip (zaF {S with F:=F1}++zbe W1))) nx'):ACalls Tryz.prog f args os' nx' Q' :=
  ACalls.atE (σ:=(FS×WS)×σ) (C:=C) (args:=args) (R:=fun s=>R s.2) (R':=fun s=>R s.2) (obs:=zaF S++zbe W) (obs1:=fun s=>zaF {S with F:=s.1.1}++zbe s.1.2) (obs':=zaF S++zbe W) (obs1':=fun s=>zaF {S with F:=s.1.1}++zbe s.1.2) [0,1,2,3,4,5,6,7,8,9,10,11,12]
    (by unfold WCalls at h;simp only[List.append_nil] at h;exact h) rfl (fun _=>rfl) (by decide) (by simp only[zM,List.not_mem_nil,or_false];omega) ha (fun s=>hR s.2) (renW S W nx') hg (fun s=>renW _ s.1.2 nx') (fun s hs=>hq s.1.1 s.1.2 s.2 hs)
theorem wrap_step {n:Int} (h0:0≤n) (h1:n≤1000000000):IntKind.i64.wrap (n+1)=n+1:=zaT (by omega) (by omega)
theorem begin_c (S:CS) (hS:CyG S) (W:WS) (h0:0≤W.steps) (h1:W.steps≤1000000000) (r:Nat) (hr:Rt S.F.up r r):ACalls Tryz.prog 160 [.ptr 12 0,.agg [.ptr 0 0,.v (.int .i64 (r:Int))]] (zai 0 (zaF (S)++zbe (W)++[])) 13 fun z os n=>(∃s:(FS×WS)×Unit,(FSame S.F s.1.1∧s.1.2=W.begin r)∧z=(fun s:Unit=>.agg (frC (za3 S) (r,0))) s.2∧os=zai 0 (zaF {S with F:=s.1.1}++zbe s.1.2++[]))∧n=13:=by
  refine ACalls.clean (C:=fun zr zo=>∃s:(FS×WS)×Unit,(FSame S.F s.1.1∧s.1.2=W.begin r)∧zr=(fun s:Unit=>.agg (frC (za3 S) (r,0))) s.2∧zo=zai 0 (zaF {S with F:=s.1.1}++zbe s.1.2++[])) ?_;refine zah Tryz.func160 (by kernel_rfl) rfl (by rw[Tryz.ntmps160];simp) (fun hm=>?_);simp only[Tryz.ntmps160,Tryz.results160,zi,zm,Nat.reduceAdd,Nat.reduceSub,zt,zq,zh,zj];simp only[zaF,zbe,zh,zj,zai,Nat.reduceAdd];have hrl:=hr.lt;have hfl:=hS.c.fl;obtain ⟨x,hx⟩:∃x,S.W[r]?=some x:=⟨_,zd (by omega)⟩;have hw1:=wrap_step h0 h1;refine zab fun Y0 y0=>?_;refine zaa ?_;refine z8 1 fun Q0 q0=>?_;simp only[↓bO,go_sem,seval,zaj,zak,zat,zas,hw1];refine q0 _ ?_;clear q0 Q0;simp only[go_sem];simp only[↓bO,go_sem,seval,zaj,zak,zat,zas,hw1];refine y0 _ ?_;(try clear y0 Y0);refine zab fun Y0 y0=>?_;refine zaa ?_;(iterate 7 (refine z8 1 fun Q0 q0=>?_;simp only[↓bO,go_sem,seval,zaj,zak,zat,zas,hw1];refine q0 _ ?_;clear q0 Q0;simp only[go_sem]));simp only[↓bO,go_sem,seval,zaj,zak,zat,zas,hw1];refine y0 _ ?_;(try clear y0 Y0);refine zab fun Y0 y0=>?_;refine zaP [(12,0,[.map 8]),(13,0,[.ptr 0 0,.v (.int .i64 (r:Int))])] 7 rfl mixed (⟨⟨_,_,rfl,by simp,rfl,trivial,trivial⟩,⟨_,_,rfl,by simp,rfl,trivial,trivial,trivial⟩,trivial⟩) rfl ?_;dsimp only;refine zae 0 rfl (by kernel_rfl) (by kernel_rfl) (by kernel_rfl) (fun _ _ h=>h) fun Q0 q0=>?_;simp only[↓bO,go_sem,seval,zaj,zak,zat,zas,hw1];refine q0 _ ?_;clear q0 Q0;refine zae 1 rfl (by kernel_rfl) (by kernel_rfl) (by kernel_rfl) (fun _ _ h=>h) fun Q0 q0=>?_;simp only[↓bO,go_sem,seval,zaj,zak,zat,zas,hw1];refine q0 _ ?_;clear q0 Q0;refine zae 2 rfl (by kernel_rfl) (by kernel_rfl) (by kernel_rfl) (fun _ _ h=>h) fun Q0 q0=>?_;simp only[↓bO,go_sem,seval,zaj,zak,zat,zas,hw1];refine q0 _ ?_;clear q0 Q0;refine zay 3 0 rfl rfl (by kernel_rfl) (by kernel_rfl) (by kernel_rfl) (fun _ _ h=>h) fun Q0 q0=>?_;simp only[↓bO,go_sem,seval,zaj,zak,zat,zas,hw1];refine q0 _ ?_;clear q0 Q0;refine zay 4 1 rfl rfl (by kernel_rfl) (by kernel_rfl) (by kernel_rfl) (fun _ _ h=>h) fun Q0 q0=>?_;simp only[↓bO,go_sem,seval,zaj,zak,zat,zas,hw1];refine q0 _ ?_;clear q0 Q0;refine zag (i:=5) (by kernel_rfl) ?_
  ·
   refine zal rfl rfl fun Q0 q0=>?_;simp only[↓bO,go_sem,seval,zaj,zak,zat,zas,hw1];refine CCalls.atP (zc6 (S) (r:Int)) (i0:=0) (i1:=1) (i2:=2) (i3:=3) (i4:=4) (i5:=5) (i6:=6) (i7:=7) (by exact ⟨.agg ⟨.ptr rfl,.v _,trivial⟩,trivial⟩) (fun _=>by exact .v _) (by decide) (by simp) ⟨rfl,rfl,rfl,rfl,rfl,rfl,rfl,rfl,trivial⟩ (fun Z1 u1 hZ1=>?_);(try dsimp only at hZ1);simp only[zaL,zu,zy,zx,zaq,zaz,Nat.reduceEqDiff,↓reduceIte];obtain rfl:S=Z1:=hZ1.symm;(try simp only[bS,bA]);refine q0 _ ⟨⟨⟨_,_,rfl,by simp,rfl,trivial,trivial⟩,⟨_,_,rfl,by simp,rfl,trivial,trivial,trivial⟩,trivial⟩,?_⟩;clear q0 Q0;refine zag (i:=6) (by kernel_rfl) ?_
   ·
    refine zal rfl rfl fun Q0 q0=>?_;simp only[↓bO,go_sem,seval,zaj,zak,zat,zas,hw1];refine q0 _ ⟨⟨⟨_,_,rfl,by simp,rfl,trivial,trivial⟩,⟨_,_,rfl,by simp,rfl,trivial,trivial,trivial⟩,trivial⟩,?_⟩;clear q0 Q0;refine zaG (by kernel_rfl) ?_;simp only[zaf,zad,zac];refine y0 _ ?_;(try clear y0 Y0);refine zab fun Y0 y0=>?_;refine zaP [(13,0,[.ptr 0 0,.v (.int .i64 (r:Int))])] 6 rfl mixed (⟨⟨_,_,rfl,by simp,rfl,trivial,trivial,trivial⟩,trivial⟩) rfl ?_;dsimp only;refine zay 0 0 rfl rfl (by kernel_rfl) (by kernel_rfl) (by kernel_rfl) (fun _ _ h=>h) fun Q0 q0=>?_;simp only[↓bO,go_sem,seval,zaj,zak,zat,zas,hw1];refine q0 _ ?_;clear q0 Q0;refine zay 2 0 rfl rfl (by kernel_rfl) (by kernel_rfl) (by kernel_rfl) (fun _ _ h=>h) fun Q0 q0=>?_;simp only[↓bO,go_sem,seval,zaj,zak,zat,zas,hw1];refine q0 _ ?_;clear q0 Q0;refine zag (i:=1) (by kernel_rfl) ?_
    ·
     refine zal rfl rfl fun Q0 q0=>?_;simp only[↓bO,go_sem,seval,zaj,zak,zat,zas,hw1];refine CCalls.atP (zc6 (S) (r:Int)) (i0:=0) (i1:=1) (i2:=2) (i3:=3) (i4:=4) (i5:=5) (i6:=6) (i7:=7) (by exact ⟨.agg ⟨.ptr rfl,.v _,trivial⟩,trivial⟩) (fun _=>by exact .v _) (by decide) (by simp) ⟨rfl,rfl,rfl,rfl,rfl,rfl,rfl,rfl,trivial⟩ (fun Z2 u2 hZ2=>?_);(try dsimp only at hZ2);simp only[zaL,zu,zy,zx,zaq,zaz,Nat.reduceEqDiff,↓reduceIte];obtain rfl:S=Z2:=hZ2.symm;(try simp only[bS,bA]);refine q0 _ ⟨⟨⟨_,_,rfl,by simp,rfl,trivial,trivial,trivial⟩,trivial⟩,?_⟩;clear q0 Q0;refine zag (i:=3) (by kernel_rfl) ?_
     ·
      refine zal rfl rfl fun Q0 q0=>?_;simp only[↓bO,go_sem,seval,zaj,zak,zat,zas,hw1];refine CCalls.atP (R':=fun s=>.sl 2 (s.map (zaw 0))) (ziQ S hS.c.f hS.c.pl hS.c.wr r x hx (hS.g0 r x hr hx)) (i0:=0) (i1:=1) (i2:=2) (i3:=3) (i4:=4) (i5:=5) (i6:=6) (i7:=7) (by exact ⟨.agg ⟨.ptr rfl,.v _,trivial⟩,trivial⟩) (fun _=>by exact .parts rfl _) (by decide) (by simp) ⟨rfl,rfl,rfl,rfl,rfl,rfl,rfl,rfl,trivial⟩ (fun Z4 rs hZ4=>?_);(try dsimp only at hZ4);simp only[zaL,zu,zy,zx,zaq,zaz,Nat.reduceEqDiff,↓reduceIte];obtain ⟨F2,rfl⟩:∃F2,Z4={S with F:=F2}:=⟨Z4.F,hZ4.2.1⟩;have hF2:FSame S.F F2:=hZ4.1;have hkd:za3 S r=rs:=zdC ⟨x,hx,hZ4.2.2⟩;(try simp only[bS,bA]);refine q0 _ ⟨⟨⟨_,_,rfl,by simp,rfl,trivial,trivial,trivial⟩,trivial⟩,?_⟩;clear q0 Q0;refine zag (i:=4) (by kernel_rfl) ?_
      ·
       refine zal rfl rfl fun Q0 q0=>?_;simp only[↓bO,go_sem,seval,zaj,zak,zat,zas,hw1];refine q0 _ ⟨⟨⟨_,_,rfl,by simp,rfl,trivial,trivial,trivial⟩,trivial⟩,?_⟩;clear q0 Q0;refine zag (i:=5) (by kernel_rfl) ?_
       ·
        refine zal rfl rfl fun Q0 q0=>?_;simp only[↓bO,go_sem,seval,zaj,zak,zat,zas,hw1];refine q0 _ ⟨⟨⟨_,_,rfl,by simp,rfl,trivial,trivial,trivial⟩,trivial⟩,?_⟩;clear q0 Q0;refine zaG (by kernel_rfl) ?_;simp only[zaf,zad,zac];refine y0 _ ?_;(try clear y0 Y0);refine zam ?_;(try simp only[zaf,zad,zac,zaZ,zaW,zaC,bS,bA,zbH,zaJ,zce,bL,Nat.reduceAdd,Nat.reduceLeDiff,Nat.reduceEqDiff,↓reduceIte,ti198,zS,zK,Int.natCast_nonneg,zaj,zak,zat,zas,hw1]);refine ⟨_,zai 0 (zaF {S with F:=F2}++zbe (W.begin r)++[]),⟨((F2,W.begin r),()),?_,rfl,rfl⟩,.agg (Und.frame _ (by omega) _),wUnd (by omega) _ _,?_,?_,by omega⟩;· exact ⟨hF2,rfl⟩
        ·
         rw[frC,hkd];exact Le.refl _
        · first | (refine ⟨2,rfl,rfl⟩) | (refine ⟨1,rfl,rfl⟩) | (refine ⟨0,rfl,rfl⟩) | (refine ⟨2,by simp only[zaF,zbe,zh,zj,zai,zw,zk,Nat.reduceAdd,WS.begin],rfl⟩) | (refine ⟨1,by simp only[zaF,zbe,zh,zj,zai,zw,zk,Nat.reduceAdd,WS.begin],rfl⟩) | (refine ⟨0,by simp only[zaF,zbe,zh,zj,zai,zw,zk,Nat.reduceAdd,WS.begin],rfl⟩)
theorem lUnd {n:Nat} (h:14≤n) (S:CS) (W:WS) (K:Nat→List Nat) (stk:List (Nat×Nat)):UndOs n (zai 0 (zaF S++zbe W++[.row 198 3 (stk.map (frC K))])):=by
  have h1:=wUnd (n:=n) (by omega) S W;obtain ⟨a0,a1,b0,b1,c0,c1,d0,d1,e0,e1,f0,f1,g0,g1,i0,i1,j0,j1,k0,k1,l0,l1,m0,m1,o0,o1,_⟩:=h1;exact ⟨a0,a1,b0,b1,c0,c1,d0,d1,e0,e1,f0,f1,g0,g1,i0,i1,j0,j1,k0,k1,l0,l1,m0,m1,o0,o1,by omega,Und.frames K (by omega) stk,trivial⟩
theorem ze6 {stk:List (Nat×Nat)} {m q:Nat} {p:Nat×Nat} {W:WS} (h:stk[m]?=some p):zbt q ((stk.take (m+1)).reverse.map Prod.fst) W=if p.1=q then W.mark p.1 else zbt q ((stk.take m).reverse.map Prod.fst) (W.mark p.1):=by
  rw[List.take_add_one,h];simp only[Option.toList_some,List.reverse_append,List.reverse_cons,List.reverse_nil,zj,zh,zI,zbt]
theorem loop_c (S:CS) (hS:FInv S.F) (W:WS) (K:Nat→List Nat) (stk:List (Nat×Nat)) (hl:stk.length≤1048576) (q:Nat):ACalls Tryz.prog 161 [.ptr 12 0,.own 13 stk.length,.v (.int .i64 (q:Int))] (zai 0 (zaF (S)++zbe (W)++[.row 198 3 (stk.map (frC K))])) 14 fun z os n=>(∃s:(FS×WS)×Unit,(s.1.1=S.F∧s.1.2=zbt q (stk.reverse.map Prod.fst) W)∧z=(fun s:Unit=>.tup []) s.2∧os=zai 0 (zaF {S with F:=s.1.1}++zbe s.1.2++[.row 198 3 (stk.map (frC K))]))∧n=14:=by
  refine ACalls.clean (C:=fun zr zo=>∃s:(FS×WS)×Unit,(s.1.1=S.F∧s.1.2=zbt q (stk.reverse.map Prod.fst) W)∧zr=(fun s:Unit=>.tup []) s.2∧zo=zai 0 (zaF {S with F:=s.1.1}++zbe s.1.2++[.row 198 3 (stk.map (frC K))])) ?_;refine zah Tryz.func161 (by kernel_rfl) rfl (by rw[Tryz.ntmps161];simp) (fun hm=>?_);simp only[Tryz.ntmps161,Tryz.results161,zi,zm,Nat.reduceAdd,Nat.reduceSub,zt,zq,zh,zj];simp only[zaF,zbe,zh,zj,zai,Nat.reduceAdd];have hwl:IntKind.i64.wrap ((stk.length:Int)-1)=(stk.length:Int)-1:=zaT (by omega) (by omega);refine zab fun Y0 y0=>?_;refine zaa ?_;(iterate 3 (refine z8 1 fun Q0 q0=>?_;simp only[↓bO,go_sem,seval,zaj,zak,zat,zas,hwl];refine q0 _ ?_;clear q0 Q0;simp only[go_sem]));simp only[↓bO,go_sem,seval,zaj,zak,zat,zas,hwl];refine y0 _ ?_;(try clear y0 Y0);refine zav ?_;refine zaS (σ:=List (Int×Bool)×Nat) (mB 30 71) (fun s=>zbt q ((stk.take s.2).reverse.map Prod.fst) {W with cy:=s.1}=zbt q (stk.reverse.map Prod.fst) W∧s.2≤stk.length) (fun s=>[(6,.v (.int .i64 ((s.2:Int)-1)))]) (fun s=>[(9,.map (mC cB s.1))]) (fun s=>s.2) (W.cy,stk.length) (⟨by rw[z6],zW _⟩) ?_ (fun s hs=>?_)
  ·
   simp only[zaA,zaB,zaq,zaz,mB,zc,zb,seval];exact zcm
  simp only[zaA,zaB,zaq,zaz,mB,zc,zb,seval];refine zab fun Y0 y0=>?_;refine zab fun Y1 y1=>?_;refine zaa ?_;refine z8 1 fun Q0 q0=>?_;simp only[↓bO,go_sem,seval,zaj,zak,zat,zas,hwl];refine q0 _ ?_;clear q0 Q0;simp only[go_sem];simp only[↓bO,go_sem,seval,zaj,zak,zat,zas,hwl];refine y1 _ ?_;(try clear y1 Y1);refine zan rfl (fun hb11=>?_) (fun hb11=>?_)
  ·
   (have hk:1≤s.2:=by (have h9:=hb11;simp at h9;omega));obtain ⟨m,hm⟩:∃m,s.2=m+1:=⟨s.2-1,by omega⟩;(have hx1:(s.2:Int)-1=(m:Int):=by omega);(have hml:m<stk.length:=by have:=hs.2;omega);obtain ⟨p,hst⟩:∃p,stk[m]?=some p:=⟨_,zd hml⟩;have hw1:IntKind.i64.wrap ((m:Int)-1)=(m:Int)-1:=zaT (by omega) (by omega);refine zar ?_;(try simp only[zaf,zad,zac]);refine y0 _ ?_;(try clear y0 Y0);refine zab fun Y0 y0=>?_;refine zav ?_;refine zab fun Y1 y1=>?_;refine za8 9 mixed (by kernel_rfl) fun J0 j0=>?_;(iterate 8 (simp only[go_sem];refine zaD 1 fun Q0 q0=>?_;simp only[↓za1,↓dOp,↓bO,go_sem,seval,zaj,zak,zat,zas,hwl,hx1,hml,gM hst,frC,hw1,WS.mark];refine q0 _ ?_;clear q0 Q0));simp only[go_sem];simp only[↓za1,↓dOp,↓bO,go_sem,seval,zaj,zak,zat,zas,hwl,hx1,hml,gM hst,frC,hw1,WS.mark];refine j0 _ ?_;clear j0 J0;simp only[go_sem];simp only[↓bO,go_sem,seval,zaj,zak,zat,zas,hwl,hx1,hml,gM hst,frC,hw1,WS.mark];refine y1 _ ?_;(try clear y1 Y1);refine zab fun Y1 y1=>?_;refine zaa ?_;(iterate 6 (refine z8 1 fun Q0 q0=>?_;simp only[↓bO,go_sem,seval,zaj,zak,zat,zas,hwl,hx1,hml,gM hst,frC,hw1,WS.mark];refine q0 _ ?_;clear q0 Q0;simp only[go_sem]));simp only[↓bO,go_sem,seval,zaj,zak,zat,zas,hwl,hx1,hml,gM hst,frC,hw1,WS.mark];refine y1 _ ?_;(try clear y1 Y1);refine zan rfl (fun hb29=>?_) (fun hb29=>?_)
   ·
    (have hpq:p.1=q:=by (have h9:=hb29;simp at h9;omega));(have hres:{W with cy:=zfE s.1 p.1 true}=zbt q (stk.reverse.map Prod.fst) W:=by (have h9:=hs.1;rw[hm,ze6 hst,if_pos hpq] at h9;exact h9));refine zam ?_;(try simp only[zaf,zad,zac,zaZ,zaW,zaC,bS,bA]);refine ⟨_,zai 0 (zaF {S with F:=S.F}++zbe ({W with cy:=zfE s.1 p.1 true})++[.row 198 3 (stk.map (frC K))]),⟨((S.F,{W with cy:=zfE s.1 p.1 true}),()),?_,rfl,rfl⟩,.tup trivial,lUnd (by omega) _ _ K stk,?_,?_,by omega⟩;· exact ⟨rfl,hres⟩
    ·
     exact Le.refl _
    · first | (refine ⟨0,rfl,rfl⟩) | (refine ⟨0,by simp only[zaF,zbe,zh,zj,zai,zw,zk,Nat.reduceAdd],rfl⟩)
   ·
    (have hne:¬p.1=q:=by (have h9:=hb29;simp at h9;omega));refine zar ?_;(try simp only[zaf,zad,zac]);refine y0 _ ?_;(try clear y0 Y0);refine zaa ?_;(iterate 2 (refine z8 1 fun Q0 q0=>?_;simp only[↓bO,go_sem,seval,zaj,zak,zat,zas,hwl,hx1,hml,gM hst,frC,hw1,WS.mark];refine q0 _ ?_;clear q0 Q0;simp only[go_sem]));simp only[↓bO,go_sem,seval,zaj,zak,zat,zas,hwl,hx1,hml,gM hst,frC,hw1,WS.mark];refine ⟨(zfE s.1 p.1 true,m),⟨by (have h9:=hs.1;rw[hm,ze6 hst,if_neg hne] at h9;exact h9),by simp only;omega⟩,(by simp only;omega),?_⟩;simp only[zaA,zaB,zaq,zaz,mB,zc,zb,seval,hx1,hml,gM hst,frC,hw1,zas,WS.mark];exact zcm
  ·
   (have hk:s.2=0:=by (have h9:=hb11;simp at h9;omega));(have hres:{W with cy:=s.1}=zbt q (stk.reverse.map Prod.fst) W:=by (have h9:=hs.1;rw[hk] at h9;exact h9));refine zaV ?_;simp only[zaf,zad,zac,bA,Nat.reduceEqDiff,↓reduceIte];(try simp only[zaf,zad,zac,zaZ,zaW,zaC,bS,bA]);refine ⟨_,zai 0 (zaF {S with F:=S.F}++zbe ({W with cy:=s.1})++[.row 198 3 (stk.map (frC K))]),⟨((S.F,{W with cy:=s.1}),()),?_,rfl,rfl⟩,.tup trivial,lUnd (by omega) _ _ K stk,?_,?_,by omega⟩;· exact ⟨rfl,hres⟩
   ·
    exact Le.refl _
   · first | (refine ⟨0,rfl,rfl⟩) | (refine ⟨0,by simp only[zaF,zbe,zh,zj,zai,zw,zk,Nat.reduceAdd],rfl⟩)
end Go.Proofs.YtpfiliamceimmaaGreatDoor
namespace Go.Proofs.YtpfiliamceimmaaGreatDoor
open Go Go.RowKit
attribute [local irreducible] aops za1
def WBd (W:WS):Prop:=∀x,(0≤W.dg x∧W.dg x≤most)∧0≤W.zg x∧W.zg x≤most
theorem zeI {ch:List Nat} {r k p:Nat} {W:WS} (h:ch[k]?=some p):zaR r (ch.take (k+1)) W=zaI r (zaR r (ch.take k) W) p:=by
  unfold zaR;rw[List.take_add_one,h,List.foldl_append];rfl
theorem zeb {W:WS} (h:WBd W) (r:Nat) (ch:List Nat):(0≤(zaR r ch W).1.1∧(zaR r ch W).1.1≤most)∧(1≤(zaR r ch W).1.2∧(zaR r ch W).1.2≤most)∧WBd (zaR r ch W).2:=by
  obtain ⟨h1,h2,h3,h4,h5,h6,h7,h8⟩:=zb8 r ch ((0,1),{W with st:=zfE W.st r 2})
  have key:∀(ch:List Nat) (a:Int×Int),(0≤a.1∧a.1≤most)→(1≤a.2∧a.2≤most)→(0≤(ch.foldl (fun a p=>(max a.1 (W.dg p),min most (a.2+W.zg p))) a).1∧(ch.foldl (fun a p=>(max a.1 (W.dg p),min most (a.2+W.zg p))) a).1≤most) ∧
      1≤(ch.foldl (fun a p=>(max a.1 (W.dg p),min most (a.2+W.zg p))) a).2∧(ch.foldl (fun a p=>(max a.1 (W.dg p),min most (a.2+W.zg p))) a).2≤most:=by
    intro ch
    induction ch with
    | nil=>intro a h1 h2;exact ⟨h1,h2⟩
    | cons p ch ih =>
      intro a h1 h2;have h9:=h p;simp only[most] at h1 h2 h9;exact ih _ ⟨by simp only;omega,by simp only[most];omega⟩ ⟨by simp only[most];omega,by simp only[most];omega⟩
  have hk:=key ch (0,1) (by simp[most]) (by simp[most]);have e:(zaR r ch W).1=ch.foldl (fun a p=>(max a.1 (W.dg p),min most (a.2+W.zg p))) (0,1):=h8;rw[e];refine ⟨hk.1,hk.2,fun x=>?_⟩;have hx:=h x;(have e1:(zaR r ch W).2.dg x=W.dg x:=by unfold WS.dg;rw[show (zaR r ch W).2.de=W.de from h2]);(have e2:(zaR r ch W).2.zg x=W.zg x:=by unfold WS.zg;rw[show (zaR r ch W).2.sz=W.sz from h3]);rw[e1,e2];exact hx
theorem end_c (S:CS) (W:WS) (hb:WBd W) (K:Nat→List Nat) (r nx:Nat) (hK:(K r).length≤8):ACalls Tryz.prog 162 [.ptr 12 0,.agg (frC K (r,nx))] (zai 0 (zaF (S)++zbe (W)++[])) 13 fun z os n=>(∃s:(FS×WS)×Unit,(s.1.1=S.F∧s.1.2=W.fin r (K r))∧z=(fun s:Unit=>.tup []) s.2∧os=zai 0 (zaF {S with F:=s.1.1}++zbe s.1.2++[]))∧n=13:=by
  refine ACalls.clean (C:=fun zr zo=>∃s:(FS×WS)×Unit,(s.1.1=S.F∧s.1.2=W.fin r (K r))∧zr=(fun s:Unit=>.tup []) s.2∧zo=zai 0 (zaF {S with F:=s.1.1}++zbe s.1.2++[])) ?_;refine zah Tryz.func162 (by kernel_rfl) rfl (by rw[Tryz.ntmps162];simp) (fun hm=>?_);simp only[Tryz.ntmps162,Tryz.results162,zi,zm,Nat.reduceAdd,Nat.reduceSub,zt,zq,zh,zj];simp only[zaF,zbe,zh,zj,zai,Nat.reduceAdd];obtain ⟨ch,hch⟩:∃ch,ch=K r:=⟨_,rfl⟩;rw[← hch] at hK ⊢;simp only[frC];rw[← hch];refine zab fun Y0 y0=>?_;refine zaa ?_;simp only[↓bO,go_sem,seval,zaj,zak,zat,zas,frC];refine y0 _ ?_;(try clear y0 Y0);refine zab fun Y0 y0=>?_;refine za8 6 mixed (by kernel_rfl) fun J0 j0=>?_;(iterate 5 (simp only[go_sem];refine zaD 1 fun Q0 q0=>?_;simp only[↓za1,↓dOp,↓bO,go_sem,seval,zaj,zak,zat,zas,frC];refine q0 _ ?_;clear q0 Q0));simp only[go_sem];simp only[↓za1,↓dOp,↓bO,go_sem,seval,zaj,zak,zat,zas,frC];refine j0 _ ?_;clear j0 J0;simp only[go_sem];simp only[↓bO,go_sem,seval,zaj,zak,zat,zas,frC];refine y0 _ ?_;(try clear y0 Y0);refine zab fun Y0 y0=>?_;refine zaa ?_;refine z8 1 fun Q0 q0=>?_;simp only[↓bO,go_sem,seval,zaj,zak,zat,zas,frC];refine q0 _ ?_;clear q0 Q0;simp only[go_sem];simp only[↓bO,go_sem,seval,zaj,zak,zat,zas,frC];refine y0 _ ?_;(try clear y0 Y0);refine zab fun Y0 y0=>?_;refine zab fun Y1 y1=>?_;refine zaa ?_;(iterate 3 (refine z8 1 fun Q0 q0=>?_;simp only[↓bO,go_sem,seval,zaj,zak,zat,zas,frC];refine q0 _ ?_;clear q0 Q0;simp only[go_sem]));simp only[↓bO,go_sem,seval,zaj,zak,zat,zas,frC];refine y1 _ ?_;(try clear y1 Y1);refine zav ?_;refine zaS (σ:=Nat) (mB 83 229433) (fun s=>s≤ch.length) (fun s=>[(4,.v (.int .i64 (zaR r (ch.take s) W).1.1)),(5,.v (.int .i64 (zaR r (ch.take s) W).1.2)),(17,.v (.int .i64 (s:Int)))]) (fun s=>[(8,.map (mC cI (zaR r (ch.take s) W).2.st)),(9,.map (mC cB (zaR r (ch.take s) W).2.cy)),(10,.map (mC cI (zaR r (ch.take s) W).2.de)),(11,.map (mC cI (zaR r (ch.take s) W).2.sz))]) (fun s=>ch.length-s) 0 (Nat.zero_le _) ?_ (fun s hs=>?_)
  ·
   simp only[zaA,zaB,zaq,zaz,mB,zc,zb,seval,List.take_zero,zaR,List.foldl_nil];exact zcm
  simp only[zaA,zaB,zaq,zaz,mB,zc,zb,seval];refine zab fun Y1 y1=>?_;refine zaa ?_;simp only[↓bO,go_sem,seval,zaj,zak,zat,zas,frC];refine y1 _ ?_;(try clear y1 Y1);refine zab fun Y1 y1=>?_;refine zan rfl (fun hb18=>?_) (fun hb18=>?_)
  ·
   (have hk:s<ch.length:=by simpa using hb18);obtain ⟨p,hp⟩:∃p,ch[s]?=some p:=⟨_,zd hk⟩;have hbd:=zeb hb r (ch.take s);have hbp:=hbd.2.2 p;simp only[most,WS.dg,WS.zg] at hbd hbp;have hw1:IntKind.i64.wrap ((s:Int)+1)=(s:Int)+1:=zaT (by omega) (by omega);have hw2:IntKind.i64.wrap ((zaR r (ch.take s) W).1.2+(zcx (zaR r (ch.take s) W).2.sz (p:Int)).getD 0)=(zaR r (ch.take s) W).1.2+(zcx (zaR r (ch.take s) W).2.sz (p:Int)).getD 0:=zaT (by omega) (by omega);refine zar ?_;(try simp only[zaf,zad,zac]);refine y1 _ ?_;(try clear y1 Y1);refine zab fun Y1 y1=>?_;refine zav ?_;refine zab fun Y2 y2=>?_;refine zaa ?_;(iterate 3 (refine z8 1 fun Q0 q0=>?_;simp only[↓bO,go_sem,seval,zaj,zak,zat,zas,frC,hk,gM hp,zaw,hw1,hw2,zaI,most,WS.dg,WS.zg,WS.cg,za];refine q0 _ ?_;clear q0 Q0;simp only[go_sem]));simp only[↓bO,go_sem,seval,zaj,zak,zat,zas,frC,hk,gM hp,zaw,hw1,hw2,zaI,most,WS.dg,WS.zg,WS.cg,za];refine y2 _ ?_;(try clear y2 Y2);refine zab fun Y2 y2=>?_;refine zaP [(12,2,[.map 10]),(14,0,[.ptr 0 0,.v (.int .i64 (p:Int))])] 10 rfl mixed (⟨⟨_,_,rfl,by simp,rfl,trivial,trivial⟩,⟨_,_,rfl,by simp,rfl,trivial,trivial,trivial⟩,trivial⟩) rfl ?_;dsimp only;refine zae 0 rfl (by kernel_rfl) (by kernel_rfl) (by kernel_rfl) (fun _ _ h=>h) fun Q0 q0=>?_;simp only[↓bO,go_sem,seval,zaj,zak,zat,zas,frC,hk,gM hp,zaw,hw1,hw2,zaI,most,WS.dg,WS.zg,WS.cg,za];refine q0 _ ?_;clear q0 Q0;refine zae 1 rfl (by kernel_rfl) (by kernel_rfl) (by kernel_rfl) (fun _ _ h=>h) fun Q0 q0=>?_;simp only[↓bO,go_sem,seval,zaj,zak,zat,zas,frC,hk,gM hp,zaw,hw1,hw2,zaI,most,WS.dg,WS.zg,WS.cg,za];refine q0 _ ?_;clear q0 Q0;refine zae 2 rfl (by kernel_rfl) (by kernel_rfl) (by kernel_rfl) (fun _ _ h=>h) fun Q0 q0=>?_;simp only[↓bO,go_sem,seval,zaj,zak,zat,zas,frC,hk,gM hp,zaw,hw1,hw2,zaI,most,WS.dg,WS.zg,WS.cg,za];refine q0 _ ?_;clear q0 Q0;refine zae 3 rfl (by kernel_rfl) (by kernel_rfl) (by kernel_rfl) (fun _ _ h=>h) fun Q0 q0=>?_;simp only[↓bO,go_sem,seval,zaj,zak,zat,zas,frC,hk,gM hp,zaw,hw1,hw2,zaI,most,WS.dg,WS.zg,WS.cg,za];refine q0 _ ?_;clear q0 Q0;refine zay 4 0 rfl rfl (by kernel_rfl) (by kernel_rfl) (by kernel_rfl) (fun _ _ h=>h) fun Q0 q0=>?_;simp only[↓bO,go_sem,seval,zaj,zak,zat,zas,frC,hk,gM hp,zaw,hw1,hw2,zaI,most,WS.dg,WS.zg,WS.cg,za];refine q0 _ ?_;clear q0 Q0;refine zay 5 1 rfl rfl (by kernel_rfl) (by kernel_rfl) (by kernel_rfl) (fun _ _ h=>h) fun Q0 q0=>?_;simp only[↓bO,go_sem,seval,zaj,zak,zat,zas,frC,hk,gM hp,zaw,hw1,hw2,zaI,most,WS.dg,WS.zg,WS.cg,za];refine q0 _ ?_;clear q0 Q0;refine zag (i:=6) (by kernel_rfl) ?_
   ·
    refine zal rfl rfl fun Q0 q0=>?_;simp only[↓bO,go_sem,seval,zaj,zak,zat,zas,frC,hk,gM hp,zaw,hw1,hw2,zaI,most,WS.dg,WS.zg,WS.cg,za];refine CCalls.atP (zc6 (S) (p:Int)) (i0:=0) (i1:=1) (i2:=2) (i3:=3) (i4:=4) (i5:=5) (i6:=6) (i7:=7) (by exact ⟨.agg ⟨.ptr rfl,.v _,trivial⟩,trivial⟩) (fun _=>by exact .v _) (by decide) (by simp) ⟨rfl,rfl,rfl,rfl,rfl,rfl,rfl,rfl,trivial⟩ (fun Z27 u27 hZ27=>?_);(try dsimp only at hZ27);simp only[zaL,zu,zy,zx,zaq,zaz,Nat.reduceEqDiff,↓reduceIte];obtain rfl:S=Z27:=hZ27.symm;(try simp only[bS,bA]);refine q0 _ ⟨⟨⟨_,_,rfl,by simp,rfl,trivial,trivial⟩,⟨_,_,rfl,by simp,rfl,trivial,trivial,trivial⟩,trivial⟩,?_⟩;clear q0 Q0;refine zag (i:=7) (by kernel_rfl) ?_
    ·
     refine zal rfl rfl fun Q0 q0=>?_;simp only[↓bO,go_sem,seval,zaj,zak,zat,zas,frC,hk,gM hp,zaw,hw1,hw2,zaI,most,WS.dg,WS.zg,WS.cg,za];refine q0 _ ⟨⟨⟨_,_,rfl,by simp,rfl,trivial,trivial⟩,⟨_,_,rfl,by simp,rfl,trivial,trivial,trivial⟩,trivial⟩,?_⟩;clear q0 Q0;refine zag (i:=8) (by kernel_rfl) ?_
     ·
      refine zal rfl rfl fun Q0 q0=>?_;simp only[↓bO,go_sem,seval,zaj,zak,zat,zas,frC,hk,gM hp,zaw,hw1,hw2,zaI,most,WS.dg,WS.zg,WS.cg,za];refine q0 _ ⟨⟨⟨_,_,rfl,by simp,rfl,trivial,trivial⟩,⟨_,_,rfl,by simp,rfl,trivial,trivial,trivial⟩,trivial⟩,?_⟩;clear q0 Q0;refine zae 9 rfl (by kernel_rfl) (by kernel_rfl) (by kernel_rfl) (fun _ _ h=>h) fun Q0 q0=>?_;simp only[↓bO,go_sem,seval,zaj,zak,zat,zas,frC,hk,gM hp,zaw,hw1,hw2,zaI,most,WS.dg,WS.zg,WS.cg,za];refine q0 _ ?_;clear q0 Q0;refine zaG (by kernel_rfl) ?_;simp only[zaf,zad,zac];refine y2 _ ?_;(try clear y2 Y2);refine zab fun Y2 y2=>?_;refine zaP [(12,3,[.map 11]),(14,0,[.ptr 0 0,.v (.int .i64 (p:Int))])] 11 rfl mixed (⟨⟨_,_,rfl,by simp,rfl,trivial,trivial⟩,⟨_,_,rfl,by simp,rfl,trivial,trivial,trivial⟩,trivial⟩) rfl ?_;dsimp only;refine zae 0 rfl (by kernel_rfl) (by kernel_rfl) (by kernel_rfl) (fun _ _ h=>h) fun Q0 q0=>?_;simp only[↓bO,go_sem,seval,zaj,zak,zat,zas,frC,hk,gM hp,zaw,hw1,hw2,zaI,most,WS.dg,WS.zg,WS.cg,za];refine q0 _ ?_;clear q0 Q0;refine zae 1 rfl (by kernel_rfl) (by kernel_rfl) (by kernel_rfl) (fun _ _ h=>h) fun Q0 q0=>?_;simp only[↓bO,go_sem,seval,zaj,zak,zat,zas,frC,hk,gM hp,zaw,hw1,hw2,zaI,most,WS.dg,WS.zg,WS.cg,za];refine q0 _ ?_;clear q0 Q0;refine zae 2 rfl (by kernel_rfl) (by kernel_rfl) (by kernel_rfl) (fun _ _ h=>h) fun Q0 q0=>?_;simp only[↓bO,go_sem,seval,zaj,zak,zat,zas,frC,hk,gM hp,zaw,hw1,hw2,zaI,most,WS.dg,WS.zg,WS.cg,za];refine q0 _ ?_;clear q0 Q0;refine zae 3 rfl (by kernel_rfl) (by kernel_rfl) (by kernel_rfl) (fun _ _ h=>h) fun Q0 q0=>?_;simp only[↓bO,go_sem,seval,zaj,zak,zat,zas,frC,hk,gM hp,zaw,hw1,hw2,zaI,most,WS.dg,WS.zg,WS.cg,za];refine q0 _ ?_;clear q0 Q0;refine zay 4 0 rfl rfl (by kernel_rfl) (by kernel_rfl) (by kernel_rfl) (fun _ _ h=>h) fun Q0 q0=>?_;simp only[↓bO,go_sem,seval,zaj,zak,zat,zas,frC,hk,gM hp,zaw,hw1,hw2,zaI,most,WS.dg,WS.zg,WS.cg,za];refine q0 _ ?_;clear q0 Q0;refine zay 5 1 rfl rfl (by kernel_rfl) (by kernel_rfl) (by kernel_rfl) (fun _ _ h=>h) fun Q0 q0=>?_;simp only[↓bO,go_sem,seval,zaj,zak,zat,zas,frC,hk,gM hp,zaw,hw1,hw2,zaI,most,WS.dg,WS.zg,WS.cg,za];refine q0 _ ?_;clear q0 Q0;refine zag (i:=6) (by kernel_rfl) ?_
      ·
       refine zal rfl rfl fun Q0 q0=>?_;simp only[↓bO,go_sem,seval,zaj,zak,zat,zas,frC,hk,gM hp,zaw,hw1,hw2,zaI,most,WS.dg,WS.zg,WS.cg,za];refine CCalls.atP (zc6 (S) (p:Int)) (i0:=0) (i1:=1) (i2:=2) (i3:=3) (i4:=4) (i5:=5) (i6:=6) (i7:=7) (by exact ⟨.agg ⟨.ptr rfl,.v _,trivial⟩,trivial⟩) (fun _=>by exact .v _) (by decide) (by simp) ⟨rfl,rfl,rfl,rfl,rfl,rfl,rfl,rfl,trivial⟩ (fun Z36 u36 hZ36=>?_);(try dsimp only at hZ36);simp only[zaL,zu,zy,zx,zaq,zaz,Nat.reduceEqDiff,↓reduceIte];obtain rfl:S=Z36:=hZ36.symm;(try simp only[bS,bA]);refine q0 _ ⟨⟨⟨_,_,rfl,by simp,rfl,trivial,trivial⟩,⟨_,_,rfl,by simp,rfl,trivial,trivial,trivial⟩,trivial⟩,?_⟩;clear q0 Q0;refine zag (i:=7) (by kernel_rfl) ?_
       ·
        refine zal rfl rfl fun Q0 q0=>?_;simp only[↓bO,go_sem,seval,zaj,zak,zat,zas,frC,hk,gM hp,zaw,hw1,hw2,zaI,most,WS.dg,WS.zg,WS.cg,za];refine q0 _ ⟨⟨⟨_,_,rfl,by simp,rfl,trivial,trivial⟩,⟨_,_,rfl,by simp,rfl,trivial,trivial,trivial⟩,trivial⟩,?_⟩;clear q0 Q0;refine zag (i:=8) (by kernel_rfl) ?_
        ·
         refine zal rfl rfl fun Q0 q0=>?_;simp only[↓bO,go_sem,seval,zaj,zak,zat,zas,frC,hk,gM hp,zaw,hw1,hw2,zaI,most,WS.dg,WS.zg,WS.cg,za];refine q0 _ ⟨⟨⟨_,_,rfl,by simp,rfl,trivial,trivial⟩,⟨_,_,rfl,by simp,rfl,trivial,trivial,trivial⟩,trivial⟩,?_⟩;clear q0 Q0;refine zag (i:=9) (by kernel_rfl) ?_
         ·
          refine zal rfl rfl fun Q0 q0=>?_;simp only[↓bO,go_sem,seval,zaj,zak,zat,zas,frC,hk,gM hp,zaw,hw1,hw2,zaI,most,WS.dg,WS.zg,WS.cg,za];refine q0 _ ⟨⟨⟨_,_,rfl,by simp,rfl,trivial,trivial⟩,⟨_,_,rfl,by simp,rfl,trivial,trivial,trivial⟩,trivial⟩,?_⟩;clear q0 Q0;refine zae 10 rfl (by kernel_rfl) (by kernel_rfl) (by kernel_rfl) (fun _ _ h=>h) fun Q0 q0=>?_;simp only[↓bO,go_sem,seval,zaj,zak,zat,zas,frC,hk,gM hp,zaw,hw1,hw2,zaI,most,WS.dg,WS.zg,WS.cg,za];refine q0 _ ?_;clear q0 Q0;refine zaG (by kernel_rfl) ?_;simp only[zaf,zad,zac];refine y2 _ ?_;(try clear y2 Y2);refine zaP [(12,1,[.map 9]),(13,0,[.v (.int .i64 (r:Int))]),(14,0,[.ptr 0 0,.v (.int .i64 (p:Int))])] 23 rfl mixed (⟨⟨_,_,rfl,by simp,rfl,trivial,trivial⟩,⟨_,_,rfl,by simp,rfl,trivial,trivial⟩,⟨_,_,rfl,by simp,rfl,trivial,trivial,trivial⟩,trivial⟩) rfl ?_;dsimp only;refine zae 0 rfl (by kernel_rfl) (by kernel_rfl) (by kernel_rfl) (fun _ _ h=>h) fun Q0 q0=>?_;simp only[↓bO,go_sem,seval,zaj,zak,zat,zas,frC,hk,gM hp,zaw,hw1,hw2,zaI,most,WS.dg,WS.zg,WS.cg,za];refine q0 _ ?_;clear q0 Q0;refine zae 1 rfl (by kernel_rfl) (by kernel_rfl) (by kernel_rfl) (fun _ _ h=>h) fun Q0 q0=>?_;simp only[↓bO,go_sem,seval,zaj,zak,zat,zas,frC,hk,gM hp,zaw,hw1,hw2,zaI,most,WS.dg,WS.zg,WS.cg,za];refine q0 _ ?_;clear q0 Q0;refine zae 2 rfl (by kernel_rfl) (by kernel_rfl) (by kernel_rfl) (fun _ _ h=>h) fun Q0 q0=>?_;simp only[↓bO,go_sem,seval,zaj,zak,zat,zas,frC,hk,gM hp,zaw,hw1,hw2,zaI,most,WS.dg,WS.zg,WS.cg,za];refine q0 _ ?_;clear q0 Q0;refine zay 3 0 rfl rfl (by kernel_rfl) (by kernel_rfl) (by kernel_rfl) (fun _ _ h=>h) fun Q0 q0=>?_;simp only[↓bO,go_sem,seval,zaj,zak,zat,zas,frC,hk,gM hp,zaw,hw1,hw2,zaI,most,WS.dg,WS.zg,WS.cg,za];refine q0 _ ?_;clear q0 Q0;refine zae 4 rfl (by kernel_rfl) (by kernel_rfl) (by kernel_rfl) (fun _ _ h=>h) fun Q0 q0=>?_;simp only[↓bO,go_sem,seval,zaj,zak,zat,zas,frC,hk,gM hp,zaw,hw1,hw2,zaI,most,WS.dg,WS.zg,WS.cg,za];refine q0 _ ?_;clear q0 Q0;refine zay 5 1 rfl rfl (by kernel_rfl) (by kernel_rfl) (by kernel_rfl) (fun _ _ h=>h) fun Q0 q0=>?_;simp only[↓bO,go_sem,seval,zaj,zak,zat,zas,frC,hk,gM hp,zaw,hw1,hw2,zaI,most,WS.dg,WS.zg,WS.cg,za];refine q0 _ ?_;clear q0 Q0;refine zae 6 rfl (by kernel_rfl) (by kernel_rfl) (by kernel_rfl) (fun _ _ h=>h) fun Q0 q0=>?_;simp only[↓bO,go_sem,seval,zaj,zak,zat,zas,frC,hk,gM hp,zaw,hw1,hw2,zaI,most,WS.dg,WS.zg,WS.cg,za];refine q0 _ ?_;clear q0 Q0;refine zae 7 rfl (by kernel_rfl) (by kernel_rfl) (by kernel_rfl) (fun _ _ h=>h) fun Q0 q0=>?_;simp only[↓bO,go_sem,seval,zaj,zak,zat,zas,frC,hk,gM hp,zaw,hw1,hw2,zaI,most,WS.dg,WS.zg,WS.cg,za];refine q0 _ ?_;clear q0 Q0;refine zae 8 rfl (by kernel_rfl) (by kernel_rfl) (by kernel_rfl) (fun _ _ h=>h) fun Q0 q0=>?_;simp only[↓bO,go_sem,seval,zaj,zak,zat,zas,frC,hk,gM hp,zaw,hw1,hw2,zaI,most,WS.dg,WS.zg,WS.cg,za];refine q0 _ ?_;clear q0 Q0;refine zay 9 0 rfl rfl (by kernel_rfl) (by kernel_rfl) (by kernel_rfl) (fun _ _ h=>h) fun Q0 q0=>?_;simp only[↓bO,go_sem,seval,zaj,zak,zat,zas,frC,hk,gM hp,zaw,hw1,hw2,zaI,most,WS.dg,WS.zg,WS.cg,za];refine q0 _ ?_;clear q0 Q0;refine zae 10 rfl (by kernel_rfl) (by kernel_rfl) (by kernel_rfl) (fun _ _ h=>h) fun Q0 q0=>?_;simp only[↓bO,go_sem,seval,zaj,zak,zat,zas,frC,hk,gM hp,zaw,hw1,hw2,zaI,most,WS.dg,WS.zg,WS.cg,za];refine q0 _ ?_;clear q0 Q0;refine zay 11 1 rfl rfl (by kernel_rfl) (by kernel_rfl) (by kernel_rfl) (fun _ _ h=>h) fun Q0 q0=>?_;simp only[↓bO,go_sem,seval,zaj,zak,zat,zas,frC,hk,gM hp,zaw,hw1,hw2,zaI,most,WS.dg,WS.zg,WS.cg,za];refine q0 _ ?_;clear q0 Q0;refine zag (i:=12) (by kernel_rfl) ?_
          ·
           refine zal rfl rfl fun Q0 q0=>?_;simp only[↓bO,go_sem,seval,zaj,zak,zat,zas,frC,hk,gM hp,zaw,hw1,hw2,zaI,most,WS.dg,WS.zg,WS.cg,za];refine q0 _ ⟨⟨⟨_,_,rfl,by simp,rfl,trivial,trivial⟩,⟨_,_,rfl,by simp,rfl,trivial,trivial⟩,⟨_,_,rfl,by simp,rfl,trivial,trivial,trivial⟩,trivial⟩,?_⟩;clear q0 Q0;refine zae 13 rfl (by kernel_rfl) (by kernel_rfl) (by kernel_rfl) (fun _ _ h=>h) fun Q0 q0=>?_;simp only[↓bO,go_sem,seval,zaj,zak,zat,zas,frC,hk,gM hp,zaw,hw1,hw2,zaI,most,WS.dg,WS.zg,WS.cg,za];refine q0 _ ?_;clear q0 Q0;refine zg5 53 rfl (fun hc53=>?_) (fun hc53=>?_)
           ·
            simp only[zc,zb];(have hor:(WS.cg (zaR r (ch.take s) W).2 r||WS.cg (zaR r (ch.take s) W).2 p)=true:=by (have h9:WS.cg (zaR r (ch.take s) W).2 r=true:=hc53;rw[h9];rfl));refine zbh 14 rfl (by kernel_rfl) (by kernel_rfl) (by kernel_rfl) (fun _ _ h=>h) (by kernel_rfl) ?_;simp only[bS,bA];refine zbh 15 rfl (by kernel_rfl) (by kernel_rfl) (by kernel_rfl) (fun _ _ h=>h) (by kernel_rfl) ?_;simp only[bS,bA];refine zbh 16 rfl (by kernel_rfl) (by kernel_rfl) (by kernel_rfl) (fun _ _ h=>h) (by kernel_rfl) ?_;simp only[bS,bA];refine zbh 17 rfl (by kernel_rfl) (by kernel_rfl) (by kernel_rfl) (fun _ _ h=>h) (by kernel_rfl) ?_;simp only[bS,bA];refine zbh 18 rfl (by kernel_rfl) (by kernel_rfl) (by kernel_rfl) (fun _ _ h=>h) (by kernel_rfl) ?_;simp only[bS,bA];refine zbh 19 rfl (by kernel_rfl) (by kernel_rfl) (by kernel_rfl) (fun _ _ h=>h) (by kernel_rfl) ?_;simp only[bS,bA];refine zbh 20 rfl (by kernel_rfl) (by kernel_rfl) (by kernel_rfl) (fun _ _ h=>h) (by kernel_rfl) ?_;simp only[bS,bA];refine zag (i:=21) (by kernel_rfl) ?_
            ·
             refine zal rfl rfl fun Q0 q0=>?_;simp only[↓bO,go_sem,seval,zaj,zak,zat,zas,frC,hk,gM hp,zaw,hw1,hw2,zaI,most,WS.dg,WS.zg,WS.cg,za,hor];refine q0 _ ⟨⟨⟨_,_,rfl,by simp,rfl,trivial,trivial⟩,⟨_,_,rfl,by simp,rfl,trivial,trivial⟩,⟨_,_,rfl,by simp,rfl,trivial,trivial,trivial⟩,trivial⟩,?_⟩;clear q0 Q0;refine zag (i:=22) (by kernel_rfl) ?_
             ·
              refine zal rfl rfl fun Q0 q0=>?_;simp only[↓bO,go_sem,seval,zaj,zak,zat,zas,frC,hk,gM hp,zaw,hw1,hw2,zaI,most,WS.dg,WS.zg,WS.cg,za,hor];refine q0 _ ⟨⟨⟨_,_,rfl,by simp,rfl,trivial,trivial⟩,⟨_,_,rfl,by simp,rfl,trivial,trivial⟩,⟨_,_,rfl,by simp,rfl,trivial,trivial,trivial⟩,trivial⟩,?_⟩;clear q0 Q0;refine zaG (by kernel_rfl) ?_;simp only[zaf,zad,zac];refine y1 _ ?_;(try clear y1 Y1);refine zaa ?_;refine z8 1 fun Q0 q0=>?_;simp only[↓bO,go_sem,seval,zaj,zak,zat,zas,frC,hk,gM hp,zaw,hw1,hw2,zaI,most,WS.dg,WS.zg,WS.cg,za,hor];refine q0 _ ?_;clear q0 Q0;simp only[go_sem];simp only[↓bO,go_sem,seval,zaj,zak,zat,zas,frC,hk,gM hp,zaw,hw1,hw2,zaI,most,WS.dg,WS.zg,WS.cg,za,hor];refine ⟨(s+1),(by omega),by omega,?_⟩;simp only[zaA,zaB,zaq,zaz,mB,zc,zb,seval,za,zL,zP];rw[zeI hp];simp only[zaI,hor,WS.dg,WS.zg,most];refine Weak.sub ?_ ⟨rfl,rfl,rfl,rfl,rfl,rfl,rfl,rfl,rfl,rfl,rfl,rfl,rfl,rfl,trivial⟩ (by first | omega | (simp only;omega)) (by first | omega | (simp only;omega)) ?_ ?_;(· simp only[go_sem,Le.refl,Le.any]);(· repeat' first | exact trivial | exact .any _ | exact .ptr (by omega) | exact .own (by omega) | exact .v _ _ | exact Und.data (EqT.dataSl _) | exact Und.parts (by omega) _ | (refine ⟨?_,?_⟩));· repeat' first | exact trivial | (with_reducible omega) | exact .any _ | exact .ptr (by omega) | exact .own (by omega) | exact .v _ _ | exact .map (by omega) | exact Und.oslG (by omega) | exact Und.rowI (zbg _) | exact Und.rowI (za2 _) | exact (fun p hp=>.data (zbb _ p hp)) | exact Und.parts (by omega) _ | exact (fun p hp=>.data (za5 _ p hp)) | exact (fun p hp=>.data (zbJ _ p hp)) | (refine ⟨?_,?_⟩)
           ·
            simp only[zc,zb];(have hor:(WS.cg (zaR r (ch.take s) W).2 r||WS.cg (zaR r (ch.take s) W).2 p)=WS.cg (zaR r (ch.take s) W).2 p:=by (have h9:WS.cg (zaR r (ch.take s) W).2 r=false:=hc53;rw[h9];rfl));refine zb2 14 rfl (by kernel_rfl) (by kernel_rfl) (by kernel_rfl) (fun _ _ h=>h) (by kernel_rfl) fun Q0 q0=>?_;simp only[↓bO,go_sem,seval,zaj,zak,zat,zas,frC,hk,gM hp,zaw,hw1,hw2,zaI,most,WS.dg,WS.zg,WS.cg,za,hor];refine q0 _ ?_;clear q0 Q0;refine zb2 15 rfl (by kernel_rfl) (by kernel_rfl) (by kernel_rfl) (fun _ _ h=>h) (by kernel_rfl) fun Q0 q0=>?_;simp only[↓bO,go_sem,seval,zaj,zak,zat,zas,frC,hk,gM hp,zaw,hw1,hw2,zaI,most,WS.dg,WS.zg,WS.cg,za,hor];refine q0 _ ?_;clear q0 Q0;refine zb2 16 rfl (by kernel_rfl) (by kernel_rfl) (by kernel_rfl) (fun _ _ h=>h) (by kernel_rfl) fun Q0 q0=>?_;simp only[↓bO,go_sem,seval,zaj,zak,zat,zas,frC,hk,gM hp,zaw,hw1,hw2,zaI,most,WS.dg,WS.zg,WS.cg,za,hor];refine q0 _ ?_;clear q0 Q0;refine zfu 17 0 rfl rfl (by kernel_rfl) (by kernel_rfl) (by kernel_rfl) (fun _ _ h=>h) (by kernel_rfl) fun Q0 q0=>?_;simp only[↓bO,go_sem,seval,zaj,zak,zat,zas,frC,hk,gM hp,zaw,hw1,hw2,zaI,most,WS.dg,WS.zg,WS.cg,za,hor];refine q0 _ ?_;clear q0 Q0;refine zfu 18 2 rfl rfl (by kernel_rfl) (by kernel_rfl) (by kernel_rfl) (fun _ _ h=>h) (by kernel_rfl) fun Q0 q0=>?_;simp only[↓bO,go_sem,seval,zaj,zak,zat,zas,frC,hk,gM hp,zaw,hw1,hw2,zaI,most,WS.dg,WS.zg,WS.cg,za,hor];refine q0 _ ?_;clear q0 Q0;refine zag (i:=19) (by kernel_rfl) ?_
            ·
             refine aAt_if rfl fun Q0 q0=>?_;simp only[↓bO,go_sem,seval,zaj,zak,zat,zas,frC,hk,gM hp,zaw,hw1,hw2,zaI,most,WS.dg,WS.zg,WS.cg,za,hor];refine CCalls.atP (zc6 (S) (p:Int)) (i0:=0) (i1:=1) (i2:=2) (i3:=3) (i4:=4) (i5:=5) (i6:=6) (i7:=7) (by exact ⟨.agg ⟨.ptr rfl,.v _,trivial⟩,trivial⟩) (fun _=>by exact .v _) (by decide) (by simp) ⟨rfl,rfl,rfl,rfl,rfl,rfl,rfl,rfl,trivial⟩ (fun Z59 u59 hZ59=>?_);(try dsimp only at hZ59);simp only[zaL,zu,zy,zx,zaq,zaz,Nat.reduceEqDiff,↓reduceIte];obtain rfl:S=Z59:=hZ59.symm;(try simp only[bS,bA]);refine q0 _ ⟨⟨⟨_,_,rfl,by simp,rfl,trivial,trivial⟩,⟨_,_,rfl,by simp,rfl,trivial,trivial⟩,⟨_,_,rfl,by simp,rfl,trivial,trivial,trivial⟩,trivial⟩,?_⟩;clear q0 Q0;refine zag (i:=20) (by kernel_rfl) ?_
             ·
              refine aAt_if rfl fun Q0 q0=>?_;simp only[↓bO,go_sem,seval,zaj,zak,zat,zas,frC,hk,gM hp,zaw,hw1,hw2,zaI,most,WS.dg,WS.zg,WS.cg,za,hor];refine q0 _ ⟨⟨⟨_,_,rfl,by simp,rfl,trivial,trivial⟩,⟨_,_,rfl,by simp,rfl,trivial,trivial⟩,⟨_,_,rfl,by simp,rfl,trivial,trivial,trivial⟩,trivial⟩,?_⟩;clear q0 Q0;refine zag (i:=21) (by kernel_rfl) ?_
              ·
               refine zal rfl rfl fun Q0 q0=>?_;simp only[↓bO,go_sem,seval,zaj,zak,zat,zas,frC,hk,gM hp,zaw,hw1,hw2,zaI,most,WS.dg,WS.zg,WS.cg,za,hor];refine q0 _ ⟨⟨⟨_,_,rfl,by simp,rfl,trivial,trivial⟩,⟨_,_,rfl,by simp,rfl,trivial,trivial⟩,⟨_,_,rfl,by simp,rfl,trivial,trivial,trivial⟩,trivial⟩,?_⟩;clear q0 Q0;refine zag (i:=22) (by kernel_rfl) ?_
               ·
                refine zal rfl rfl fun Q0 q0=>?_;simp only[↓bO,go_sem,seval,zaj,zak,zat,zas,frC,hk,gM hp,zaw,hw1,hw2,zaI,most,WS.dg,WS.zg,WS.cg,za,hor];refine q0 _ ⟨⟨⟨_,_,rfl,by simp,rfl,trivial,trivial⟩,⟨_,_,rfl,by simp,rfl,trivial,trivial⟩,⟨_,_,rfl,by simp,rfl,trivial,trivial,trivial⟩,trivial⟩,?_⟩;clear q0 Q0;refine zaG (by kernel_rfl) ?_;simp only[zaf,zad,zac];refine y1 _ ?_;(try clear y1 Y1);refine zaa ?_;refine z8 1 fun Q0 q0=>?_;simp only[↓bO,go_sem,seval,zaj,zak,zat,zas,frC,hk,gM hp,zaw,hw1,hw2,zaI,most,WS.dg,WS.zg,WS.cg,za,hor];refine q0 _ ?_;clear q0 Q0;simp only[go_sem];simp only[↓bO,go_sem,seval,zaj,zak,zat,zas,frC,hk,gM hp,zaw,hw1,hw2,zaI,most,WS.dg,WS.zg,WS.cg,za,hor];refine ⟨(s+1),(by omega),by omega,?_⟩;simp only[zaA,zaB,zaq,zaz,mB,zc,zb,seval,za,zL,zP];rw[zeI hp];simp only[zaI,hor,WS.dg,WS.zg,most];refine Weak.sub ?_ ⟨rfl,rfl,rfl,rfl,rfl,rfl,rfl,rfl,rfl,rfl,rfl,rfl,rfl,rfl,trivial⟩ (by first | omega | (simp only;omega)) (by first | omega | (simp only;omega)) ?_ ?_;(· simp only[go_sem,Le.refl,Le.any]);(· repeat' first | exact trivial | exact .any _ | exact .ptr (by omega) | exact .own (by omega) | exact .v _ _ | exact Und.data (EqT.dataSl _) | exact Und.parts (by omega) _ | (refine ⟨?_,?_⟩));· repeat' first | exact trivial | (with_reducible omega) | exact .any _ | exact .ptr (by omega) | exact .own (by omega) | exact .v _ _ | exact .map (by omega) | exact Und.oslG (by omega) | exact Und.rowI (zbg _) | exact Und.rowI (za2 _) | exact (fun p hp=>.data (zbb _ p hp)) | exact Und.parts (by omega) _ | exact (fun p hp=>.data (za5 _ p hp)) | exact (fun p hp=>.data (zbJ _ p hp)) | (refine ⟨?_,?_⟩)
  ·
   (have hk:s=ch.length:=by simp at hb18;omega);have hbd:=zeb hb r ch;simp only[most] at hbd;have hw3:IntKind.i64.wrap ((zaR r ch W).1.1+1)=(zaR r ch W).1.1+1:=zaT (by omega) (by omega);(have hes:zaR r (ch.take s) W=zaR r ch W:=by rw[hk,z6]);rw[hes];have hes1:(zaR r ch W).2.steps=W.steps:=(zb8 r ch _).2.2.2.1;have hes2:(zaR r ch W).2.bad=W.bad:=(zb8 r ch _).2.2.2.2.1;refine zaV ?_;simp only[zaf,zad,zac,bA,Nat.reduceEqDiff,↓reduceIte];refine y0 _ ?_;(try clear y0 Y0);refine zaP [(12,2,[.map 10]),(12,3,[.map 11]),(13,0,[.v (.int .i64 (r:Int))])] 22 rfl mixed (⟨⟨_,_,rfl,by simp,rfl,trivial,trivial⟩,⟨_,_,rfl,by simp,rfl,trivial,trivial⟩,⟨_,_,rfl,by simp,rfl,trivial,trivial⟩,trivial⟩) rfl ?_;dsimp only;refine zae 0 rfl (by kernel_rfl) (by kernel_rfl) (by kernel_rfl) (fun _ _ h=>h) fun Q0 q0=>?_;simp only[↓bO,go_sem,seval,zaj,zak,zat,zas,frC,hw3];refine q0 _ ?_;clear q0 Q0;refine zae 1 rfl (by kernel_rfl) (by kernel_rfl) (by kernel_rfl) (fun _ _ h=>h) fun Q0 q0=>?_;simp only[↓bO,go_sem,seval,zaj,zak,zat,zas,frC,hw3];refine q0 _ ?_;clear q0 Q0;refine zae 2 rfl (by kernel_rfl) (by kernel_rfl) (by kernel_rfl) (fun _ _ h=>h) fun Q0 q0=>?_;simp only[↓bO,go_sem,seval,zaj,zak,zat,zas,frC,hw3];refine q0 _ ?_;clear q0 Q0;refine zay 3 0 rfl rfl (by kernel_rfl) (by kernel_rfl) (by kernel_rfl) (fun _ _ h=>h) fun Q0 q0=>?_;simp only[↓bO,go_sem,seval,zaj,zak,zat,zas,frC,hw3];refine q0 _ ?_;clear q0 Q0;refine zae 4 rfl (by kernel_rfl) (by kernel_rfl) (by kernel_rfl) (fun _ _ h=>h) fun Q0 q0=>?_;simp only[↓bO,go_sem,seval,zaj,zak,zat,zas,frC,hw3];refine q0 _ ?_;clear q0 Q0;refine zay 5 2 rfl rfl (by kernel_rfl) (by kernel_rfl) (by kernel_rfl) (fun _ _ h=>h) fun Q0 q0=>?_;simp only[↓bO,go_sem,seval,zaj,zak,zat,zas,frC,hw3];refine q0 _ ?_;clear q0 Q0;refine zae 6 rfl (by kernel_rfl) (by kernel_rfl) (by kernel_rfl) (fun _ _ h=>h) fun Q0 q0=>?_;simp only[↓bO,go_sem,seval,zaj,zak,zat,zas,frC,hw3];refine q0 _ ?_;clear q0 Q0;refine zae 7 rfl (by kernel_rfl) (by kernel_rfl) (by kernel_rfl) (fun _ _ h=>h) fun Q0 q0=>?_;simp only[↓bO,go_sem,seval,zaj,zak,zat,zas,frC,hw3];refine q0 _ ?_;clear q0 Q0;refine zae 8 rfl (by kernel_rfl) (by kernel_rfl) (by kernel_rfl) (fun _ _ h=>h) fun Q0 q0=>?_;simp only[↓bO,go_sem,seval,zaj,zak,zat,zas,frC,hw3];refine q0 _ ?_;clear q0 Q0;refine zay 9 1 rfl rfl (by kernel_rfl) (by kernel_rfl) (by kernel_rfl) (fun _ _ h=>h) fun Q0 q0=>?_;simp only[↓bO,go_sem,seval,zaj,zak,zat,zas,frC,hw3];refine q0 _ ?_;clear q0 Q0;refine zae 10 rfl (by kernel_rfl) (by kernel_rfl) (by kernel_rfl) (fun _ _ h=>h) fun Q0 q0=>?_;simp only[↓bO,go_sem,seval,zaj,zak,zat,zas,frC,hw3];refine q0 _ ?_;clear q0 Q0;refine zay 11 2 rfl rfl (by kernel_rfl) (by kernel_rfl) (by kernel_rfl) (fun _ _ h=>h) fun Q0 q0=>?_;simp only[↓bO,go_sem,seval,zaj,zak,zat,zas,frC,hw3];refine q0 _ ?_;clear q0 Q0;refine zae 12 rfl (by kernel_rfl) (by kernel_rfl) (by kernel_rfl) (fun _ _ h=>h) fun Q0 q0=>?_;simp only[↓bO,go_sem,seval,zaj,zak,zat,zas,frC,hw3];refine q0 _ ?_;clear q0 Q0;refine zf5 13 rfl rfl (by kernel_rfl) (by kernel_rfl) (by kernel_rfl) (fun _ _ h=>h) fun Q0 q0=>?_;simp only[↓bO,go_sem,seval,aInt,zaj,zak,zat,zas,frC,hw3];refine q0 _ ?_;clear q0 Q0;refine zf5 14 rfl rfl (by kernel_rfl) (by kernel_rfl) (by kernel_rfl) (fun _ _ h=>h) fun Q0 q0=>?_;simp only[↓bO,go_sem,seval,aInt,zaj,zak,zat,zas,frC,hw3];refine q0 _ ?_;clear q0 Q0;refine zae 15 rfl (by kernel_rfl) (by kernel_rfl) (by kernel_rfl) (fun _ _ h=>h) fun Q0 q0=>?_;simp only[↓bO,go_sem,seval,zaj,zak,zat,zas,frC,hw3];refine q0 _ ?_;clear q0 Q0;refine zfT (i:=16) (j:=17) (k:=18) rfl rfl rfl (by kernel_rfl) (by kernel_rfl) (by kernel_rfl) ⟨rfl,rfl,rfl⟩ ⟨rfl,rfl,rfl⟩ ⟨rfl,rfl,rfl⟩ ⟨by simp,by simp,by decide⟩ ⟨by simp,by simp,by simp,by simp⟩ rfl rfl rfl mz130 rfl ⟨⟨⟨_,_,rfl,by simp,rfl,trivial,trivial⟩,⟨_,_,rfl,by simp,rfl,trivial,trivial⟩,⟨_,_,rfl,by simp,rfl,trivial,trivial⟩,trivial⟩,?_⟩;simp only[↓bO,go_sem,seval,zaj,zak,zat,zas,frC,hw3];refine zfT (i:=19) (j:=20) (k:=21) rfl rfl rfl (by kernel_rfl) (by kernel_rfl) (by kernel_rfl) ⟨rfl,rfl,rfl⟩ ⟨rfl,rfl,rfl⟩ ⟨rfl,rfl,rfl⟩ ⟨by simp,by simp,by decide⟩ ⟨by simp,by simp,by simp,by simp⟩ rfl rfl rfl mz130 rfl ⟨⟨⟨_,_,rfl,by simp,rfl,trivial,trivial⟩,⟨_,_,rfl,by simp,rfl,trivial,trivial⟩,⟨_,_,rfl,by simp,rfl,trivial,trivial⟩,trivial⟩,?_⟩;simp only[↓bO,go_sem,seval,zaj,zak,zat,zas,frC,hw3];refine zaG (by kernel_rfl) ?_;simp only[zaf,zad,zac];(try simp only[zaf,zad,zac,zaZ,zaW,zaC,bS,bA]);refine ⟨_,zai 0 (zaF {S with F:=S.F}++zbe (W.fin r ch)++[]),⟨((S.F,W.fin r ch),()),?_,rfl,rfl⟩,.tup trivial,wUnd (by omega) _ _,?_,?_,by omega⟩;· exact ⟨rfl,rfl⟩
   ·
    exact Le.refl _
   · first | (refine ⟨1,rfl,rfl⟩) | (refine ⟨0,rfl,rfl⟩) | (refine ⟨1,by simp only[zaF,zbe,zh,zj,zai,zw,zk,Nat.reduceAdd,WS.fin,hes1,hes2,most],rfl⟩) | (refine ⟨0,by simp only[zaF,zbe,zh,zj,zai,zw,zk,Nat.reduceAdd,WS.fin,hes1,hes2,most],rfl⟩)
end Go.Proofs.YtpfiliamceimmaaGreatDoor
namespace Go.Proofs.YtpfiliamceimmaaGreatDoor
open Go Go.RowKit
attribute [local irreducible] aops za1
theorem begin_w (S:CS) (hS:CyG S) (W:WS) (h0:0≤W.steps) (h1:W.steps≤1000000000) (r:Nat) (hr:Rt S.F.up r r):WCalls (σ:=Unit) 160 [.ptr 12 0,.agg [.ptr 0 0,.v (.int .i64 (r:Int))]] S W (fun s=>FSame S.F s.1.1∧s.1.2=W.begin r) (fun _=>.agg (frC (za3 S) (r,0))):=begin_c S hS W h0 h1 r hr
theorem end_w (S:CS) (W:WS) (hb:WBd W) (K:Nat→List Nat) (r nx:Nat) (hK:(K r).length≤8):WCalls (σ:=Unit) 162 [.ptr 12 0,.agg (frC K (r,nx))] S W (fun s=>s.1.1=S.F∧s.1.2=W.fin r (K r)) (fun _=>.tup []):=end_c S W hb K r nx hK
theorem loop_at (S:CS) (hS:FInv S.F) (W:WS) (K:Nat→List Nat) (stk:List (Nat×Nat)) (hl:stk.length≤1048576) (n:Nat) (hn:stk.length=n) (q:Nat) {os':Os} {nx':Nat} (hlt:15≤nx') (hg:GetsO os' [0,1,2,3,4,5,6,7,8,9,10,11,12,14] (zaF S++zbe W++[.row 198 3 (stk.map (frC K))])) {Q':AV→Os→Nat→Prop}
    (hq:Q' (.tup []) (zaq os' ([0,1,2,3,4,5,6,7,8,9,10,11,12,14].zip (zaF S++zbe (zbt q (stk.reverse.map Prod.fst) W)++[.row 198 3 (stk.map (frC K))]))) nx'):ACalls Tryz.prog 161 [.ptr 12 0,.own 14 n,.v (.int .i64 (q:Int))] os' nx' Q':=by
  subst hn
  have ren:∀(S:CS) (W:WS),RenOs (zbs [0,1,2,3,4,5,6,7,8,9,10,11,12,14] nx') 0 (zaF S++zbe W++[.row 198 3 (stk.map (frC K))]) (zaF S++zbe W++[.row 198 3 (stk.map (frC K))]):=fun S W =>
    ⟨.cells ⟨.v _,.ptr rfl,.ptr rfl,.own rfl,.v _,trivial⟩,.cells ⟨.osl rfl (GNode.dataRows S.G.N),.map rfl,trivial⟩,.tok,.map (zbb S.G.V),.cells ⟨.own rfl,.own rfl,.v _,.v _,trivial⟩,.row (zbg _),.row (za2 _),.row (za2 _),
      .map (za5 _),.map (zbJ _),.map (za5 _),.map (za5 _),.cells ⟨.map rfl,.map rfl,.map rfl,.map rfl,.v _,.v _,trivial⟩,.rowR rfl Iff.rfl (.frames K rfl stk),trivial⟩
  exact ACalls.atE (σ:=(FS×WS)×Unit) (C:=fun s=>s.1.1=S.F∧s.1.2=zbt q (stk.reverse.map Prod.fst) W) (args:=[.ptr 12 0,.own 13 stk.length,.v (.int .i64 (q:Int))]) (R:=fun _=>.tup []) (R':=fun _=>.tup []) (obs:=zaF S++zbe W++[.row 198 3 (stk.map (frC K))])
    (obs1:=fun s=>zaF {S with F:=s.1.1}++zbe s.1.2++[.row 198 3 (stk.map (frC K))]) (obs':=zaF S++zbe W++[.row 198 3 (stk.map (frC K))]) (obs1':=fun s=>zaF {S with F:=s.1.1}++zbe s.1.2++[.row 198 3 (stk.map (frC K))]) [0,1,2,3,4,5,6,7,8,9,10,11,12,14]
    (loop_c S hS W K stk hl q) rfl (fun _=>rfl) (by decide) (by simp only[zM,List.not_mem_nil,or_false];omega) ⟨.ptr rfl,.own rfl,.v _,trivial⟩ (fun _=>.tup trivial) (ren S W) hg (fun s=>ren _ s.1.2) (fun s hs=>by
      obtain ⟨⟨F1,W1⟩,_⟩:=s;obtain ⟨h1,h2⟩:=hs;dsimp only at h1 h2;subst h1;subst h2
      exact hq)
theorem CInv.fsame {S:CS} {F1:FS} (h:CInv S) (k:FSame S.F F1):CInv {S with F:=F1}:=⟨h.g,k.inv,k.len.trans h.fl,h.wl,h.wr,h.pl,h.pr⟩
theorem Frs.sumN {K:Nat→List Nat} {P:Nat→Prop} (h8:∀u,(K u).length≤8):∀{a:Option Nat} {l:List (Nat×Nat)},Frs K P a l→sumN l≤8 * l.length
  | _,[],_=>by simp[Go.Proofs.YtpfiliamceimmaaGreatDoor.sumN]
  | _,(u,nx)::l,⟨h1,_,_,h4⟩=>by
    have h2:=Frs.sumN h8 h4;have h3:=h8 u;simp only[Go.Proofs.YtpfiliamceimmaaGreatDoor.sumN,zi];omega
theorem StI.small {K:Nat→List Nat} {W:WS} {stk:List (Nat×Nat)} {fo:List Nat} {c:Int} {N:Nat} (h:StI K W stk fo c) (hD:DfI K N W stk fo) (h8:∀u,(K u).length≤8) (hN:N≤1048576) (hc:c≤1):W.steps≤100000000∧fo.length+stk.length≤N:=by
  have h1:=zdl hD.nd hD.lt;rw[zf,zS] at h1;have h2:=Frs.sumN h8 hD.fr;have h3:=zh3 h8 fo;have h4:=h.le;omega
theorem WBd.fin {W:WS} (h:WBd W) (r:Nat) (ch:List Nat):WBd (W.fin r ch):=by
  obtain ⟨h1,h2,h3⟩:=zeb h r ch;intro x;have hx:=h3 x;unfold WS.dg WS.zg at hx ⊢;unfold WS.fin;(simp only);rw[zbw,zbw];simp only[most] at *;split;(· simp only[zp];omega);· exact hx
structure WI (S:CS) (fo:List Nat) (r:Nat) (s:FS×WS×List (Nat×Nat)×List Nat):Prop where
  f:FSame S.F s.1
  d:DfI (za3 S) S.F.up.length s.2.1 s.2.2.1.reverse s.2.2.2
  t:StI (za3 S) s.2.1 s.2.2.1.reverse s.2.2.2 0
  b:WBd s.2.1
  sub:∀x∈fo,x∈s.2.2.2
  r:r∈s.2.2.2∨r∈s.2.2.1.map Prod.fst
theorem Und.rptr {n id k sz i off:Nat} (h:id<n):Und n (.rptr id k sz i off):=fun E A w v hr=>by
  cases hr with | rptr hv hl hc=>exact .rptr (E:=E.cut n) ⟨hv,h⟩ hl hc
theorem zdh {α:Type} (l:List α) (x:α):(l++[x]).reverse=x::l.reverse:=by simp
theorem frame_set {K:Nat→List Nat} (l:List (Nat×Nat)) (u nx:Nat):((l++[(u,nx)]).map (frC K)).set l.length [.v (.int .i64 (u:Int)),.sl 2 ((K u).map (zaw 0)),.v (.int .i64 ((nx:Int)+1))]=(l++[(u,nx+1)]).map (frC K):=by
  simp only[zz,zI,List.map_nil];rw[List.set_append_right _ _ (by simp)];simp[frC]
theorem zaH {K:Nat→List Nat} (l:List (Nat×Nat)) (p:Nat×Nat):((l++[p]).map (frC K)).take l.length=l.map (frC K):=by
  rw[zz,List.take_append_of_le_length (by simp),List.take_of_length_le (by simp)]
theorem snoc_last {α:Type} (l:List α) (x:α):(l++[x])[l.length]?=some x:=by simp
theorem ex_snoc {α:Type}:∀{l:List α},0<l.length→∃a x,l=a++[x]:=fun {l} h=>by
  (have hne:l≠[]:=by intro e;rw[e] at h;simp at h);exact ⟨l.dropLast,l.getLast hne,(List.dropLast_concat_getLast hne).symm⟩
theorem clz4 {p:Prop} (h:p:=by repeat' first | exact trivial | exact .any _ | exact .ptr (by omega) | exact .own (by omega) | exact .v _ _ | exact Und.data (EqT.dataSl _) | exact Und.parts (by omega) _ | exact .rptr (by omega) | (refine ⟨?_,?_⟩)):p:=h
theorem clz5 {p:Prop} (h:p:=by repeat' first | exact trivial | (with_reducible omega) | exact .any _ | exact .ptr (by omega) | exact .own (by omega) | exact .v _ _ | exact .map (by omega) | exact Und.oslG (by omega) | exact Und.rowI (zbg _) | exact Und.rowI (za2 _) | exact (fun p hp=>.data (zbb _ p hp)) | exact Und.parts (by omega) _ | exact Und.frames (za3 S) (by omega) _ | exact (fun p hp=>.data (za5 _ p hp)) | exact (fun p hp=>.data (zbJ _ p hp)) | (refine ⟨?_,?_⟩)):p:=h
theorem walk_c (S:CS) (hS:CyG S) (W:WS) (fo:List Nat) (hD:DfI (za3 S) S.F.up.length W [] fo) (hst:StI (za3 S) W [] fo 0) (hb:WBd W) (r:Nat) (hr:Rt S.F.up r r):ACalls Tryz.prog 149 [.ptr 12 0,.agg [.ptr 0 0,.v (.int .i64 (r:Int))]] (zai 0 (zaF (S)++zbe (W)++[])) 13 fun z os n=>(∃s:(FS×WS)×List Nat,(FSame S.F s.1.1∧DfI (za3 S) S.F.up.length s.1.2 [] s.2∧StI (za3 S) s.1.2 [] s.2 0∧WBd s.1.2∧r∈s.2∧∀x∈fo,x∈s.2)∧z=(fun s:List Nat=>.tup []) s.2∧os=zai 0 (zaF {S with F:=s.1.1}++zbe s.1.2++[]))∧n=13:=by
  refine ACalls.clean (C:=fun zr zo=>∃s:(FS×WS)×List Nat,(FSame S.F s.1.1∧DfI (za3 S) S.F.up.length s.1.2 [] s.2∧StI (za3 S) s.1.2 [] s.2 0∧WBd s.1.2∧r∈s.2∧∀x∈fo,x∈s.2)∧zr=(fun s:List Nat=>.tup []) s.2∧zo=zai 0 (zaF {S with F:=s.1.1}++zbe s.1.2++[])) ?_;refine zah Tryz.func149 (by kernel_rfl) rfl (by rw[Tryz.ntmps149];simp) (fun hm=>?_);simp only[Tryz.ntmps149,Tryz.results149,zi,zm,Nat.reduceAdd,Nat.reduceSub,zt,zq,zh,zj];simp only[zaF,zbe,zh,zj,zai,Nat.reduceAdd];refine zab fun Y0 y0=>?_;refine zaa ?_;simp only[↓bO,go_sem,seval,zaj,zak,zat,zas,frC];refine y0 _ ?_;(try clear y0 Y0);refine zdP ?_;refine zab fun Y0 y0=>?_;refine zab fun Y1 y1=>?_;refine zaP [(12,0,[.map 8]),(13,0,[.ptr 0 0,.v (.int .i64 (r:Int))])] 8 rfl mixed (⟨⟨_,_,rfl,by simp,rfl,trivial,trivial⟩,⟨_,_,rfl,by simp,rfl,trivial,trivial,trivial⟩,trivial⟩) rfl ?_;dsimp only;refine zae 0 rfl (by kernel_rfl) (by kernel_rfl) (by kernel_rfl) (fun _ _ h=>h) fun Q0 q0=>?_;simp only[↓bO,go_sem,seval,zaj,zak,zat,zas,frC];refine q0 _ ?_;clear q0 Q0;refine zae 1 rfl (by kernel_rfl) (by kernel_rfl) (by kernel_rfl) (fun _ _ h=>h) fun Q0 q0=>?_;simp only[↓bO,go_sem,seval,zaj,zak,zat,zas,frC];refine q0 _ ?_;clear q0 Q0;refine zae 2 rfl (by kernel_rfl) (by kernel_rfl) (by kernel_rfl) (fun _ _ h=>h) fun Q0 q0=>?_;simp only[↓bO,go_sem,seval,zaj,zak,zat,zas,frC];refine q0 _ ?_;clear q0 Q0;refine zay 3 0 rfl rfl (by kernel_rfl) (by kernel_rfl) (by kernel_rfl) (fun _ _ h=>h) fun Q0 q0=>?_;simp only[↓bO,go_sem,seval,zaj,zak,zat,zas,frC];refine q0 _ ?_;clear q0 Q0;refine zay 4 1 rfl rfl (by kernel_rfl) (by kernel_rfl) (by kernel_rfl) (fun _ _ h=>h) fun Q0 q0=>?_;simp only[↓bO,go_sem,seval,zaj,zak,zat,zas,frC];refine q0 _ ?_;clear q0 Q0;refine zag (i:=5) (by kernel_rfl) ?_
  ·
   refine zal rfl rfl fun Q0 q0=>?_;simp only[↓bO,go_sem,seval,zaj,zak,zat,zas,frC];refine CCalls.atP (zc6 (S) (r:Int)) (i0:=0) (i1:=1) (i2:=2) (i3:=3) (i4:=4) (i5:=5) (i6:=6) (i7:=7) (by exact ⟨.agg ⟨.ptr rfl,.v _,trivial⟩,trivial⟩) (fun _=>by exact .v _) (by decide) (by simp) ⟨rfl,rfl,rfl,rfl,rfl,rfl,rfl,rfl,trivial⟩ (fun Z1 u1 hZ1=>?_);(try dsimp only at hZ1);simp only[zaL,zu,zy,zx,zaq,zaz,Nat.reduceEqDiff,↓reduceIte];obtain rfl:S=Z1:=hZ1.symm;(try simp only[bS,bA]);refine q0 _ ⟨⟨⟨_,_,rfl,by simp,rfl,trivial,trivial⟩,⟨_,_,rfl,by simp,rfl,trivial,trivial,trivial⟩,trivial⟩,?_⟩;clear q0 Q0;refine zag (i:=6) (by kernel_rfl) ?_
   ·
    refine zal rfl rfl fun Q0 q0=>?_;simp only[↓bO,go_sem,seval,zaj,zak,zat,zas,frC];refine q0 _ ⟨⟨⟨_,_,rfl,by simp,rfl,trivial,trivial⟩,⟨_,_,rfl,by simp,rfl,trivial,trivial,trivial⟩,trivial⟩,?_⟩;clear q0 Q0;refine zag (i:=7) (by kernel_rfl) ?_
    ·
     refine zal rfl rfl fun Q0 q0=>?_;simp only[↓bO,go_sem,seval,zaj,zak,zat,zas,frC];refine q0 _ ⟨⟨⟨_,_,rfl,by simp,rfl,trivial,trivial⟩,⟨_,_,rfl,by simp,rfl,trivial,trivial,trivial⟩,trivial⟩,?_⟩;clear q0 Q0;refine zaG (by kernel_rfl) ?_;simp only[zaf,zad,zac];refine y1 _ ?_;(try clear y1 Y1);refine zan rfl (fun hb14=>?_) (fun hb14=>?_)
     ·
      (have hne:W.sg r≠0:=by simpa [WS.sg,WS.tick] using hb14);have hrf:r∈fo:=hD.done hne (fun e=>by have:=hD.isOpen e;simp at this);refine zam ?_;(try simp only[zaf,zad,zac,zaZ,zaW,zaC,bS,bA]);refine ⟨_,zai 0 (zaF {S with F:=S.F}++zbe (W)++[]),⟨((S.F,W),fo),?_,rfl,rfl⟩,.tup trivial,wUnd (by omega) _ _,?_,?_,by omega⟩;· exact ⟨FSame.refl hS.c.f,hD,hst,hb,hrf,fun x h=>h⟩
      ·
       exact Le.refl _
      · first | (refine ⟨1,rfl,rfl⟩) | (refine ⟨0,rfl,rfl⟩) | (refine ⟨1,by simp only[zaF,zbe,zh,zj,zai,zw,zk,Nat.reduceAdd],rfl⟩) | (refine ⟨0,by simp only[zaF,zbe,zh,zj,zai,zw,zk,Nat.reduceAdd],rfl⟩)
     ·
      (have hz:W.sg r=0:=by simpa [WS.sg,WS.tick] using hb14);refine zar ?_;(try simp only[zaf,zad,zac]);refine y0 _ ?_;(try clear y0 Y0);refine zab fun Y0 y0=>?_;refine zaa ?_;(iterate 2 (refine z8 1 fun Q0 q0=>?_;simp only[↓bO,go_sem,seval,zaj,zak,zat,zas,frC];refine q0 _ ?_;clear q0 Q0;simp only[go_sem]));refine z8 1 fun Q0 q0=>?_;simp only[↓bO,go_sem,seval,zaj,zak,zat,zas,frC];refine WCalls.at (begin_w S hS W hst.pos (by have:=hst.small hD (zch hS) hS.nl (by omega);omega) r hr) (by exact ⟨.ptr rfl,.agg ⟨.ptr rfl,.v _,trivial⟩,trivial⟩) (fun _=>by exact .agg ⟨.v _,.parts rfl _,.v _,trivial⟩) (by omega) ⟨rfl,rfl,rfl,rfl,rfl,rfl,rfl,rfl,rfl,rfl,rfl,rfl,rfl,trivial⟩ (fun F1 W1 _ hX1=>?_);dsimp only at hX1;simp only[zaF,zbe,zh,zj,zu,zy,zx,zaq,zaz,Nat.reduceEqDiff,↓reduceIte];obtain ⟨hF1,rfl⟩:=hX1;(try simp only[bS,bA,zaf,zad,zac]);refine q0 _ ?_;clear q0 Q0;simp only[go_sem];refine z8 1 fun Q0 q0=>?_;simp only[↓bO,go_sem,seval,↓zbX,↓zbT,↓zbY,↓zbW,↓zb0,↓zbS,↓zbR,↓zbQ,↓zbZ,↓zbo,↓zbp,↓zbq,zaj,zak,zat,zas,frC];refine q0 _ ?_;clear q0 Q0;simp only[go_sem];simp only[↓bO,go_sem,seval,zaj,zak,zat,zas,frC];refine y0 _ ?_;(try clear y0 Y0);refine zab fun Y0 y0=>?_;refine zdZ ?_;(try simp only[zaf,zad,zac]);refine y0 _ ?_;(try clear y0 Y0);refine zav ?_;refine zaS (σ:=FS×WS×List (Nat×Nat)×List Nat) (mB 103 17) (fun s=>WI S fo r s) (fun s=>[(4,.own 14 s.2.2.1.length)]) (fun s=>[(4,.cells 184 [.own 5 s.1.up.length,.own 6 s.1.rank.length,.v (.int .i64 s.1.sets),.v (.int .i64 s.1.steps)]),(5,.row 3 1 (s.1.up.map nC)),(6,.row 3 1 (s.1.rank.map intC)),(8,.map (mC cI s.2.1.st)),(9,.map (mC cB s.2.1.cy)),(10,.map (mC cI s.2.1.de)),(11,.map (mC cI s.2.1.sz)),(12,.cells 134 [.map 8,.map 9,.map 10,.map 11,.v (.int .i64 s.2.1.steps),.v (.bool s.2.1.bad)]),(14,.row 198 3 (s.2.2.1.map (frC (za3 S))))]) (fun s=>2 * (S.F.up.length-(s.2.2.2.length+s.2.2.1.length))+s.2.2.1.length) (F1,W.begin r,[(r,0)],fo) (⟨hF1,hD.begin hz hr.lt trivial,hst.start,hb,fun x h=>h,.inr (by simp)⟩) ?_ (fun s hs=>?_)
      ·
       simp only[zaA,zaB,zaq,zaz,mB,zc,zb,seval,bL,WS.begin];exact zcm
      simp only[zaA,zaB,zaq,zaz,mB,zc,zb,seval];refine zab fun Y0 y0=>?_;refine zab fun Y1 y1=>?_;refine zaa ?_;(iterate 2 (refine z8 1 fun Q0 q0=>?_;simp only[↓bO,go_sem,seval,zaj,zak,zat,zas,frC];refine q0 _ ?_;clear q0 Q0;simp only[go_sem]));simp only[↓bO,go_sem,seval,zaj,zak,zat,zas,frC];refine y1 _ ?_;(try clear y1 Y1);refine zan rfl (fun hb21=>?_) (fun hb21=>?_)
      ·
       (have hk0:0<s.2.2.1.length:=by simpa using hb21);obtain ⟨s9,⟨u,nx⟩,hstk⟩:=ex_snoc hk0;obtain ⟨Fc,Wc,stk,fc⟩:=s;dsimp only at hstk hb21 hk0;subst hstk;obtain ⟨hF,hDc,hTc,hBc,hsub,hrin⟩:=hs;dsimp only at hF hDc hTc hBc hsub hrin;rw[zdh] at hDc hTc;have hsz:=(hTc.small hDc (zch hS) hS.nl (by omega)).2;have hsp:=(hTc.small hDc (zch hS) hS.nl (by omega)).1;have hpp:=hTc.pos;simp only[zi,List.length_reverse] at hsz;have hNl:=hS.nl;(have hlen:(s9++[(u,nx)]).length=s9.length+1:=by simp);have hwt:IntKind.i64.wrap (Wc.steps+1)=Wc.steps+1:=zaT (by omega) (by omega);(have hwl:IntKind.i64.wrap ((s9.length:Int)+1-1)=(s9.length:Int):=by rw[show ((s9.length:Int)+1-1)=(s9.length:Int) from by omega];exact zaT (by omega) (by omega));(have hls:s9.length<s9.length+1:=by omega);(have hb1:(s9.length+1+1) * 40≤140737488355328:=by omega);(have hb2:s9.length+1+1≤maxLen:=by simp only[maxLen];omega);(have hls2:(s9.length:Int)<(s9.length:Int)+1:=by omega);(have hkF:za3 {S with F:=Fc}=za3 S:=funext fun z=>zb6 hF z);have hSc:CyG {S with F:=Fc}:=hS.fsame hF (hS.c.fsame hF);simp only[zf,zi,zm,zR];refine zar ?_;(try simp only[zaf,zad,zac]);refine y0 _ ?_;(try clear y0 Y0);refine zav ?_;refine zab fun Y0 y0=>?_;refine zaa ?_;(iterate 7 (refine z8 1 fun Q0 q0=>?_;simp only[↓bO,go_sem,seval,zaj,zak,zat,zas,frC,hwt,hwl,hls,hls2,hb1,hb2,za,zf,zaH];refine q0 _ ?_;clear q0 Q0;simp only[go_sem]));simp only[↓bO,go_sem,seval,zaj,zak,zat,zas,frC,hwt,hwl,hls,hls2,hb1,hb2,za,zf,zaH];refine y0 _ ?_;(try clear y0 Y0);refine zab fun Y0 y0=>?_;refine zaa ?_;(iterate 5 (refine z8 1 fun Q0 q0=>?_;simp only[↓bO,go_sem,seval,zaj,zak,zat,zas,frC,hwt,hwl,hls,hls2,hb1,hb2,za,zf,zaH];refine q0 _ ?_;clear q0 Q0;simp only[go_sem]));simp only[↓bO,go_sem,seval,zaj,zak,zat,zas,frC,hwt,hwl,hls,hls2,hb1,hb2,za,zf,zaH];refine y0 _ ?_;(try clear y0 Y0);refine zab fun Y0 y0=>?_;refine zav ?_;refine zaS (σ:=WS×Nat) (mB 103 49) (fun t=>DfI (za3 S) S.F.up.length t.1 ((u,t.2)::s9.reverse) fc∧StI (za3 S) t.1 ((u,t.2)::s9.reverse) fc 1∧WBd t.1) (fun t=>[]) (fun t=>[(8,.map (mC cI t.1.st)),(9,.map (mC cB t.1.cy)),(10,.map (mC cI t.1.de)),(11,.map (mC cI t.1.sz)),(12,.cells 134 [.map 8,.map 9,.map 10,.map 11,.v (.int .i64 t.1.steps),.v (.bool t.1.bad)]),(14,.row 198 3 ((s9++[(u,t.2)]).map (frC (za3 S))))]) (fun t=>(za3 S u).length-t.2) (Wc.tick,nx) (⟨hDc.tick,hTc.tick,hBc⟩) ?_ (fun t ht=>?_)
       ·
        simp only[zaA,zaB,zaq,zaz,mB,zc,zb,seval,WS.tick];exact zcm
       simp only[zaA,zaB,zaq,zaz,mB,zc,zb,seval];have hlast:=snoc_last s9 (u,t.2);have hDt:=ht.1;have hT2:=ht.2.1.part;have hk8:=zch hS u;have hft:=hDt.fr.1;have hst1:=(ht.2.1.small ht.1 (zch hS) hS.nl (by omega)).1;have hst2:=ht.2.1.pos;have hwt2:IntKind.i64.wrap (t.1.steps+1)=t.1.steps+1:=zaT (by omega) (by omega);have hwn:IntKind.i64.wrap ((t.2:Int)+1)=(t.2:Int)+1:=zaT (by omega) (by omega);have hfs:=frame_set (K:=za3 S) s9 u t.2;(have hsm2:t.1.tick.steps≤1000000000:=by (simp only[WS.tick];omega));refine zab fun Y1 y1=>?_;refine zab fun Y2 y2=>?_;refine za8 10 mixed (by kernel_rfl) fun J0 j0=>?_;(iterate 9 (simp only[go_sem];refine zaD 1 fun Q0 q0=>?_;simp only[↓za1,↓dOp,↓bO,go_sem,seval,zaj,zak,zat,zas,frC,hwt,hwl,hls,hls2,hb1,hb2,za,zf,zaH,gM hlast,hwt2,hwn,hfs,WS.tick];refine q0 _ ?_;clear q0 Q0));simp only[go_sem];simp only[↓za1,↓dOp,↓bO,go_sem,seval,zaj,zak,zat,zas,frC,hwt,hwl,hls,hls2,hb1,hb2,za,zf,zaH,gM hlast,hwt2,hwn,hfs,WS.tick];refine j0 _ ?_;clear j0 J0;simp only[bL,aops,zaf,zad,zac];refine y2 _ ?_;(try clear y2 Y2);refine zan rfl (fun hb43=>?_) (fun hb43=>?_)
       ·
        (have hkj:t.2<(za3 S u).length:=by simpa using hb43);obtain ⟨q,hkq⟩:∃q,(za3 S u)[t.2]?=some q:=⟨_,zd hkj⟩;have hrq0:Rt S.F.up q q:=zct u q (zl hkq);have hqN:=hrq0.lt;have hrq:Rt Fc.up q q:=(hF.rt _ _).2 hrq0;refine zar ?_;(try simp only[zaf,zad,zac]);refine y1 _ ?_;(try clear y1 Y1);refine zav ?_;refine zab fun Y1 y1=>?_;refine za8 11 mixed (by kernel_rfl) fun J0 j0=>?_;(iterate 10 (simp only[go_sem];refine zaD 1 fun Q0 q0=>?_;simp only[↓za1,↓dOp,↓bO,go_sem,seval,zaj,zak,zat,zas,frC,hwt,hwl,hls,hls2,hb1,hb2,za,zf,zaH,gM hlast,hwt2,hwn,hfs,WS.tick,hkj,gM hkq,zaw];refine q0 _ ?_;clear q0 Q0));simp only[go_sem];simp only[↓za1,↓dOp,↓bO,go_sem,seval,zaj,zak,zat,zas,frC,hwt,hwl,hls,hls2,hb1,hb2,za,zf,zaH,gM hlast,hwt2,hwn,hfs,WS.tick,hkj,gM hkq,zaw];refine j0 _ ?_;clear j0 J0;simp only[go_sem];simp only[↓bO,go_sem,seval,zaj,zak,zat,zas,frC,hwt,hwl,hls,hls2,hb1,hb2,za,zf,zaH,gM hlast,hwt2,hwn,hfs,WS.tick,hkj,gM hkq,zaw];refine y1 _ ?_;(try clear y1 Y1);refine zab fun Y1 y1=>?_;refine zaa ?_;(iterate 7 (refine z8 1 fun Q0 q0=>?_;simp only[↓bO,go_sem,seval,zaj,zak,zat,zas,frC,hwt,hwl,hls,hls2,hb1,hb2,za,zf,zaH,gM hlast,hwt2,hwn,hfs,WS.tick,hkj,gM hkq,zaw];refine q0 _ ?_;clear q0 Q0;simp only[go_sem]));simp only[↓bO,go_sem,seval,zaj,zak,zat,zas,frC,hwt,hwl,hls,hls2,hb1,hb2,za,zf,zaH,gM hlast,hwt2,hwn,hfs,WS.tick,hkj,gM hkq,zaw];refine y1 _ ?_;(try clear y1 Y1);refine zab fun Y1 y1=>?_;refine zaa ?_;(iterate 7 (refine z8 1 fun Q0 q0=>?_;simp only[↓bO,go_sem,seval,zaj,zak,zat,zas,frC,hwt,hwl,hls,hls2,hb1,hb2,za,zf,zaH,gM hlast,hwt2,hwn,hfs,WS.tick,hkj,gM hkq,zaw];refine q0 _ ?_;clear q0 Q0;simp only[go_sem]));simp only[↓bO,go_sem,seval,zaj,zak,zat,zas,frC,hwt,hwl,hls,hls2,hb1,hb2,za,zf,zaH,gM hlast,hwt2,hwn,hfs,WS.tick,hkj,gM hkq,zaw];refine y1 _ ?_;(try clear y1 Y1);refine zab fun Y1 y1=>?_;refine zaP [(12,0,[.map 8]),(15,0,[.ptr 0 0,.v (.int .i64 (q:Int))])] 7 rfl mixed (⟨⟨_,_,rfl,by simp,rfl,trivial,trivial⟩,⟨_,_,rfl,by simp,rfl,trivial,trivial,trivial⟩,trivial⟩) rfl ?_;dsimp only;refine zae 0 rfl (by kernel_rfl) (by kernel_rfl) (by kernel_rfl) (fun _ _ h=>h) fun Q0 q0=>?_;simp only[↓bO,go_sem,seval,zaj,zak,zat,zas,frC,hwt,hwl,hls,hls2,hb1,hb2,za,zf,zaH,gM hlast,hwt2,hwn,hfs,WS.tick,hkj,gM hkq,zaw];refine q0 _ ?_;clear q0 Q0;refine zae 1 rfl (by kernel_rfl) (by kernel_rfl) (by kernel_rfl) (fun _ _ h=>h) fun Q0 q0=>?_;simp only[↓bO,go_sem,seval,zaj,zak,zat,zas,frC,hwt,hwl,hls,hls2,hb1,hb2,za,zf,zaH,gM hlast,hwt2,hwn,hfs,WS.tick,hkj,gM hkq,zaw];refine q0 _ ?_;clear q0 Q0;refine zae 2 rfl (by kernel_rfl) (by kernel_rfl) (by kernel_rfl) (fun _ _ h=>h) fun Q0 q0=>?_;simp only[↓bO,go_sem,seval,zaj,zak,zat,zas,frC,hwt,hwl,hls,hls2,hb1,hb2,za,zf,zaH,gM hlast,hwt2,hwn,hfs,WS.tick,hkj,gM hkq,zaw];refine q0 _ ?_;clear q0 Q0;refine zay 3 0 rfl rfl (by kernel_rfl) (by kernel_rfl) (by kernel_rfl) (fun _ _ h=>h) fun Q0 q0=>?_;simp only[↓bO,go_sem,seval,zaj,zak,zat,zas,frC,hwt,hwl,hls,hls2,hb1,hb2,za,zf,zaH,gM hlast,hwt2,hwn,hfs,WS.tick,hkj,gM hkq,zaw];refine q0 _ ?_;clear q0 Q0;refine zay 4 1 rfl rfl (by kernel_rfl) (by kernel_rfl) (by kernel_rfl) (fun _ _ h=>h) fun Q0 q0=>?_;simp only[↓bO,go_sem,seval,zaj,zak,zat,zas,frC,hwt,hwl,hls,hls2,hb1,hb2,za,zf,zaH,gM hlast,hwt2,hwn,hfs,WS.tick,hkj,gM hkq,zaw];refine q0 _ ?_;clear q0 Q0;refine zag (i:=5) (by kernel_rfl) ?_
        ·
         refine zal rfl rfl fun Q0 q0=>?_;simp only[↓bO,go_sem,seval,zaj,zak,zat,zas,frC,hwt,hwl,hls,hls2,hb1,hb2,za,zf,zaH,gM hlast,hwt2,hwn,hfs,WS.tick,hkj,gM hkq,zaw];refine CCalls.atP (zc6 ({S with F:=Fc}) (q:Int)) (i0:=0) (i1:=1) (i2:=2) (i3:=3) (i4:=4) (i5:=5) (i6:=6) (i7:=7) (by exact ⟨.agg ⟨.ptr rfl,.v _,trivial⟩,trivial⟩) (fun _=>by exact .v _) (by decide) (by simp) ⟨rfl,rfl,rfl,rfl,rfl,rfl,rfl,rfl,trivial⟩ (fun Z73 u73 hZ73=>?_);(try dsimp only at hZ73);simp only[zaL,zu,zy,zx,zaq,zaz,Nat.reduceEqDiff,↓reduceIte];obtain rfl:{S with F:=Fc}=Z73:=hZ73.symm;(try simp only[bS,bA]);refine q0 _ ⟨⟨⟨_,_,rfl,by simp,rfl,trivial,trivial⟩,⟨_,_,rfl,by simp,rfl,trivial,trivial,trivial⟩,trivial⟩,?_⟩;clear q0 Q0;refine zag (i:=6) (by kernel_rfl) ?_
         ·
          refine zal rfl rfl fun Q0 q0=>?_;simp only[↓bO,go_sem,seval,zaj,zak,zat,zas,frC,hwt,hwl,hls,hls2,hb1,hb2,za,zf,zaH,gM hlast,hwt2,hwn,hfs,WS.tick,hkj,gM hkq,zaw];refine q0 _ ⟨⟨⟨_,_,rfl,by simp,rfl,trivial,trivial⟩,⟨_,_,rfl,by simp,rfl,trivial,trivial,trivial⟩,trivial⟩,?_⟩;clear q0 Q0;refine zaG (by kernel_rfl) ?_;simp only[zaf,zad,zac];refine y1 _ ?_;(try clear y1 Y1);refine zav ?_;refine zab fun Y1 y1=>?_;refine zaa ?_;refine z8 1 fun Q0 q0=>?_;simp only[↓bO,go_sem,seval,zaj,zak,zat,zas,frC,hwt,hwl,hls,hls2,hb1,hb2,za,zf,zaH,gM hlast,hwt2,hwn,hfs,WS.tick,hkj,gM hkq,zaw];refine q0 _ ?_;clear q0 Q0;simp only[go_sem];simp only[↓bO,go_sem,seval,zaj,zak,zat,zas,frC,hwt,hwl,hls,hls2,hb1,hb2,za,zf,zaH,gM hlast,hwt2,hwn,hfs,WS.tick,hkj,gM hkq,zaw];refine y1 _ ?_;(try clear y1 Y1);refine zan rfl (fun hb75=>?_) (fun hb75=>?_)
          ·
           (have hq0:t.1.tick.sg q=0:=by simpa [WS.sg,WS.tick] using hb75);have hDp:=hDt.tick.push hkq hq0 hqN;have hTp:=hT2.push (q:=q);refine zab fun Y1 y1=>?_;refine zaa ?_;(iterate 3 (refine z8 1 fun Q0 q0=>?_;simp only[↓bO,go_sem,seval,zaj,zak,zat,zas,frC,hwt,hwl,hls,hls2,hb1,hb2,za,zf,zaH,gM hlast,hwt2,hwn,hfs,WS.tick,hkj,gM hkq,zaw];refine q0 _ ?_;clear q0 Q0;simp only[go_sem]));refine z8 1 fun Q0 q0=>?_;simp only[↓bO,go_sem,seval,zaj,zak,zat,zas,frC,hwt,hwl,hls,hls2,hb1,hb2,za,zf,zaH,gM hlast,hwt2,hwn,hfs,WS.tick,hkj,gM hkq,zaw];refine WCalls.at (begin_w {S with F:=Fc} hSc t.1.tick (hT2.pos) (by have:=hsm2;omega) q hrq) (by exact ⟨.ptr rfl,.agg ⟨.ptr rfl,.v _,trivial⟩,trivial⟩) (fun _=>by exact .agg ⟨.v _,.parts rfl _,.v _,trivial⟩) (by omega) ⟨rfl,rfl,rfl,rfl,rfl,rfl,rfl,rfl,rfl,rfl,rfl,rfl,rfl,trivial⟩ (fun F5 W5 _ hX5=>?_);dsimp only at hX5;simp only[zaF,zbe,zh,zj,zu,zy,zx,zaq,zaz,Nat.reduceEqDiff,↓reduceIte];obtain ⟨hF5,rfl⟩:=hX5;rw[hkF];(have hfp:((s9++[(u,t.2+1)]).map (frC (za3 S)))++[[.v (.int .i64 (q:Int)),.sl 2 ((za3 S q).map (zaw 0)),.v (.int .i64 0)]]=(s9++[(u,t.2+1)]++[(q,0)]).map (frC (za3 S)):=by simp[frC]);(try simp only[bS,bA,zaf,zad,zac]);refine q0 _ ?_;clear q0 Q0;simp only[go_sem];refine z8 1 fun Q0 q0=>?_;simp only[↓bO,go_sem,seval,↓zbX,↓zbT,↓zbY,↓zbW,↓zb0,↓zbS,↓zbR,↓zbQ,↓zbZ,↓zbo,↓zbp,↓zbq,zaj,zak,zat,zas,frC,hwt,hwl,hls,hls2,hb1,hb2,za,zf,zaH,gM hlast,hwt2,hwn,hfs,WS.tick,hkj,gM hkq,zaw];refine q0 _ ?_;clear q0 Q0;simp only[go_sem];refine z8 1 fun Q0 q0=>?_;simp only[↓bO,go_sem,seval,zaj,zak,zat,zas,frC,hwt,hwl,hls,hls2,hb1,hb2,za,zf,zaH,gM hlast,hwt2,hwn,hfs,WS.tick,hkj,gM hkq,zaw];refine q0 _ ?_;clear q0 Q0;simp only[go_sem];simp only[↓bO,go_sem,seval,zaj,zak,zat,zas,frC,hwt,hwl,hls,hls2,hb1,hb2,za,zf,zaH,gM hlast,hwt2,hwn,hfs,WS.tick,hkj,gM hkq,zaw];refine y1 _ ?_;(try clear y1 Y1);refine zaV ?_;simp only[zaf,zad,zac,bA,Nat.reduceEqDiff,↓reduceIte];refine ⟨(F5,t.1.tick.begin q,s9++[(u,t.2+1)]++[(q,0)],fc),⟨hF.trans hF5,by (dsimp only;rw[zdh,zdh];exact hDp),by (dsimp only;rw[zdh,zdh];exact hTp),ht.2.2,hsub,by (dsimp only;rcases hrin with h9 | h9;exact .inl h9;exact .inr (by simp at h9 ⊢;(rcases h9 with h8 | h8;exact .inl h8;exact .inr (.inl h8))))⟩,(by have:=(hTp.small hDp (zch hS) hS.nl (by omega)).2;simp only[zf,zi,zm,List.length_reverse] at this ⊢;omega),?_⟩;simp only[zaA,zaB,zaq,zaz,mB,zc,zb,seval,za,zL,zP];(try simp only[hwl]);(try simp only[hfp]);refine Weak.sub ?_ ⟨rfl,rfl,rfl,rfl,rfl,rfl,rfl,rfl,rfl,rfl,rfl,rfl,rfl,rfl,rfl,trivial⟩ (by first | omega | (simp only;omega)) (by first | omega | (simp only;omega)) ?_ ?_;(· simp only[go_sem,zf,zi,zm,zR,Le.refl,Le.any]);(· exact clz4);· exact clz5
          ·
           (have hq0:¬t.1.tick.sg q=0:=by simpa [WS.sg,WS.tick] using hb75);refine zab fun Y1 y1=>?_;refine zaa ?_;refine z8 1 fun Q0 q0=>?_;simp only[↓bO,go_sem,seval,zaj,zak,zat,zas,frC,hwt,hwl,hls,hls2,hb1,hb2,za,zf,zaH,gM hlast,hwt2,hwn,hfs,WS.tick,hkj,gM hkq,zaw];refine q0 _ ?_;clear q0 Q0;simp only[go_sem];simp only[↓bO,go_sem,seval,zaj,zak,zat,zas,frC,hwt,hwl,hls,hls2,hb1,hb2,za,zf,zaH,gM hlast,hwt2,hwn,hfs,WS.tick,hkj,gM hkq,zaw];refine y1 _ ?_;(try clear y1 Y1);refine zan rfl (fun hb83=>?_) (fun hb83=>?_)
           ·
            (have hq1:t.1.tick.sg q=1:=by simpa [WS.sg,WS.tick] using hb83);have hDb:=hDt.tick.back hkq hq1;have hTb:=hT2.back q (((u,t.2)::s9.reverse).map Prod.fst);(have hlb:(s9++[(u,t.2+1)]).reverse.map Prod.fst=((u,t.2)::s9.reverse).map Prod.fst:=by rw[zdh];rfl);refine zab fun Y1 y1=>?_;refine zaa ?_;(iterate 3 (refine z8 1 fun Q0 q0=>?_;simp only[↓bO,go_sem,seval,zaj,zak,zat,zas,frC,hwt,hwl,hls,hls2,hb1,hb2,za,zf,zaH,gM hlast,hwt2,hwn,hfs,WS.tick,hkj,gM hkq,zaw];refine q0 _ ?_;clear q0 Q0;simp only[go_sem]));simp only[↓bO,go_sem,seval,zaj,zak,zat,zas,frC,hwt,hwl,hls,hls2,hb1,hb2,za,zf,zaH,gM hlast,hwt2,hwn,hfs,WS.tick,hkj,gM hkq,zaw];refine y1 _ ?_;(try clear y1 Y1);refine zaa ?_;(iterate 3 (refine z8 1 fun Q0 q0=>?_;simp only[↓bO,go_sem,seval,zaj,zak,zat,zas,frC,hwt,hwl,hls,hls2,hb1,hb2,za,zf,zaH,gM hlast,hwt2,hwn,hfs,WS.tick,hkj,gM hkq,zaw];refine q0 _ ?_;clear q0 Q0;simp only[go_sem]));refine z8 1 fun Q0 q0=>?_;simp only[↓bO,go_sem,seval,zaj,zak,zat,zas,frC,hwt,hwl,hls,hls2,hb1,hb2,za,zf,zaH,gM hlast,hwt2,hwn,hfs,WS.tick,hkj,gM hkq,zaw];refine CCalls.atP (zc6 ({S with F:=Fc}) (q:Int)) (i0:=0) (i1:=1) (i2:=2) (i3:=3) (i4:=4) (i5:=5) (i6:=6) (i7:=7) (by exact ⟨.agg ⟨.ptr rfl,.v _,trivial⟩,trivial⟩) (fun _=>by exact .v _) (by decide) (by simp) ⟨rfl,rfl,rfl,rfl,rfl,rfl,rfl,rfl,trivial⟩ (fun Z91 u91 hZ91=>?_);(try dsimp only at hZ91);simp only[zaL,zu,zy,zx,zaq,zaz,Nat.reduceEqDiff,↓reduceIte];obtain rfl:{S with F:=Fc}=Z91:=hZ91.symm;(try simp only[bS,bA,zaf,zad,zac]);refine q0 _ ?_;clear q0 Q0;simp only[go_sem];simp only[↓bO,go_sem,seval,zaj,zak,zat,zas,frC,hwt,hwl,hls,hls2,hb1,hb2,za,zf,zaH,gM hlast,hwt2,hwn,hfs,WS.tick,hkj,gM hkq,zaw];refine loop_at {S with F:=Fc} hF.inv {t.1.tick with bad:=true} (za3 S) (s9++[(u,t.2+1)]) (by simp;omega) (s9.length+1) (by simp) q (by omega) ⟨rfl,rfl,rfl,rfl,rfl,rfl,rfl,rfl,rfl,rfl,rfl,rfl,rfl,rfl,trivial⟩ ?_;rw[hlb];obtain ⟨m1,m2,m3,m4,m5⟩:=zcS q (((u,t.2)::s9.reverse).map Prod.fst) {t.1.tick with bad:=true};simp only[zaF,zbe,zh,zj,zu,zy,zx,zaq,zaz,Nat.reduceEqDiff,↓reduceIte];(try simp only[bS,bA,zaf,zad,zac]);refine ⟨(zbt q (((u,t.2)::s9.reverse).map Prod.fst) {t.1.tick with bad:=true},t.2+1),⟨hDb,hTb,fun x=>by (have h9:=ht.2.2 x;unfold WS.dg WS.zg at h9 ⊢;rw[m2,m3];exact h9)⟩,(by simp only;omega),?_⟩;simp only[zaA,zaB,zaq,zaz,mB,zc,zb,seval,za,zL,zP];(try simp only[hwl]);(try simp only[hfp]);refine Weak.sub ?_ ⟨rfl,rfl,rfl,rfl,rfl,rfl,rfl,rfl,rfl,rfl,rfl,rfl,rfl,rfl,rfl,trivial⟩ (by first | omega | (simp only;omega)) (by first | omega | (simp only;omega)) ?_ ?_;(· simp only[go_sem,zf,zi,zm,zR,Le.refl,Le.any]);(· exact clz4);· exact clz5
           ·
            (have hq1:¬t.1.tick.sg q=1:=by simpa [WS.sg,WS.tick] using hb83);have hDd:=hDt.tick.pass hkq (.inl (hDt.tick.done hq0 hq1));refine zar ?_;(try simp only[zaf,zad,zac]);refine ⟨(t.1.tick,t.2+1),⟨hDd,hT2,ht.2.2⟩,(by simp only;omega),?_⟩;simp only[zaA,zaB,zaq,zaz,mB,zc,zb,seval,za,zL,zP];(try simp only[hwl]);(try simp only[hfp]);refine Weak.sub ?_ ⟨rfl,rfl,rfl,rfl,rfl,rfl,rfl,rfl,rfl,rfl,rfl,rfl,rfl,rfl,rfl,trivial⟩ (by first | omega | (simp only;omega)) (by first | omega | (simp only;omega)) ?_ ?_;(· simp only[go_sem,zf,zi,zm,zR,Le.refl,Le.any]);(· exact clz4);· exact clz5
       ·
        (have hnx:(za3 S u).length≤t.2:=by simpa using hb43);(have hr1:(0:Int)≤(s9.length:Int):=by omega);(have hr2:(s9.length:Int)≤((s9.length+1:Nat):Int):=by omega);(have hr3:(s9.length:Int)≤(s9.length:Int)+1:=by omega);refine zaV ?_;simp only[zaf,zad,zac,bA,Nat.reduceEqDiff,↓reduceIte];refine y0 _ ?_;(try clear y0 Y0);refine zab fun Y0 y0=>?_;refine zaa ?_;(iterate 4 (refine z8 1 fun Q0 q0=>?_;simp only[↓bO,go_sem,seval,zaj,zak,zat,zas,frC,hwt,hwl,hls,hls2,hb1,hb2,za,zf,zaH,gM hlast,zax,zbu,zB,zD,Nat.reduceBEq,hr1,hr2,hr3];refine q0 _ ?_;clear q0 Q0;simp only[go_sem]));simp only[↓bO,go_sem,seval,zaj,zak,zat,zas,frC,hwt,hwl,hls,hls2,hb1,hb2,za,zf,zaH,gM hlast,zax,zbu,zB,zD,Nat.reduceBEq,hr1,hr2,hr3];refine WCalls.at (end_w {S with F:=Fc} t.1 ht.2.2 (za3 S) u t.2 (zch hS u)) (by exact ⟨.ptr rfl,.agg ⟨.v _,.parts rfl _,.v _,trivial⟩,trivial⟩) (fun _=>by exact .tup trivial) (by omega) ⟨rfl,rfl,rfl,rfl,rfl,rfl,rfl,rfl,rfl,rfl,rfl,rfl,rfl,trivial⟩ (fun F6 W6 _ hX6=>?_);dsimp only at hX6;simp only[zaF,zbe,zh,zj,zu,zy,zx,zaq,zaz,Nat.reduceEqDiff,↓reduceIte];obtain ⟨e6,rfl⟩:=hX6;rw[e6];(try simp only[bS,bA,zaf,zad,zac]);refine y0 _ ?_;(try clear y0 Y0);refine zaa ?_;(iterate 5 (refine z8 1 fun Q0 q0=>?_;simp only[↓bO,go_sem,seval,zaj,zak,zat,zas,frC,hwt,hwl,hls,hls2,hb1,hb2,za,zf,zaH,gM hlast,zax,zbu,zB,zD,Nat.reduceBEq,hr1,hr2,hr3];refine q0 _ ?_;clear q0 Q0;simp only[go_sem]));simp only[↓bO,go_sem,seval,zaj,zak,zat,zas,frC,hwt,hwl,hls,hls2,hb1,hb2,za,zf,zaH,gM hlast,zax,zbu,zB,zD,Nat.reduceBEq,hr1,hr2,hr3];refine ⟨(Fc,t.1.fin u (za3 S u),s9,fc++[u]),⟨hF,ht.1.fin hnx (by have:=hS.nl;omega),ht.2.1.fin hDt.fr.1,ht.2.2.fin u _,fun x hx=>zG.2 (.inl (hsub x hx)),by (dsimp only;rcases hrin with h9 | h9;exact .inl (by simp[h9]);(simp at h9;rcases h9 with h8 | h8;(exact .inr (by simpa using h8));exact .inl (by simp[h8])))⟩,(by simp only[zf,zi,zm] at hsz ⊢;omega),?_⟩;simp only[zaA,zaB,zaq,zaz,mB,zc,zb,seval,za,zL,zP];(try simp only[hwl]);refine Weak.backOwn 14 15 4 s9.length (by first | omega | (simp only;omega)) (by first | omega | (simp only;omega)) (by first | omega | (simp only;omega)) ?_ ?_ ?_ ?_ ?_;· simp only[zc,zb,zf,zi,zm,zR,LeL,Le.refl,Le.any,and_self]
        ·
         simp only[zc,zb];repeat' first | exact trivial | exact .any | exact .ptr rfl | exact .own rfl | exact .v _ | (refine ⟨?_,?_⟩)
        (· exact ⟨⟨_,rfl,.rowR rfl Iff.rfl (.frames (za3 S) rfl _)⟩,⟨_,rfl,.cells ⟨.ptr rfl,.v _,trivial⟩⟩,⟨_,rfl,.cells ⟨.v _,.ptr rfl,.ptr rfl,.own rfl,.v _,trivial⟩⟩,⟨_,rfl,.cells ⟨.osl rfl (GNode.dataRows _),.map rfl,trivial⟩⟩,⟨_,rfl,.tok⟩,⟨_,rfl,.map (zbb _)⟩,⟨_,rfl,.cells ⟨.own rfl,.own rfl,.v _,.v _,trivial⟩⟩,⟨_,rfl,.row (zbg _)⟩,⟨_,rfl,.row (za2 _)⟩,⟨_,rfl,.row (za2 _)⟩,⟨_,rfl,.map (za5 _)⟩,⟨_,rfl,.map (zbJ _)⟩,⟨_,rfl,.map (za5 _)⟩,⟨_,rfl,.map (za5 _)⟩,⟨_,rfl,.cells ⟨.map rfl,.map rfl,.map rfl,.map rfl,.v _,.v _,trivial⟩⟩,trivial⟩);(· exact clz4);· exact clz5
      ·
       have hnil:s.2.2.1=[]:=List.eq_nil_of_length_eq_zero (by (have h9:=hb21;simp at h9;simpa using h9));refine zaV ?_;simp only[zaf,zad,zac,bA,Nat.reduceEqDiff,↓reduceIte];(try simp only[zaf,zad,zac,zaZ,zaW,zaC,bS,bA]);refine ⟨_,zai 0 (zaF {S with F:=s.1}++zbe (s.2.1)++[]),⟨((s.1,s.2.1),s.2.2.2),?_,rfl,rfl⟩,.tup trivial,wUnd (by omega) _ _,?_,?_,by omega⟩;· exact ⟨hs.f,by (have h9:=hs.d;rw[hnil] at h9;exact h9),by (have h9:=hs.t;rw[hnil] at h9;exact h9),hs.b,by (have h9:=hs.r;rw[hnil] at h9;simpa using h9),hs.sub⟩
       ·
        exact Le.refl _
       · first | (refine ⟨2,rfl,rfl⟩) | (refine ⟨1,rfl,rfl⟩) | (refine ⟨0,rfl,rfl⟩) | (refine ⟨2,by simp only[zaF,zbe,zh,zj,zai,zw,zk,Nat.reduceAdd],rfl⟩) | (refine ⟨1,by simp only[zaF,zbe,zh,zj,zai,zw,zk,Nat.reduceAdd],rfl⟩) | (refine ⟨0,by simp only[zaF,zbe,zh,zj,zai,zw,zk,Nat.reduceAdd],rfl⟩)
end Go.Proofs.YtpfiliamceimmaaGreatDoor
namespace Go.Proofs.YtpfiliamceimmaaGreatDoor
open Go Go.RowKit
attribute [local irreducible] aops za1
theorem xUnd {n:Nat} (h:14≤n) (S:CS) (W:WS):UndOs n (zai 0 (zaF S++zbe W++[.cells 129 [.ptr 12 0]])):=by
  have h1:=wUnd (n:=n) (by omega) S W;obtain ⟨a0,a1,b0,b1,c0,c1,d0,d1,e0,e1,f0,f1,g0,g1,i0,i1,j0,j1,k0,k1,l0,l1,m0,m1,o0,o1,_⟩:=h1;exact ⟨a0,a1,b0,b1,c0,c1,d0,d1,e0,e1,f0,f1,g0,g1,i0,i1,j0,j1,k0,k1,l0,l1,m0,m1,o0,o1,by omega,⟨.ptr (by omega),trivial⟩,trivial⟩
structure WK (S:CS) (W:WS) (fo:List Nat):Prop where
  d:DfI (za3 S) S.F.up.length W [] fo
  t:StI (za3 S) W [] fo 0
  b:WBd W
theorem WK.nil (S:CS):WK S WS0 []:=⟨.nil _ _,.nil _,fun x=>by simp[WS0,WS.dg,WS.zg,zcx,most]⟩
theorem WK.fsame {S:CS} {W:WS} {fo:List Nat} (h:WK S W fo) {F1:FS} (k:FSame S.F F1):WK {S with F:=F1} W fo:=by
  (have e:za3 {S with F:=F1}=za3 S:=funext fun z=>zb6 k z);refine ⟨?_,?_,h.b⟩;(· rw[e];dsimp only;rw[k.len];exact h.d);· rw[e];exact h.t
theorem WK.back {S:CS} {W:WS} {fo:List Nat} {F1:FS} (k:FSame S.F F1) (h:WK {S with F:=F1} W fo):WK S W fo:=by
  (have e:za3 {S with F:=F1}=za3 S:=funext fun z=>zb6 k z);obtain ⟨h1,h2,h3⟩:=h;rw[e] at h1 h2;dsimp only at h1;rw[k.len] at h1;exact ⟨h1,h2,h3⟩
theorem walk_w (S:CS) (hS:CyG S) (W:WS) (fo:List Nat) (h:WK S W fo) (r:Nat) (hr:Rt S.F.up r r):WCalls (σ:=List Nat) 149 [.ptr 12 0,.agg [.ptr 0 0,.v (.int .i64 (r:Int))]] S W (fun s=>FSame S.F s.1.1∧DfI (za3 S) S.F.up.length s.1.2 [] s.2∧StI (za3 S) s.1.2 [] s.2 0∧WBd s.1.2∧r∈s.2∧∀x∈fo,x∈s.2) (fun _=>.tup []):=walk_c S hS W fo h.d h.t h.b r hr
def XWCalls {σ:Type} (f:Nat) (args:List AV) (S:CS) (W:WS) (C:(FS×WS)×σ→Prop) (R:σ→AV):Prop :=
  ACalls Tryz.prog f args (zai 0 (zaF S++zbe W++[.cells 129 [.ptr 12 0]])) 14 fun z os n=>(∃s:(FS×WS)×σ,C s∧z=R s.2∧os=zai 0 (zaF {S with F:=s.1.1}++zbe s.1.2++[.cells 129 [.ptr 12 0]]))∧n=14
theorem XWCalls.at {σ:Type} {f:Nat} {args:List AV} {S:CS} {W:WS} {C:(FS×WS)×σ→Prop} {R:σ→AV} (h:XWCalls f args S W C R) {os':Os} {nx':Nat}
    (ha:RenL (zbs [0,1,2,3,4,5,6,7,8,9,10,11,12,13] nx') args args) (hR:∀s,RenV (zbs [0,1,2,3,4,5,6,7,8,9,10,11,12,13] nx') (R s) (R s)) (hlt:14≤nx') (hg:GetsO os' [0,1,2,3,4,5,6,7,8,9,10,11,12,13] (zaF S++zbe W++[.cells 129 [.ptr 12 0]])) {Q':AV→Os→Nat→Prop}
    (hq:∀(F1:FS) (W1:WS) (s:σ),C ((F1,W1),s)→Q' (R s) (zaq os' ([0,1,2,3,4,5,6,7,8,9,10,11,12,13].zip (zaF {S with F:=F1}++zbe W1++[.cells 129 [.ptr 12 0]]))) nx'):ACalls Tryz.prog f args os' nx' Q':=by
  have ren:∀(S:CS) (W:WS),RenOs (zbs [0,1,2,3,4,5,6,7,8,9,10,11,12,13] nx') 0 (zaF S++zbe W++[.cells 129 [.ptr 12 0]]) (zaF S++zbe W++[.cells 129 [.ptr 12 0]]):=fun S W =>
    ⟨.cells ⟨.v _,.ptr rfl,.ptr rfl,.own rfl,.v _,trivial⟩,.cells ⟨.osl rfl (GNode.dataRows S.G.N),.map rfl,trivial⟩,.tok,.map (zbb S.G.V),.cells ⟨.own rfl,.own rfl,.v _,.v _,trivial⟩,.row (zbg _),.row (za2 _),.row (za2 _),
      .map (za5 _),.map (zbJ _),.map (za5 _),.map (za5 _),.cells ⟨.map rfl,.map rfl,.map rfl,.map rfl,.v _,.v _,trivial⟩,.cells ⟨.ptr rfl,trivial⟩,trivial⟩
  exact ACalls.atE (σ:=(FS×WS)×σ) (C:=C) (args:=args) (R:=fun s=>R s.2) (R':=fun s=>R s.2) (obs:=zaF S++zbe W++[.cells 129 [.ptr 12 0]]) (obs1:=fun s=>zaF {S with F:=s.1.1}++zbe s.1.2++[.cells 129 [.ptr 12 0]]) (obs':=zaF S++zbe W++[.cells 129 [.ptr 12 0]]) (obs1':=fun s=>zaF {S with F:=s.1.1}++zbe s.1.2++[.cells 129 [.ptr 12 0]]) [0,1,2,3,4,5,6,7,8,9,10,11,12,13]
    (by unfold XWCalls at h;exact h) rfl (fun _=>rfl) (by decide) (by simp only[zM,List.not_mem_nil,or_false];omega) ha (fun s=>hR s.2) (ren S W) hg (fun s=>ren _ s.1.2) (fun s hs=>hq s.1.1 s.1.2 s.2 hs)
theorem all1_c (S:CS) (hS:CyG S) (W:WS) (fo:List Nat) (hW:WK S W fo) (v:Int) (r:Nat) (hr:Rt S.F.up r r):ACalls Tryz.prog 148 [.v (.int .i64 v),.agg [.ptr 0 0,.v (.int .i64 (r:Int))],.ptr 13 0] (zai 0 (zaF (S)++zbe (W)++[.cells 129 [.ptr 12 0]])) 14 fun z os n=>(∃s:(FS×WS)×List Nat,(FSame S.F s.1.1∧WK S s.1.2 s.2∧r∈s.2∧∀x∈fo,x∈s.2)∧z=(fun s:List Nat=>.tup []) s.2∧os=zai 0 (zaF {S with F:=s.1.1}++zbe s.1.2++[.cells 129 [.ptr 12 0]]))∧n=14:=by
  refine ACalls.clean (C:=fun zr zo=>∃s:(FS×WS)×List Nat,(FSame S.F s.1.1∧WK S s.1.2 s.2∧r∈s.2∧∀x∈fo,x∈s.2)∧zr=(fun s:List Nat=>.tup []) s.2∧zo=zai 0 (zaF {S with F:=s.1.1}++zbe s.1.2++[.cells 129 [.ptr 12 0]])) ?_;refine zah Tryz.func148 (by kernel_rfl) rfl (by rw[Tryz.ntmps148];simp) (fun hm=>?_);simp only[Tryz.ntmps148,Tryz.results148,zi,zm,Nat.reduceAdd,Nat.reduceSub,zt,zq,zh,zj];simp only[zaF,zbe,zh,zj,zai,Nat.reduceAdd];refine zab fun Y0 y0=>?_;refine zaa ?_;simp only[↓bO,go_sem,seval];refine y0 _ ?_;(try clear y0 Y0);refine zaa ?_;(iterate 2 (refine z8 1 fun Q0 q0=>?_;simp only[↓bO,go_sem,seval];refine q0 _ ?_;clear q0 Q0;simp only[go_sem]));simp only[↓bO,go_sem,seval];refine WCalls.at (walk_w S hS W fo hW r hr) (by exact ⟨.ptr rfl,.agg ⟨.ptr rfl,.v _,trivial⟩,trivial⟩) (fun _=>by exact .tup trivial) (by omega) ⟨rfl,rfl,rfl,rfl,rfl,rfl,rfl,rfl,rfl,rfl,rfl,rfl,rfl,trivial⟩ (fun F1 W1 fo1 hX1=>?_);dsimp only at hX1;simp only[zaF,zbe,zh,zj,zu,zy,zx,zaq,zaz,Nat.reduceEqDiff,↓reduceIte];(try simp only[bS,bA,zaf,zad,zac]);(try simp only[zaf,zad,zac,zaZ,zaW,zaC,bS,bA]);refine ⟨_,zai 0 (zaF {S with F:=F1}++zbe (W1)++[.cells 129 [.ptr 12 0]]),⟨((F1,W1),fo1),?_,rfl,rfl⟩,.tup trivial,xUnd (by omega) _ _,?_,?_,by omega⟩;· exact ⟨hX1.1,⟨hX1.2.1,hX1.2.2.1,hX1.2.2.2.1⟩,hX1.2.2.2.2.1,hX1.2.2.2.2.2⟩
  ·
   exact Le.refl _
  · first | (refine ⟨1,rfl,rfl⟩) | (refine ⟨0,rfl,rfl⟩) | (refine ⟨1,by simp only[zaF,zbe,zh,zj,zai,zw,zk,Nat.reduceAdd],rfl⟩) | (refine ⟨0,by simp only[zaF,zbe,zh,zj,zai,zw,zk,Nat.reduceAdd],rfl⟩)
theorem clz6 {p:Prop} (h:p:=by repeat' first | trivial | exact .inr ⟨_,_,_,rfl,rfl,rfl,rfl⟩ | exact .inl (.refl _) | exact .inl (.any _) | (refine ⟨?_,?_⟩)):p:=h
theorem each1_c (S:CS) (hS:CyG S) (hc:S.clash=false) (W:WS) (fo:List Nat) (hW:WK S W fo):ACalls Tryz.prog 147 [.ptr 0 0,.clo 148 [.ptr 13 0]] (zai 0 (zaF (S)++zbe (W)++[.cells 129 [.ptr 12 0]])) 14 fun z os n=>(∃s:(FS×WS)×List Nat,(FSame S.F s.1.1∧WK S s.1.2 s.2∧∀(v i:Int) (q:Nat),zaM S.G.V v=some i→Rt S.F.up i.toNat q→q∈s.2)∧z=(fun s:List Nat=>.tup []) s.2∧os=zai 0 (zaF {S with F:=s.1.1}++zbe s.1.2++[.cells 129 [.ptr 12 0]]))∧n=14:=by
  refine ACalls.clean (C:=fun zr zo=>∃s:(FS×WS)×List Nat,(FSame S.F s.1.1∧WK S s.1.2 s.2∧∀(v i:Int) (q:Nat),zaM S.G.V v=some i→Rt S.F.up i.toNat q→q∈s.2)∧zr=(fun s:List Nat=>.tup []) s.2∧zo=zai 0 (zaF {S with F:=s.1.1}++zbe s.1.2++[.cells 129 [.ptr 12 0]])) ?_;refine zah Tryz.func147 (by kernel_rfl) rfl (by rw[Tryz.ntmps147];simp) (fun hm=>?_);simp only[Tryz.ntmps147,Tryz.results147,zi,zm,Nat.reduceAdd,Nat.reduceSub,zt,zq,zh,zj];simp only[zaF,zbe,zh,zj,zai,Nat.reduceAdd];have hvl:=hS.vl;refine zab fun Y0 y0=>?_;refine zaa ?_;refine z8 1 fun Q0 q0=>?_;simp only[↓bO,go_sem,seval,zaj,zak,zat,zas];refine q0 _ ?_;clear q0 Q0;simp only[go_sem];refine z8 1 fun Q0 q0=>?_;simp only[↓bO,go_sem,seval,zaj,zak,zat,zas];refine CCalls.at (zeR S (fun _=>hS.h64) (fun _=>by omega)) (.nil) (fun _=>za6 _) (i0:=0) (i1:=1) (i2:=2) (i3:=3) (i4:=4) (i5:=5) (i6:=6) (i7:=7) (by decide) (by simp) ⟨rfl,rfl,rfl,rfl,rfl,rfl,rfl,rfl,trivial⟩ (fun Z9 u9 hZ9=>?_);(try dsimp only at hZ9);simp only[zaL,zu,zy,zx,zaq,zaz,Nat.reduceEqDiff,↓reduceIte];obtain rfl:S=Z9:=hZ9.symm;rw[if_neg (show ¬(S.clash=true) from by rw[hc];decide)];obtain ⟨L,hL⟩:∃L,L=zbV (S.G.V.map Prod.fst):=⟨_,rfl⟩;rw[← hL];(have hLl:L.length≤1048576:=by (rw[hL,List.length_mergeSort,zS];exact hvl));(try simp only[bS,bA,zaf,zad,zac]);refine q0 _ ?_;clear q0 Q0;simp only[go_sem];refine z8 1 fun Q0 q0=>?_;simp only[↓bO,go_sem,seval,zaj,zak,zat,zas];refine q0 _ ?_;clear q0 Q0;simp only[go_sem];simp only[↓bO,go_sem,seval,zaj,zak,zat,zas];refine y0 _ ?_;(try clear y0 Y0);refine zav ?_;refine zaS (σ:=FS×WS×List Nat×Nat) (mB 26 3587) (fun s=>FSame S.F s.1∧WK S s.2.1 s.2.2.1∧s.2.2.2≤L.length∧(∀(j:Nat) (v i:Int) (q:Nat),j<s.2.2.2→L[j]?=some v→zaM S.G.V v=some i→Rt S.F.up i.toNat q→q∈s.2.2.1)) (fun s=>[(11,.v (.int .i64 (s.2.2.2:Int)))]) (fun s=>[(4,.cells 184 [.own 5 s.1.up.length,.own 6 s.1.rank.length,.v (.int .i64 s.1.sets),.v (.int .i64 s.1.steps)]),(5,.row 3 1 (s.1.up.map nC)),(6,.row 3 1 (s.1.rank.map intC)),(8,.map (mC cI s.2.1.st)),(9,.map (mC cB s.2.1.cy)),(10,.map (mC cI s.2.1.de)),(11,.map (mC cI s.2.1.sz)),(12,.cells 134 [.map 8,.map 9,.map 10,.map 11,.v (.int .i64 s.2.1.steps),.v (.bool s.2.1.bad)])]) (fun s=>L.length-s.2.2.2) (S.F,W,fo,0) (⟨FSame.refl hS.c.f,hW,Nat.zero_le _,fun j v i q hj=>by simp at hj⟩) ?_ (fun s hs=>?_)
  ·
   simp only[zaA,zaB,zaq,zaz,mB,zc,zb,seval];exact zcm
  simp only[zaA,zaB,zaq,zaz,mB,zc,zb,seval];refine zab fun Y0 y0=>?_;refine zaa ?_;simp only[↓bO,go_sem,seval,zaj,zak,zat,zas];refine y0 _ ?_;(try clear y0 Y0);refine zab fun Y0 y0=>?_;refine zan rfl (fun hb12=>?_) (fun hb12=>?_)
  ·
   (have hk:s.2.2.2<L.length:=by simpa using hb12);obtain ⟨v,he⟩:∃v,L[s.2.2.2]?=some v:=⟨_,zd hk⟩;obtain ⟨i,hvi⟩:=zep (V:=S.G.V) v (by rw[← hL];exact zl he);have hw1:IntKind.i64.wrap ((s.2.2.2:Int)+1)=(s.2.2.2:Int)+1:=zaT (by omega) (by omega);refine zar ?_;(try simp only[zaf,zad,zac]);refine y0 _ ?_;(try clear y0 Y0);refine zab fun Y0 y0=>?_;refine zav ?_;refine zab fun Y1 y1=>?_;refine zaa ?_;(iterate 2 (refine z8 1 fun Q0 q0=>?_;simp only[↓bO,go_sem,seval,zaj,zak,zat,zas,hk,gM he,intC,hw1,za];refine q0 _ ?_;clear q0 Q0;simp only[go_sem]));simp only[↓bO,go_sem,seval,zaj,zak,zat,zas,hk,gM he,intC,hw1,za];refine y1 _ ?_;(try clear y1 Y1);refine zdT (σ:=FS×Nat) (mB 26 3683) (fun y3=>[(6,.eptr [.ptr 0 0,.v (.int .i64 (y3.2:Int))])]) (fun y3=>[(0,.cells 127 [.v (.int .i64 S.steps),.ptr 1 0,.ptr 4 0,.own 7 S.W.length,.v (.bool S.clash)]),(1,.cells 169 [.osl 2 4 (S.G.N.map GNode.cells),.map 3]),(2,.tok 194 4 S.G.N.length),(3,.map (S.G.V.map vC)),(4,.cells 184 [.own 5 y3.1.up.length,.own 6 y3.1.rank.length,.v (.int .i64 y3.1.sets),.v (.int .i64 y3.1.steps)]),(5,.row 3 1 (y3.1.up.map nC)),(6,.row 3 1 (y3.1.rank.map intC)),(7,.row 3 1 (S.W.map intC)),(8,.map (mC cI s.2.1.st)),(9,.map (mC cB s.2.1.cy)),(10,.map (mC cI s.2.1.de)),(11,.map (mC cI s.2.1.sz)),(12,.cells 134 [.map 8,.map 9,.map 10,.map 11,.v (.int .i64 s.2.1.steps),.v (.bool s.2.1.bad)]),(13,.cells 129 [.ptr 12 0])]) 14 (fun y3=>FSame S.F y3.1∧Rt S.F.up i.toNat y3.2) ?_ (fun y3 hy3=>?_)
   ·
    refine zaa ?_;(iterate 2 (refine z8 1 fun Q0 q0=>?_;simp only[↓bO,go_sem,seval,zaj,zak,zat,zas,hk,gM he,intC,hw1,za];refine q0 _ ?_;clear q0 Q0;simp only[go_sem]));refine z8 1 fun Q0 q0=>?_;simp only[↓bO,go_sem,seval,zaj,zak,zat,zas,hk,gM he,intC,hw1,za];refine CCalls.atP (R':=fun s=>.tup [.agg (zaw 0 s),.v (.bool true)]) (zhU {S with F:=s.1} hs.1.inv (fun n k h=>by have:=hS.vin n k h;dsimp only;rw[hs.1.len];exact this) hc v i hvi) (i0:=0) (i1:=1) (i2:=2) (i3:=3) (i4:=4) (i5:=5) (i6:=6) (i7:=7) (by exact ⟨.ptr rfl,.v _,trivial⟩) (fun _=>by exact .tup ⟨.part rfl _,.v _,trivial⟩) (by decide) (by simp) ⟨rfl,rfl,rfl,rfl,rfl,rfl,rfl,rfl,trivial⟩ (fun Z1 r1 hX1=>?_);(try dsimp only at hX1);simp only[zaL,zu,zy,zx,zaq,zaz,Nat.reduceEqDiff,↓reduceIte];obtain ⟨F1,rfl⟩:∃F,Z1={S with F:=F}:=⟨Z1.F,hX1.2.1⟩;dsimp only at hX1;have hF1:FSame S.F F1:=hs.1.trans hX1.1;have hrt:=(hs.1.rt _ _).1 hX1.2.2;(try simp only[bS,bA,zaf,zad,zac]);(iterate 5 (refine q0 _ ?_;clear q0 Q0;simp only[go_sem];refine z8 1 fun Q0 q0=>?_;simp only[↓bO,go_sem,seval,zaj,zak,zat,zas,hk,gM he,intC,hw1,za,zaw]));refine q0 _ ?_;clear q0 Q0;simp only[go_sem];simp only[↓bO,go_sem,seval,zaj,zak,zat,zas,hk,gM he,intC,hw1,za,zaw];(try simp only[zaA,zaB,zaq,zaz,mB,zc,zb,seval]);refine ⟨(F1,r1),⟨hF1,hrt⟩,?_⟩;refine Weak.freeze ?_ ⟨rfl,rfl,rfl,rfl,rfl,rfl,rfl,rfl,rfl,rfl,rfl,rfl,rfl,rfl,trivial⟩ (by first | omega | (simp only;omega)) (by first | omega | (simp only;omega)) ?_ ?_;(· exact clz6);(· repeat' first | exact trivial | exact .any _ | exact .ptr (by omega) | exact .own (by omega) | exact .v _ _ | exact Und.data (EqT.dataSl _) | exact Und.data (za6 _) | exact Und.eptr ⟨.ptr (by omega),.v _ _,trivial⟩ | exact .clo ⟨.ptr (by omega),trivial⟩ | (refine ⟨?_,?_⟩));· repeat' first | exact trivial | (with_reducible omega) | exact .any _ | exact .ptr (by omega) | exact .own (by omega) | exact .v _ _ | exact .map (by omega) | exact Und.oslG (by omega) | exact Und.rowI (zbg _) | exact Und.rowI (za2 _) | exact (fun p hp=>.data (zbb _ p hp)) | exact (fun p hp=>.data (za5 _ p hp)) | exact (fun p hp=>.data (zbJ _ p hp)) | (refine ⟨?_,?_⟩)
   simp only[zaA,zaB,zaq,zaz,mB,zc,zb,seval];obtain ⟨F1,r1⟩:=y3;obtain ⟨hF1,hrt⟩:=hy3;dsimp only at hF1 hrt;dsimp only;refine zaa ?_;(iterate 3 (refine z8 1 fun Q0 q0=>?_;simp only[↓bO,go_sem,seval,zaj,zak,zat,zas,hk,gM he,intC,hw1,za];refine q0 _ ?_;clear q0 Q0;simp only[go_sem]));simp only[↓bO,go_sem,seval,zaj,zak,zat,zas,hk,gM he,intC,hw1,za];refine ACalls.mono (show ACalls Tryz.prog 148 _ (zai 0 (zaF {S with F:=F1}++zbe s.2.1++[.cells 129 [.ptr 12 0]])) 14 _ from all1_c {S with F:=F1} (hS.fsame hF1 (hS.c.fsame hF1)) s.2.1 s.2.2.1 (hs.2.1.fsame hF1) v r1 ((hF1.rt _ _).2 (zcb.1 hrt.root))) ?_;rintro z os' nx' ⟨⟨⟨⟨F2,W2⟩,fo2⟩,hY,rfl,rfl⟩,rfl⟩;dsimp only at hY;obtain ⟨y1,y2,y3,y4⟩:=hY;have hF2:=hF1.trans y1;have hK2:=WK.back hF1 y2;simp only[zaF,zbe,zh,zj,zai,Nat.reduceAdd];(try simp only[bS,bA,zaf,zad,zac]);refine y0 _ ?_;(try clear y0 Y0);refine zaa ?_;refine z8 1 fun Q0 q0=>?_;simp only[↓bO,go_sem,seval,zaj,zak,zat,zas,hk,gM he,intC,hw1,za];refine q0 _ ?_;clear q0 Q0;simp only[go_sem];simp only[↓bO,go_sem,seval,zaj,zak,zat,zas,hk,gM he,intC,hw1,za];refine ⟨(F2,W2,fo2,s.2.2.2+1),⟨hF2,hK2,by simp only;omega,fun j v9 i9 q9 hj hv9 hi9 hq9=>(by (rcases zO j s.2.2.2 with h9 | h9;exact y4 q9 (hs.2.2.2 j v9 i9 q9 h9 hv9 hi9 hq9);(obtain rfl:j=s.2.2.2:=by (simp only at hj;omega));rw[he] at hv9;cases hv9;rw[hvi] at hi9;cases hi9;rw[Rt.det hq9 hrt];exact y3))⟩,(by simp only;omega),?_⟩;simp only[zaA,zaB,zaq,zaz,mB,zc,zb,seval,hk,gM he,intC,hw1,za,zL,zP];exact zcm
  ·
   (have hk:s.2.2.2=L.length:=by (have h9:=hb12;simp at h9;have:=hs.2.2.1;omega));refine zaV ?_;simp only[zaf,zad,zac,bA,Nat.reduceEqDiff,↓reduceIte];(try simp only[zaf,zad,zac,zaZ,zaW,zaC,bS,bA]);refine ⟨_,zai 0 (zaF {S with F:=s.1}++zbe (s.2.1)++[.cells 129 [.ptr 12 0]]),⟨((s.1,s.2.1),s.2.2.1),?_,rfl,rfl⟩,.tup trivial,xUnd (by omega) _ _,?_,?_,by omega⟩;· exact ⟨hs.1,hs.2.1,fun v i q hvi hq=>(by (obtain ⟨j,hj,e⟩:=zZ.1 (show v∈L from by (rw[hL];exact (List.mergeSort_perm _ _).mem_iff.2 (zC.2 ⟨_,zb9 hvi,rfl⟩)));exact hs.2.2.2 j v i q (by rw[hk];exact hj) (by rw[zd hj,e]) hvi hq))⟩
   ·
    exact Le.refl _
   · first | (refine ⟨0,rfl,rfl⟩) | (refine ⟨0,by simp only[zaF,zbe,zh,zj,zai,zw,zk,Nat.reduceAdd],rfl⟩)
end Go.Proofs.YtpfiliamceimmaaGreatDoor
namespace Go.Proofs.YtpfiliamceimmaaGreatDoor
open Go Go.RowKit
attribute [local irreducible] aops za1
def aOs (S:CS) (W:WS):Os:=(12,.cells 134 [.map 8,.map 9,.map 10,.map 11,.v (.int .i64 W.steps),.v (.bool W.bad)])::(11,.map (mC cI W.sz))::(10,.map (mC cI W.de))::(9,.map (mC cB W.cy))::(8,.map (mC cI W.st))::zai 0 (zaF S)
theorem aUnd {n:Nat} (h:13≤n) (S:CS) (W:WS):UndOs n (aOs S W) :=
  ⟨by omega,⟨.map (by omega),.map (by omega),.map (by omega),.map (by omega),.v _ _,.v _ _,trivial⟩,by omega,fun p hp=>.data (za5 _ p hp),by omega,fun p hp=>.data (za5 _ p hp),by omega,fun p hp=>.data (zbJ _ p hp),by omega,fun p hp=>.data (za5 _ p hp),zcp (by omega) S⟩
def AllR (S:CS) (s:(FS×WS)×List Nat):Prop:=(S.clash=true∧s.1.1=S.F∧s.1.2={WS0 with bad:=true}∧s.2=[]) ∨
  (S.clash=false∧FSame S.F s.1.1∧WK S s.1.2 s.2∧∀(v i:Int) (q:Nat),zaM S.G.V v=some i→Rt S.F.up i.toNat q→q∈s.2)
def zfU (S:CS) (s:Bool×Int):Prop:=(S.clash=true∧s=(false,0)) ∨
  (S.clash=false∧(s.1=false→∃y,y<S.F.up.length∧Pls (za3 S) y y)∧(s.1=true→∀(v i:Int) (q:Nat),zaM S.G.V v=some i→Rt S.F.up i.toNat q→¬Lp (za3 S) q)∧0≤s.2∧s.2≤11 * (S.F.up.length:Int))
theorem AllR.count {S:CS} {F1:FS} {W1:WS} {fo1:List Nat} (hS:S.clash=false→CyG S) (h:AllR S ((F1,W1),fo1)):zfU S (!W1.bad,W1.steps):=by
  rcases h with ⟨h1,_,h2,_⟩ | ⟨h1,h2,h3,h4⟩
  · dsimp only at h2
    subst h2;exact .inl ⟨h1,rfl⟩
  · dsimp only at h2 h3 h4
    have hd:=h3.d
    have hn:fo1.length≤S.F.up.length:=by
      have h5:=zdl (by simpa using hd.nd) (fun r hr=>hd.lt r (by simpa using hr));exact h5
    have hst:=h3.t.bound (zch (hS h1));refine .inr ⟨h1,fun hb=>?_,fun hb v i q hv hq hl=>?_,h3.t.pos,by omega⟩
    · obtain ⟨y,hy,hp⟩:=hd.bad_iff.1 (by simpa using hb)
      exact ⟨y,hd.lt y (by simpa using hy),hp⟩
    · obtain ⟨y,h5,h6⟩:=hl
      have h7:=hd.rch h5 (h4 v i q hv hq);have:=hd.bad_iff.2 ⟨y,h7,h6⟩;rw[this] at hb;cases hb
theorem each1_w (S:CS) (hS:CyG S) (hc:S.clash=false) (W:WS) (fo:List Nat) (hW:WK S W fo):XWCalls (σ:=List Nat) 147 [.ptr 0 0,.clo 148 [.ptr 13 0]] S W (fun s=>FSame S.F s.1.1∧WK S s.1.2 s.2∧∀(v i:Int) (q:Nat),zaM S.G.V v=some i→Rt S.F.up i.toNat q→q∈s.2) (fun _=>.tup []):=each1_c S hS hc W fo hW
theorem all_c (S:CS) (hS:S.clash=false→CyG S):ACalls Tryz.prog 124 [.ptr 0 0] (zai 0 (zaF S)) 8 fun z os n=>(∃s:(FS×WS)×List Nat,AllR S s∧z=.ptr 12 0∧os=aOs {S with F:=s.1.1} s.1.2)∧n=13:=by
  refine ACalls.cleanN (n:=13) (C:=fun zr zo=>∃s:(FS×WS)×List Nat,AllR S s∧zr=.ptr 12 0∧zo=aOs {S with F:=s.1.1} s.1.2) (by omega) ?_;refine zah Tryz.func124 (by kernel_rfl) rfl (by rw[Tryz.ntmps124];simp) (fun hm=>?_);simp only[Tryz.ntmps124,Tryz.results124,zi,zm,Nat.reduceAdd,Nat.reduceSub,zt,zq,zh,zj];simp only[zaF,zai,Nat.reduceAdd];refine zab fun Y0 y0=>?_;refine zaa ?_;simp only[↓bO,go_sem,seval];refine y0 _ ?_;(try clear y0 Y0);refine zab fun Y0 y0=>?_;refine zaa ?_;(iterate 7 (refine z8 1 fun Q0 q0=>?_;simp only[↓bO,go_sem,seval];refine q0 _ ?_;clear q0 Q0;simp only[go_sem]));simp only[↓bO,go_sem,seval];refine y0 _ ?_;(try clear y0 Y0);refine zab fun Y0 y0=>?_;refine zab fun Y1 y1=>?_;refine zaa ?_;refine z8 1 fun Q0 q0=>?_;simp only[↓bO,go_sem,seval];refine q0 _ ?_;clear q0 Q0;simp only[go_sem];refine z8 1 fun Q0 q0=>?_;simp only[↓bO,go_sem,seval];refine CCalls.at (Err_c S) (.nil) (fun _=>.v _) (i0:=0) (i1:=1) (i2:=2) (i3:=3) (i4:=4) (i5:=5) (i6:=6) (i7:=7) (by decide) (by simp) ⟨rfl,rfl,rfl,rfl,rfl,rfl,rfl,rfl,trivial⟩ (fun Z9 u9 hZ9=>?_);(try dsimp only at hZ9);simp only[zaL,zu,zy,zx,zaq,zaz,Nat.reduceEqDiff,↓reduceIte];obtain rfl:S=Z9:=hZ9.symm;(try simp only[bS,bA,zaf,zad,zac]);refine q0 _ ?_;clear q0 Q0;simp only[go_sem];simp only[↓bO,go_sem,seval];refine y1 _ ?_;(try clear y1 Y1);refine zan rfl (fun hb12=>?_) (fun hb12=>?_)
  ·
   (have hcs:S.clash=true:=by (have h9:=hb12;cases hc:S.clash <;> simp[hc] at h9 ⊢));refine zab fun Y1 y1=>?_;refine zaa ?_;(iterate 3 (refine z8 1 fun Q0 q0=>?_;simp only[↓bO,go_sem,seval];refine q0 _ ?_;clear q0 Q0;simp only[go_sem]));simp only[↓bO,go_sem,seval];refine y1 _ ?_;(try clear y1 Y1);refine zab fun Y1 y1=>?_;refine zaa ?_;refine z8 1 fun Q0 q0=>?_;simp only[↓bO,go_sem,seval];refine q0 _ ?_;clear q0 Q0;simp only[go_sem];simp only[↓bO,go_sem,seval];refine y1 _ ?_;(try clear y1 Y1);refine zam ?_;(try simp only[zaf,zad,zac,zaZ,zaW,zaC,bS,bA]);refine ⟨_,aOs {S with F:=S.F} ({WS0 with bad:=true}),⟨((S.F,{WS0 with bad:=true}),[]),?_,rfl,rfl⟩,.ptr (by omega),aUnd (by omega) _ _,Le.refl _,?_,by omega⟩;(· exact .inl ⟨hcs,rfl,rfl,rfl⟩);· exact ⟨1,rfl,rfl⟩
  ·
   (have hcs:S.clash=false:=by (have h9:=hb12;cases hc:S.clash <;> simp[hc] at h9 ⊢));refine zar ?_;(try simp only[zaf,zad,zac]);refine y0 _ ?_;(try clear y0 Y0);refine zab fun Y0 y0=>?_;refine zaa ?_;(iterate 2 (refine z8 1 fun Q0 q0=>?_;simp only[↓bO,go_sem,seval];refine q0 _ ?_;clear q0 Q0;simp only[go_sem]));simp only[↓bO,go_sem,seval];refine XWCalls.at (σ:=List Nat) (S:=S) (W:=WS0) (each1_w S (hS hcs) hcs WS0 [] (WK.nil S)) (by exact ⟨.ptr rfl,.clo ⟨.ptr rfl,trivial⟩,trivial⟩) (fun _=>by exact .tup trivial) (by omega) ⟨rfl,rfl,rfl,rfl,rfl,rfl,rfl,rfl,rfl,rfl,rfl,rfl,rfl,rfl,trivial⟩ (fun F1 W1 fo1 hX1=>?_);dsimp only at hX1;simp only[zaF,zbe,zh,zj,zu,zy,zx,zaq,zaz,Nat.reduceEqDiff,↓reduceIte];(try simp only[bS,bA,zaf,zad,zac]);refine y0 _ ?_;(try clear y0 Y0);refine zab fun Y0 y0=>?_;refine zaa ?_;refine z8 1 fun Q0 q0=>?_;simp only[↓bO,go_sem,seval];refine q0 _ ?_;clear q0 Q0;simp only[go_sem];simp only[↓bO,go_sem,seval];refine y0 _ ?_;(try clear y0 Y0);refine zam ?_;(try simp only[zaf,zad,zac,zaZ,zaW,zaC,bS,bA]);refine ⟨_,aOs {S with F:=F1} (W1),⟨((F1,W1),fo1),?_,rfl,rfl⟩,.ptr (by omega),aUnd (by omega) _ _,Le.refl _,?_,by omega⟩;(· exact .inr ⟨hcs,hX1.1,hX1.2.1,hX1.2.2⟩);· exact ⟨1,rfl,rfl⟩
theorem Count_c (S:CS) (hS:S.clash=false→CyG S):CCalls (σ:=Bool×Int) 88 [.ptr 0 0] (S) (fun s=>s.1={S with F:=s.1.F}∧(S.clash=false→FSame S.F s.1.F)∧zfU S s.2) (fun s=>.tup [.v (.bool s.1),.v (.int .i64 s.2)]):=by
  refine ACalls.clean (C:=fun r os=>∃s:CS×Bool×Int,(s.1={S with F:=s.1.F}∧(S.clash=false→FSame S.F s.1.F)∧zfU S s.2)∧r=(fun s:Bool×Int=>.tup [.v (.bool s.1),.v (.int .i64 s.2)]) s.2∧os=zai 0 (zaF s.1)) ?_;refine zah Tryz.func88 (by kernel_rfl) rfl (by rw[Tryz.ntmps88];simp) (fun hm=>?_);simp only[Tryz.ntmps88,Tryz.results88,zi,zm,Nat.reduceAdd,Nat.reduceSub,zt,zq,zh,zj];simp only[zaF,zai,Nat.reduceAdd];refine zab fun Y0 y0=>?_;refine zaa ?_;refine z8 1 fun Q0 q0=>?_;simp only[↓bO,go_sem,seval];refine q0 _ ?_;clear q0 Q0;simp only[go_sem];simp only[↓bO,go_sem,seval];refine y0 _ ?_;(try clear y0 Y0);refine zab fun Y0 y0=>?_;refine zaa ?_;refine z8 1 fun Q0 q0=>?_;simp only[↓bO,go_sem,seval];refine q0 _ ?_;clear q0 Q0;simp only[go_sem];refine z8 1 fun Q0 q0=>?_;simp only[↓bO,go_sem,seval];refine ACalls.mono (show ACalls Tryz.prog 124 _ (zai 0 (zaF S)) 8 _ from all_c S hS) ?_;rintro z os' nx' ⟨⟨⟨⟨F1,W1⟩,fo1⟩,hA,rfl,rfl⟩,rfl⟩;dsimp only;simp only[aOs,zaF,zai,Nat.reduceAdd];(try simp only[bS,bA,zaf,zad,zac]);refine q0 _ ?_;clear q0 Q0;simp only[go_sem];simp only[↓bO,go_sem,seval];refine y0 _ ?_;(try clear y0 Y0);refine zab fun Y0 y0=>?_;refine zaP [(12,5,[.v (.bool W1.bad)]),(12,4,[.v (.int .i64 W1.steps)])] 11 rfl mixed (⟨⟨_,_,rfl,by simp,rfl,trivial,trivial⟩,⟨_,_,rfl,by simp,rfl,trivial,trivial⟩,trivial⟩) rfl ?_;dsimp only;refine zae 0 rfl (by kernel_rfl) (by kernel_rfl) (by kernel_rfl) (fun _ _ h=>h) fun Q0 q0=>?_;simp only[↓bO,go_sem,seval];refine q0 _ ?_;clear q0 Q0;refine zae 1 rfl (by kernel_rfl) (by kernel_rfl) (by kernel_rfl) (fun _ _ h=>h) fun Q0 q0=>?_;simp only[↓bO,go_sem,seval];refine q0 _ ?_;clear q0 Q0;refine zae 2 rfl (by kernel_rfl) (by kernel_rfl) (by kernel_rfl) (fun _ _ h=>h) fun Q0 q0=>?_;simp only[↓bO,go_sem,seval];refine q0 _ ?_;clear q0 Q0;refine zay 3 0 rfl rfl (by kernel_rfl) (by kernel_rfl) (by kernel_rfl) (fun _ _ h=>h) fun Q0 q0=>?_;simp only[↓bO,go_sem,seval];refine q0 _ ?_;clear q0 Q0;refine zae 5 rfl (by kernel_rfl) (by kernel_rfl) (by kernel_rfl) (fun _ _ h=>h) fun Q0 q0=>?_;simp only[↓bO,go_sem,seval];refine q0 _ ?_;clear q0 Q0;refine zae 6 rfl (by kernel_rfl) (by kernel_rfl) (by kernel_rfl) (fun _ _ h=>h) fun Q0 q0=>?_;simp only[↓bO,go_sem,seval];refine q0 _ ?_;clear q0 Q0;refine zae 7 rfl (by kernel_rfl) (by kernel_rfl) (by kernel_rfl) (fun _ _ h=>h) fun Q0 q0=>?_;simp only[↓bO,go_sem,seval];refine q0 _ ?_;clear q0 Q0;refine zay 8 1 rfl rfl (by kernel_rfl) (by kernel_rfl) (by kernel_rfl) (fun _ _ h=>h) fun Q0 q0=>?_;simp only[↓bO,go_sem,seval];refine q0 _ ?_;clear q0 Q0;refine zag (i:=4) (by kernel_rfl) ?_
  ·
   refine zal rfl rfl fun Q0 q0=>?_;simp only[↓bO,go_sem,seval];refine q0 _ ⟨⟨⟨_,_,rfl,by simp,rfl,trivial,trivial⟩,⟨_,_,rfl,by simp,rfl,trivial,trivial⟩,trivial⟩,?_⟩;clear q0 Q0;refine zae 9 rfl (by kernel_rfl) (by kernel_rfl) (by kernel_rfl) (fun _ _ h=>h) fun Q0 q0=>?_;simp only[↓bO,go_sem,seval];refine q0 _ ?_;clear q0 Q0;refine zae 10 rfl (by kernel_rfl) (by kernel_rfl) (by kernel_rfl) (fun _ _ h=>h) fun Q0 q0=>?_;simp only[↓bO,go_sem,seval];refine q0 _ ?_;clear q0 Q0;refine zaG (by kernel_rfl) ?_;simp only[zaf,zad,zac];refine y0 _ ?_;(try clear y0 Y0);refine zam ?_;(try simp only[zaf,zad,zac,zaZ,zaW,zaC,bS,bA]);refine ⟨_,zai 0 (zaF ({S with F:=F1})),⟨({S with F:=F1},(!W1.bad,W1.steps)),?_,rfl,rfl⟩,.tup ⟨.v _ _,.v _ _,trivial⟩,zcp (by omega) _,?_,?_,by omega⟩;· exact ⟨rfl,fun hc=>(by rcases hA with ⟨h9,_⟩ | ⟨_,h9,_⟩;(rw[hc] at h9;cases h9);exact h9),hA.count hS⟩
   ·
    exact Le.refl _
   · first | (refine ⟨5,rfl,rfl⟩) | (refine ⟨5,by simp only[zaF,zai,zw,zk,Nat.reduceAdd],rfl⟩)
end Go.Proofs.YtpfiliamceimmaaGreatDoor
namespace Go.Proofs.YtpfiliamceimmaaGreatDoor
open Go Go.RowKit
attribute [local irreducible] aops za1
def sG (sn:List (Int×Bool)) (x:Nat):Bool:=(zcx sn x).getD false
theorem sG_set (sn:List (Int×Bool)) (r x:Nat):sG (zfE sn r true) x=if x=r then true else sG sn x:=by
  unfold sG;rw[zbw]
  by_cases h:x=r
  (· subst h;simp);· rw[if_neg (ze8 h),if_neg h]
structure ReR (K:Nat→List Nat) (W:WS) (r:Nat) (sn sn':List (Int×Bool)) (b:Bool):Prop where
  mono:∀x,sG sn x=true→sG sn' x=true
  yes:b=true→∃v,Rch K r v∧W.cg v=true
  no:b=false→sG sn' r=true∧(W.cg r=false)∧∀x,sG sn' x=true→sG sn x=true∨(W.cg x=false∧∀c∈K x,sG sn' c=true)
structure ReL (K:Nat→List Nat) (W:WS) (r:Nat) (sn sn':List (Int×Bool)) (k:Nat):Prop where
  mono:∀x,sG sn x=true→sG sn' x=true
  self:sG sn' r=true
  done:∀(j v:Nat),j<k→(K r)[j]?=some v→sG sn' v=true
  new:∀x,sG sn' x=true→sG sn x=true∨x=r∨(W.cg x=false∧∀c∈K x,sG sn' c=true)
theorem ReL.start (K:Nat→List Nat) (W:WS) (r:Nat) (sn:List (Int×Bool)):ReL K W r sn (zfE sn r true) 0 :=
  ⟨fun x hx=>by rw[sG_set];split <;> simp_all,by rw[sG_set,if_pos rfl],fun j v hj=>by omega,fun x hx=>by
    rw[sG_set] at hx;(split at hx);· rename_i e;exact .inr (.inl e)
    · exact .inl hx⟩
theorem ReL.step {K:Nat→List Nat} {W:WS} {r q k:Nat} {sn s1 s2:List (Int×Bool)} (h:ReL K W r sn s1 k) (hq:(K r)[k]?=some q) (h2:ReR K W q s1 s2 false):ReL K W r sn s2 (k+1):=by
  obtain ⟨n1,n2,n3⟩:=h2.no rfl;refine ⟨fun x hx=>h2.mono x (h.mono x hx),h2.mono r h.self,fun j v hj hv=>?_,fun x hx=>?_⟩
  · rcases zO j k with h9 | h9
    · exact h2.mono v (h.done j v h9 hv)
    · obtain rfl:j=k:=by omega
      rw[hq] at hv;cases hv;exact n1
  · rcases n3 x hx with h9 | h9
    · rcases h.new x h9 with h8 | h8 | ⟨h8,h7⟩
      (· exact .inl h8);(· exact .inr (.inl h8));· exact .inr (.inr ⟨h8,fun c hc=>h2.mono c (h7 c hc)⟩)
    · exact .inr (.inr h9)
theorem ReL.yes {K:Nat→List Nat} {W:WS} {r q k:Nat} {sn s1 s2:List (Int×Bool)} (h:ReL K W r sn s1 k) (hq:(K r)[k]?=some q) (h2:ReR K W q s1 s2 true):ReR K W r sn s2 true:=by
  obtain ⟨v,hv,hm⟩:=h2.yes rfl;exact ⟨fun x hx=>h2.mono x (h.mono x hx),fun _=>⟨v,.step (zl hq) hv,hm⟩,fun hb=>by cases hb⟩
theorem ReL.fin {K:Nat→List Nat} {W:WS} {r k:Nat} {sn s1:List (Int×Bool)} (h:ReL K W r sn s1 k) (hk:(K r).length≤k) (hr:W.cg r=false):ReR K W r sn s1 false:=by
  have hall:∀c∈K r,sG s1 c=true:=fun c hc=>by
    obtain ⟨j,hj,e⟩:=zZ.1 hc;exact h.done j c (by omega) (by rw[zd hj,e])
  refine ⟨h.mono,fun hb=>(by cases hb),fun _=>⟨h.self,hr,fun x hx=>?_⟩⟩;(rcases h.new x hx with h8 | rfl | h8);(· exact .inl h8);(· exact .inr ⟨hr,hall⟩);· exact .inr h8
def YCalls (f:Nat) (args:List AV) (S:CS) (W:WS) (sn:List (Int×Bool)) (C:(FS×WS)×List (Int×Bool)×Bool→Prop):Prop :=
  ACalls Tryz.prog f args (zai 0 (zaF S++zbe W++[.map (mC cB sn)])) 14 fun z os n=>(∃s:(FS×WS)×List (Int×Bool)×Bool,C s∧z=(fun s:List (Int×Bool)×Bool=>.v (.bool s.2)) s.2∧os=zai 0 (zaF {S with F:=s.1.1}++zbe s.1.2++[.map (mC cB s.2.1)]))∧n=14
theorem YCalls.at {f:Nat} {args args':List AV} {S:CS} {W:WS} {sn:List (Int×Bool)} {C:(FS×WS)×List (Int×Bool)×Bool→Prop} (h:YCalls f args S W sn C) {m:Nat} {os':Os} {nx':Nat} (hm:13≤m)
    (ha:RenL (zbs [0,1,2,3,4,5,6,7,8,9,10,11,12,m] nx') args args') (hlt:m<nx') (hg:GetsO os' [0,1,2,3,4,5,6,7,8,9,10,11,12,m] (zaF S++zbe W++[.map (mC cB sn)])) {Q':AV→Os→Nat→Prop}
    (hq:∀(F1:FS) (W1:WS) (s:List (Int×Bool)) (b:Bool),C ((F1,W1),s,b)→Q' (.v (.bool b)) (zaq os' ([0,1,2,3,4,5,6,7,8,9,10,11,12,m].zip (zaF {S with F:=F1}++zbe W1++[.map (mC cB s)]))) nx'):ACalls Tryz.prog f args' os' nx' Q':=by
  have ren:∀(S:CS) (W:WS) (sn:List (Int×Bool)),RenOs (zbs [0,1,2,3,4,5,6,7,8,9,10,11,12,m] nx') 0 (zaF S++zbe W++[.map (mC cB sn)]) (zaF S++zbe W++[.map (mC cB sn)]):=fun S W sn =>
    ⟨.cells ⟨.v _,.ptr rfl,.ptr rfl,.own rfl,.v _,trivial⟩,.cells ⟨.osl rfl (GNode.dataRows S.G.N),.map rfl,trivial⟩,.tok,.map (zbb S.G.V),.cells ⟨.own rfl,.own rfl,.v _,.v _,trivial⟩,.row (zbg _),.row (za2 _),.row (za2 _),
      .map (za5 _),.map (zbJ _),.map (za5 _),.map (za5 _),.cells ⟨.map rfl,.map rfl,.map rfl,.map rfl,.v _,.v _,trivial⟩,.map (zbJ _),trivial⟩
  refine ACalls.atE (σ:=(FS×WS)×List (Int×Bool)×Bool) (C:=C) (args:=args) (R:=fun s=>.v (.bool s.2.2)) (R':=fun s=>.v (.bool s.2.2)) (obs:=zaF S++zbe W++[.map (mC cB sn)]) (obs1:=fun s=>zaF {S with F:=s.1.1}++zbe s.1.2++[.map (mC cB s.2.1)]) (obs':=zaF S++zbe W++[.map (mC cB sn)]) (obs1':=fun s=>zaF {S with F:=s.1.1}++zbe s.1.2++[.map (mC cB s.2.1)]) [0,1,2,3,4,5,6,7,8,9,10,11,12,m]
    (by unfold YCalls at h;exact h) rfl (fun _=>rfl) ?_ (by simp only[zM,List.not_mem_nil,or_false];omega) ha (fun s=>.v _) (ren S W sn) hg (fun s=>ren _ s.1.2 s.2.1) (fun s hs=>hq s.1.1 s.1.2 s.2.1 s.2.2 hs)
  (have hne:∀k,k<13→k≠m:=fun k hk=>by omega);(simp[List.nodup_cons]);omega
end Go.Proofs.YtpfiliamceimmaaGreatDoor
namespace Go.Proofs.YtpfiliamceimmaaGreatDoor
open Go Go.RowKit
theorem zhL:∀{l m:List Int},l.Nodup→(∀x∈l,x∈m)→l.length≤m.length
  | [],m,_,_=>by simp
  | x::l,m,hn,hs=>by
    have h1:=List.nodup_cons.1 hn;(have h2:=zhL (l:=l) (m:=m.erase x) h1.2 fun y hy=>(List.mem_erase_of_ne (fun (e:y=x)=>h1.1 (by rw[← e];exact hy))).2 (hs y (by simp[hy])));rw[List.length_erase_of_mem (hs x (by simp))] at h2;have:=List.length_pos_of_mem (hs x (by simp));rw[zi];omega
def NxOk (M:List RNode) (c:List Int):Prop:=c.length=M.length∧∀i,(zda M c i).length≤8∧∀p∈zda M c i,0≤p∧p<(M.length:Int)
structure CoI (M:List RNode) (c:List Int) (i:Nat) (out nx:List Int) (n:Nat):Prop where
  nd:out.Nodup
  src:∀x∈out,∃j,j<M.length∧Pls (zc9 M c) i j∧c[j]?=some x
  nxt:∀q∈nx,0≤q∧q<(M.length:Int)∧Pls (zc9 M c) i q.toNat
  done:∀(m:Nat) (q:Int),m<n→nx[m]?=some q→∃x∈out,c[q.toNat]?=some x
  cov:∀x∈out,∀j,j<M.length→c[j]?=some x→∀p∈zda M c j,p∈nx
  st:∀p∈zda M c i,p∈nx
  len:nx.length≤8 * (out.length+1)
  le:n≤nx.length
def ComesR (M:List RNode) (c:List Int) (i:Nat) (L:List Int):Prop:=L.length≤M.length∧∀x,x∈L↔∃j,j<M.length∧Pls (zc9 M c) i j∧c[j]?=some x
section
variable {M:List RNode} {c:List Int} {i n:Nat} {out nx:List Int}
theorem zhm {p:Int} {j:Nat} (h:p∈zda M c j):p.toNat∈zc9 M c j:=zC.2 ⟨p,h,rfl⟩
theorem CoI.start (h:NxOk M c) (i:Nat):CoI M c i [] (zda M c i) 0 :=
  ⟨by simp,by simp,fun q hq=>⟨((h.2 i).2 q hq).1,((h.2 i).2 q hq).2,⟨_,zhm hq,.refl _⟩⟩,fun m q hm=>by omega,by simp,fun _ hp=>hp,by have:=(h.2 i).1;simpa using this,Nat.zero_le _⟩
theorem CoI.outs (h:CoI M c i out nx n) (hc:NxOk M c):out.length≤M.length:=by
  have h1:=zhL h.nd (m:=c) fun x hx=>by
    obtain ⟨j,_,_,e⟩:=h.src x hx;exact zl e
  rw[hc.1] at h1;exact h1
theorem CoI.bound (h:CoI M c i out nx n) (hc:NxOk M c):nx.length≤8 * (M.length+1):=by
  have:=h.outs hc;have:=h.len;omega
theorem CoI.new (h:CoI M c i out nx n) (hc:NxOk M c) {q x:Int} (hq:nx[n]?=some q) (hx:c[q.toNat]?=some x) (hm:x∉out):CoI M c i (out++[x]) (nx++zda M c q.toNat) (n+1):=by
  have hqm:=h.nxt q (zl hq);(have hql:q.toNat<M.length:=by omega);refine ⟨?_,fun y hy=>?_,fun p hp=>?_,fun m p hm2 hp=>?_,fun y hy j hj hcj p hp=>?_,fun p hp=>zG.2 (.inl (h.st p hp)),?_,?_⟩
  · rw[List.nodup_append]
    exact ⟨h.nd,by simp,fun a ha b hb=>by simp at hb;subst hb;exact fun e=>hm (e▸ha)⟩
  · rcases zG.1 hy with hy | hy
    (· exact h.src y hy);· simp at hy;subst hy;exact ⟨q.toNat,hql,hqm.2.2,hx⟩
  · rcases zG.1 hp with hp | hp
    · exact h.nxt p hp
    · have h1:=(hc.2 q.toNat).2 p hp
      exact ⟨h1.1,h1.2,hqm.2.2.next (zhm hp)⟩
  · have hnl:=(ze.1 hq).1
    rw[zE (by omega)] at hp;rcases zO m n with h1 | h1
    · obtain ⟨y,hy,e⟩:=h.done m p h1 hp
      exact ⟨y,zG.2 (.inl hy),e⟩
    · obtain rfl:m=n:=by omega
      rw[hq] at hp;cases hp;exact ⟨x,by simp,hx⟩
  · rcases zG.1 hy with hy | hy
    · exact zG.2 (.inl (h.cov y hy j hj hcj p hp))
    · simp at hy;subst hy
      rw[nextI_col (hcj.trans hx.symm)] at hp;exact zG.2 (.inr hp)
  · have:=h.len
    have:=(hc.2 q.toNat).1;simp only[zf,List.length_singleton];omega
  · have:=(ze.1 hq).1
    rw[zf];omega
theorem CoI.fin (h:CoI M c i out nx n) (hc:NxOk M c) (hn:nx.length≤n):ComesR M c i out:=by
  have hQ:∀p∈nx,∃x∈out,c[p.toNat]?=some x:=fun p hp=>by
    obtain ⟨m,hm,e⟩:=zZ.1 hp;exact h.done m p (by omega) (by rw[zd hm,e])
  have hstep:∀(u v:Nat),u<M.length→(∃x∈out,c[u]?=some x)→v∈zc9 M c u→v<M.length∧∃x∈out,c[v]?=some x:=fun u v hu ⟨x,hx,e⟩ hv=>by
    obtain ⟨p,hp,rfl⟩:=zC.1 hv;have h1:=(hc.2 u).2 p hp;exact ⟨by omega,hQ p (h.cov x hx u hu e p hp)⟩
  have hrch:∀{u v:Nat},Rch (zc9 M c) u v→u<M.length→(∃x∈out,c[u]?=some x)→∃x∈out,c[v]?=some x:=fun hr=>by
    induction hr with
    | refl _=>exact fun _ h=>h
    | @step u v w hv _ ih=>exact fun hu hx=>ih (hstep u v hu hx hv).1 (hstep u v hu hx hv).2
  refine ⟨h.outs hc,fun x=>⟨h.src x,?_⟩⟩;rintro ⟨j,hj,⟨v,hv,hr⟩,e⟩;obtain ⟨p,hp,rfl⟩:=zC.1 hv;have h1:=(hc.2 i).2 p hp;obtain ⟨y,hy,e2⟩:=hrch hr (by omega) (hQ p (h.st p hp));rw[e] at e2;cases e2;exact hy
theorem ComesR.loop (h:ComesR M c i out) {x:Int} (hx:c[i]?=some x):x∈out↔LoopD M c i:=by
  rw[h.2 x,LoopD,hx]
theorem ComesR.col (h:ComesR M c i out) {k:Nat} {x:Int} (hx:c[k]?=some x):x∈out↔∃j,j<M.length∧Pls (zc9 M c) i j∧c[j]?=c[k]?:=by
  rw[h.2 x,hx]
end
open Classical in
noncomputable def finB (M:List RNode) (c:List Int):Bool:=decide (∀i,i<M.length→¬LoopD M c i)
theorem finB_iff {M:List RNode} {c:List Int}:finB M c=true↔∀i,i<M.length→¬LoopD M c i:=by
  classical
  unfold finB;rw[zA]
section
variable {l:List (Ty×Ty)} {M:List RNode} {c:List Int} {S:CS}
theorem PSt.var_at (h:PSt l M c S) {a:Int} (ha:a∈zgB M):∃q:Nat,zbK (RNode.isVar a) M=(q:Int)∧q<M.length∧zaM S.G.V a=some (q:Int):=by
  obtain ⟨q,hq,hl⟩:=var_idx ha;exact ⟨q,hq,hl,Go.Proofs.YtpfiliamceimmaaGreatDoor.var_at h hq⟩
theorem PSt.fin_iff (h:PSt l M c S):finB M c=true↔∀y,¬Pls (za3 S) y y:=by
  rw[finB_iff];constructor
  · intro hf y hp
    (have hy:y<M.length:=by rw[← h.nl];exact hp.root.lt);exact hf y hy ((h.loop_iff hy).2 (by rw[zbA hp.root];exact hp))
  · exact fun hf i hi hl=>hf _ ((h.loop_iff hi).1 hl)
theorem PSt.count (h:PSt l M c S) {b:Bool} {n:Int} (hr:zfU S (b,n)):b=finB M c∧0≤n∧n≤11 * (M.length:Int):=by
  (rcases hr with ⟨h1,_⟩ | ⟨_,h2,h3,h4,h5⟩);· rw[h.h.1] at h1;cases h1
  · refine ⟨?_,h4,by have:=h.nl;dsimp only at h5;omega⟩
    dsimp only at h2 h3
    cases b with
    | true=>exact (h.fin_iff.2 fun y=>h.no_loop (h3 rfl) y).symm
    | false =>
      cases hf:finB M c with
      | false=>rfl
      | true =>
        obtain ⟨y,_,hp⟩:=h2 rfl;exact absurd hp (h.fin_iff.1 hf y)
end
end Go.Proofs.YtpfiliamceimmaaGreatDoor
namespace Go.Proofs.YtpfiliamceimmaaGreatDoor
open Go Go.RowKit
theorem Holds.pst {l:List (Ty×Ty)} {S:CS} (ho:OkE l) (h:Holds l S) (hk:S.G.V.map Prod.fst=vns (eqF l).1) (hl:(eqF l).1.length≤1048576):∃c,PSt l (eqF l).1 c S:=by
  refine ⟨(List.range (eqF l).1.length).map fun i=>(zbl S i:Int),h,⟨ho,by simp,fun i k hi hk=>?_⟩,rfl,hl,hk⟩;rw[zY,zY,List.getElem?_range hi,List.getElem?_range hk];simp only[z7,Option.some.injEq];have h1:Rt S.F.up i (zbl S i):=zeU h.2.w.c (by rw[h.2.rel.len];exact hi);have h2:Rt S.F.up k (zbl S k):=zeU h.2.w.c (by rw[h.2.rel.len];exact hk);rw[← zbC h h1];constructor
  · intro e
    (have e2:zbl S i=zbl S k:=by omega);rw[e2];exact h2
  · intro hr;rw[Rt.det h2 hr]
theorem CSt.pst {l:List (Ty×Ty)} {S:CS} (h:CSt l S) (hc:S.clash=false) (hl:S.G.N.length≤1048576):∃c,PSt l (eqF l).1 c S:=by
  obtain ⟨hH,hK⟩:=h.good hc;exact hH.pst h.ok hK (by rw[← hH.2.rel.len];exact hl)
theorem CSt.cyG {l:List (Ty×Ty)} {S:CS} (h:CSt l S) (hl:S.G.N.length≤1048576):S.clash=false→CyG S:=fun hc=>by
  obtain ⟨c,hp⟩:=h.pst hc hl;exact hp.cyG
theorem ze3 {P:Ty→Prop}:∀(ps:List Ty),(∀p∈ps,∀m:List RNode,(∀r∈m,P r.t)→∀r∈(p.radd m).1,P r.t)→∀(m:List RNode) (l:List Int),(∀r∈m,P r.t)→∀r∈(Ty.raddL ps m l).1,P r.t
  | [],_,m,l,hm=>by unfold Ty.raddL;exact hm
  | p::ps,h,m,l,hm=>by
    unfold Ty.raddL;exact ze3 ps (fun q hq=>h q (by simp[hq])) _ _ (h p (by simp) m hm)
theorem zf2 {P:Ty→Prop} (hP:∀t,P t→∀p∈t.ps,P p):∀t:Ty,P t→∀m:List RNode,(∀r∈m,P r.t)→∀r∈(t.radd m).1,P r.t:=by
  refine Ty.ind fun t ih ht m hm=>?_;obtain ⟨k,n,ps⟩:=t;unfold Ty.radd;split;· exact hm
  · intro r hr
    dsimp only at hr;(rcases zG.1 hr with hr | hr);(· exact ze3 ps (fun p hp=>ih p hp (hP _ ht p hp)) m [] hm r hr);· simp at hr;subst hr;exact ht
theorem eqF_types {P:Ty→Prop} (hP:∀t,P t→∀p∈t.ps,P p):∀l,OkE l→(∀e∈l,P e.1∧P e.2)→∀r∈(eqF l).1,P r.t :=
  zfl (P:=fun l=>(∀e∈l,P e.1∧P e.2)→∀r∈(eqF l).1,P r.t) (fun _ r hr=>by simp[eqF] at hr) fun d e _ _ ih he r hr=>by
    rw[zbB] at hr;(have h1:=ih fun x hx=>he x (by simp[hx]));have h2:=he e (by simp);exact zf2 hP e.2 h2.2 _ (zf2 hP e.1 h2.1 _ h1) r hr
theorem eqF_src:∀l,OkE l→∀x∈zcV (eqF l).2,∃e∈l,(((eqF l).1[x.1]?).map RNode.t=some e.1)∧(((eqF l).1[x.2]?).map RNode.t=some e.2) :=
  zfl (fun x hx=>by simp[eqF,zcV] at hx) fun d e h hd ih x hx=>by
    have hp:=zgR h;(obtain ⟨⟨G,hG⟩,_⟩:=zev d fun x hx=>hd x hx);obtain ⟨h1,h2,h3,h4⟩:=h e (by simp);have s1:=zbG e.1 h1 h3 G _ hG;have s2:=zbG e.2 h2 h4 _ _ s1.rel;rw[zbB] at hx;simp only[zeE,zcV,zz,zG,zI,List.map_nil] at hx;rcases hx with hx | hx
    · obtain ⟨y,hy,e1,e2⟩:=ih x hx
      exact ⟨y,by simp[hy],hp.get e1,hp.get e2⟩
    · simp only[List.mem_singleton] at hx
      subst hx;refine ⟨e,by simp,?_,?_⟩;(· rw[zbB];exact s2.pre.get s1.at');· rw[zbB];exact s2.at'
def vT (i:Nat):Ty:=.mk 1 (i:Int) []
def dT (i:Nat):Ty:=.mk 4 0 [vT (i+1),vT (i+1)]
def iT:Ty:=.mk 2 0 []
inductive ValT (k:Nat):Ty→Nat→Prop
  | var (i:Nat) (h:i≤k):ValT k (vT i) (k-i)
  | int:ValT k iT 0
  | fn (i:Nat) (h:i<k):ValT k (dT i) (k-i)
theorem ValT.ps {k:Nat} {t:Ty} {n:Nat} (h:ValT k t n):∀p∈t.ps,∃n,ValT k p n:=by
  cases h with
  | var i h=>intro p hp;cases hp
  | int=>intro p hp;cases hp
  | fn i h =>
    intro p hp;(have:p=vT (i+1):=by simpa [dT,Ty.ps] using hp);subst this;exact ⟨_,.var (i+1) (by omega)⟩
theorem ValT.inv {k:Nat} {t:Ty} {n:Nat} (h:ValT k t n):(∃i,i≤k∧t=vT i∧n=k-i)∨(t=iT∧n=0)∨∃i,i<k∧t=dT i∧n=k-i:=by
  cases h with
  | var i h=>exact .inl ⟨i,h,rfl,rfl⟩
  | int=>exact .inr (.inl ⟨rfl,rfl⟩)
  | fn i h=>exact .inr (.inr ⟨i,h,rfl,rfl⟩)
theorem vT_inj {i j:Nat} (h:vT i=vT j):i=j:=by
  have h1:=congrArg Ty.n h;simp only[vT,Ty.n] at h1;omega
theorem dT_inj {i j:Nat} (h:dT i=dT j):i=j:=by
  have h1:=congrArg Ty.ps h;simp only[dT,Ty.ps,List.cons.injEq] at h1;have:=vT_inj h1.1;omega
theorem ValT.det {k:Nat} {t:Ty} {n m:Nat} (h:ValT k t n) (h2:ValT k t m):n=m:=by
  rcases h.inv with ⟨i,hi,rfl,rfl⟩ | ⟨rfl,rfl⟩ | ⟨i,hi,rfl,rfl⟩
  · rcases h2.inv with ⟨j,hj,e,rfl⟩ | ⟨e,rfl⟩ | ⟨j,hj,e,rfl⟩
    (· rw[vT_inj e]);(· have:=congrArg Ty.k e;simp[vT,iT,Ty.k] at this);· have:=congrArg Ty.k e;simp[vT,dT,Ty.k] at this
  · rcases h2.inv with ⟨j,hj,e,rfl⟩ | ⟨e,rfl⟩ | ⟨j,hj,e,rfl⟩
    (· have:=congrArg Ty.k e;simp[vT,iT,Ty.k] at this);(· rfl);· have:=congrArg Ty.k e;simp[iT,dT,Ty.k] at this
  · rcases h2.inv with ⟨j,hj,e,rfl⟩ | ⟨e,rfl⟩ | ⟨j,hj,e,rfl⟩
    (· have:=congrArg Ty.k e;simp[vT,dT,Ty.k] at this);(· have:=congrArg Ty.k e;simp[iT,dT,Ty.k] at this);· rw[dT_inj e]
end Go.Proofs.YtpfiliamceimmaaGreatDoor
namespace Go.Proofs.YtpfiliamceimmaaGreatDoor
open Go Go.RowKit
def zbM (S:CS) (r:Nat):Int:=match S.W[r]? with
  | some x=>if x<0 then 0 else ((S.G.N[x.toNat]?).map GNode.k).getD 0
  | none=>0
abbrev vsS (S:CS):List Int:=zbV (S.G.V.map Prod.fst)
noncomputable def whT (S:CS) (r:Nat) (ts:List Ty):Ty:=if zbM S r=0 then vTy (zbf S r (vsS S)) else .mk (zbM S r) 0 ts
inductive Wh (S:CS):Nat→Ty→Prop
  | mk (r:Nat) (f:Nat→Ty) (h:∀v∈za3 S r,Wh S v (f v)):Wh S r (whT S r ((za3 S r).map f))
theorem Wh.det {S:CS} {r:Nat} {a b:Ty} (h:Wh S r a):Wh S r b→a=b:=by
  induction h generalizing b with
  | mk r f hf ih =>
    intro hb
    cases hb with
    | mk _ g hg =>
      (congr 1);exact List.map_congr_left fun v hv=>ih v hv (hg v hv)
open Classical in
theorem Wh.of_tl {S:CS} {r:Nat} {a:Int×Int} (h:Tl (za3 S) r a):∃t,Wh S r t:=by
  induction h with
  | mk u f hf ih =>
    exact ⟨_,.mk u (fun v=>if h:∃t,Wh S v t then Classical.choose h else vTy 0) fun v hv=>by
      have h:=ih v hv;simp only[dif_pos h]
      exact Classical.choose_spec h⟩
open Classical in
noncomputable def wOf (S:CS) (r:Nat):Ty:=if h:∃t,Wh S r t then Classical.choose h else vTy 0
theorem zcU {S:CS} {r:Nat} {t:Ty} (h:Wh S r t):wOf S r=t:=by
  classical
  have h1:∃t,Wh S r t:=⟨t,h⟩;unfold wOf;rw[dif_pos h1];exact (Classical.choose_spec h1).det h
theorem zdp {S:CS} {r:Nat} {t:Ty} (h:Wh S r t):wOf S r=whT S r ((za3 S r).map (wOf S)):=by
  rw[zcU h]
  cases h with
  | mk _ f hf =>
    (congr 1);exact List.map_congr_left fun v hv=>(zcU (hf v hv)).symm
noncomputable def wF (S:CS) (v:Int):Ty:=match zaM S.G.V v with
  | some i=>wOf S (zbl S i.toNat)
  | none=>vTy v
section
variable {l:List (Ty×Ty)} {M:List RNode} {c:List Int} {S:CS}
theorem PSt.rightN (h:PSt l M c S) {u:Nat} {z:RNode} (hz:M[u]?=some z):z.t.right=true∧z.parts.length=z.t.ps.length:=by
  have hm:=h.m;subst hm;have hu:=(ze.1 hz).1;obtain ⟨_,_,_,_,_,f6,f7,_⟩:=h.h.2.rel.node u _ _ (zd (by rw[h.h.2.rel.len];exact hu)) hz;exact ⟨f6,f7⟩
theorem PSt.partT (h:PSt l M c S) {u j:Nat} {z:RNode} {w:Int} (hz:M[u]?=some z) (hw:z.parts[j]?=some w):∃r:RNode,z.t.ps[j]?=some r.t∧M[w.toNat]?=some r∧r.t∈z.t.ps:=by
  have hm:=h.m;subst hm;have hu:=(ze.1 hz).1;obtain ⟨_,_,_,_,_,_,f7,f8⟩:=h.h.2.rel.node u _ _ (zd (by rw[h.h.2.rel.len];exact hu)) hz;have hj:=(ze.1 hw).1;have ht:z.t.ps[j]?=some (z.t.ps[j]'(by omega)):=zd (by omega);obtain ⟨r,hr,er⟩:=Option.map_eq_some_iff.1 (f8 j w _ hw ht).2.2;exact ⟨r,by rw[er];exact ht,hr,by rw[er];exact List.getElem_mem _⟩
theorem relPart {G:GS} {m:List RNode} (hG:Rel G m) {u j:Nat} {z:RNode} {w:Int} (hz:m[u]?=some z) (hw:z.parts[j]?=some w):∃r:RNode,z.t.ps[j]?=some r.t∧m[w.toNat]?=some r:=by
  have hu:=(ze.1 hz).1;obtain ⟨_,_,_,_,_,_,f7,f8⟩:=hG.node u _ _ (zd (by rw[hG.len];exact hu)) hz;have hj:=(ze.1 hw).1;have ht:z.t.ps[j]?=some (z.t.ps[j]'(by omega)):=zd (by omega);obtain ⟨r,hr,er⟩:=Option.map_eq_some_iff.1 (f8 j w _ hw ht).2.2;exact ⟨r,by rw[er];exact ht,hr⟩
theorem zfP {θ:Int→Ty} {a b:Ty} (ha:a.k≠1) (hb:b.k≠1) (h:a.subF θ=b.subF θ):a.k=b.k∧a.ps.length=b.ps.length∧∀(j:Nat) (p q:Ty),a.ps[j]?=some p→b.ps[j]?=some q→p.subF θ=q.subF θ:=by
  rw[Ty.subF_more ha,Ty.subF_more hb] at h;have h1:=congrArg Ty.k h;have h2:=congrArg Ty.ps h;simp only[Ty.k_mk,Ty.ps_mk] at h1 h2;refine ⟨h1,by have:=congrArg List.length h2;simpa using this,fun j p q hp hq=>?_⟩;have h3:=congrArg (fun l=>l[j]?) h2;simp only[zY,hp,hq,z7,Option.some.injEq] at h3;exact h3
theorem zgi {θ:Int→Ty} (ho:OkE l) (hθ:zbm θ l):Closed (shR (eqF l).1) (zcV (eqF l).2) (fun i j=>i=j∨∃x y:RNode,(eqF l).1[i]?=some x∧(eqF l).1[j]?=some y∧x.t.subF θ=y.t.subF θ):=by
  (obtain ⟨⟨G,hG⟩,_⟩:=zev l fun x hx=>ho x hx);refine ⟨fun e he=>?_,fun _=>.inl rfl,fun i j h=>?_,fun a b d h1 h2=>?_,fun a b j cc p q ps qs h ha hb hc hl hp hq=>?_⟩
  · obtain ⟨x,hx,e1,e2⟩:=eqF_src _ ho e he
    obtain ⟨a,ha,ea⟩:=Option.map_eq_some_iff.1 e1;obtain ⟨b,hb,eb⟩:=Option.map_eq_some_iff.1 e2;exact .inr ⟨a,b,ha,hb,by rw[ea,eb];exact hθ x hx⟩
  · rcases h with rfl | ⟨x,y,h1,h2,h3⟩
    (· exact .inl rfl);· exact .inr ⟨y,x,h2,h1,h3.symm⟩
  · rcases h1 with rfl | ⟨x,y,h1,h2',h3⟩
    · exact h2
    · rcases h2 with rfl | ⟨x',y',g1,g2,g3⟩
      · exact .inr ⟨x,y,h1,h2',h3⟩
      · rw[h2'] at g1;cases g1
        exact .inr ⟨x,y',h1,g2,h3.trans g3⟩
  · rcases h with rfl | ⟨x,y,h1,h2,h3⟩
    · rw[ha] at hb;cases hb;rw[hp] at hq;cases hq;exact .inl rfl
    · obtain ⟨x',hx',rfl,rfl⟩:=zcC ha
      obtain ⟨y',hy',hyk,rfl⟩:=zcC hb;rw[h1] at hx';cases hx';rw[h2] at hy';cases hy';obtain ⟨r,ht,hr⟩:=relPart hG h1 hp;obtain ⟨r',ht',hr'⟩:=relPart hG h2 hq;exact .inr ⟨r,r',hr,hr',(zfP hc (by rw[hyk];exact hc) h3).2.2 j _ _ ht ht'⟩
theorem zdz {θ:Int→Ty} (ho:OkE l) (hθ:zbm θ l):¬Clashes l:=by
  (obtain ⟨⟨G,hG⟩,_⟩:=zev l fun x hx=>ho x hx);rintro ⟨i,j,hc,k,d,ps,qs,hi,hj,h1,h2,h3⟩;obtain ⟨x,hx,rfl,rfl⟩:=zcC hi;obtain ⟨y,hy,rfl,rfl⟩:=zcC hj
  have len:∀{u:Nat} {z:RNode},(eqF l).1[u]?=some z→z.parts.length=z.t.ps.length:=fun {u z} hz=>by
    have hu:=(ze.1 hz).1;exact (hG.node u _ _ (zd (by rw[hG.len];exact hu)) hz).2.2.2.2.2.2.1
  rcases Cl.least (zgi ho hθ) hc with rfl | ⟨x',y',e1,e2,e3⟩
  · rw[hx] at hy;cases hy
    rcases h3 with h3 | h3 <;> exact h3 rfl
  · rw[hx] at e1;cases e1
    rw[hy] at e2;cases e2;obtain ⟨g1,g2,_⟩:=zfP h1 h2 e3;(rcases h3 with h3 | h3);(· exact h3 g1);· exact h3 (by rw[len hx,len hy];exact g2)
theorem PSt.cl_sub (h:PSt l M c S) {θ:Int→Ty} (hθ:zbm θ l) {i j:Nat} {x y:RNode} (hx:M[i]?=some x) (hy:M[j]?=some y) (he:zbl S i=zbl S j):x.t.subF θ=y.t.subF θ:=by
  have hi:=(ze.1 hx).1;have hj:=(ze.1 hy).1;have hri:=h.rt hi;have hrj:=h.rt hj;rw[← he] at hrj;have hcl:=(zbC h.h hri).1 hrj;have hm:=h.m;subst hm;(rcases Cl.least (zgi h.hc.ok hθ) hcl with rfl | ⟨x',y',e1,e2,e3⟩);· rw[hx] at hy;cases hy;rfl
  · rw[hx] at e1;cases e1
    rw[hy] at e2;cases e2;exact e3
theorem PSt.cls (h:PSt l M c S) {i r:Nat} (hr:Rt S.F.up i r):(zbM S r=0∧za3 S r=[]∧∀(k:Nat) (y:RNode),M[k]?=some y→Rt S.F.up k r→y.t.k=1) ∨
    ∃(k:Nat) (y:RNode),M[k]?=some y∧y.t.k≠1∧Rt S.F.up k r:=by
  have hm:=h.m;subst hm;have hW:=h.h.2.w;obtain ⟨x,hx⟩:=hW.c.wat hr;rcases Int.lt_or_le x 0 with hx0 | hx0
  · refine .inl ⟨by unfold zbM;rw[hx];simp only[if_pos hx0],zdC ⟨x,hx,.inl ⟨hx0,rfl⟩⟩,fun k y hy hk=>?_⟩
    exact hW.neg r k x _ _ hx hx0 hk (by rw[h.h.2.rel.sh];exact zdQ hy)
  · obtain ⟨hxr,d,ps,hsx,hd,_⟩:=hW.pos r x (zcb.1 hr.root) hx hx0
    rw[h.h.2.rel.sh] at hsx;obtain ⟨y,hy,rfl,_⟩:=zcC hsx;exact .inr ⟨x.toNat,y,hy,hd,hxr⟩
theorem PSt.kind_node (h:PSt l M c S) {k r:Nat} {y:RNode} (hy:M[k]?=some y) (hk:y.t.k≠1) (hr:Rt S.F.up k r):zbM S r=y.t.k:=by
  have hm:=h.m;subst hm;have hW:=h.h.2.w;obtain ⟨x,hx⟩:=hW.c.wat hr;(have hsk:shG S.G k=some (y.t.k,y.parts):=by rw[h.h.2.rel.sh];exact zdQ hy);(have hx0:¬x<0:=fun h1=>hk (hW.neg r k x _ _ hx h1 hr hsk));obtain ⟨_,d,ps,hsx,hd,hall⟩:=hW.pos r x (zcb.1 hr.root) hx (by omega);obtain ⟨g,hg,hgk,_⟩:=shG_at hsx;obtain ⟨e1,_,_⟩:=hall k _ _ hr hsk hk;unfold zbM;rw[hx];simp only[if_neg hx0,hg,z7,zp];rw[hgk,e1]
theorem PSt.kind_ne (h:PSt l M c S) {k r:Nat} {y:RNode} (hy:M[k]?=some y) (hk:y.t.k≠1) (hr:Rt S.F.up k r):zbM S r≠0:=by
  rw[h.kind_node hy hk hr];have:=zir (h.rightN hy).1;omega
theorem PSt.least_var (h:PSt l M c S) {i r:Nat} {x:RNode} (hx:M[i]?=some x) (hr:Rt S.F.up i r) (hk:x.t.k=1):∃(j:Nat) (z:RNode),M[j]?=some z∧z.t=vTy (zbf S r (vsS S))∧Rt S.F.up j r∧zbf S r (vsS S)∈vsS S ∧
    ∀(v i':Int),v∈vsS S→zaM S.G.V v=some i'→Rt S.F.up i'.toNat r→zbf S r (vsS S)≤v:=by
  have hxv:=h.var_node hx hk;(have hin:∀{v i':Int},zaM S.G.V v=some i'→v∈vsS S:=fun hv=>(List.mergeSort_perm _ _).mem_iff.2 (zC.2 ⟨_,zb9 hv,rfl⟩));have hrt:rtB S r x.t.n=true:=zcN.2 ⟨_,hxv.2,by rw[zK];exact hr⟩;unfold zbf
  cases hf:(vsS S).find? (rtB S r) with
  | none =>
    have:=List.find?_eq_none.1 hf _ (hin hxv.2);rw[hrt] at this
    exact absurd rfl this
  | some u =>
    simp only[zp];have hu:=List.find?_some hf;have huL:=List.mem_of_find?_eq_some hf;obtain ⟨i',hi',hr'⟩:=zcN.1 hu;obtain ⟨q,h1,h2,h3⟩:=h.var_at (a:=u) (by rw[← h.sort];exact huL);rw[hi'] at h3;cases h3;rw[zK] at hr';have hz:M[q]?=some (M[q]'h2):=zd h2
    have h4:(M[q]'h2).t=vTy u:=by
      obtain ⟨z,hz2,hg⟩:=zc7 (g:=RNode.isVar u) (l:=M) (by omega);rw[h1,zK,hz] at hz2;(cases hz2);simp only[RNode.isVar,zF,beq_iff_eq] at hg;have:=Ty.right_var (h.rightN hz).1 hg.1;rw[hg.2] at this;exact this
    refine ⟨q,_,hz,h4,hr',huL,fun v i2 hv hvi hvr=>?_⟩;obtain ⟨_,a,b,e3,e4⟩:=List.find?_eq_some_iff_append.1 hf
    have hs:(vsS S).Pairwise (·≤·):=by
      (have tr:∀a b c:Int,decide (a≤b)=true→decide (b≤c)=true→decide (a≤c)=true:=fun a b c h1 h2=>by simp only[zA] at *;omega);(have to:∀a b:Int,(decide (a≤b)||decide (b≤a))=true:=fun a b=>by simp only[Bool.or_eq_true,zA];omega);exact (List.pairwise_mergeSort (le:=fun x y:Int=>decide (x≤y)) tr to _).imp fun h=>by simpa using h
    rw[e3] at hv hs;rcases zG.1 hv with h8 | h8
    · have h9:=e4 v h8
      rw[zcN.2 ⟨_,hvi,hvr⟩] at h9;cases h9
    · rcases zM.1 h8 with rfl | h8
      (· exact Int.le_refl _);· exact (List.pairwise_cons.1 (List.pairwise_append.1 hs).2.1).1 _ h8
theorem Wh.sub (h:PSt l M c S) {θ:Int→Ty} (hθ:zbm θ l) {r:Nat} {w:Ty} (hw:Wh S r w):∀(i:Nat) (x:RNode),M[i]?=some x→zbl S i=r→w.subF θ=x.t.subF θ:=by
  induction hw with
  | mk r f hf ih =>
    intro i x hx hr;have hi:=(ze.1 hx).1;have hrt:=h.rt hi;rw[hr] at hrt;rcases h.cls hrt with ⟨h1,h2,h3⟩ | ⟨k,y,hy,hk,hkr⟩
    · obtain ⟨j,z,hz,hzt,hjr,_⟩:=h.least_var hx hrt (h3 i x hx hrt)
      unfold whT;rw[if_pos h1,← hzt];exact h.cl_sub hθ hz hx (by rw[zbA hjr,hr])
    · have hkind:=h.kind_node hy hk hkr
      have hne:=h.kind_ne hy hk hkr;have hkids:=h.kids_node hy hk hkr;have hr9:=h.rightN hy;unfold whT;rw[if_neg hne,hkind,Ty.subF_more (by exact hk),← h.cl_sub hθ hy hx (by rw[zbA hkr,hr]),Ty.subF_more hk,Ty.right_n hr9.1 hk];simp only[Ty.k_mk,Ty.n_mk,Ty.ps_mk];(congr 1);refine List.ext_getElem? fun j=>?_;rw[hkids];simp only[List.map_map,zY]
      cases hp:y.parts[j]? with
      | none =>
        have h5:y.t.ps[j]?=none:=by
          rw[List.getElem?_eq_none_iff] at hp ⊢;omega
        rw[h5];rfl
      | some p =>
        obtain ⟨q,hq1,hq2,_⟩:=h.partT hy hp;rw[hq1];simp only[z7,Function.comp,Option.some.injEq];exact ih (zbl S p.toNat) (by rw[hkids];exact zC.2 ⟨p.toNat,zC.2 ⟨p,zl hp,rfl⟩,rfl⟩) p.toNat q hq2 rfl
theorem PSt.wh (h:PSt l M c S) (hno:∀y,¬Pls (za3 S) y y) {r:Nat} (hr:r<S.F.up.length):∃t,Wh S r t:=by
  obtain ⟨a,ha⟩:=Tl.all (K:=za3 S) (N:=S.F.up.length) (fun _ _ _ hj=>kids_lt hj) (fun y _=>hno y) hr;exact Wh.of_tl ha
theorem PSt.wF_var (h:PSt l M c S) {j:Nat} {z:RNode} (hz:M[j]?=some z) (hk:z.t.k=1):wF S z.t.n=wOf S (zbl S j):=by
  unfold wF;rw[(h.var_node hz hk).2];simp only[zK]
theorem PSt.wF_node (h:PSt l M c S) (hno:∀y,¬Pls (za3 S) y y):∀(i:Nat) (x:RNode),M[i]?=some x→x.t.subF (wF S)=wOf S (zbl S i):=by
  intro i
  induction i using Nat.strongRecOn with
  | ind i ih =>
  intro x hx;have hi:=(ze.1 hx).1;have hrt:=h.rt hi
  by_cases hk:x.t.k=1
  · rw[Ty.subF_var hk]
    exact h.wF_var hx hk
  · obtain ⟨t,ht⟩:=h.wh hno hrt.lt
    rw[zdp ht,whT,if_neg (h.kind_ne hx hk hrt),h.kind_node hx hk hrt,Ty.subF_more hk,Ty.right_n (h.rightN hx).1 hk,h.kids_node hx hk hrt];(congr 1);refine List.ext_getElem? fun j=>?_;simp only[List.map_map,zY]
    cases hp:x.parts[j]? with
    | none =>
      have h5:x.t.ps[j]?=none:=by
        have:=(h.rightN hx).2;rw[List.getElem?_eq_none_iff] at hp ⊢;omega
      rw[h5];rfl
    | some p =>
      obtain ⟨q,hq1,hq2,_⟩:=h.partT hx hp;have hlt:=(h.parts hx).2 p (zl hp);rw[hq1];simp only[z7,Function.comp,Option.some.injEq];exact ih p.toNat (by omega) q hq2
theorem PSt.wF_solves (h:PSt l M c S) (hno:∀y,¬Pls (za3 S) y y):zbm (wF S) l:=fun e he=>by
  obtain ⟨a,b,ha,hb,hcl⟩:=zgz _ h.hc.ok _ he;rw[← h.m] at ha hb;obtain ⟨x,hx,ex⟩:=Option.map_eq_some_iff.1 ha;obtain ⟨z,hz,ez⟩:=Option.map_eq_some_iff.1 hb;rw[← ex,← ez,h.wF_node hno a x hx,h.wF_node hno b z hz];have hra:=h.rt (ze.1 hx).1;rw[zbA ((zbC h.h hra).2 hcl)]
theorem PSt.wF_mg (h:PSt l M c S) (hno:∀y,¬Pls (za3 S) y y):MG l (wF S):=by
  refine ⟨h.wF_solves hno,fun θ hθ v=>?_⟩;unfold wF
  cases hv:zaM S.G.V v with
  | none=>simp only;rw[Ty.subF_var rfl];rfl
  | some i =>
    (simp only);have hin:=h.h.2.vin v i hv;(have hil:i.toNat<M.length:=by have:=h.nl;omega);obtain ⟨x,hx⟩:∃x,M[i.toNat]?=some x:=⟨_,zd hil⟩;obtain ⟨t,ht⟩:=h.wh hno (h.rt hil).lt;rw[zcU ht,ht.sub h hθ _ x hx rfl];obtain ⟨q,h1,h2,h3⟩:=h.var_at (a:=v) (by rw[← h.sort];exact (List.mergeSort_perm _ _).mem_iff.2 (zC.2 ⟨_,zb9 hv,rfl⟩));rw[hv] at h3;cases h3;rw[zK] at hx;obtain ⟨z,hz2,hg⟩:=zc7 (g:=RNode.isVar v) (l:=M) (by omega);rw[h1,zK,hx] at hz2;(cases hz2);simp only[RNode.isVar,zF,beq_iff_eq] at hg;rw[Ty.subF_var hg.1,hg.2]
theorem Wh.occ (h:PSt l M c S) {r:Nat} {w:Ty} (hw:Wh S r w):∀(i:Nat),i<M.length→zbl S i=r→w.right=true∧∀u,w.occ u→u∈vsS S∧wF S u=vTy u:=by
  induction hw with
  | mk r f hf ih =>
    intro i hi hr;obtain ⟨x,hx⟩:∃x,M[i]?=some x:=⟨_,zd hi⟩;have hrt:=h.rt hi;rw[hr] at hrt;rcases h.cls hrt with ⟨h1,h2,h3⟩ | ⟨k,y,hy,hk,hkr⟩
    · obtain ⟨j,z,hz,hzt,hjr,huL,_⟩:=h.least_var hx hrt (h3 i x hx hrt)
      have hwh:=Wh.mk r f hf;(have e1:whT S r ((za3 S r).map f)=vTy (zbf S r (vsS S)):=by unfold whT;rw[if_pos h1]);rw[e1] at hwh ⊢;refine ⟨by rw[← hzt];exact (h.rightN hz).1,fun u hu=>?_⟩;obtain rfl:=Ty.occ_vTy.1 hu;refine ⟨huL,?_⟩;have h4:=h.wF_var hz (by rw[hzt];rfl);rw[zbA hjr,zcU hwh,hzt] at h4;exact h4
    · have hkind:=h.kind_node hy hk hkr
      have hne:=h.kind_ne hy hk hkr;have hkids:=h.kids_node hy hk hkr;have hr9:=h.rightN hy;have hpp:=h.parts hy;have hyl:=(ze.1 hy).1
      have hall:∀v∈za3 S r,(f v).right=true∧∀u,(f v).occ u→u∈vsS S∧wF S u=vTy u:=fun v hv=>by
        have hv0:=hv;rw[hkids] at hv;obtain ⟨p',hp',rfl⟩:=zC.1 hv;obtain ⟨p,hp,rfl⟩:=zC.1 hp';have:=hpp.2 p hp;exact ih _ hv0 p.toNat (by omega) rfl
      unfold whT;rw[if_neg hne,hkind];constructor
      · rw[Ty.right_eq,zF]
        refine ⟨?_,?_⟩
        · have h5:=hr9.1
          rw[Ty.right_eq,zF,Ty.right_n hr9.1 hk] at h5;(have e:((za3 S r).map f).length=y.t.ps.length:=by rw[hkids];simp[hr9.2]);simp only[Ty.k_mk,Ty.n_mk,Ty.ps_mk,e];exact h5.1
        · refine List.all_eq_true.2 fun q hq=>?_
          obtain ⟨v,hv,rfl⟩:=zC.1 hq;exact (hall v hv).1
      · intro u hu
        (rcases (Ty.occ_iff _ _).1 hu with ⟨h5,_⟩ | ⟨q,hq,hqu⟩);· exact absurd h5 hk
        · obtain ⟨v,hv,rfl⟩:=zC.1 hq
          exact (hall v hv).2 u hqu
theorem PSt.wF_norm (h:PSt l M c S) (hno:∀y,¬Pls (za3 S) y y):Norm (vsS S) (wF S):=by
  have hat:∀v∈vsS S,∃(q:Nat) (t:Ty),zaM S.G.V v=some (q:Int)∧q<M.length∧Wh S (zbl S q) t∧wF S v=t:=fun v hv=>by
    obtain ⟨q,h1,h2,h3⟩:=h.var_at (a:=v) (by rw[← h.sort];exact hv);obtain ⟨t,ht⟩:=h.wh hno (h.rt h2).lt;refine ⟨q,t,h3,h2,ht,?_⟩;unfold wF;rw[h3];simp only[zK];exact zcU ht
  refine ⟨fun v hv=>?_,fun v hv=>?_,fun v hv u hu=>?_,fun v hv u hu=>?_⟩
  · obtain ⟨q,t,_,hq,ht,e⟩:=hat v hv
    rw[e];exact (ht.occ h q hq rfl).1
  · unfold wF
    cases hf:zaM S.G.V v with
    | none=>rfl
    | some i=>exact absurd ((List.mergeSort_perm _ _).mem_iff.2 (zC.2 ⟨_,zb9 hf,rfl⟩)) hv
  · obtain ⟨q,t,_,hq,ht,e⟩:=hat v hv
    rw[e] at hu;exact (ht.occ h q hq rfl).2 u hu
  · obtain ⟨q,t,hvf,hq,ht,e⟩:=hat v hv
    obtain ⟨x,hx⟩:∃x,M[q]?=some x:=⟨_,zd hq⟩;have hrt:=h.rt hq;rw[hu] at e;subst e;rcases h.cls hrt with ⟨h1,h2,h3⟩ | ⟨k,y,hy,hk,hkr⟩
    · obtain ⟨j,z,hz,hzt,hjr,huL,hle⟩:=h.least_var hx hrt (h3 q x hx hrt)
      have h4:=zdp ht;rw[zcU ht,whT,if_pos h1] at h4
      have:u=zbf S (zbl S q) (vsS S):=by
        have:=congrArg Ty.n h4;exact this
      rw[this];exact hle v q hv hvf (by rw[zK];exact hrt)
    · have h4:=zdp ht
      rw[zcU ht,whT,if_neg (h.kind_ne hy hk hkr),h.kind_node hy hk hkr] at h4;have:=congrArg Ty.k h4;exact absurd this.symm hk
theorem PSt.solves_noLoop (h:PSt l M c S) {θ:Int→Ty} (hθ:zbm θ l) (y:Nat):¬Pls (za3 S) y y:=by
  have key:∀{u v:Nat} {a b:RNode},Rt S.F.up u u→M[u]?=some a→M[v]?=some b→v∈za3 S u→(b.t.subF θ).cnt<(a.t.subF θ).cnt:=fun {u v a b} hu ha hb hv=>by
    (rcases h.cls hu with ⟨_,h2,_⟩ | ⟨k,z,hz,hk,hkr⟩);· rw[h2] at hv;cases hv
    · rw[h.kids_node hz hk hkr] at hv
      obtain ⟨p',hp',rfl⟩:=zC.1 hv;obtain ⟨p,hp,rfl⟩:=zC.1 hp';obtain ⟨j,hj,ej⟩:=zZ.1 hp;obtain ⟨q,hq1,hq2,hq3⟩:=h.partT hz (by rw[zd hj,ej]);have hpl:=(ze.1 hq2).1;rw[h.cl_sub hθ ha hz (by rw[zbA hu,zbA hkr]),h.cl_sub hθ hb hq2 (zbA (zcb.1 (h.rt hpl).root)),Ty.subF_more hk];exact Ty.cnt_lt (zC.2 ⟨q.t,hq3,rfl⟩)
  have hat:∀{u:Nat},Rt S.F.up u u→∃a,M[u]?=some a:=fun hu=>⟨_,zd (by rw[← h.nl];exact hu.lt)⟩
  have hrch:∀{u w:Nat},Rch (za3 S) u w→Rt S.F.up u u→∀a b,M[u]?=some a→M[w]?=some b→(b.t.subF θ).cnt≤(a.t.subF θ).cnt:=fun hr=>by
    induction hr with
    | refl _=>intro _ a b ha hb;rw[ha] at hb;cases hb;exact zW _
    | @step u v w hv _ ih =>
      intro hu a b ha hb;have hvr:=zct u v hv;obtain ⟨d,hd⟩:=hat hvr;have h1:=key hu ha hd hv;have h2:=ih hvr d b hd hb;omega
  intro hp;have hy:=hp.root;obtain ⟨a,ha⟩:=hat hy;obtain ⟨v,hv,hr⟩:=hp;have hvr:=zct y v hv;obtain ⟨d,hd⟩:=hat hvr;have h1:=key hy ha hd hv;have h2:=hrch hr hvr d a hd ha;omega
end
end Go.Proofs.YtpfiliamceimmaaGreatDoor
namespace Go.Proofs.YtpfiliamceimmaaGreatDoor
open Go Go.RowKit
theorem OkE.rightE {l:List (Ty×Ty)} (h:OkE l):zdO l:=fun e he=>⟨(h e he).1,(h e he).2.1⟩
theorem OccE.part {l:List (Ty×Ty)}:∀t:Ty,(∀v,t.occ v→OccE l v)→∀p∈t.ps,∀v,p.occ v→OccE l v:=fun t h p hp v hv=>h v ((Ty.occ_iff _ _).2 (.inr ⟨p,hp,hv⟩))
theorem vns_occ {l:List (Ty×Ty)} (ho:OkE l) (v:Int):v∈vns (eqF l).1↔OccE l v:=by
  constructor
  · intro h
    obtain ⟨i,r,hr,hk,rfl⟩:=zet.1 h;have:=eqF_types (P:=fun t=>∀v,t.occ v→OccE l v) (fun t h p hp=>OccE.part t h p hp) l ho (fun e he=>⟨fun v hv=>⟨e,he,.inl hv⟩,fun v hv=>⟨e,he,.inr hv⟩⟩) r (zl hr);exact this _ ((Ty.occ_iff _ _).2 (.inl ⟨hk,rfl⟩))
  · rintro ⟨e,he,hv⟩
    obtain ⟨⟨G,hG⟩,_⟩:=zev l fun x hx=>ho x hx
    have down:∀(i:Nat) (r:RNode),(eqF l).1[i]?=some r→r.t.occ v→v∈vns (eqF l).1:=by
      intro i
      induction i using Nat.strongRecOn with
      | ind i ih =>
      intro r hr hv;(rcases (Ty.occ_iff _ _).1 hv with ⟨hk,rfl⟩ | ⟨p,hp,hpv⟩);· exact zet.2 ⟨i,r,hr,hk,rfl⟩
      · have hu:=(ze.1 hr).1
        obtain ⟨_,_,_,_,_,_,f7,f8⟩:=hG.node i _ _ (zd (by rw[hG.len];exact hu)) hr;obtain ⟨j,hj⟩:=List.mem_iff_getElem?.1 hp;have hjl:=(ze.1 hj).1;obtain ⟨h1,h2,h3⟩:=f8 j (r.parts[j]'(by omega)) p (zd (by omega)) hj;obtain ⟨q,hq,eq⟩:=Option.map_eq_some_iff.1 h3;exact ih _ (by omega) q hq (by rw[eq];exact hpv)
    obtain ⟨a,b,ha,hb,_⟩:=zgz l ho e he;obtain ⟨x,hx,ex⟩:=Option.map_eq_some_iff.1 ha;obtain ⟨z,hz,ez⟩:=Option.map_eq_some_iff.1 hb;(rcases hv with hv | hv);(· exact down a x hx (by rw[ex];exact hv));· exact down b z hz (by rw[ez];exact hv)
theorem zhE {a:List Int} (h:a.Nodup):(zbV a).Pairwise (· < ·):=by
  (have tr:∀a b c:Int,decide (a≤b)=true→decide (b≤c)=true→decide (a≤c)=true:=fun a b c h1 h2=>by simp only[zA] at *;omega);(have to:∀a b:Int,(decide (a≤b)||decide (b≤a))=true:=fun a b=>by simp only[Bool.or_eq_true,zA];omega);have h1:=(List.pairwise_mergeSort (le:=fun x y:Int=>decide (x≤y)) tr to a);have h2:(zbV a).Nodup:=(List.mergeSort_perm _ _).nodup_iff.2 h;exact h1.imp₂ (fun x y hx hy=>by simp only[zA] at hx;have:x≠y:=hy;omega) h2
theorem zhe:∀{a b:List Int},a.Pairwise (· < ·)→b.Pairwise (· < ·)→(∀v,v∈a↔v∈b)→a=b
  | [],[],_,_,_=>rfl
  | [],y::b,_,_,h=>by have:=(h y).2 (by simp);cases this
  | x::a,[],_,_,h=>by have:=(h x).1 (by simp);cases this
  | x::a,y::b,ha,hb,h=>by
    obtain ⟨h1,h2⟩:=List.pairwise_cons.1 ha;obtain ⟨h3,h4⟩:=List.pairwise_cons.1 hb
    have e:x=y:=by
      (rcases zM.1 ((h x).1 (by simp)) with e | e);· exact e
      · rcases zM.1 ((h y).2 (by simp)) with e2 | e2
        (· exact e2.symm);· have:=h3 x e;have:=h1 y e2;omega
    subst e;(congr 1);refine zhe h2 h4 fun v=>⟨fun hv=>?_,fun hv=>?_⟩
    · rcases zM.1 ((h v).1 (by simp[hv])) with e | e
      (· subst e;exact absurd (h1 v hv) (by omega));· exact e
    · rcases zM.1 ((h v).2 (by simp[hv])) with e | e
      (· subst e;exact absurd (h3 v hv) (by omega));· exact e
section
variable {l:List (Ty×Ty)} {M:List RNode} {c:List Int} {S:CS}
theorem PSt.vs_mem (h:PSt l M c S) (v:Int):v∈vsS S↔OccE l v:=by
  (have e:S.G.V.map Prod.fst=vns (eqF l).1:=by rw[h.keys,h.m]);rw[← vns_occ h.hc.ok v,← e];exact (List.mergeSort_perm _ _).mem_iff
theorem PSt.vs_strict (h:PSt l M c S):(vsS S).Pairwise (· < ·):=by
  (have e:S.G.V.map Prod.fst=vns (eqF l).1:=by rw[h.keys,h.m]);unfold vsS;rw[e];exact zhE (zc0 (zdm l h.hc.ok))
end
def zcr (L:List Int) (σ:Int→Ty):List Bd:=(L.filter fun v=>!(σ v).same (vTy v)).map fun v=>⟨v,σ v⟩
theorem zgJ (L:List Int) (σ:Int→Ty):(zcr L σ).map Bd.v=L.filter fun v=>!(σ v).same (vTy v):=by
  unfold zcr;rw[List.map_map];exact (List.map_congr_left fun v _=>rfl).trans (List.map_id _)
theorem zg8 {L:List Int} (h:L.Pairwise (· < ·)):L.Nodup:=h.imp fun hlt e=>by omega
theorem zeF {L:List Int} {σ:Int→Ty} (h:L.Pairwise (· < ·)):((zcr L σ).map Bd.v).Nodup:=by
  rw[zgJ];exact (zg8 h).filter _
theorem zf1 {L:List Int} {σ:Int→Ty} (h:L.Pairwise (· < ·)) (hout:∀v,v∉L→σ v=vTy v):bfun (zcr L σ)=σ:=by
  funext v
  by_cases hv:v∈(zcr L σ).map Bd.v
  · obtain ⟨b,hb,rfl⟩:=zC.1 hv
    rw[bfun_in (zeF h) hb];obtain ⟨u,_,rfl⟩:=zC.1 hb;rfl
  · rw[ziL hv]
    by_cases hL:v∈L
    · have h1:(σ v).same (vTy v)=true:=by
        cases hs:(σ v).same (vTy v) with
        | true=>rfl
        | false=>exact absurd (by rw[zgJ];exact List.mem_filter.2 ⟨hL,by rw[hs];rfl⟩) hv
      exact ((Ty.same_iff _ _).1 h1).symm
    · exact (hout v hL).symm
def eqsB (o:List Bd):List (Ty×Ty):=o.map fun b=>(vTy b.v,b.t)
theorem Norm.own {L:List Int} {σ:Int→Ty} (h:Norm L σ) (hs:L.Pairwise (· < ·)) {L':List Int} (hL':∀v,v∈L'↔OccE (eqsB (zcr L σ)) v):Norm L' σ∧MG (eqsB (zcr L σ)) σ∧∀v,v∉L'→σ v=vTy v:=by
  have hmem:∀v,v∈L→(σ v).same (vTy v)=false→(⟨v,σ v⟩:Bd)∈zcr L σ:=fun v hv hn=>zC.2 ⟨v,List.mem_filter.2 ⟨hv,by rw[hn];rfl⟩,rfl⟩
  have hof:∀b∈zcr L σ,b.v∈L∧b.t=σ b.v:=fun b hb=>by
    obtain ⟨u,hu,rfl⟩:=zC.1 hb;exact ⟨(List.mem_filter.1 hu).1,rfl⟩
  have hidem:∀v∈L,(σ v).subF σ=σ v:=fun v hv=>Ty.subF_fixed _ (h.right v hv) fun u hu=>(h.fix v hv u hu).2
  have hLL:∀v,v∈L'→v∈L:=fun v hv=>by
    obtain ⟨e,he,ho⟩:=(hL' v).1 hv;obtain ⟨b,hb,rfl⟩:=zC.1 he;obtain ⟨h1,h2⟩:=hof b hb;(rcases ho with ho | ho);(· rw[Ty.occ_vTy.1 ho];exact h1);· rw[h2] at ho;exact (h.fix _ h1 v ho).1
  have hout:∀v,v∉L'→σ v=vTy v:=fun v hv=>by
    by_cases hl:v∈L
    · cases hn:(σ v).same (vTy v) with
      | true=>exact (Ty.same_iff _ _).1 hn
      | false=>exact absurd ((hL' v).2 ⟨_,zC.2 ⟨_,hmem v hl hn,rfl⟩,.inl (Ty.occ_vTy.2 rfl)⟩) hv
    · exact h.out v hl
  refine ⟨⟨fun v hv=>h.right v (hLL v hv),hout,fun v hv u hu=>?_,fun v hv u hu=>h.least v (hLL v hv) u hu⟩,⟨fun e he=>?_,fun θ hθ v=>?_⟩,hout⟩
  · obtain ⟨h1,h2⟩:=h.fix v (hLL v hv) u hu
    refine ⟨?_,h2⟩
    cases hn:(σ v).same (vTy v) with
    | true =>
      rw[(Ty.same_iff _ _).1 hn] at hu
      rw[Ty.occ_vTy.1 hu];exact hv
    | false=>exact (hL' u).2 ⟨_,zC.2 ⟨_,hmem v (hLL v hv) hn,rfl⟩,.inr hu⟩
  · obtain ⟨b,hb,rfl⟩:=zC.1 he
    obtain ⟨h1,h2⟩:=hof b hb;(simp only);rw[Ty.subF_var (t:=vTy b.v) rfl,h2];exact (hidem _ h1).symm
  · by_cases hl:v∈L
    · cases hn:(σ v).same (vTy v) with
      | true=>rw[(Ty.same_iff _ _).1 hn,Ty.subF_var rfl];rfl
      | false =>
        have:=hθ _ (zC.2 ⟨_,hmem v hl hn,rfl⟩);(simp only at this);rw[Ty.subF_var (t:=vTy v) rfl] at this;exact this.symm
    · rw[h.out v hl,Ty.subF_var rfl];rfl
end Go.Proofs.YtpfiliamceimmaaGreatDoor
namespace Go.Proofs.YtpfiliamceimmaaGreatDoor
open Go Go.RowKit
inductive Hv (D:Nat→List Nat):Nat→Nat→Prop
  | mk (u:Nat) (f:Nat→Nat) (h:∀v∈D u,Hv D v (f v)):Hv D u (1+((D u).map f).sum)
theorem zgx:∀ts:List Ty,Ty.cntL ts=(ts.map Ty.cnt).sum
  | []=>rfl
  | t::ts=>by simp only[Ty.cntL,zI,List.sum_cons,zgx ts]
section
variable {l:List (Ty×Ty)} {M:List RNode} {c:List Int} {S:CS}
theorem PSt.hv_of (h:PSt l M c S) {r:Nat} {t:Ty} (hw:Wh S r t):∀i,i<M.length→zbl S i=r→Hv (zc9 M c) i t.cnt:=by
  induction hw with
  | mk r f hf ih =>
    intro i hi hr;have hrt:=h.rt hi;have hkn:=h.kids_next hi hrt;rw[hr] at hrt hkn;have hlt:=h.way.lt i hi;rcases h.cls hrt with ⟨h1,h2,_⟩ | ⟨k,y,hy,hk,hkr⟩
    · rw[h2] at hkn
      have hnil:zc9 M c i=[]:=by
        have:=congrArg List.length hkn;(simp at this);exact List.length_eq_zero_iff.1 this.symm
      have e:(whT S r ((za3 S r).map f)).cnt=1+((zc9 M c i).map fun _=>0).sum:=by
        unfold whT;rw[if_pos h1,hnil];simp[Ty.cnt,Ty.cntL]
      rw[e];exact .mk i _ fun v hv=>by rw[hnil] at hv;cases hv
    · have e:(whT S r ((za3 S r).map f)).cnt=1+((zc9 M c i).map fun v=>(f (zbl S v)).cnt).sum:=by
        unfold whT;rw[if_neg (h.kind_ne hy hk hkr),Ty.cnt_eq];simp only[Ty.ps_mk];rw[zgx,hkn];simp only[List.map_map];rfl
      rw[e];refine .mk i _ fun v hv=>?_;exact ih (zbl S v) (by rw[hkn];exact zC.2 ⟨v,hv,rfl⟩) v (hlt v hv) rfl
theorem PSt.hv (h:PSt l M c S) (hno:∀y,¬Pls (za3 S) y y) {i:Nat} (hi:i<M.length):Hv (zc9 M c) i (wOf S (zbl S i)).cnt:=by
  obtain ⟨t,ht⟩:=h.wh hno (h.rt hi).lt;rw[zcU ht];exact h.hv_of ht i hi rfl
end
theorem zji {f:Nat→Int×Int} {g:Nat→Nat}:∀(ch:List Nat) (b:Int×Int) (m:Nat),(∀v∈ch,(f v).2=min most (g v:Int))→b.2=min most (m:Int)→(ch.foldl (fun a p=>(max a.1 (f p).1,min most (a.2+(f p).2))) b).2=min most ((m+(ch.map g).sum:Nat):Int)
  | [],b,m,_,hb=>by simpa using hb
  | v::ch,b,m,h,hb=>by
    rw[List.foldl_cons,zji (g:=g) ch _ (m+g v) (fun u hu=>h u (by simp[hu])) ?_]
    · simp only[zI,List.sum_cons]
      (congr 2);omega
    · have:=h v (by simp)
      simp only[most] at *;omega
theorem Wh.size {S:CS} {r:Nat} {t:Ty} (hk:∀r,zbM S r=0→za3 S r=[]) (h:Wh S r t):∀{a:Int×Int},Tl (za3 S) r a→a.2=min most (t.cnt:Int):=by
  induction h with
  | mk r f hf ih =>
    intro a ha
    cases ha with
    | mk _ g hg =>
      have hs:∀v∈za3 S r,(g v).2=min most ((f v).cnt:Int):=fun v hv=>ih v hv (hg v hv)
      have e:(zhZ g (za3 S r)).2=min most ((1+((za3 S r).map fun v=>(f v).cnt).sum:Nat):Int):=by
        unfold zhZ;exact zji (za3 S r) (0,1) 1 hs (by simp only[most];omega)
      rw[e];(congr 2);unfold whT
      by_cases h0:zbM S r=0
      · rw[if_pos h0,hk r h0]
        simp[Ty.cnt,Ty.cntL]
      · rw[if_neg h0,Ty.cnt_eq]
        simp only[Ty.ps_mk];rw[zgx,List.map_map];rfl
theorem PSt.kids_zero {l:List (Ty×Ty)} {M:List RNode} {c:List Int} {S:CS} (h:PSt l M c S) (r:Nat) (h0:zbM S r=0):za3 S r=[]:=by
  classical
  unfold zbM at h0;unfold za3;split
  · rename_i he
    obtain ⟨x,hx,hR⟩:=Classical.choose_spec he;rw[hx] at h0;(simp only at h0);(rcases hR with ⟨_,h2⟩ | ⟨h1,g,hg,_⟩);· exact h2
    · exfalso
      rw[if_neg (by omega),hg] at h0;simp only[z7,zp] at h0;have hm:=h.m;subst hm;have hgl:=(ze.1 hg).1;have hy:(eqF l).1[x.toNat]?=some ((eqF l).1[x.toNat]'(by rw[← h.h.2.rel.len];exact hgl)):=zd _;obtain ⟨f1,_,_,_,_,f6,_⟩:=h.h.2.rel.node x.toNat _ _ hg hy;have:=zir f6;omega
  · rfl
theorem PSt.size {l:List (Ty×Ty)} {M:List RNode} {c:List Int} {S:CS} (h:PSt l M c S) (hno:∀y,¬Pls (za3 S) y y) {i:Nat} (hi:i<M.length) {a:Int×Int} (ha:Tl (za3 S) (zbl S i) a):a.2=min most ((wOf S (zbl S i)).cnt:Int):=by
  obtain ⟨t,ht⟩:=h.wh hno (h.rt hi).lt;rw[zcU ht];exact ht.size h.kids_zero ha
end Go.Proofs.YtpfiliamceimmaaGreatDoor
namespace Go.Proofs.YtpfiliamceimmaaGreatDoor
open Go Go.RowKit
def SolR (l:List (Ty×Ty)) (r:List Bd×Int):Prop :=
  (¬zdO l∧r=([],1))∨(zdO l∧Clashes l∧r=([],7))∨(zdO l∧¬Clashes l∧(∀θ,¬zbm θ l)∧r=([],8)) ∨
  (zdO l∧∃(L:List Int) (σ:Int→Ty),L.Pairwise (· < ·)∧(∀v,v∈L↔OccE l v)∧Norm L σ∧MG l σ∧r=(zcr L σ,0))
theorem SubE.right {l m:List (Ty×Ty)} (h:SubE l m) (hm:zdO m):zdO l:=fun e he=>by
  (rcases h e he with h1 | h1);(· exact hm e h1);· exact (hm _ h1).symm
theorem SubE.solves {l m:List (Ty×Ty)} (h:SubE l m) {θ:Int→Ty} (hm:zbm θ m):zbm θ l:=fun e he=>by
  (rcases h e he with h1 | h1);(· exact hm e h1);· exact (hm _ h1).symm
theorem SubE.occ {l m:List (Ty×Ty)} (h:SubE l m) {v:Int} (hv:OccE l v):OccE m v:=by
  obtain ⟨e,he,hv⟩:=hv;(rcases h e he with h1 | h1);(· exact ⟨e,h1,hv⟩);· exact ⟨_,h1,hv.symm⟩
theorem SolR.yes {l:List (Ty×Ty)} {r:List Bd×Int} (h:SolR l r) (ho:OkE l) {θ:Int→Ty} (hθ:zbm θ l):∃(L:List Int) (σ:Int→Ty),L.Pairwise (· < ·)∧(∀v,v∈L↔OccE l v)∧Norm L σ∧MG l σ∧r=(zcr L σ,0):=by
  (rcases h with ⟨h1,_⟩ | ⟨_,h1,_⟩ | ⟨_,_,h1,_⟩ | ⟨_,h1⟩);(· exact absurd ho.rightE h1);(· exact absurd h1 (zdz ho hθ));(· exact absurd hθ (h1 θ));· exact h1
theorem SolR.most {l:List (Ty×Ty)} {r:List Bd×Int} (h:SolR l r) (ho:OkE l) {θ:Int→Ty} (hθ:zbm θ l):r.2=0∧∀v,(bfun r.1 v).subF θ=θ v:=by
  obtain ⟨L,σ,h1,h2,h3,h4,rfl⟩:=h.yes ho hθ;refine ⟨rfl,fun v=>?_⟩;(simp only);rw[zf1 h1 h3.out];exact h4.most θ hθ v
theorem SolR.solves {l:List (Ty×Ty)} {r:List Bd×Int} (h:SolR l r) (h0:r.2=0):zbm (bfun r.1) l:=by
  (rcases h with ⟨_,rfl⟩ | ⟨_,_,rfl⟩ | ⟨_,_,_,rfl⟩ | ⟨_,L,σ,h1,h2,h3,h4,rfl⟩);(· exact absurd h0 (by decide));(· exact absurd h0 (by decide));· exact absurd h0 (by decide)
  · simp only
    rw[zf1 h1 h3.out];exact h4.solves
def RightB (o:List Bd):Prop:=(o.map Bd.v).Nodup∧∀b∈o,(vTy b.v).right=true∧b.t.right=true
def SolvedB (o:List Bd):Prop:=∀b∈o,∀v,b.t.occ v→v∉o.map Bd.v
theorem SolR.right {l:List (Ty×Ty)} {r:List Bd×Int} (h:SolR l r) (h0:r.2=0):RightB r.1∧SolvedB r.1:=by
  (rcases h with ⟨_,rfl⟩ | ⟨_,_,rfl⟩ | ⟨_,_,_,rfl⟩ | ⟨hr,L,σ,h1,h2,h3,h4,rfl⟩);(· exact absurd h0 (by decide));(· exact absurd h0 (by decide));· exact absurd h0 (by decide)
  · refine ⟨⟨zeF h1,fun b hb=>?_⟩,fun b hb v hv=>?_⟩
    · obtain ⟨u,hu,rfl⟩:=zC.1 hb
      have huL:=(List.mem_filter.1 hu).1;refine ⟨?_,h3.right u huL⟩;obtain ⟨e,he,ho⟩:=(h2 u).1 huL;(rcases ho with ho | ho);(· exact Ty.var_right (hr e he).1 ho);· exact Ty.var_right (hr e he).2 ho
    · obtain ⟨u,hu,rfl⟩:=zC.1 hb
      have huL:=(List.mem_filter.1 hu).1;obtain ⟨_,h5⟩:=h3.fix u huL v hv;rw[zgJ,List.mem_filter];rintro ⟨_,h6⟩;rw[(Ty.same_iff _ _).2 h5] at h6;cases h6
end Go.Proofs.YtpfiliamceimmaaGreatDoor
namespace Go.Proofs.YtpfiliamceimmaaGreatDoor
open Go Go.RowKit
section
variable {l:List (Ty×Ty)} {M:List RNode} {c:List Int} {S:CS}
theorem PSt.wF_at (h:PSt l M c S) {v:Int} (hv:v∈vsS S):∃q:Nat,zbK (RNode.isVar v) M=(q:Int)∧q<M.length∧zaM S.G.V v=some (q:Int)∧wF S v=wOf S (zbl S q):=by
  obtain ⟨q,h1,h2,h3⟩:=h.var_at (a:=v) (by rw[← h.sort];exact hv);refine ⟨q,h1,h2,h3,?_⟩;unfold wF;rw[h3];simp only[zK]
theorem PSt.wF_same (h:PSt l M c S) (hno:∀y,¬Pls (za3 S) y y) {v:Int} {q:Nat} (hq:q<M.length) (hv:wF S v=wOf S (zbl S q)):(wF S v).same (vTy v)=(decide (zbM S (zbl S q)=0)&&decide (zbf S (zbl S q) (vsS S)=v)):=by
  obtain ⟨t,ht⟩:=h.wh hno (h.rt hq).lt;rw[hv,zdp ht];rw[Bool.eq_iff_iff,Ty.same_iff,zF,zA,zA];unfold whT
  by_cases h0:zbM S (zbl S q)=0
  · rw[if_pos h0]
    constructor
    · intro e
      exact ⟨h0,congrArg Ty.n e⟩
    · rintro ⟨_,e⟩
      rw[e]
  · rw[if_neg h0]
    constructor
    · intro e
      exfalso;have hk:=congrArg Ty.k e;simp only[Ty.k_mk] at hk;(rcases h.cls (h.rt hq) with ⟨h1,_⟩ | ⟨k,y,hy,hyk,hkr⟩);· exact h0 h1
      · rw[h.kind_node hy hyk hkr] at hk
        exact hyk hk
    · rintro ⟨e,_⟩
      exact absurd e h0
end
end Go.Proofs.YtpfiliamceimmaaGreatDoor
namespace Go.Proofs.YtpfiliamceimmaaGreatDoor
open Go Go.RowKit
theorem zjC (es:List EqT) (h:zcl (es.map EqT.p)≤160):zcl ((zbN es).map EqT.p)≤160∧OkE ((zbN es).map EqT.p):=by
  have key:∀l:List EqT,zcl ((zbN l).map EqT.p)≤zcl (l.map EqT.p):=fun l=>by
    induction l with
    | nil=>simp[zbN]
    | cons e l ih =>
      unfold zbN at ih ⊢;rw[zB];split;(· simp only[zI,zcl];omega);· simp only[zI,zcl];omega
  have h1:=key es;refine ⟨by omega,fun e he=>?_⟩;have h2:=zgj he;obtain ⟨x,hx,rfl⟩:=zC.1 he;have h3:=(List.mem_filter.1 hx).2;simp only[EqT.ok,zF] at h3;exact ⟨h3.1,h3.2,by omega,by omega⟩
end Go.Proofs.YtpfiliamceimmaaGreatDoor
namespace Go.Proofs.YtpfiliamceimmaaGreatDoor
open Go Go.RowKit
abbrev plE (es:List EqT) (k:Nat):List (Ty×Ty):=(zbN (es.take k)).map EqT.p
structure ClI (es:List EqT) (k:Nat) (S:CS) (sum was:Int):Prop where
  st:CSt (plE es k) S
  num:S.clash=false→sum=1+(zcl (plE es k):Int)∧was=S.steps
  low:S.clash=false→0≤S.steps∧S.steps+9 * (zbn S.F.up:Int)≤10 * (S.G.N.length:Int)+(k:Int)
theorem ClI.start (es:List EqT):ClI es 0 CS0 1 0:=⟨CSt.none,fun _=>⟨by simp[plE,zbN,zcl],rfl⟩,fun _=>by simp[CS0,zbn]⟩
theorem plE_no {es:List EqT} {k:Nat} {e:EqT} (he:es[k]?=some e) (h:e.ok=false):plE es (k+1)=plE es k:=by
  unfold plE;rw[zjp he h]
theorem plE_yes {es:List EqT} {k:Nat} {e:EqT} (he:es[k]?=some e) (h:e.ok=true):plE es (k+1)=plE es k++[e.p]:=by
  unfold plE;rw[zh7 he h,zz];rfl
theorem plE_sum {es:List EqT} (h:zcl (es.map EqT.p)≤160) (k:Nat):zcl (plE es k)≤160∧OkE (plE es k):=by
  have h1:=zdf (es.map EqT.p) k;exact zjC (es.take k) (by rw[List.map_take];omega)
theorem eok_of {e:EqT} (h:e.ok=true):e.l.right=true∧e.r.right=true:=by
  simpa [EqT.ok] using h
theorem ClI.step {es:List EqT} {k:Nat} {S:CS} {sum was:Int} {e:EqT} {s:CS×Int} (h:ClI es k S sum was) (hs:zcl (es.map EqT.p)≤160) (he:es[k]?=some e)
    (hE:EqR S (zcV (eqF (plE es k)).2) (eqF (plE es k)).1 e.l e.r s):CSt (plE es (k+1)) s.1:=by
  have hm:e.p∈es.map EqT.p:=zC.2 ⟨e,zl he,rfl⟩;have h1:=zgj hm;simp only[EqT.p] at h1
  cases hok:e.ok with
  | true =>
    obtain ⟨h2,h3⟩:=eok_of hok;rw[plE_yes he hok]
    exact h.st.step (e:=e.p) ⟨h2,h3,by simp only[EqT.p];omega,by simp only[EqT.p];omega⟩ hE
  | false =>
    rw[plE_no he hok];(rcases hE with ⟨_,rfl⟩ | ⟨_,_,rfl⟩ | ⟨_,h2,h3,_⟩);(· exact h.st);(· exact h.st);· rw[EqT.ok,h2,h3] at hok;cases hok
theorem ClI.bad {es:List EqT} {k:Nat} {S:CS} {sum was:Int} {e:EqT} {s:CS×Int} (h:ClI es k S sum was) (hs:zcl (es.map EqT.p)≤160) (he:es[k]?=some e)
    (hE:EqR S (zcV (eqF (plE es k)).2) (eqF (plE es k)).1 e.l e.r s) (hc:S.clash=true):s=(S,7)∧ClI es (k+1) S sum was:=by
  have h1:=h.step hs he hE;(rcases hE with ⟨_,rfl⟩ | ⟨h2,_⟩ | ⟨h2,_⟩);(· exact ⟨rfl,h1,fun h2=>(by rw[hc] at h2;cases h2),fun h2=>(by rw[hc] at h2;cases h2)⟩);(· rw[hc] at h2;cases h2);· rw[hc] at h2;cases h2
theorem ClI.good {es:List EqT} {k:Nat} {S:CS} {sum was:Int} {e:EqT} {s:CS×Int} (h:ClI es k S sum was) (hs:zcl (es.map EqT.p)≤160) (hk:k<1000) (he:es[k]?=some e)
    (hE:EqR S (zcV (eqF (plE es k)).2) (eqF (plE es k)).1 e.l e.r s) (hR:StepR S s.1) (hc:S.clash=false) (hok:e.ok=true) :
    ClI es (k+1) s.1 (sum+(e.l.cnt:Int)+(e.r.cnt:Int)) s.1.steps∧s.2=(if s.1.clash=true then 7 else 0)∧S.steps≤s.1.steps∧s.1.steps≤10 * (zcl (plE es (k+1)):Int)+(k:Int)+1 ∧
      sum+(e.l.cnt:Int)+(e.r.cnt:Int)=1+(zcl (plE es (k+1)):Int):=by
  have h1:=h.step hs he hE;obtain ⟨h3,h3'⟩:=h.num hc;obtain ⟨h4,h5⟩:=h.low hc;have hN:=h.st.len;have hP:=(plE_sum hs k).1;have hN1:=h1.len
  have hsum:zcl (plE es (k+1))=zcl (plE es k)+(e.l.cnt+e.r.cnt):=by
    rw[plE_yes he hok,zdW];rfl
  have hst:S.steps≤s.1.steps∧s.1.steps+9 * (zbn s.1.F.up:Int)≤10 * (s.1.G.N.length:Int)+(k:Int)+1:=by
    (rcases hR with e1 | hR);· rw[e1];omega
    · obtain ⟨a1,a2,a3⟩:=hR h4 (by omega)
      omega
  have hr:s.2=(if s.1.clash=true then 7 else 0):=by
    obtain ⟨g1,g2⟩:=eok_of hok;(rcases hE with ⟨h2,_⟩ | ⟨_,h2,_⟩ | ⟨_,_,_,_,⟨a1,a2,_⟩ | ⟨a1,a2,_⟩⟩);(· rw[hc] at h2;cases h2);(· rw[g1,g2] at h2;cases h2);(· rw[a1,a2];rfl);· rw[a1,a2];rfl
  refine ⟨⟨h1,fun _=>⟨by omega,rfl⟩,fun _=>⟨by omega,?_⟩⟩,hr,hst.1,by omega,by omega⟩;have:=hst.2;omega
end Go.Proofs.YtpfiliamceimmaaGreatDoor
namespace Go.Proofs.YtpfiliamceimmaaGreatDoor
open Go Go.RowKit
structure EqI (l:List (Ty×Ty)) (S:CS):Prop where
  st:CSt l S
  cl:S.clash=false
  low:0≤S.steps∧S.steps+9 * (zbn S.F.up:Int)≤10 * (S.G.N.length:Int)+(l.length:Int)
theorem EqI.start:EqI [] CS0:=⟨CSt.none,rfl,by simp[CS0,zbn]⟩
theorem EqI.step {l:List (Ty×Ty)} {S:CS} {e:Ty×Ty} {s:CS×Int} (h:EqI l S) (he:e.1.right=true∧e.2.right=true∧e.1.cnt≤400∧e.2.cnt≤400) (hl:zcl l≤1048576) (hll:l.length≤1048576)
    (hE:EqR S (zcV (eqF l).2) (eqF l).1 e.1 e.2 s) (hR:StepR S s.1) :
    CSt (l++[e]) s.1∧s.2=(if s.1.clash=true then 7 else 0)∧0≤s.1.steps∧s.1.steps≤10 * (zcl (l++[e]):Int)+(l.length:Int)+1∧(s.1.clash=false→EqI (l++[e]) s.1):=by
  have h1:=h.st.step he hE;obtain ⟨h4,h5⟩:=h.low;have hN:=h.st.len;have hN1:=h1.len;have hc:=h.cl
  have hst:S.steps≤s.1.steps∧s.1.steps+9 * (zbn s.1.F.up:Int)≤10 * (s.1.G.N.length:Int)+(l.length:Int)+1:=by
    (rcases hR with e1 | hR);· rw[e1];omega
    · obtain ⟨a1,a2,a3⟩:=hR h4 (by omega)
      omega
  have hr:s.2=(if s.1.clash=true then 7 else 0):=by
    (rcases hE with ⟨h2,_⟩ | ⟨_,h2,_⟩ | ⟨_,_,_,_,⟨a1,a2,_⟩ | ⟨a1,a2,_⟩⟩);(· rw[hc] at h2;cases h2);(· rw[he.1,he.2.1] at h2;cases h2);(· rw[a1,a2];rfl);· rw[a1,a2];rfl
  refine ⟨h1,hr,by omega,by omega,fun hc1=>⟨h1,hc1,by omega,?_⟩⟩;have h9:=hst.2;simp only[zf,zi,zm];omega
def EqtR (l:List (Ty×Ty)) (s:CS×Int×Int):Prop :=
  ((s.2.1=7∧Clashes l)∨(s.2.1=8∧¬Clashes l∧∃(S:CS) (c:List Int) (y:Nat),PSt l (eqF l).1 c S∧Pls (za3 S) y y)∨(s.2.1=0∧CSt l s.1∧s.1.clash=false∧∃c,PSt l (eqF l).1 c s.1∧∀y,¬Pls (za3 s.1) y y)) ∧
  (zcl l≤1048576→0≤s.2.2∧s.2.2≤22 * (zcl l:Int))
theorem EqtR.clash {l k:List (Ty×Ty)} {S:CS} {n:Int} (h:CSt l S) (hc:S.clash=true) (ho:OkE (l++k)) (hs:zcl l≤zcl (l++k)) (hn:0≤n∧n≤10 * (zcl l:Int)+(l.length:Int)) (hl:l.length≤zcl l) (T:CS):EqtR (l++k) (T,7,n) :=
  ⟨.inl ⟨rfl,(h.clash_iff.1 hc).more ho⟩,fun _=>by dsimp only;omega⟩
theorem EqtR.cycle {l:List (Ty×Ty)} {S:CS} {n:Int} (h:EqI l S) (hl:zcl l≤1048576) (hll:l.length≤zcl l) (hr:zfU S (false,n)) (T:CS):EqtR l (T,8,IntKind.i64.wrap (n+S.steps)):=by
  have hN:=h.st.len;obtain ⟨c,hp⟩:=h.st.pst h.cl (by omega);obtain ⟨h1,h2,h3⟩:=hp.count hr;obtain ⟨h4,h5⟩:=h.low;have hm:=hp.gl;refine ⟨.inr (.inl ⟨rfl,fun hc=>?_,S,c,?_⟩),fun _=>?_⟩
  · have:=h.st.clash_iff.2 hc
    rw[h.cl] at this;cases this
  · rcases hr with ⟨h9,_⟩ | ⟨_,h9,_⟩
    · rw[h.cl] at h9;cases h9
    · obtain ⟨y,_,hy⟩:=h9 rfl
      exact ⟨y,hp,hy⟩
  · dsimp only
    rw[zaT (by omega) (by omega)];omega
theorem EqtR.good {l:List (Ty×Ty)} {S:CS} {n:Int} {F1:FS} (h:EqI l S) (hl:zcl l≤1048576) (hll:l.length≤zcl l) (hF:FSame S.F F1) (hr:zfU S (true,n)):EqtR l ({S with F:=F1},0,IntKind.i64.wrap (n+S.steps)):=by
  have hN:=h.st.len;obtain ⟨c,hp⟩:=h.st.pst h.cl (by omega);obtain ⟨h1,h2,h3⟩:=hp.count hr;obtain ⟨h4,h5⟩:=h.low;have hm:=hp.gl;refine ⟨.inr (.inr ⟨rfl,h.st.fsame (S1:={S with F:=F1}) hF rfl,h.cl,c,hp.fsame hF,fun y=>?_⟩),fun _=>?_⟩
  · rw[show za3 {S with F:=F1}=za3 S from funext fun z=>zb6 hF z]
    (rcases hr with ⟨h9,_⟩ | ⟨_,_,h9,_⟩);(· rw[h.cl] at h9;cases h9);· exact hp.no_loop (h9 rfl) y
  · dsimp only
    rw[zaT (by omega) (by omega)];omega
section
variable {S:CS} {F1:FS}
theorem whT_fsame (k:FSame S.F F1) (r:Nat) (ts:List Ty):whT {S with F:=F1} r ts=whT S r ts:=by
  (have h:rtB {S with F:=F1} r=rtB S r:=funext fun v=>zfw (S1:={S with F:=F1}) k rfl r v);unfold whT zbf;rw[h];rfl
theorem zeJ (k:FSame S.F F1) (r:Nat) (L:List Int):zbf {S with F:=F1} r L=zbf S r L:=by
  (have h:rtB {S with F:=F1} r=rtB S r:=funext fun v=>zfw (S1:={S with F:=F1}) k rfl r v);unfold zbf;rw[h]
theorem Wh.fsame (k:FSame S.F F1) {r:Nat} {t:Ty} (h:Wh S r t):Wh {S with F:=F1} r t:=by
  induction h with
  | mk r f hf ih =>
    have e:=zb6 k r;rw[← whT_fsame k,← e];exact .mk r f fun v hv=>ih v (by rw[← e];exact hv)
def KInv (S:CS) (K:List (Int×Ty)):Prop:=∀(k:Int) (t:Ty),zcy K k=some t→∃r:Nat,k=(r:Int)∧Wh S r t
theorem KInv.nil:KInv S []:=fun k t h=>by simp[zcy] at h
theorem KInv.set {K:List (Int×Ty)} (h:KInv S K) {r:Nat} {t:Ty} (ht:Wh S r t):KInv S (zfD K r t):=fun k u hk=>by
  rw[zfR] at hk;(split at hk);(· rename_i e;cases hk;exact ⟨r,e.symm,ht⟩);· exact h k u hk
theorem KInv.at {K:List (Int×Ty)} (h:KInv S K) {r:Nat} {t u:Ty} (ht:Wh S r t) (hu:zcy K (r:Int)=some u):u=t:=by
  obtain ⟨q,e,hq⟩:=h _ _ hu;(obtain rfl:r=q:=by omega);exact hq.det ht
theorem whT_var {r:Nat} {ts:List Ty} (h:zbM S r=0):whT S r ts=vTy (zbf S r (vsS S)):=by unfold whT;rw[if_pos h]
theorem whT_node {r:Nat} {ts:List Ty} (h:zbM S r≠0):whT S r ts=.mk (zbM S r) 0 ts:=by unfold whT;rw[if_neg h]
theorem zgI {r:Nat} {x k:Int} (hx:S.W[r]?=some x) (hk:(x<0∧k=0)∨(0≤x∧∃g,S.G.N[x.toNat]?=some g∧k=g.k)):k=zbM S r:=by
  unfold zbM;rw[hx];dsimp only;(rcases hk with ⟨h1,rfl⟩ | ⟨h1,g,hg,rfl⟩);(· rw[if_pos h1]);· rw[if_neg (by omega),hg];rfl
end
end Go.Proofs.YtpfiliamceimmaaGreatDoor
namespace Go.Proofs.YtpfiliamceimmaaGreatDoor
open Go Go.RowKit
def zb1 (L:List Int) (P:Int→Bool) (σ:Int→Ty):List Bd:=(L.filter fun v=>P v&&!(σ v).same (vTy v)).map fun v=>⟨v,σ v⟩
theorem zjy (L:List Int) (P:Int→Bool) (σ:Int→Ty):(zb1 L P σ).length≤L.length:=by
  unfold zb1;rw[zS];exact List.length_filter_le _ _
theorem zju {L:List Int} {P:Int→Bool} {σ:Int→Ty} {s:Nat} {v:Int} (h:L[s]?=some v) (hp:(P v&&!(σ v).same (vTy v))=true):zb1 (L.take (s+1)) P σ=zb1 (L.take s) P σ++[⟨v,σ v⟩]:=by
  unfold zb1;rw[List.take_add_one,h,List.filter_append,zz];simp[hp]
theorem bindsP_no {L:List Int} {P:Int→Bool} {σ:Int→Ty} {s:Nat} {v:Int} (h:L[s]?=some v) (hp:(P v&&!(σ v).same (vTy v))=false):zb1 (L.take (s+1)) P σ=zb1 (L.take s) P σ:=by
  unfold zb1;rw[List.take_add_one,h,List.filter_append,zz];simp[hp]
theorem zjs (L:List Int) (σ:Int→Ty):zb1 L (fun _=>true) σ=zcr L σ:=by
  unfold zb1 zcr;simp
def zin (most0:Int) (σ:Int→Ty) (v:Int):Bool:=decide (most0<min most ((σ v).cnt:Int))&&!(σ v).same (vTy v)
section
variable {l:List (Ty×Ty)} {M:List RNode} {c:List Int} {S:CS}
theorem PSt.cls_head (h:PSt l M c S) {v:Int} {q r:Nat} (hv:v∈vsS S) (hq:zaM S.G.V v=some (q:Int)) (hr:Rt S.F.up q r):∃rest,clsF S v (vsS S)=zbf S r (vsS S)::rest:=by
  have e:clsF S v (vsS S)=(vsS S).filter (rtB S r):=by
    unfold clsF;refine List.filter_congr fun w _=>?_
    classical
    rw[Bool.eq_iff_iff,zcN];unfold sameS;rw[zA];constructor
    · rintro ⟨_,i,k,h1,h2,hone⟩
      rw[hq] at h1;cases h1;(rcases hone with e1 | ⟨x,h3,h4⟩);· exact ⟨k,h2,by rw[← e1,zK];exact hr⟩
      · rw[zK] at h3
        have:=hr.det h3;subst this;exact ⟨k,h2,h4⟩
    · rintro ⟨k,h2,h4⟩
      exact ⟨h.h.1,q,k,hq,h2,.inr ⟨r,by rw[zK];exact hr,h4⟩⟩
  have hmem:v∈(vsS S).filter (rtB S r):=List.mem_filter.2 ⟨hv,zcN.2 ⟨_,hq,by rw[zK];exact hr⟩⟩;rw[e];have hh:((vsS S).filter (rtB S r)).head?=(vsS S).find? (rtB S r):=List.head?_filter
  match hf:(vsS S).filter (rtB S r),hmem with
  | [],hm=>cases hm
  | u::rest,_ =>
    rw[hf,List.head?_cons] at hh;refine ⟨rest,?_⟩;unfold zbf;rw[← hh];rfl
theorem PSt.var_cls (h:PSt l M c S) (hno:∀y,¬Pls (za3 S) y y) {v:Int} (hv:v∈vsS S) {q r:Nat} (hq:zaM S.G.V v=some (q:Int)) (hr:Rt S.F.up q r) :
    wF S v=wOf S r∧Wh S r (wF S v)∧(wF S v).same (vTy v)=(decide (zbM S r=0)&&decide (zbf S r (vsS S)=v)):=by
  obtain ⟨q',_,h2,h3,h4⟩:=h.wF_at hv;rw[hq] at h3;(obtain rfl:q=q':=by have:=Option.some.inj h3;omega);have hroot:=zbA hr;have h5:=h.wF_same hno h2 h4;rw[hroot] at h4 h5;obtain ⟨t,ht⟩:=h.wh hno hr.lt;refine ⟨h4,?_,h5⟩;rw[h4,zcU ht];exact ht
theorem PSt.size_at (h:PSt l M c S) (hno:∀y,¬Pls (za3 S) y y) {v:Int} (hv:v∈vsS S) {q r:Nat} {a:Int×Int} (hq:zaM S.G.V v=some (q:Int)) (hr:Rt S.F.up q r) (ha:Tl (za3 S) r a):a.2=min most ((wF S v).cnt:Int):=by
  obtain ⟨q',_,h2,h3,h4⟩:=h.wF_at hv;rw[hq] at h3;(obtain rfl:q=q':=by have:=Option.some.inj h3;omega);rw[h4];exact h.size hno h2 (by rw[zbA hr];exact ha)
end
def SolM (most0:Int) (l:List (Ty×Ty)) (r:List Bd×Int):Prop :=
  (∃s:CS×Int×Int,EqtR l s∧s.2.1≠0∧r=([],s.2.1)) ∨
  ∃(S:CS) (c:List Int),PSt l (eqF l).1 c S∧(∀y,¬Pls (za3 S) y y)∧(((∀v∈vsS S,zin most0 (wF S) v=false)∧r=(zcr (vsS S) (wF S),0))∨((∃v∈vsS S,zin most0 (wF S) v=true)∧r=([],6)))
theorem wF_fsame {S:CS} {F1:FS} (hF:FInv S.F) (k:FSame S.F F1) (v:Int):wF {S with F:=F1} v=wF S v:=by
  have hw:∀r,wOf {S with F:=F1} r=wOf S r:=fun r=>by
    by_cases h:∃t,Wh S r t
    · obtain ⟨t,ht⟩:=h
      rw[zcU ht,zcU (ht.fsame k)]
    · have h2:¬∃t,Wh {S with F:=F1} r t:=fun ⟨t,ht⟩=>h ⟨t,by
        have k2:FSame ({S with F:=F1}:CS).F S.F:=⟨hF,k.len.symm,k.rank.symm,fun a q=>(k.rt a q).symm⟩
        exact ht.fsame (F1:=S.F) k2⟩
      unfold wOf;rw[dif_neg h,dif_neg h2]
  have hr:∀i,zbl {S with F:=F1} i=zbl S i:=fun i=>by
    by_cases h:∃r,Rt S.F.up i r
    · obtain ⟨r,hr⟩:=h
      rw[zbA hr,zbA (S:={S with F:=F1}) ((k.rt _ _).2 hr)]
    · have h2:¬∃r,Rt ({S with F:=F1}:CS).F.up i r:=fun ⟨r,hr⟩=>h ⟨r,(k.rt _ _).1 hr⟩
      unfold zbl;rw[dif_neg h,dif_neg h2]
  unfold wF;dsimp only;split;(· rw[hr,hw]);· rfl
end Go.Proofs.YtpfiliamceimmaaGreatDoor
namespace Go.Proofs.YtpfiliamceimmaaGreatDoor
open Go Go.RowKit
attribute [local irreducible] aops za1
theorem APure.le {P:Program} {f:Nat} {args args':List AV} {x:AV} (h:APure P f args' x) (hl:LeL args args') (hd:DataL args):APure P f args x:=⟨hd,h.2.1,h.2.2.args hl⟩
end Go.Proofs.YtpfiliamceimmaaGreatDoor
namespace Go.Proofs.YtpfiliamceimmaaGreatDoor
open Go Go.RowKit
attribute [local irreducible] aops za1
def sv (l:List Int):List (Int×AV):=l.map fun n=>(n,.v (.int .i64 1))
theorem sv_data (l:List Int):∀p∈sv l,Data p.2:=fun p hp=>by
  obtain ⟨n,_,rfl⟩:=zC.1 hp;exact .v _
def sObs (l:List Int):List Ob:=[.map (sv l),.cells 130 [.map 0],.cells 54 [.osl 3 1 (l.map intC)],.tok 3 1 l.length]
def SCalls (f:Nat) (args:List AV) (l:List Int) (R:AV) (l1:List Int):Prop :=
  ACalls Tryz.prog f args (zai 0 (sObs l)) 4 fun r os n=>(r=R∧os=zai 0 (sObs l1))∧n=4
theorem Und.sv {n:Nat} (l:List Int):(∀p∈Go.Proofs.YtpfiliamceimmaaGreatDoor.sv l,Und n p.2)=True:=eq_true fun p hp=>.data (sv_data l p hp)
theorem renS (l:List Int) (nx:Nat):RenOs (zbs [0,1,2,3] nx) 0 (sObs l) (sObs l) :=
  ⟨.map (sv_data l),.cells ⟨.map rfl,trivial⟩,.cells ⟨.osl rfl (fun x hx=>by obtain ⟨y,_,rfl⟩:=zC.1 hx;exact .cons (.v _) .nil),trivial⟩,.tok,trivial⟩
theorem SCalls.at {f:Nat} {args:List AV} {l l1:List Int} {R:AV} (h:SCalls f args l R l1) (hargs:∀nx,RenL (zbs [0,1,2,3] nx) args args) (hR:Data R) {os':Os} {nx':Nat}
    (h0:zaJ os' 0=some (.map (sv l))) (h1:zaJ os' 1=some (.cells 130 [.map 0])) (h2:zaJ os' 2=some (.cells 54 [.osl 3 1 (l.map intC)])) (h3:zaJ os' 3=some (.tok 3 1 l.length)) (hn:4≤nx') {Q':AV→Os→Nat→Prop}
    (hq:Q' R (zaz (zaz (zaz (zaz os' 0 (.map (sv l1))) 1 (.cells 130 [.map 0])) 2 (.cells 54 [.osl 3 1 (l1.map intC)])) 3 (.tok 3 1 l1.length)) nx'):ACalls Tryz.prog f args os' nx' Q':=by
  refine ACalls.at (args:=args) (obs:=sObs l) (obs1:=sObs l1) (obs':=sObs l) (obs1':=sObs l1) [0,1,2,3] ?_ rfl rfl (by decide) (by simp;omega) (hargs _) (.data hR) (renS l _) ⟨h0,h1,h2,h3,trivial⟩ (renS l1 _) hq;exact h.mono fun r os n ⟨⟨h1,h2⟩,h3⟩=>⟨h1,h2,h3⟩
theorem ziV:Data (.tup []):=.tup (fun _ h=>by cases h)
end Go.Proofs.YtpfiliamceimmaaGreatDoor
namespace Go.Proofs.YtpfiliamceimmaaGreatDoor
open Go Go.RowKit
def tC (t:Ty):AV:=.agg t.cells
def mTC (m:List (Int×Ty)):List (Int×AV):=m.map fun p=>(p.1,tC p.2)
theorem mC_nil:mTC []=[]:=rfl
theorem zej (m:List (Int×Ty)):∀p∈mTC m,Data p.2:=fun p hp=>by
  obtain ⟨q,_,rfl⟩:=zC.1 hp;exact Ty.dataAgg _
theorem zaO (m:List (Int×Ty)) (k:Int):(zbU (mTC m) k).isSome=(zcy m k).isSome:=by rw[mTC,zgm];cases zcy m k <;> rfl
theorem za9 (m:List (Int×Ty)) (k:Int) (t:Ty):zdR (mTC m) k (.agg t.cells)=mTC (zfD m k t):=aSet_p tC k t m
def zT:AV:=.agg [.v (.int .i64 0),.v (.int .i64 0),.v (.slice none 0 0)]
theorem zap:ziu (.agg #[.int .i64 0,.int .i64 0,.slice none 0 0])=zT:=rfl
theorem mGet {m:List (Int×Ty)} {k:Int} {x:Ty} (h:zcy m k=some x) (z:AV):(zbU (mTC m) k).getD z=.agg x.cells:=by rw[mTC,zgm,h];rfl
def MCalls (f:Nat) (args:List AV) (m:List (Int×Ty)) (R:AV) (m1:List (Int×Ty)):Prop :=
  ACalls Tryz.prog f args (zai 0 [.map (mTC m)]) 1 fun r os n=>(r=R∧os=zai 0 [.map (mTC m1)])∧n=1
theorem Und.mTC {n:Nat} (m:List (Int×Ty)):(∀p∈Go.Proofs.YtpfiliamceimmaaGreatDoor.mTC m,Und n p.2)=True:=eq_true fun p hp=>.data (zej m p hp)
theorem MCalls.at {f:Nat} {args:List AV} {m m1:List (Int×Ty)} {R:AV} (h:MCalls f (.map 0::args) m R m1) (hd:DataL args) (hR:Data R) {i:Nat} {os':Os} {nx':Nat}
    (hi:zaJ os' i=some (.map (mTC m))) (li:i<nx') {Q':AV→Os→Nat→Prop} (hq:Q' R (zaz os' i (.map (mTC m1))) nx'):ACalls Tryz.prog f (.map i::args) os' nx' Q':=by
  have same:∀(l:List AV),DataL l→RenL (zbs [i] nx') l l:=by
    intro l hl
    induction l with
    | nil=>trivial
    | cons x l ih=>exact ⟨.data (hl x (by simp)),ih fun y hy=>hl y (by simp[hy])⟩
  (have ren:∀m:List (Int×Ty),RenOs (zbs [i] nx') 0 [.map (mTC m)] [.map (mTC m)]:=fun m=>⟨.map (zej m),trivial⟩);refine ACalls.at (args:=.map 0::args) (obs:=[.map (mTC m)]) (obs1:=[.map (mTC m1)]) (obs':=[.map (mTC m)]) (obs1':=[.map (mTC m1)]) [i] ?_ rfl rfl (by simp) (by simpa using li) ⟨.map rfl,same args hd⟩ (.data hR) (ren m) ⟨hi,trivial⟩ (ren m1) hq;exact h.mono fun r os n ⟨⟨h1,h2⟩,h3⟩=>⟨h1,h2,h3⟩
end Go.Proofs.YtpfiliamceimmaaGreatDoor
namespace Go.Proofs.YtpfiliamceimmaaGreatDoor
open Go Go.RowKit
attribute [local irreducible] aops za1
def hB (m:List (Int×Ty)) (v:Int):Bd:=⟨v,(zcy m v).getD (.mk 0 0 [])⟩
end Go.Proofs.YtpfiliamceimmaaGreatDoor
namespace Go.Proofs.YtpfiliamceimmaaGreatDoor
open Go Go.RowKit
attribute [local irreducible] aops za1
theorem Bd.take4 (b:Bd):b.cells.take 4=b.cells:=by rw[b.cells_eq];rfl
end Go.Proofs.YtpfiliamceimmaaGreatDoor
namespace Go.Proofs.YtpfiliamceimmaaGreatDoor
open Go Go.RowKit
attribute [local irreducible] aops za1
def ze1 (l:List Bd):Bool:=(l.take 30).any (fun b=>b.t.great)||decide (24<l.length)||decide (400<Ty.cntL ((l.take 30).map Bd.t))
theorem zdJ {l:List Bd} {s:Nat} {b:Bd} (hp:l[s]?=some b) (hs:s<30) (h:b.t.great=true):ze1 l=true:=by
  have h1:(l.take 30).any (fun b=>b.t.great)=true:=zeh (i:=s) (p:=b) (by rw[List.getElem?_take,if_pos hs];exact hp) h;simp only[ze1,h1,Bool.true_or]
theorem zj0 {l:List Bd} {s:Nat} (hs:¬(s<l.length∧s<30)) (h1:s≤l.length) (h2:s≤30) (h:∀(i:Nat) (b:Bd),i<s→l[i]?=some b→b.t.great=false):ze1 l=(decide (24<l.length)||decide (400<Ty.cntL ((l.take s).map Bd.t))):=by
  have e:l.take 30=l.take s:=by
    rcases zO s 30 with h3 | h3
    · have h4:s=l.length:=by omega
      subst h4;rw[z6,List.take_of_length_le (by omega)]
    · rw[show s=30 by omega]
  have h0:(l.take s).any (fun b=>b.t.great)=false:=zeH fun i p hi hp=>by
    rw[List.getElem?_take] at hp;(split at hp);(· exact h i p (by assumption) hp);· cases hp
  simp only[ze1,e,h0,Bool.false_or]
theorem zio {l:List Bd} (h:ze1 l=false):l.length≤24∧Ty.cntL (l.map Bd.t)≤400∧∀b∈l,b.t.cnt≤400:=by
  simp only[ze1,Bool.or_eq_false_iff,zQ] at h;obtain ⟨⟨h1,h2⟩,h3⟩:=h;rw[List.take_of_length_le (by omega)] at h3
  exact ⟨by omega,by omega,fun b hb=>by
    have:=Ty.cnt_mem (zC.2 ⟨b,hb,rfl⟩:b.t∈l.map Bd.t)
    omega⟩
theorem zhO (l:List Bd):APure Tryz.prog 15 [.sl 4 (l.map Bd.cells)] (.v (.bool (ze1 l))):=by
  refine APure.mkL (.cons (Bd.dataSl l) .nil) (.v _) ?_;refine zah Tryz.func15 (by kernel_rfl) rfl (by rw[Tryz.ntmps15];simp) (fun hm=>?_);simp only[Tryz.ntmps15,Tryz.results15,zi,zm,Nat.reduceAdd,Nat.reduceSub,zt,zq,zh,zj];(iterate 2 (refine zab fun Y0 y0=>?_;refine zaa ?_;simp only[↓bO,go_sem,seval,Bd.take1,Bd.drop1,Bd.cells_len,Bd.one,Bd.take4];refine y0 _ ?_;(try clear y0 Y0)));refine zab fun Y0 y0=>?_;refine zab fun Y1 y1=>?_;refine zaa ?_;simp only[↓bO,go_sem,seval,Bd.take1,Bd.drop1,Bd.cells_len,Bd.one,Bd.take4];refine y1 _ ?_;(try clear y1 Y1);refine zav ?_;refine zaS (σ:=Nat) (mB 36 25) (fun s=>s≤l.length∧s≤30∧Ty.cntL ((l.take s).map Bd.t)≤300 * s∧∀(i:Nat) (b:Bd),i<s→l[i]?=some b→b.t.great=false) (fun s=>[(3,.v (.int .i64 (Ty.cntL ((l.take s).map Bd.t):Nat))),(4,.v (.int .i64 (s:Int)))]) (fun s=>[]) (fun s=>30-s) 0 (⟨by omega,by omega,by simp[Ty.cntL],fun i p hi=>by omega⟩) ?_ (fun s hs=>?_)
  ·
   simp only[zaA,zaB,zaq,zaz,mB,zc,zb,seval,bL,Ty.cntL,Int.natCast_zero,Int.ofNat_zero,zP];exact zcm
  simp only[zaA,zaB,zaq,zaz,mB,zc,zb,seval];refine zab fun Y1 y1=>?_;refine zdU (mB 36 4121) ([(12,.v (.bool (decide (s<l.length∧s<30))))]) ([]) ?_ ?_
  ·
   refine zaa ?_;(iterate 5 (refine z8 1 fun Q0 q0=>?_;simp only[↓bO,go_sem,seval,Bd.take1,Bd.drop1,Bd.cells_len,Bd.one,Bd.take4];refine q0 _ ?_;clear q0 Q0;simp only[go_sem]));refine zaN 9 rfl (fun hc9=>?_) (fun hc9=>?_)
   ·
    simp only[zc,zb];(iterate 2 (refine z8 1 fun Q0 q0=>?_;simp only[↓bO,go_sem,seval,Bd.take1,Bd.drop1,Bd.cells_len,Bd.one,Bd.take4];refine q0 _ ?_;clear q0 Q0;simp only[go_sem]));simp only[↓bO,go_sem,seval,Bd.take1,Bd.drop1,Bd.cells_len,Bd.one,Bd.take4];(try simp only[zaA,zaB,zaq,zaz,mB,zc,zb,seval]);refine Weak.mk ?_ (fun _ _ h=>h) rfl rfl;simp only[go_sem,Le.refl,Le.any];all_goals (refine Le.of_eq (congrArg (fun b=>AV.v (.bool b)) ?_);rw[Bool.eq_iff_iff];simp only[zA,zQ,zV,false_iff,Int.ofNat_lt] at *;omega)
   ·
    simp only[zc,zb];(iterate 2 (refine z8 1 fun Q0 q0=>?_;simp only[↓bO,go_sem,seval,Bd.take1,Bd.drop1,Bd.cells_len,Bd.one,Bd.take4];refine q0 _ ?_;clear q0 Q0;simp only[go_sem]));simp only[↓bO,go_sem,seval,Bd.take1,Bd.drop1,Bd.cells_len,Bd.one,Bd.take4];(try simp only[zaA,zaB,zaq,zaz,mB,zc,zb,seval]);refine Weak.mk ?_ (fun _ _ h=>h) rfl rfl;simp only[go_sem,Le.refl,Le.any];all_goals (refine Le.of_eq (congrArg (fun b=>AV.v (.bool b)) ?_);rw[Bool.eq_iff_iff];simp only[zA,zQ,zV,false_iff,Int.ofNat_lt] at *;omega)
  simp only[zaA,zaB,zaq,zaz,mB,zc,zb,seval];refine zan rfl (fun hb12=>?_) (fun hb12=>?_)
  ·
   (have hk0:s<l.length∧s<30:=by simpa using hb12);have hk:s<l.length:=hk0.1;obtain ⟨b,hb⟩:∃b,l[s]?=some b:=⟨_,zd hk⟩;(have hss:Ty.cntL ((l.take (s+1)).map Bd.t)=Ty.cntL ((l.take s).map Bd.t)+b.t.cnt:=by (rw[za0 Bd.t hb,Ty.cntL_append];simp[Ty.cntL]));have hw:IntKind.i64.wrap ((s:Int)+1)=(s:Int)+1:=zaT (by omega) (by omega);refine zar ?_;(try simp only[zaf,zad,zac]);refine y1 _ ?_;(try clear y1 Y1);refine zab fun Y1 y1=>?_;refine zav ?_;refine zab fun Y2 y2=>?_;refine zab fun Y3 y3=>?_;refine zaa ?_;(iterate 5 (refine z8 1 fun Q0 q0=>?_;simp only[↓bO,go_sem,seval,Bd.take1,Bd.drop1,Bd.cells_len,Bd.one,Bd.take4,hk,gM hb,za,hw];refine q0 _ ?_;clear q0 Q0;simp only[go_sem]));simp only[↓bO,go_sem,seval,Bd.take1,Bd.drop1,Bd.cells_len,Bd.one,Bd.take4,hk,gM hb,za,hw];refine APure.call (ziz b.t) ?_;(try simp only[bS,bA,zaf,zad,zac]);refine y3 _ ?_;(try clear y3 Y3);refine zan rfl (fun hb20=>?_) (fun hb20=>?_)
   ·
    (have hyb:b.t.great=true:=by simpa using hb20);refine zab fun Y3 y3=>?_;refine zaa ?_;simp only[↓bO,go_sem,seval,Bd.take1,Bd.drop1,Bd.cells_len,Bd.one,Bd.take4,hk,gM hb,za,hw];refine y3 _ ?_;(try clear y3 Y3);refine zam ?_;(try simp only[zaf,zad,zac,zaZ,zaW,zaC,bS,bA]);refine Le.of_eq (congrArg (fun b=>AV.v (.bool b)) ?_);(first | (rw[zdJ hb (by omega) hyb];done) | skip);all_goals (rw[hg1,Bool.eq_iff_iff];simp only[Bool.or_eq_true,zA,zQ,true_iff,zV,false_iff] at *;omega)
   ·
    (have hb1:b.t.great=false:=by simpa using hb20);have hpc1:=Ty.great_cnt hb1;have hsz1:=Ty.sizeW_cnt b.t (by omega);(have hw2:IntKind.i64.wrap ((Ty.cntL ((l.take s).map Bd.t):Int)+b.t.sizeW)=(Ty.cntL ((l.take (s+1)).map Bd.t):Int):=by rw[hsz1,zaT (by omega) (by omega)];omega);refine zar ?_;(try simp only[zaf,zad,zac]);refine y2 _ ?_;(try clear y2 Y2);refine zaa ?_;(iterate 6 (refine z8 1 fun Q0 q0=>?_;simp only[↓bO,go_sem,seval,Bd.take1,Bd.drop1,Bd.cells_len,Bd.one,Bd.take4,hk,gM hb,za,hw,hw2];refine q0 _ ?_;clear q0 Q0;simp only[go_sem]));refine z8 1 fun Q0 q0=>?_;simp only[↓bO,go_sem,seval,Bd.take1,Bd.drop1,Bd.cells_len,Bd.one,Bd.take4,hk,gM hb,za,hw,hw2];refine APure.call (Size_pure b.t) ?_;(try simp only[bS,bA,zaf,zad,zac]);refine q0 _ ?_;clear q0 Q0;simp only[go_sem];refine z8 1 fun Q0 q0=>?_;simp only[↓bO,go_sem,seval,Bd.take1,Bd.drop1,Bd.cells_len,Bd.one,Bd.take4,hk,gM hb,za,hw,hw2];refine q0 _ ?_;clear q0 Q0;simp only[go_sem];simp only[↓bO,go_sem,seval,Bd.take1,Bd.drop1,Bd.cells_len,Bd.one,Bd.take4,hk,gM hb,za,hw,hw2];refine y1 _ ?_;(try clear y1 Y1);refine zaa ?_;(iterate 2 (refine z8 1 fun Q0 q0=>?_;simp only[↓bO,go_sem,seval,Bd.take1,Bd.drop1,Bd.cells_len,Bd.one,Bd.take4,hk,gM hb,za,hw,hw2];refine q0 _ ?_;clear q0 Q0;simp only[go_sem]));simp only[↓bO,go_sem,seval,Bd.take1,Bd.drop1,Bd.cells_len,Bd.one,Bd.take4,hk,gM hb,za,hw,hw2];refine ⟨(s+1),⟨by omega,by omega,by omega,fun i p' hi h1=>(by rcases zO i s with h3 | h3 <;> first | exact hs.2.2.2 i p' h3 h1 | (obtain rfl:i=s:=(by omega);rw[hb] at h1;cases h1;exact hb1))⟩,by omega,?_⟩;simp only[zaA,zaB,zaq,zaz,mB,zc,zb,seval,hk,gM hb,za,zL,hw,hw2];exact zcm
  ·
   (have hk0:¬(s<l.length∧s<30):=by simpa using hb12);have hg1:=zj0 hk0 hs.1 hs.2.1 hs.2.2.2;refine zaV ?_;simp only[zaf,zad,zac,bA,Nat.reduceEqDiff,↓reduceIte];refine y0 _ ?_;(try clear y0 Y0);refine zab fun Y0 y0=>?_;refine zaa ?_;(iterate 4 (refine z8 1 fun Q0 q0=>?_;simp only[↓bO,go_sem,seval,Bd.take1,Bd.drop1,Bd.cells_len,Bd.one,Bd.take4];refine q0 _ ?_;clear q0 Q0;simp only[go_sem]));refine zaN 32 rfl (fun hc32=>?_) (fun hc32=>?_)
   ·
    simp only[zc,zb];(iterate 3 (refine z8 1 fun Q0 q0=>?_;simp only[↓bO,go_sem,seval,Bd.take1,Bd.drop1,Bd.cells_len,Bd.one,Bd.take4];refine q0 _ ?_;clear q0 Q0;simp only[go_sem]));simp only[↓bO,go_sem,seval,Bd.take1,Bd.drop1,Bd.cells_len,Bd.one,Bd.take4];refine y0 _ ?_;(try clear y0 Y0);refine zam ?_;(try simp only[zaf,zad,zac,zaZ,zaW,zaC,bS,bA]);refine Le.of_eq (congrArg (fun b=>AV.v (.bool b)) ?_);(first | (rw[zdJ hb (by omega) hyb];done) | skip);all_goals (rw[hg1,Bool.eq_iff_iff];simp only[Bool.or_eq_true,zA,zQ,true_iff,zV,false_iff] at *;omega)
   ·
    simp only[zc,zb];(iterate 3 (refine z8 1 fun Q0 q0=>?_;simp only[↓bO,go_sem,seval,Bd.take1,Bd.drop1,Bd.cells_len,Bd.one,Bd.take4];refine q0 _ ?_;clear q0 Q0;simp only[go_sem]));simp only[↓bO,go_sem,seval,Bd.take1,Bd.drop1,Bd.cells_len,Bd.one,Bd.take4];refine y0 _ ?_;(try clear y0 Y0);refine zam ?_;(try simp only[zaf,zad,zac,zaZ,zaW,zaC,bS,bA]);refine Le.of_eq (congrArg (fun b=>AV.v (.bool b)) ?_);(first | (rw[zdJ hb (by omega) hyb];done) | skip);all_goals (rw[hg1,Bool.eq_iff_iff];simp only[Bool.or_eq_true,zA,zQ,true_iff,zV,false_iff] at *;omega)
end Go.Proofs.YtpfiliamceimmaaGreatDoor
