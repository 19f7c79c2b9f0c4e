/- Texts of the abstract walk, of the contracts and of the plain laws, packed (part 36 of 50): Un1 Un2 Great Gr Gr2 Gr3 Gr4 Un3 Un4 Un5. Conditions: none. -/
import Derived.Test.YtpfiliamceimmaaGreatDoorPk35
set_option linter.unusedVariables false
set_option linter.unusedSimpArgs false
set_option maxRecDepth 100000
set_option maxHeartbeats 4000000
namespace Go.Proofs.YtpfiliamceimmaaGreatDoor
open Go Go.RowKit
attribute [local irreducible] aops za1
structure FS where
  up:List Nat
  rank:List Int
  sets:Int
  steps:Int
def nC (n:Nat):List AV:=[.v (.int .i64 n)]
theorem zbg (l:List Nat):∀x∈l.map nC,DataL x:=fun x hx=>by
  obtain ⟨n,_,rfl⟩:=zC.1 hx;exact .cons (.v _) .nil
theorem za2 (l:List Int):∀x∈l.map intC,DataL x:=fun x hx=>by
  obtain ⟨n,_,rfl⟩:=zC.1 hx;exact .cons (.v _) .nil
theorem zbj (l:List Nat) (i r:Nat):(l.map nC).set i [.v (.int .i64 (r:Int))]=(l.set i r).map nC:=by rw[List.map_set];rfl
theorem zaQ (l:List Int) (i:Nat) (r:Int):(l.map intC).set i [.v (.int .i64 r)]=(l.set i r).map intC:=by rw[List.map_set]
theorem zcd (l:List Nat) (r:Nat):l.map nC++[[.v (.int .i64 (r:Int))]]=(l++[r]).map nC:=by rw[zz];rfl
theorem za7 (l:List Int) (r:Int):l.map intC++[[.v (.int .i64 r)]]=(l++[r]).map intC:=by rw[zz];rfl
def zcK (F:FS):List Ob:=[.cells 184 [.own 1 F.up.length,.own 2 F.rank.length,.v (.int .i64 F.sets),.v (.int .i64 F.steps)],.row 3 1 (F.up.map nC),.row 3 1 (F.rank.map intC)]
def fObsAt (i j:Nat) (F:FS):List Ob:=[.cells 184 [.own i F.up.length,.own j F.rank.length,.v (.int .i64 F.sets),.v (.int .i64 F.steps)],.row 3 1 (F.up.map nC),.row 3 1 (F.rank.map intC)]
structure FInv (F:FS):Prop where
  len:F.rank.length=F.up.length
  ok:∃h,UpOk F.up h
structure FSame (F G:FS):Prop where
  inv:FInv G
  len:G.up.length=F.up.length
  rank:G.rank=F.rank
  rt:∀k q,Rt G.up k q↔Rt F.up k q
theorem FSame.refl {F:FS} (h:FInv F):FSame F F:=⟨h,rfl,rfl,fun _ _=>Iff.rfl⟩
theorem FSame.trans {F G H:FS} (h:FSame F G) (k:FSame G H):FSame F H:=⟨k.inv,k.len.trans h.len,k.rank.trans h.rank,fun a q=>(k.rt a q).trans (h.rt a q)⟩
theorem fUnd {n:Nat} (h:3≤n) (F:FS):UndOs n (zai 0 (zcK F)) :=
  ⟨by omega,⟨.own (by omega),.own (by omega),.v _ _,.v _ _,trivial⟩,by omega,Und.rowI (zbg _),by omega,Und.rowI (za2 _),trivial⟩
theorem renF (F:FS) (i j k nx:Nat):RenOs (zbs [i,j,k] nx) 0 (zcK F) (fObsAt j k F):=⟨.cells ⟨.own rfl,.own rfl,.v _,.v _,trivial⟩,.row (zbg _),.row (za2 _),trivial⟩
def FCalls {σ:Type} (f:Nat) (args:List AV) (F:FS) (C:FS×σ→Prop) (R:σ→AV):Prop :=
  ACalls Tryz.prog f args (zai 0 (zcK F)) 3 fun r os n=>(∃s:FS×σ,C s∧r=R s.2∧os=zai 0 (zcK s.1))∧n=3
theorem FCalls.at {σ:Type} {f:Nat} {args:List AV} {F:FS} {C:FS×σ→Prop} {R:σ→AV} (h:FCalls f (.ptr 0 0::args) F C R) (hd:DataL args) (hR:∀s,Data (R s)) {i j k:Nat} {os':Os} {nx':Nat}
    (hi:zaJ os' i=some (.cells 184 [.own j F.up.length,.own k F.rank.length,.v (.int .i64 F.sets),.v (.int .i64 F.steps)])) (hj:zaJ os' j=some (.row 3 1 (F.up.map nC))) (hk:zaJ os' k=some (.row 3 1 (F.rank.map intC)))
    (hij:i≠j) (hik:i≠k) (hjk:j≠k) (li:i<nx') (lj:j<nx') (lk:k<nx') {Q':AV→Os→Nat→Prop}
    (hq:∀(G:FS) (s:σ),C (G,s)→Q' (R s) (zaz (zaz (zaz os' i (.cells 184 [.own j G.up.length,.own k G.rank.length,.v (.int .i64 G.sets),.v (.int .i64 G.steps)])) j (.row 3 1 (G.up.map nC))) k (.row 3 1 (G.rank.map intC))) nx'):ACalls Tryz.prog f (.ptr i 0::args) os' nx' Q':=by
  have same:∀(l:List AV),DataL l→RenL (zbs [i,j,k] nx') l l:=by
    intro l hl
    induction l with
    | nil=>trivial
    | cons x l ih=>exact ⟨.data (hl x (by simp)),ih fun y hy=>hl y (by simp[hy])⟩
  refine ACalls.atE (σ:=FS×σ) (C:=C) (args:=.ptr 0 0::args) (R:=fun s=>R s.2) (R':=fun s=>R s.2) (obs:=zcK F) (obs1:=fun s=>zcK s.1) (obs':=fObsAt j k F) (obs1':=fun s=>fObsAt j k s.1) [i,j,k] h rfl (fun _=>rfl) (by simp[hij,hik,hjk]) (by simp[li,lj,lk]) ⟨.ptr rfl,same args hd⟩ (fun s=>.data (hR s.2)) (renF F i j k nx') ⟨hi,hj,hk,trivial⟩ (fun s=>renF s.1 i j k nx') (fun s hs=>hq s.1 s.2 hs)
theorem zfy (F:FS) (i:Int):FCalls (σ:=Unit) 153 [.ptr 0 0,.v (.int .i64 i)] (F) (fun s=>s.1=F) (fun s=>.v (.bool (decide (0≤i∧i<F.up.length)))):=by
  refine ACalls.clean (C:=fun r os=>∃s:FS×Unit,(s.1=F)∧r=(fun s:Unit=>.v (.bool (decide (0≤i∧i<F.up.length)))) s.2∧os=zai 0 (zcK s.1)) ?_;refine zah Tryz.func153 (by kernel_rfl) rfl (by rw[Tryz.ntmps153];simp) (fun hm=>?_);simp only[Tryz.ntmps153,Tryz.results153,zi,zm,Nat.reduceAdd,Nat.reduceSub,zt,zq,zh,zj];simp only[zcK,zai,Nat.reduceAdd];refine zab fun Y0 y0=>?_;refine zaa ?_;simp only[↓bO,go_sem,seval];refine y0 _ ?_;(try clear y0 Y0);refine zab fun Y0 y0=>?_;refine zaa ?_;refine z8 3 fun Q0 q0=>?_;simp only[↓bO,go_sem,seval];refine q0 _ ?_;clear q0 Q0;simp only[go_sem];refine zaN 7 rfl (fun hc7=>?_) (fun hc7=>?_)
  ·
   simp only[zc,zb];refine z8 4 fun Q0 q0=>?_;simp only[↓bO,go_sem,seval];refine q0 _ ?_;clear q0 Q0;simp only[go_sem];refine zaN 11 rfl (fun hc11=>?_) (fun hc11=>?_)
   ·
    simp only[zc,zb];(iterate 2 (refine z8 4 fun Q0 q0=>?_;simp only[↓bO,go_sem,seval];refine q0 _ ?_;clear q0 Q0;simp only[go_sem]));simp only[↓bO,go_sem,seval];refine y0 _ ?_;(try clear y0 Y0);refine zam ?_;(try simp only[zaf,zad,zac,zaZ,zaW,zaC,bS,bA]);refine ⟨_,zai 0 (zcK (F)),⟨(F,()),?_,rfl,rfl⟩,.v _ _,fUnd (by omega) _,?_,?_,by omega⟩;· rfl
    ·
     refine Le.of_eq (congrArg (fun b=>AV.v (.bool b)) ?_);have h9:=hc11;(simp at h9);(simp[h9]);try omega
    · first | (refine ⟨0,rfl,rfl⟩) | (refine ⟨0,by simp only[zcK,zai,zw,zk,Nat.reduceAdd],rfl⟩)
   ·
    simp only[zc,zb];(iterate 2 (refine z8 4 fun Q0 q0=>?_;simp only[↓bO,go_sem,seval];refine q0 _ ?_;clear q0 Q0;simp only[go_sem]));simp only[↓bO,go_sem,seval];refine y0 _ ?_;(try clear y0 Y0);refine zam ?_;(try simp only[zaf,zad,zac,zaZ,zaW,zaC,bS,bA]);refine ⟨_,zai 0 (zcK (F)),⟨(F,()),?_,rfl,rfl⟩,.v _ _,fUnd (by omega) _,?_,?_,by omega⟩;· rfl
    ·
     refine Le.of_eq (congrArg (fun b=>AV.v (.bool b)) ?_);have h9:=hc11;(simp at h9);(simp[h9]);try omega
    · first | (refine ⟨0,rfl,rfl⟩) | (refine ⟨0,by simp only[zcK,zai,zw,zk,Nat.reduceAdd],rfl⟩)
  ·
   simp only[zc,zb];cases hc7
theorem zg2 (F:FS) (hF:FInv F) (i:Nat) (hi:i<F.up.length):FCalls (σ:=Nat) 154 [.ptr 0 0,.v (.int .i64 (i:Int))] (F) (fun s=>FSame F s.1∧Rt F.up i s.2) (fun s=>.v (.int .i64 (s:Int))):=by
  refine ACalls.clean (C:=fun r os=>∃s:FS×Nat,(FSame F s.1∧Rt F.up i s.2)∧r=(fun s:Nat=>.v (.int .i64 (s:Int))) s.2∧os=zai 0 (zcK s.1)) ?_;refine zah Tryz.func154 (by kernel_rfl) rfl (by rw[Tryz.ntmps154];simp) (fun hm=>?_);simp only[Tryz.ntmps154,Tryz.results154,zi,zm,Nat.reduceAdd,Nat.reduceSub,zt,zq,zh,zj];simp only[zcK,zai,Nat.reduceAdd];obtain ⟨hfl,h,hU⟩:=hF;obtain ⟨r,hr⟩:=hU.ex hi;refine zab fun Y0 y0=>?_;refine zaa ?_;simp only[↓bO,go_sem,seval];refine y0 _ ?_;(try clear y0 Y0);refine zdP ?_;refine zab fun Y0 y0=>?_;refine zaa ?_;simp only[↓bO,go_sem,seval];refine y0 _ ?_;(try clear y0 Y0);refine zab fun Y0 y0=>?_;refine zdZ ?_;(try simp only[zaf,zad,zac]);refine y0 _ ?_;(try clear y0 Y0);refine zab fun Y0 y0=>?_;refine zav ?_;refine zaS (σ:=Nat×Int) (mB 58 35) (fun s=>s.1<F.up.length∧Rt F.up s.1 r) (fun s=>[(5,.v (.int .i64 (s.1:Int)))]) (fun s=>[(0,.cells 184 [.own 1 F.up.length,.own 2 F.rank.length,.v (.int .i64 F.sets),.v (.int .i64 s.2)])]) (fun s=>h s.1) (i,F.steps) (⟨hi,hr⟩) ?_ (fun s hs=>?_)
  ·
   simp only[zaA,zaB,zaq,zaz,mB,zc,zb,seval];exact zcm
  simp only[zaA,zaB,zaq,zaz,mB,zc,zb,seval];obtain ⟨u,hu⟩:∃u,F.up[s.1]?=some u:=⟨_,zd hs.1⟩;(have hs1:(s.1:Int)<(F.up.length:Int):=by have:=hs.1;omega);have hs2:=hs.1;refine zav ?_;refine zab fun Y1 y1=>?_;refine zaa ?_;(iterate 2 (refine z8 3 fun Q0 q0=>?_;simp only[↓bO,go_sem,seval,gM hu,nC,hs1,hs2];refine q0 _ ?_;clear q0 Q0;simp only[go_sem]));simp only[↓bO,go_sem,seval,gM hu,nC,hs1,hs2];refine y1 _ ?_;(try clear y1 Y1);refine zab fun Y1 y1=>?_;refine zaa ?_;(iterate 2 (refine z8 3 fun Q0 q0=>?_;simp only[↓bO,go_sem,seval,gM hu,nC,hs1,hs2];refine q0 _ ?_;clear q0 Q0;simp only[go_sem]));simp only[↓bO,go_sem,seval,gM hu,nC,hs1,hs2];refine y1 _ ?_;(try clear y1 Y1);refine zab fun Y1 y1=>?_;refine zaa ?_;simp only[↓bO,go_sem,seval,gM hu,nC,hs1,hs2];refine y1 _ ?_;(try clear y1 Y1);refine zav ?_;refine zab fun Y1 y1=>?_;refine zaa ?_;simp only[↓bO,go_sem,seval,gM hu,nC,hs1,hs2];refine y1 _ ?_;(try clear y1 Y1);refine zan rfl (fun hb24=>?_) (fun hb24=>?_)
  ·
   (have h9:u=s.1:=by have h8:=hb24;simp at h8;omega);have hroot:=hs.2.stop hu h9;refine zaV ?_;simp only[zaf,zad,zac,bA,Nat.reduceEqDiff,↓reduceIte];refine y0 _ ?_;(try clear y0 Y0);refine zab fun Y0 y0=>?_;refine zav ?_;obtain ⟨s1,hs1⟩:∃x:Nat×Int,x=s:=⟨_,rfl⟩;subst hs1;rw[hroot];refine zaS (σ:=Nat×List Nat×Int) (mB 58 35) (fun s=>s.1<F.up.length∧s.2.1.length=F.up.length∧UpOk s.2.1 h∧(∀k q,Rt s.2.1 k q↔Rt F.up k q)∧Rt F.up s.1 r) (fun s=>[(1,.v (.int .i64 (s.1:Int)))]) (fun s=>[(0,.cells 184 [.own 1 F.up.length,.own 2 F.rank.length,.v (.int .i64 F.sets),.v (.int .i64 s.2.2)]),(1,.row 3 1 (s.2.1.map nC))]) (fun s=>h s.1) (i,F.up,IntKind.i64.wrap (s1.2+1)) (⟨hi,rfl,hU,fun _ _=>Iff.rfl,hr⟩) ?_ (fun s hs=>?_)
   ·
    simp only[zaA,zaB,zaq,zaz,mB,zc,zb,seval];exact zcm
   simp only[zaA,zaB,zaq,zaz,mB,zc,zb,seval];obtain ⟨u,hu⟩:∃u,s.2.1[s.1]?=some u:=⟨_,zd (by rw[hs.2.1];exact hs.1)⟩;have hsl:=hs.2.1;(have hs3:(s.1:Int)<(F.up.length:Int):=by have:=hs.1;omega);have hs4:=hs.1;refine zab fun Y1 y1=>?_;refine zab fun Y2 y2=>?_;refine zaa ?_;(iterate 2 (refine z8 3 fun Q0 q0=>?_;simp only[↓bO,go_sem,seval,gM hu,nC,hs3,hs4,hsl,zbj,zn];refine q0 _ ?_;clear q0 Q0;simp only[go_sem]));simp only[↓bO,go_sem,seval,gM hu,nC,hs3,hs4,hsl,zbj,zn];refine y2 _ ?_;(try clear y2 Y2);refine zan rfl (fun hb35=>?_) (fun hb35=>?_)
   ·
    (have hne:u≠r:=by have h8:=hb35;simp at h8;omega);have hrt:Rt s.2.1 s.1 r:=(hs.2.2.2.1 _ _).2 hs.2.2.2.2;obtain ⟨hnr,hnu⟩:=hrt.far hu hne;have hdown:=hs.2.2.1.down _ _ hu hnu;obtain ⟨hc1,hc2⟩:=hs.2.2.1.short hrt hnr;have hur:Rt F.up u r:=(hs.2.2.2.1 _ _).1 (hrt.next hu hnu);have hnext:u<F.up.length∧(s.2.1.set s.1 r).length=F.up.length∧UpOk (s.2.1.set s.1 r) h∧(∀k q,Rt (s.2.1.set s.1 r) k q↔Rt F.up k q)∧Rt F.up u r:=⟨by rw[← hs.2.1];exact hs.2.2.1.lt _ _ hu,by rw[zn];exact hs.2.1,hc1,fun k q=>(hc2 k q).trans (hs.2.2.2.1 k q),hur⟩;refine zar ?_;(try simp only[zaf,zad,zac]);refine y1 _ ?_;(try clear y1 Y1);refine zav ?_;refine zab fun Y1 y1=>?_;refine zaa ?_;(iterate 2 (refine z8 3 fun Q0 q0=>?_;simp only[↓bO,go_sem,seval,gM hu,nC,hs3,hs4,hsl,zbj,zn];refine q0 _ ?_;clear q0 Q0;simp only[go_sem]));simp only[↓bO,go_sem,seval,gM hu,nC,hs3,hs4,hsl,zbj,zn];refine y1 _ ?_;(try clear y1 Y1);refine za8 14 mixed (by kernel_rfl) fun J0 j0=>?_;(iterate 4 (simp only[go_sem];refine zaD 3 fun Q0 q0=>?_;simp only[↓za1,↓dOp,↓bO,go_sem,seval,gM hu,nC,hs3,hs4,hsl,zbj,zn];refine q0 _ ?_;clear q0 Q0));simp only[go_sem];simp only[↓za1,↓dOp,↓bO,go_sem,seval,gM hu,nC,hs3,hs4,hsl,zbj,zn];refine j0 _ ?_;clear j0 J0;simp only[go_sem];simp only[↓bO,go_sem,seval,gM hu,nC,hs3,hs4,hsl,zbj,zn];refine ⟨(u,s.2.1.set s.1 r,IntKind.i64.wrap (s.2.2+1)),hnext,hdown,?_⟩;simp only[zaA,zaB,zaq,zaz,mB,zc,zb,seval,gM hu,nC,hs3,hs4,hsl,zbj,zn];exact zcm
   ·
    refine zaV ?_;simp only[zaf,zad,zac,bA,Nat.reduceEqDiff,↓reduceIte];refine y0 _ ?_;(try clear y0 Y0);refine zab fun Y0 y0=>?_;refine zaa ?_;simp only[↓bO,go_sem,seval];refine y0 _ ?_;(try clear y0 Y0);refine zam ?_;(try simp only[zaf,zad,zac,zaZ,zaW,zaC,bS,bA]);refine ⟨_,zai 0 (zcK (⟨s.2.1,F.rank,F.sets,s.2.2⟩)),⟨(⟨s.2.1,F.rank,F.sets,s.2.2⟩,r),?_,rfl,rfl⟩,.v _ _,fUnd (by omega) _,?_,?_,by omega⟩;· exact ⟨⟨⟨by rw[hfl];exact hs.2.1.symm,h,hs.2.2.1⟩,hs.2.1,rfl,hs.2.2.2.1⟩,hr⟩
    ·
     exact Le.refl _
    · first | (refine ⟨0,rfl,rfl⟩) | (refine ⟨0,by simp only[zcK,zai,zw,zk,Nat.reduceAdd,hs.2.1],rfl⟩)
  ·
   (have hne:u≠s.1:=by have h8:=hb24;simp at h8;omega);have hnext:=hs.2.next hu hne;refine zaa ?_;simp only[↓bO,go_sem,seval,gM hu,nC,hs1,hs2];refine ⟨(u,IntKind.i64.wrap (s.2+1)),⟨hU.lt _ _ hu,hnext⟩,hU.down _ _ hu hne,?_⟩;simp only[zaA,zaB,zaq,zaz,mB,zc,zb,seval,gM hu,nC,hs1,hs2];exact zcm
end Go.Proofs.YtpfiliamceimmaaGreatDoor
namespace Go.Proofs.YtpfiliamceimmaaGreatDoor
open Go Go.RowKit
attribute [local irreducible] aops za1
structure FJoin (F:FS) (a b:Nat) (s:FS×(Nat×Bool)):Prop where
  inv:FInv s.1
  len:s.1.up.length=F.up.length
  ex:∃ra rb,Rt F.up a ra∧Rt F.up b rb∧((ra=rb∧s.2=(ra,false)∧∀k q,Rt s.1.up k q↔Rt F.up k q) ∨
    (ra≠rb∧s.2.2=true∧(s.2.1=ra∨s.2.1=rb)∧∀k q,Rt s.1.up k q↔(q=s.2.1∧(Rt F.up k ra∨Rt F.up k rb))∨(q≠ra∧q≠rb∧Rt F.up k q)))
theorem FJoin.same {F G:FS} {a b r q:Nat} (S:FSame F G) (ha:Rt F.up a r) (hb:Rt F.up b q) (e:r=q):FJoin F a b (G,(r,false)) :=
  ⟨S.inv,S.len,r,q,ha,hb,.inl ⟨e,rfl,S.rt⟩⟩
theorem FJoin.two {F G:FS} {a b ra rb p q:Nat} (S:FSame F G) (ha:Rt F.up a ra) (hb:Rt F.up b rb) (hne:ra≠rb) (hpq:(p=ra∧q=rb)∨(p=rb∧q=ra)) (rank:List Int) (sets steps:Int) (hr:rank.length=F.up.length) :
    FJoin F a b (⟨G.up.set q p,rank,sets,steps⟩,(p,true)):=by
  obtain ⟨h,hU⟩:=S.inv.ok;have ha':=((S.rt _ _).2 ha).root;have hb':=((S.rt _ _).2 hb).root
  have hp:G.up[p]?=some p∧G.up[q]?=some q∧p≠q:=by
    (rcases hpq with ⟨rfl,rfl⟩ | ⟨rfl,rfl⟩);(· exact ⟨ha',hb',hne⟩);· exact ⟨hb',ha',fun e=>hne e.symm⟩
  obtain ⟨hl,hrt⟩:=hU.link hp.1 hp.2.1 hp.2.2;refine ⟨⟨by simp only[zn];rw[hr,S.len],hl⟩,by simp only[zn];exact S.len,ra,rb,ha,hb,.inr ⟨hne,rfl,?_,fun k u=>?_⟩⟩
  · rcases hpq with ⟨e,_⟩ | ⟨e,_⟩
    (· exact .inl e);· exact .inr e
  · refine (hrt k u).trans ?_
    simp only[S.rt];(rcases hpq with ⟨rfl,rfl⟩ | ⟨rfl,rfl⟩);· exact Iff.rfl
    · constructor
      · rintro (⟨h1,h2⟩ | ⟨h1,h2,h3⟩)
        (· exact .inl ⟨h1,h2.symm⟩);· exact .inr ⟨h2,h1,h3⟩
      · rintro (⟨h1,h2⟩ | ⟨h1,h2,h3⟩)
        (· exact .inl ⟨h1,h2.symm⟩);· exact .inr ⟨h2,h1,h3⟩
theorem FInv.push {F:FS} (h:FInv F) (sets steps:Int):FInv ⟨F.up++[F.up.length],F.rank++[0],sets,steps⟩:=by
  obtain ⟨h1,h,h2⟩:=h;exact ⟨by simp[h1],h,h2.push⟩
theorem Root_f (F:FS) (hF:FInv F) (i:Nat) (hi:i<F.up.length):FCalls (σ:=Nat) 129 [.ptr 0 0,.v (.int .i64 (i:Int))] (F) (fun s=>FSame F s.1∧Rt F.up i s.2) (fun s=>.tup [.v (.int .i64 (s:Int)),.v (.bool true)]):=by
  refine ACalls.clean (C:=fun r os=>∃s:FS×Nat,(FSame F s.1∧Rt F.up i s.2)∧r=(fun s:Nat=>.tup [.v (.int .i64 (s:Int)),.v (.bool true)]) s.2∧os=zai 0 (zcK s.1)) ?_;refine zah Tryz.func129 (by kernel_rfl) rfl (by rw[Tryz.ntmps129];simp) (fun hm=>?_);simp only[Tryz.ntmps129,Tryz.results129,zi,zm,Nat.reduceAdd,Nat.reduceSub,zt,zq,zh,zj];simp only[zcK,zai,Nat.reduceAdd];refine zab fun Y0 y0=>?_;refine zaa ?_;simp only[↓bO,go_sem,seval];refine y0 _ ?_;(try clear y0 Y0);refine zab fun Y0 y0=>?_;refine zab fun Y1 y1=>?_;refine zaa ?_;refine z8 2 fun Q0 q0=>?_;simp only[↓bO,go_sem,seval];refine q0 _ ?_;clear q0 Q0;simp only[go_sem];refine z8 1 fun Q0 q0=>?_;simp only[↓bO,go_sem,seval];refine FCalls.at (zfy F (i:Int)) (.cons (.v _) .nil) (fun _=>.v _) (i:=0) (j:=1) (k:=2) rfl rfl rfl (by decide) (by decide) (by decide) (by first | omega | (simp only;omega)) (by first | omega | (simp only;omega)) (by first | omega | (simp only;omega)) (fun G0 u0 hG0=>?_);(try dsimp only at hG0);simp only[zaz,Nat.reduceEqDiff,↓reduceIte];obtain rfl:F=G0:=hG0.symm;(try simp only[bS,bA,zaf,zad,zac]);refine q0 _ ?_;clear q0 Q0;simp only[go_sem];simp only[↓bO,go_sem,seval];refine y1 _ ?_;(try clear y1 Y1);refine zan rfl (fun hb9=>?_) (fun hb9=>?_)
  ·
   exact absurd hb9 (by simp;omega)
  ·
   refine zar ?_;(try simp only[zaf,zad,zac]);refine y0 _ ?_;(try clear y0 Y0);refine zab fun Y0 y0=>?_;refine zaa ?_;refine z8 2 fun Q0 q0=>?_;simp only[↓bO,go_sem,seval];refine q0 _ ?_;clear q0 Q0;simp only[go_sem];refine z8 1 fun Q0 q0=>?_;simp only[↓bO,go_sem,seval];refine FCalls.at (zg2 F hF i hi) (.cons (.v _) .nil) (fun _=>.v _) (i:=0) (j:=1) (k:=2) rfl rfl rfl (by decide) (by decide) (by decide) (by first | omega | (simp only;omega)) (by first | omega | (simp only;omega)) (by first | omega | (simp only;omega)) (fun G r hG=>?_);(try dsimp only at hG);simp only[zaz,Nat.reduceEqDiff,↓reduceIte];(try simp only[bS,bA,zaf,zad,zac]);refine q0 _ ?_;clear q0 Q0;simp only[go_sem];simp only[↓bO,go_sem,seval];refine y0 _ ?_;(try clear y0 Y0);refine zam ?_;(try simp only[zaf,zad,zac,zaZ,zaW,zaC,bS,bA]);refine ⟨_,zai 0 (zcK (G)),⟨(G,r),?_,rfl,rfl⟩,.tup ⟨.v _ _,.v _ _,trivial⟩,fUnd (by omega) _,?_,?_,by omega⟩;· exact hG
   ·
    exact Le.refl _
   · first | (refine ⟨0,rfl,rfl⟩) | (refine ⟨0,by simp only[zcK,zai,zw,zk,Nat.reduceAdd],rfl⟩)
theorem Join_f (F:FS) (hF:FInv F) (a b:Nat) (ha:a<F.up.length) (hb:b<F.up.length):FCalls (σ:=Nat×Bool) 145 [.ptr 0 0,.v (.int .i64 (a:Int)),.v (.int .i64 (b:Int))] (F) (fun s=>FJoin F a b s) (fun s=>.tup [.v (.int .i64 (s.1:Int)),.v (.bool s.2)]):=by
  refine ACalls.clean (C:=fun r os=>∃s:FS×Nat×Bool,(FJoin F a b s)∧r=(fun s:Nat×Bool=>.tup [.v (.int .i64 (s.1:Int)),.v (.bool s.2)]) s.2∧os=zai 0 (zcK s.1)) ?_;refine zah Tryz.func145 (by kernel_rfl) rfl (by rw[Tryz.ntmps145];simp) (fun hm=>?_);simp only[Tryz.ntmps145,Tryz.results145,zi,zm,Nat.reduceAdd,Nat.reduceSub,zt,zq,zh,zj];simp only[zcK,zai,Nat.reduceAdd];refine zab fun Y0 y0=>?_;refine zaa ?_;simp only[↓bO,go_sem,seval];refine y0 _ ?_;(try clear y0 Y0);refine zab fun Y0 y0=>?_;refine zab fun Y1 y1=>?_;refine zaa ?_;refine z8 2 fun Q0 q0=>?_;simp only[↓bO,go_sem,seval];refine q0 _ ?_;clear q0 Q0;simp only[go_sem];refine z8 1 fun Q0 q0=>?_;simp only[↓bO,go_sem,seval];refine FCalls.at (zfy F (a:Int)) (.cons (.v _) .nil) (fun _=>.v _) (i:=0) (j:=1) (k:=2) rfl rfl rfl (by decide) (by decide) (by decide) (by first | omega | (simp only;omega)) (by first | omega | (simp only;omega)) (by first | omega | (simp only;omega)) (fun G0 u0 hG0=>?_);(try dsimp only at hG0);simp only[zaz,Nat.reduceEqDiff,↓reduceIte];obtain rfl:F=G0:=hG0.symm;(try simp only[bS,bA,zaf,zad,zac]);refine q0 _ ?_;clear q0 Q0;simp only[go_sem];refine z8 2 fun Q0 q0=>?_;simp only[↓bO,go_sem,seval];refine q0 _ ?_;clear q0 Q0;simp only[go_sem];refine zaN 12 rfl (fun hc12=>?_) (fun hc12=>?_)
  ·
   simp only[zc,zb];exact absurd hc12 (by simp;omega)
  ·
   simp only[zc,zb];refine z8 2 fun Q0 q0=>?_;simp only[↓bO,go_sem,seval];refine q0 _ ?_;clear q0 Q0;simp only[go_sem];refine z8 1 fun Q0 q0=>?_;simp only[↓bO,go_sem,seval];refine FCalls.at (zfy F (b:Int)) (.cons (.v _) .nil) (fun _=>.v _) (i:=0) (j:=1) (k:=2) rfl rfl rfl (by decide) (by decide) (by decide) (by first | omega | (simp only;omega)) (by first | omega | (simp only;omega)) (by first | omega | (simp only;omega)) (fun G0 u0 hG0=>?_);(try dsimp only at hG0);simp only[zaz,Nat.reduceEqDiff,↓reduceIte];obtain rfl:F=G0:=hG0.symm;(try simp only[bS,bA,zaf,zad,zac]);refine q0 _ ?_;clear q0 Q0;simp only[go_sem];simp only[↓bO,go_sem,seval];refine y1 _ ?_;(try clear y1 Y1);refine zan rfl (fun hb17=>?_) (fun hb17=>?_)
   ·
    exact absurd hb17 (by simp;omega)
   ·
    refine zar ?_;(try simp only[zaf,zad,zac]);refine y0 _ ?_;(try clear y0 Y0);refine zab fun Y0 y0=>?_;refine zaa ?_;refine z8 2 fun Q0 q0=>?_;simp only[↓bO,go_sem,seval];refine q0 _ ?_;clear q0 Q0;simp only[go_sem];refine z8 1 fun Q0 q0=>?_;simp only[↓bO,go_sem,seval];refine FCalls.at (zg2 F hF a ha) (.cons (.v _) .nil) (fun _=>.v _) (i:=0) (j:=1) (k:=2) rfl rfl rfl (by decide) (by decide) (by decide) (by first | omega | (simp only;omega)) (by first | omega | (simp only;omega)) (by first | omega | (simp only;omega)) (fun G1 r1 hG1=>?_);(try dsimp only at hG1);simp only[zaz,Nat.reduceEqDiff,↓reduceIte];(try simp only[bS,bA,zaf,zad,zac]);refine q0 _ ?_;clear q0 Q0;simp only[go_sem];refine z8 2 fun Q0 q0=>?_;simp only[↓bO,go_sem,seval];refine q0 _ ?_;clear q0 Q0;simp only[go_sem];refine z8 1 fun Q0 q0=>?_;simp only[↓bO,go_sem,seval];refine FCalls.at (zg2 G1 hG1.1.inv b (by rw[hG1.1.len];exact hb)) (.cons (.v _) .nil) (fun _=>.v _) (i:=0) (j:=1) (k:=2) rfl rfl rfl (by decide) (by decide) (by decide) (by first | omega | (simp only;omega)) (by first | omega | (simp only;omega)) (by first | omega | (simp only;omega)) (fun G2 r2 hG2=>?_);(try dsimp only at hG2);simp only[zaz,Nat.reduceEqDiff,↓reduceIte];(try simp only[bS,bA,zaf,zad,zac]);refine q0 _ ?_;clear q0 Q0;simp only[go_sem];simp only[↓bO,go_sem,seval];refine y0 _ ?_;(try clear y0 Y0);refine zab fun Y0 y0=>?_;have S:=hG1.1.trans hG2.1;have hb2:Rt F.up b r2:=(hG1.1.rt _ _).1 hG2.2;have hl2:=S.inv.len;have hl3:=S.len;(have hr1:r1<G2.up.length:=by rw[S.len];exact hG1.2.lt);(have hr2:r2<G2.up.length:=by rw[S.len];exact hb2.lt);obtain ⟨ka,hka⟩:∃k,G2.rank[r1]?=some k:=⟨_,zd (by omega)⟩;obtain ⟨kb,hkb⟩:∃k,G2.rank[r2]?=some k:=⟨_,zd (by omega)⟩;have hu1:G2.up[r1]?=some r1:=((S.rt _ _).2 hG1.2).root;have hu2:G2.up[r2]?=some r2:=((S.rt _ _).2 hb2).root;(have hi1:(r1:Int)<(G2.rank.length:Int):=by omega);(have hi2:(r2:Int)<(G2.rank.length:Int):=by omega);(have hi3:r1<G2.rank.length:=by omega);(have hi4:r2<G2.rank.length:=by omega);(have hi5:(r1:Int)<(G2.up.length:Int):=by omega);(have hi6:(r2:Int)<(G2.up.length:Int):=by omega);refine zab fun Y1 y1=>?_;refine zaa ?_;refine z8 2 fun Q0 q0=>?_;simp only[↓bO,go_sem,seval];refine q0 _ ?_;clear q0 Q0;simp only[go_sem];simp only[↓bO,go_sem,seval];refine y1 _ ?_;(try clear y1 Y1);refine zan rfl (fun hb26=>?_) (fun hb26=>?_)
    ·
     (have heq:r1=r2:=by have h8:=hb26;simp at h8;omega);refine zab fun Y1 y1=>?_;refine zaa ?_;refine z8 2 fun Q0 q0=>?_;simp only[↓bO,go_sem,seval];refine q0 _ ?_;clear q0 Q0;simp only[go_sem];simp only[↓bO,go_sem,seval];refine y1 _ ?_;(try clear y1 Y1);refine zam ?_;(try simp only[zaf,zad,zac,zaZ,zaW,zaC,bS,bA]);refine ⟨_,zai 0 (zcK (G2)),⟨(G2,(r1,false)),?_,rfl,rfl⟩,.tup ⟨.v _ _,.v _ _,trivial⟩,fUnd (by omega) _,?_,?_,by omega⟩;· exact FJoin.same S hG1.2 hb2 heq
     ·
      exact Le.refl _
     · first | (refine ⟨0,rfl,rfl⟩) | (refine ⟨0,by simp only[zcK,zai,zw,zk,Nat.reduceAdd],rfl⟩)
    ·
     (have hne:r1≠r2:=by have h8:=hb26;simp at h8;omega);refine zar ?_;(try simp only[zaf,zad,zac]);refine y0 _ ?_;(try clear y0 Y0);refine zab fun Y0 y0=>?_;refine zab fun Y1 y1=>?_;refine za8 15 mixed (by kernel_rfl) fun J0 j0=>?_;(iterate 7 (simp only[go_sem];refine zaD 2 fun Q0 q0=>?_;simp only[↓za1,↓dOp,↓bO,go_sem,seval,gM hka,gM hu1,gM hu2,nC,gM hkb,hi1,hi2,hi3,hi4,hi5,hi6,hr1,hr2,intC,zbj,zaQ,zn];refine q0 _ ?_;clear q0 Q0));simp only[go_sem];simp only[↓za1,↓dOp,↓bO,go_sem,seval,gM hka,gM hu1,gM hu2,nC,gM hkb,hi1,hi2,hi3,hi4,hi5,hi6,hr1,hr2,intC,zbj,zaQ,zn];refine j0 _ ?_;clear j0 J0;simp only[bL,aops,zaf,zad,zac];refine y1 _ ?_;(try clear y1 Y1);refine zan rfl (fun hb42=>?_) (fun hb42=>?_)
     ·
      refine zaa ?_;refine z8 2 fun Q0 q0=>?_;simp only[↓bO,go_sem,seval,gM hka,gM hu1,gM hu2,nC,gM hkb,hi1,hi2,hi3,hi4,hi5,hi6,hr1,hr2,intC,zbj,zaQ,zn];refine q0 _ ?_;clear q0 Q0;simp only[go_sem];simp only[↓bO,go_sem,seval,gM hka,gM hu1,gM hu2,nC,gM hkb,hi1,hi2,hi3,hi4,hi5,hi6,hr1,hr2,intC,zbj,zaQ,zn];refine y0 _ ?_;(try clear y0 Y0);refine zab fun Y0 y0=>?_;refine zab fun Y1 y1=>?_;refine za8 15 mixed (by kernel_rfl) fun J0 j0=>?_;(iterate 7 (simp only[go_sem];refine zaD 2 fun Q0 q0=>?_;simp only[↓za1,↓dOp,↓bO,go_sem,seval,gM hka,gM hu1,gM hu2,nC,gM hkb,hi1,hi2,hi3,hi4,hi5,hi6,hr1,hr2,intC,zbj,zaQ,zn];refine q0 _ ?_;clear q0 Q0));simp only[go_sem];simp only[↓za1,↓dOp,↓bO,go_sem,seval,gM hka,gM hu1,gM hu2,nC,gM hkb,hi1,hi2,hi3,hi4,hi5,hi6,hr1,hr2,intC,zbj,zaQ,zn];refine j0 _ ?_;clear j0 J0;simp only[bL,aops,zaf,zad,zac];refine y1 _ ?_;(try clear y1 Y1);refine zan rfl (fun hb59=>?_) (fun hb59=>?_)
      ·
       refine zaa ?_;(iterate 4 (refine z8 2 fun Q0 q0=>?_;simp only[↓bO,go_sem,seval,gM hka,gM hu1,gM hu2,nC,gM hkb,hi1,hi2,hi3,hi4,hi5,hi6,hr1,hr2,intC,zbj,zaQ,zn];refine q0 _ ?_;clear q0 Q0;simp only[go_sem]));simp only[↓bO,go_sem,seval,gM hka,gM hu1,gM hu2,nC,gM hkb,hi1,hi2,hi3,hi4,hi5,hi6,hr1,hr2,intC,zbj,zaQ,zn];refine y0 _ ?_;(try clear y0 Y0);refine zab fun Y0 y0=>?_;refine zaa ?_;(iterate 3 (refine z8 2 fun Q0 q0=>?_;simp only[↓bO,go_sem,seval,gM hka,gM hu1,gM hu2,nC,gM hkb,hi1,hi2,hi3,hi4,hi5,hi6,hr1,hr2,intC,zbj,zaQ,zn];refine q0 _ ?_;clear q0 Q0;simp only[go_sem]));simp only[↓bO,go_sem,seval,gM hka,gM hu1,gM hu2,nC,gM hkb,hi1,hi2,hi3,hi4,hi5,hi6,hr1,hr2,intC,zbj,zaQ,zn];refine y0 _ ?_;(try clear y0 Y0);refine zab fun Y0 y0=>?_;refine zaa ?_;(iterate 3 (refine z8 2 fun Q0 q0=>?_;simp only[↓bO,go_sem,seval,gM hka,gM hu1,gM hu2,nC,gM hkb,hi1,hi2,hi3,hi4,hi5,hi6,hr1,hr2,intC,zbj,zaQ,zn];refine q0 _ ?_;clear q0 Q0;simp only[go_sem]));simp only[↓bO,go_sem,seval,gM hka,gM hu1,gM hu2,nC,gM hkb,hi1,hi2,hi3,hi4,hi5,hi6,hr1,hr2,intC,zbj,zaQ,zn];refine y0 _ ?_;(try clear y0 Y0);refine zab fun Y0 y0=>?_;refine zaa ?_;refine z8 2 fun Q0 q0=>?_;simp only[↓bO,go_sem,seval,gM hka,gM hu1,gM hu2,nC,gM hkb,hi1,hi2,hi3,hi4,hi5,hi6,hr1,hr2,intC,zbj,zaQ,zn];refine q0 _ ?_;clear q0 Q0;simp only[go_sem];simp only[↓bO,go_sem,seval,gM hka,gM hu1,gM hu2,nC,gM hkb,hi1,hi2,hi3,hi4,hi5,hi6,hr1,hr2,intC,zbj,zaQ,zn];refine y0 _ ?_;(try clear y0 Y0);refine zam ?_;(try simp only[zaf,zad,zac,zaZ,zaW,zaC,bS,bA]);refine ⟨_,zai 0 (zcK (⟨G2.up.set r1 r2,(G2.rank.set r2 (IntKind.i64.wrap (kb+1))),IntKind.i64.wrap (G2.sets-1),G2.steps⟩)),⟨(⟨G2.up.set r1 r2,(G2.rank.set r2 (IntKind.i64.wrap (kb+1))),IntKind.i64.wrap (G2.sets-1),G2.steps⟩,(r2,true)),?_,rfl,rfl⟩,.tup ⟨.v _ _,.v _ _,trivial⟩,fUnd (by omega) _,?_,?_,by omega⟩;· exact FJoin.two S hG1.2 hb2 hne (.inr ⟨rfl,rfl⟩) _ _ _ (by first | (simp only[zn];omega) | omega)
       ·
        exact Le.refl _
       · first | (refine ⟨0,rfl,rfl⟩) | (refine ⟨0,by simp only[zcK,zai,zw,zk,Nat.reduceAdd,zn],rfl⟩)
      ·
       refine zar ?_;(try simp only[zaf,zad,zac]);refine y0 _ ?_;(try clear y0 Y0);refine zab fun Y0 y0=>?_;refine zaa ?_;(iterate 3 (refine z8 2 fun Q0 q0=>?_;simp only[↓bO,go_sem,seval,gM hka,gM hu1,gM hu2,nC,gM hkb,hi1,hi2,hi3,hi4,hi5,hi6,hr1,hr2,intC,zbj,zaQ,zn];refine q0 _ ?_;clear q0 Q0;simp only[go_sem]));simp only[↓bO,go_sem,seval,gM hka,gM hu1,gM hu2,nC,gM hkb,hi1,hi2,hi3,hi4,hi5,hi6,hr1,hr2,intC,zbj,zaQ,zn];refine y0 _ ?_;(try clear y0 Y0);refine zab fun Y0 y0=>?_;refine zaa ?_;(iterate 3 (refine z8 2 fun Q0 q0=>?_;simp only[↓bO,go_sem,seval,gM hka,gM hu1,gM hu2,nC,gM hkb,hi1,hi2,hi3,hi4,hi5,hi6,hr1,hr2,intC,zbj,zaQ,zn];refine q0 _ ?_;clear q0 Q0;simp only[go_sem]));simp only[↓bO,go_sem,seval,gM hka,gM hu1,gM hu2,nC,gM hkb,hi1,hi2,hi3,hi4,hi5,hi6,hr1,hr2,intC,zbj,zaQ,zn];refine y0 _ ?_;(try clear y0 Y0);refine zab fun Y0 y0=>?_;refine zaa ?_;refine z8 2 fun Q0 q0=>?_;simp only[↓bO,go_sem,seval,gM hka,gM hu1,gM hu2,nC,gM hkb,hi1,hi2,hi3,hi4,hi5,hi6,hr1,hr2,intC,zbj,zaQ,zn];refine q0 _ ?_;clear q0 Q0;simp only[go_sem];simp only[↓bO,go_sem,seval,gM hka,gM hu1,gM hu2,nC,gM hkb,hi1,hi2,hi3,hi4,hi5,hi6,hr1,hr2,intC,zbj,zaQ,zn];refine y0 _ ?_;(try clear y0 Y0);refine zam ?_;(try simp only[zaf,zad,zac,zaZ,zaW,zaC,bS,bA]);refine ⟨_,zai 0 (zcK (⟨G2.up.set r1 r2,G2.rank,IntKind.i64.wrap (G2.sets-1),G2.steps⟩)),⟨(⟨G2.up.set r1 r2,G2.rank,IntKind.i64.wrap (G2.sets-1),G2.steps⟩,(r2,true)),?_,rfl,rfl⟩,.tup ⟨.v _ _,.v _ _,trivial⟩,fUnd (by omega) _,?_,?_,by omega⟩;· exact FJoin.two S hG1.2 hb2 hne (.inr ⟨rfl,rfl⟩) _ _ _ (by first | (simp only[zn];omega) | omega)
       ·
        exact Le.refl _
       · first | (refine ⟨0,rfl,rfl⟩) | (refine ⟨0,by simp only[zcK,zai,zw,zk,Nat.reduceAdd,zn],rfl⟩)
     ·
      refine zar ?_;(try simp only[zaf,zad,zac]);refine y0 _ ?_;(try clear y0 Y0);refine zab fun Y0 y0=>?_;refine zab fun Y1 y1=>?_;refine za8 15 mixed (by kernel_rfl) fun J0 j0=>?_;(iterate 7 (simp only[go_sem];refine zaD 2 fun Q0 q0=>?_;simp only[↓za1,↓dOp,↓bO,go_sem,seval,gM hka,gM hu1,gM hu2,nC,gM hkb,hi1,hi2,hi3,hi4,hi5,hi6,hr1,hr2,intC,zbj,zaQ,zn];refine q0 _ ?_;clear q0 Q0));simp only[go_sem];simp only[↓za1,↓dOp,↓bO,go_sem,seval,gM hka,gM hu1,gM hu2,nC,gM hkb,hi1,hi2,hi3,hi4,hi5,hi6,hr1,hr2,intC,zbj,zaQ,zn];refine j0 _ ?_;clear j0 J0;simp only[bL,aops,zaf,zad,zac];refine y1 _ ?_;(try clear y1 Y1);refine zan rfl (fun hb59=>?_) (fun hb59=>?_)
      ·
       refine zaa ?_;(iterate 4 (refine z8 2 fun Q0 q0=>?_;simp only[↓bO,go_sem,seval,gM hka,gM hu1,gM hu2,nC,gM hkb,hi1,hi2,hi3,hi4,hi5,hi6,hr1,hr2,intC,zbj,zaQ,zn];refine q0 _ ?_;clear q0 Q0;simp only[go_sem]));simp only[↓bO,go_sem,seval,gM hka,gM hu1,gM hu2,nC,gM hkb,hi1,hi2,hi3,hi4,hi5,hi6,hr1,hr2,intC,zbj,zaQ,zn];refine y0 _ ?_;(try clear y0 Y0);refine zab fun Y0 y0=>?_;refine zaa ?_;(iterate 3 (refine z8 2 fun Q0 q0=>?_;simp only[↓bO,go_sem,seval,gM hka,gM hu1,gM hu2,nC,gM hkb,hi1,hi2,hi3,hi4,hi5,hi6,hr1,hr2,intC,zbj,zaQ,zn];refine q0 _ ?_;clear q0 Q0;simp only[go_sem]));simp only[↓bO,go_sem,seval,gM hka,gM hu1,gM hu2,nC,gM hkb,hi1,hi2,hi3,hi4,hi5,hi6,hr1,hr2,intC,zbj,zaQ,zn];refine y0 _ ?_;(try clear y0 Y0);refine zab fun Y0 y0=>?_;refine zaa ?_;(iterate 3 (refine z8 2 fun Q0 q0=>?_;simp only[↓bO,go_sem,seval,gM hka,gM hu1,gM hu2,nC,gM hkb,hi1,hi2,hi3,hi4,hi5,hi6,hr1,hr2,intC,zbj,zaQ,zn];refine q0 _ ?_;clear q0 Q0;simp only[go_sem]));simp only[↓bO,go_sem,seval,gM hka,gM hu1,gM hu2,nC,gM hkb,hi1,hi2,hi3,hi4,hi5,hi6,hr1,hr2,intC,zbj,zaQ,zn];refine y0 _ ?_;(try clear y0 Y0);refine zab fun Y0 y0=>?_;refine zaa ?_;refine z8 2 fun Q0 q0=>?_;simp only[↓bO,go_sem,seval,gM hka,gM hu1,gM hu2,nC,gM hkb,hi1,hi2,hi3,hi4,hi5,hi6,hr1,hr2,intC,zbj,zaQ,zn];refine q0 _ ?_;clear q0 Q0;simp only[go_sem];simp only[↓bO,go_sem,seval,gM hka,gM hu1,gM hu2,nC,gM hkb,hi1,hi2,hi3,hi4,hi5,hi6,hr1,hr2,intC,zbj,zaQ,zn];refine y0 _ ?_;(try clear y0 Y0);refine zam ?_;(try simp only[zaf,zad,zac,zaZ,zaW,zaC,bS,bA]);refine ⟨_,zai 0 (zcK (⟨G2.up.set r2 r1,(G2.rank.set r1 (IntKind.i64.wrap (ka+1))),IntKind.i64.wrap (G2.sets-1),G2.steps⟩)),⟨(⟨G2.up.set r2 r1,(G2.rank.set r1 (IntKind.i64.wrap (ka+1))),IntKind.i64.wrap (G2.sets-1),G2.steps⟩,(r1,true)),?_,rfl,rfl⟩,.tup ⟨.v _ _,.v _ _,trivial⟩,fUnd (by omega) _,?_,?_,by omega⟩;· exact FJoin.two S hG1.2 hb2 hne (.inl ⟨rfl,rfl⟩) _ _ _ (by first | (simp only[zn];omega) | omega)
       ·
        exact Le.refl _
       · first | (refine ⟨0,rfl,rfl⟩) | (refine ⟨0,by simp only[zcK,zai,zw,zk,Nat.reduceAdd,zn],rfl⟩)
      ·
       refine zar ?_;(try simp only[zaf,zad,zac]);refine y0 _ ?_;(try clear y0 Y0);refine zab fun Y0 y0=>?_;refine zaa ?_;(iterate 3 (refine z8 2 fun Q0 q0=>?_;simp only[↓bO,go_sem,seval,gM hka,gM hu1,gM hu2,nC,gM hkb,hi1,hi2,hi3,hi4,hi5,hi6,hr1,hr2,intC,zbj,zaQ,zn];refine q0 _ ?_;clear q0 Q0;simp only[go_sem]));simp only[↓bO,go_sem,seval,gM hka,gM hu1,gM hu2,nC,gM hkb,hi1,hi2,hi3,hi4,hi5,hi6,hr1,hr2,intC,zbj,zaQ,zn];refine y0 _ ?_;(try clear y0 Y0);refine zab fun Y0 y0=>?_;refine zaa ?_;(iterate 3 (refine z8 2 fun Q0 q0=>?_;simp only[↓bO,go_sem,seval,gM hka,gM hu1,gM hu2,nC,gM hkb,hi1,hi2,hi3,hi4,hi5,hi6,hr1,hr2,intC,zbj,zaQ,zn];refine q0 _ ?_;clear q0 Q0;simp only[go_sem]));simp only[↓bO,go_sem,seval,gM hka,gM hu1,gM hu2,nC,gM hkb,hi1,hi2,hi3,hi4,hi5,hi6,hr1,hr2,intC,zbj,zaQ,zn];refine y0 _ ?_;(try clear y0 Y0);refine zab fun Y0 y0=>?_;refine zaa ?_;refine z8 2 fun Q0 q0=>?_;simp only[↓bO,go_sem,seval,gM hka,gM hu1,gM hu2,nC,gM hkb,hi1,hi2,hi3,hi4,hi5,hi6,hr1,hr2,intC,zbj,zaQ,zn];refine q0 _ ?_;clear q0 Q0;simp only[go_sem];simp only[↓bO,go_sem,seval,gM hka,gM hu1,gM hu2,nC,gM hkb,hi1,hi2,hi3,hi4,hi5,hi6,hr1,hr2,intC,zbj,zaQ,zn];refine y0 _ ?_;(try clear y0 Y0);refine zam ?_;(try simp only[zaf,zad,zac,zaZ,zaW,zaC,bS,bA]);refine ⟨_,zai 0 (zcK (⟨G2.up.set r2 r1,G2.rank,IntKind.i64.wrap (G2.sets-1),G2.steps⟩)),⟨(⟨G2.up.set r2 r1,G2.rank,IntKind.i64.wrap (G2.sets-1),G2.steps⟩,(r1,true)),?_,rfl,rfl⟩,.tup ⟨.v _ _,.v _ _,trivial⟩,fUnd (by omega) _,?_,?_,by omega⟩;· exact FJoin.two S hG1.2 hb2 hne (.inl ⟨rfl,rfl⟩) _ _ _ (by first | (simp only[zn];omega) | omega)
       ·
        exact Le.refl _
       · first | (refine ⟨0,rfl,rfl⟩) | (refine ⟨0,by simp only[zcK,zai,zw,zk,Nat.reduceAdd,zn],rfl⟩)
end Go.Proofs.YtpfiliamceimmaaGreatDoor
namespace Go.Proofs.YtpfiliamceimmaaGreatDoor
open Go Go.RowKit
attribute [local irreducible] aops za1
theorem Ty.roomL_cnt:∀(ps:List Ty) (n:Int) (d:Nat),(∀p∈ps,∀(n:Int) (d:Nat),0≤n→0≤p.room n d→p.room n d=n-p.cnt)→0≤Ty.roomL ps n d→Ty.roomL ps n d=n-Ty.cntL ps
  | [],n,d,_,_=>by simp[Ty.roomL,Ty.cntL]
  | p::ps,n,d,hp,h=>by
    simp only[Ty.roomL] at h ⊢
    by_cases hn:n<0
    · rw[if_pos hn] at h;omega
    · rw[if_neg hn] at h ⊢
      have h2:0≤p.room n d:=by
        (rcases Int.lt_or_le (p.room n d) 0 with h3 | h3);(· rw[Ty.roomL_neg ps h3] at h;omega);· exact h3
      have h3:=hp p (by simp) n d (by omega) h2;have h4:=Ty.roomL_cnt ps (p.room n d) d (fun q hq=>hp q (by simp[hq])) h;simp only[Ty.cntL];omega
theorem Ty.room_cnt:∀(t:Ty) (n:Int) (d:Nat),0≤n→0≤t.room n d→t.room n d=n-t.cnt:=by
  refine Ty.ind fun t ih=>?_;intro n d hn h
  cases d with
  | zero=>rw[Ty.room_zero] at h;omega
  | succ d =>
    rw[Ty.room_succ] at h ⊢;have:=Ty.roomL_cnt t.ps (n-1) d ih h;rw[Ty.cnt_eq];omega
theorem Ty.sizeWL_cnt:∀(ps:List Ty) (a:Int),0≤a→a+Ty.cntL ps≤1099511627776→(∀p∈ps,p.cnt≤1099511627776→p.sizeW=p.cnt)→Ty.sizeWL a ps=a+Ty.cntL ps
  | [],a,_,_,_=>by simp[Ty.sizeWL,Ty.cntL]
  | p::ps,a,ha,hb,hp=>by
    simp only[Ty.sizeWL,Ty.cntL] at hb ⊢;rw[hp p (by simp) (by omega),addW,zaT (by omega) (by omega),Ty.sizeWL_cnt ps _ (by omega) (by omega) (fun q hq=>hp q (by simp[hq]))];omega
theorem Ty.sizeW_cnt:∀t:Ty,t.cnt≤1099511627776→t.sizeW=t.cnt:=by
  refine Ty.ind fun t ih=>?_;intro h;have h1:=t.cnt_eq;rw[Ty.sizeW_eq,Ty.sizeWL_cnt t.ps 1 (by omega) (by omega) ih,h1];omega
def Ty.great (t:Ty):Bool:=decide (t.room 300 40<0)
theorem Ty.great_cnt {t:Ty} (h:t.great=false):t.cnt≤300:=by
  simp only[Ty.great,zQ] at h;have:=Ty.room_cnt t 300 40 (by omega) (by omega);omega
theorem ziz (T:Ty):APure Tryz.prog 29 [.agg T.cells] (.v (.bool T.great)):=by
  refine APure.mkL (.cons T.dataAgg .nil) (.v _) ?_;refine zah Tryz.func29 (by kernel_rfl) rfl (by rw[Tryz.ntmps29];simp) (fun hm=>?_);simp only[Tryz.ntmps29,Tryz.results29,zi,zm,Nat.reduceAdd,Nat.reduceSub,zt,zq,zh,zj];simp only[Ty.cells_eq T,zh,zj];refine zab fun Y0 y0=>?_;refine zaa ?_;simp only[↓bO,go_sem,seval];refine y0 _ ?_;(try clear y0 Y0);refine zab fun Y0 y0=>?_;refine zaa ?_;refine z8 1 fun Q0 q0=>?_;simp only[↓bO,go_sem,seval];refine q0 _ ?_;clear q0 Q0;simp only[go_sem];refine z8 1 fun Q0 q0=>?_;simp only[↓bO,go_sem,seval];refine APure.call (by have h9:=room_pure T 300 40 (by omega) (by omega) (by omega);rw[Ty.cells_eq T] at h9;exact h9) ?_;(try simp only[bS,bA,zaf,zad,zac]);refine q0 _ ?_;clear q0 Q0;simp only[go_sem];simp only[↓bO,go_sem,seval];refine y0 _ ?_;(try clear y0 Y0);refine zam ?_;(try simp only[zaf,zad,zac,zaZ,zaW,zaC,bS,bA]);exact Le.of_eq (congrArg (fun b=>AV.v (.bool b)) rfl)
end Go.Proofs.YtpfiliamceimmaaGreatDoor
namespace Go.Proofs.YtpfiliamceimmaaGreatDoor
open Go Go.RowKit
attribute [local irreducible] aops za1
structure GNode where
  k:Int
  n:Int
  size:Int
  parts:List Int
def GNode.cells (x:GNode):List AV:=[.v (.int .i64 x.k),.v (.int .i64 x.n),.v (.int .i64 x.size),.sl 1 (x.parts.map intC)]
theorem GNode.data (x:GNode):DataL x.cells:=.cons (.v _) (.cons (.v _) (.cons (.v _) (.cons (za6 _) .nil)))
theorem GNode.dataRows (N:List GNode):∀x∈N.map GNode.cells,DataL x:=fun x hx=>by
  obtain ⟨y,_,rfl⟩:=zC.1 hx;exact y.data
def vC (p:Int×Int):Int×AV:=(p.1,.v (.int .i64 p.2))
theorem zbb (V:List (Int×Int)):∀p∈V.map vC,Data p.2:=fun p hp=>by
  obtain ⟨y,_,rfl⟩:=zC.1 hp;exact .v _
theorem Und.oslG {n id:Nat} {N:List GNode} (h:id<n):Und n (.osl id 4 (N.map GNode.cells)):=.osl h (.data (.sl (GNode.dataRows N)))
theorem Und.oslI {n id:Nat} {l:List Int} (h:id<n):Und n (.osl id 1 (l.map intC)):=.osl h (.data (za6 l))
theorem Und.oslI1 {n id:Nat} {l:List Int} {x:Int} (h:id<n):Und n (.osl id 1 (l.map intC++[intC x])):=by
  have:=Und.oslI (l:=l++[x]) h
  rwa [zz] at this
theorem Und.oslI2 {n id:Nat} {l:List Int} {x:Int} (h:id<n):Und n (.osl id 1 (l.map intC++[[.v (.int .i64 x)]])):=Und.oslI1 h
theorem Und.mapG {n:Nat} (V:List (Int×Int)):(∀p∈V.map vC,Und n p.2)=True:=eq_true fun p hp=>.data (zbb V p hp)
def zci (N:List GNode) (V:List (Int×Int)):List Ob:=[.cells 169 [.osl 1 4 (N.map GNode.cells),.map 2],.tok 194 4 N.length,.map (V.map vC)]
def gObsAt (j k:Nat) (N:List GNode) (V:List (Int×Int)):List Ob:=[.cells 169 [.osl j 4 (N.map GNode.cells),.map k],.tok 194 4 N.length,.map (V.map vC)]
def GCalls (f:Nat) (args:List AV) (N:List GNode) (V:List (Int×Int)) (R:AV) (N1:List GNode) (V1:List (Int×Int)):Prop :=
  ACalls Tryz.prog f args (zai 0 (zci N V)) 3 fun r os n=>(r=R∧os=zai 0 (zci N1 V1))∧n=3
theorem zhS {n:Nat} (h:3≤n) (N:List GNode) (V:List (Int×Int)):UndOs n (zai 0 (zci N V)) :=
  ⟨by omega,⟨.osl (by omega) (.data (.sl (GNode.dataRows N))),.map (by omega),trivial⟩,by omega,trivial,by omega,fun p hp=>.data (zbb V p hp),trivial⟩
theorem GCalls.at {f:Nat} {args:List AV} {N N1:List GNode} {V V1:List (Int×Int)} {R:AV} (h:GCalls f (.ptr 0 0::args) N V R N1 V1) (hd:DataL args) (hR:Data R) {i j k:Nat} {os':Os} {nx':Nat}
    (hi:zaJ os' i=some (.cells 169 [.osl j 4 (N.map GNode.cells),.map k])) (hj:zaJ os' j=some (.tok 194 4 N.length)) (hk:zaJ os' k=some (.map (V.map vC)))
    (hij:i≠j) (hik:i≠k) (hjk:j≠k) (li:i<nx') (lj:j<nx') (lk:k<nx') {Q':AV→Os→Nat→Prop}
    (hq:Q' R (zaz (zaz (zaz os' i (.cells 169 [.osl j 4 (N1.map GNode.cells),.map k])) j (.tok 194 4 N1.length)) k (.map (V1.map vC))) nx'):ACalls Tryz.prog f (.ptr i 0::args) os' nx' Q':=by
  have same:∀(l:List AV),DataL l→RenL (zbs [i,j,k] nx') l l:=by
    intro l hl
    induction l with
    | nil=>trivial
    | cons x l ih=>exact ⟨.data (hl x (by simp)),ih fun y hy=>hl y (by simp[hy])⟩
  have ren:∀(N:List GNode) (V:List (Int×Int)),RenOs (zbs [i,j,k] nx') 0 (zci N V) (gObsAt j k N V):=fun N V =>
    ⟨.cells ⟨.osl rfl (GNode.dataRows N),.map rfl,trivial⟩,.tok,.map (zbb V),trivial⟩
  refine ACalls.at (args:=.ptr 0 0::args) (obs:=zci N V) (obs1:=zci N1 V1) (obs':=gObsAt j k N V) (obs1':=gObsAt j k N1 V1) [i,j,k] ?_ rfl rfl (by simp[hij,hik,hjk]) (by simp[li,lj,lk]) ⟨.ptr rfl,same args hd⟩ (.data hR) (ren N V) ⟨hi,hj,hk,trivial⟩ (ren N1 V1) hq;exact h.mono fun r os n ⟨⟨h1,h2⟩,h3⟩=>⟨h1,h2,h3⟩
def zba (N:List GNode) (a:Int):List Int→Int
  | []=>a
  | p::ps=>zba N (min 1099511627776 (a+((N[p.toNat]?).map GNode.size).getD 0)) ps
theorem zfo (N:List GNode):∀(a:Int) (ps qs:List Int),zba N a (ps++qs)=zba N (zba N a ps) qs
  | a,[],qs=>by simp[zba]
  | a,p::ps,qs=>by simp[zba,zfo N _ ps qs]
theorem layS_step {N:List GNode} {ps:List Int} {s:Nat} {p:Int} {q:GNode} (hp:ps[s]?=some p) (hq:N[p.toNat]?=some q) (a:Int):zba N a (ps.take (s+1))=min 1099511627776 (zba N a (ps.take s)+q.size):=by
  rw[List.take_add_one,hp,zfo];simp[zba,hq]
theorem zem {N:List GNode} (hN:∀x∈N,0≤x.size∧x.size≤1099511627776):∀(ps:List Int) (a:Int),0≤a→a≤1099511627776→0≤zba N a ps∧zba N a ps≤1099511627776
  | [],a,h1,h2=>by simp[zba];omega
  | p::ps,a,h1,h2=>by
    have h3:0≤((N[p.toNat]?).map GNode.size).getD 0:=by
      cases hx:N[p.toNat]? with
      | none=>simp
      | some q=>exact (hN q (zl hx)).1
    exact zem hN ps _ (by omega) (by omega)
theorem zhJ (N:List GNode) (V:List (Int×Int)) (x:GNode) (hN:∀y∈N,0≤y.size∧y.size≤1099511627776) (hl:N.length<1099511627776) (hpl:x.parts.length≤1099511627776) (hp:∀p∈x.parts,0≤p∧p<N.length):GCalls 169 [.ptr 0 0,.agg x.cells] (N) (V) (.v (.int .i64 (N.length:Int))) (N++[⟨x.k,x.n,zba N 1 x.parts,x.parts⟩]) (V):=by
  refine ACalls.clean (C:=fun r os=>r=_∧os=_) ?_;refine zah Tryz.func169 (by kernel_rfl) rfl (by rw[Tryz.ntmps169];simp) (fun hm=>?_);simp only[Tryz.ntmps169,Tryz.results169,zi,zm,Nat.reduceAdd,Nat.reduceSub,zt,zq,zh,zj];simp only[zci,zai,Nat.reduceAdd];simp only[GNode.cells,zh,zj];(have hb1:(N.length+1) * 48≤140737488355328:=by omega);(have hb2:N.length+1≤maxLen:=by simp only[maxLen];omega);(have hw3:IntKind.i64.wrap ((N.length:Int)+1-1)=N.length:=by rw[zaT (by omega) (by omega)];omega);(iterate 2 (refine zab fun Y0 y0=>?_;refine zaa ?_;simp only[↓bO,go_sem,seval,GNode.cells,hb1,hb2,hw3,zf,za];refine y0 _ ?_;(try clear y0 Y0)));refine zab fun Y0 y0=>?_;refine zab fun Y1 y1=>?_;refine zaa ?_;refine z8 3 fun Q0 q0=>?_;simp only[↓bO,go_sem,seval,GNode.cells,hb1,hb2,hw3,zf,za];refine q0 _ ?_;clear q0 Q0;simp only[go_sem];simp only[↓bO,go_sem,seval,GNode.cells,hb1,hb2,hw3,zf,za];refine y1 _ ?_;(try clear y1 Y1);refine zav ?_;refine zaS (σ:=Nat) (mB 45 3593) (fun s=>s≤x.parts.length) (fun s=>[(11,.v (.int .i64 (s:Int)))]) (fun s=>[(3,.cells 194 [.v (.int .i64 x.k),.v (.int .i64 x.n),.v (.int .i64 (zba N 1 (x.parts.take s))),.sl 1 (x.parts.map intC)])]) (fun s=>x.parts.length-s) 0 (by omega) ?_ (fun s hs=>?_)
  ·
   simp only[zaA,zaB,zaq,zaz,mB,zc,zb,seval,bL,zba];exact zcm
  simp only[zaA,zaB,zaq,zaz,mB,zc,zb,seval];refine zab fun Y1 y1=>?_;refine zaa ?_;simp only[↓bO,go_sem,seval,GNode.cells,hb1,hb2,hw3,zf,za];refine y1 _ ?_;(try clear y1 Y1);refine zab fun Y1 y1=>?_;refine zan rfl (fun hb12=>?_) (fun hb12=>?_)
  ·
   (have hk:s<x.parts.length:=by simpa using hb12);obtain ⟨p,hps⟩:∃p,x.parts[s]?=some p:=⟨_,zd hk⟩;obtain ⟨hp0,hp1⟩:=hp p (zl hps);obtain ⟨q,hq⟩:∃q,N[p.toNat]?=some q:=⟨_,zd (by omega)⟩;have hqs:=hN q (zl hq);have hls:=zem hN (x.parts.take s) 1 (by omega) (by omega);have hw:IntKind.i64.wrap ((s:Int)+1)=(s:Int)+1:=zaT (by omega) (by omega);(have hw2:min 1099511627776 (IntKind.i64.wrap (zba N 1 (x.parts.take s)+q.size))=zba N 1 (x.parts.take (s+1)):=by rw[zaT (by omega) (by omega),layS_step hps hq]);refine zar ?_;(try simp only[zaf,zad,zac]);refine y1 _ ?_;(try clear y1 Y1);refine zab fun Y1 y1=>?_;refine zav ?_;refine zab fun Y2 y2=>?_;refine zaa ?_;simp only[↓bO,go_sem,seval,GNode.cells,hb1,hb2,hw3,zf,za,hk,gM hps,gM hq,hp0,hp1,hw,hw2,intC];refine y2 _ ?_;(try clear y2 Y2);refine za8 13 mixed (by kernel_rfl) fun J0 j0=>?_;(iterate 4 (simp only[go_sem];refine zaD 3 fun Q0 q0=>?_;simp only[↓za1,↓dOp,↓bO,go_sem,seval,GNode.cells,hb1,hb2,hw3,zf,za,hk,gM hps,gM hq,hp0,hp1,hw,hw2,intC];refine q0 _ ?_;clear q0 Q0));simp only[go_sem];simp only[↓za1,↓dOp,↓bO,go_sem,seval,GNode.cells,hb1,hb2,hw3,zf,za,hk,gM hps,gM hq,hp0,hp1,hw,hw2,intC];refine j0 _ ?_;clear j0 J0;simp only[go_sem];simp only[↓bO,go_sem,seval,GNode.cells,hb1,hb2,hw3,zf,za,hk,gM hps,gM hq,hp0,hp1,hw,hw2,intC];refine y1 _ ?_;(try clear y1 Y1);refine zaa ?_;simp only[↓bO,go_sem,seval,GNode.cells,hb1,hb2,hw3,zf,za,hk,gM hps,gM hq,hp0,hp1,hw,hw2,intC];refine ⟨(s+1),(by omega),by omega,?_⟩;simp only[zaA,zaB,zaq,zaz,mB,zc,zb,seval,hk,gM hps,gM hq,hp0,hp1,za,zL,hw,hw2,intC];exact zcm
  ·
   (have hk:s=x.parts.length:=by simp at hb12;omega);refine zaV ?_;simp only[zaf,zad,zac,bA,Nat.reduceEqDiff,↓reduceIte];refine y0 _ ?_;(try clear y0 Y0);refine zab fun Y0 y0=>?_;refine zaP [] 11 rfl mixed (trivial) rfl ?_;dsimp only;refine zae 0 rfl (by kernel_rfl) (by kernel_rfl) (by kernel_rfl) (fun _ _ h=>h) fun Q0 q0=>?_;simp only[↓bO,go_sem,seval,GNode.cells,hb1,hb2,hw3,zf,za];refine q0 _ ?_;clear q0 Q0;refine zae 1 rfl (by kernel_rfl) (by kernel_rfl) (by kernel_rfl) (fun _ _ h=>h) fun Q0 q0=>?_;simp only[↓bO,go_sem,seval,GNode.cells,hb1,hb2,hw3,zf,za];refine q0 _ ?_;clear q0 Q0;refine zae 2 rfl (by kernel_rfl) (by kernel_rfl) (by kernel_rfl) (fun _ _ h=>h) fun Q0 q0=>?_;simp only[↓bO,go_sem,seval,GNode.cells,hb1,hb2,hw3,zf,za];refine q0 _ ?_;clear q0 Q0;refine zae 3 rfl (by kernel_rfl) (by kernel_rfl) (by kernel_rfl) (fun _ _ h=>h) fun Q0 q0=>?_;simp only[↓bO,go_sem,seval,GNode.cells,hb1,hb2,hw3,zf,za];refine q0 _ ?_;clear q0 Q0;refine za4 (i:=4) (j:=5) (by kernel_rfl) ?_ ?_
   ·
    refine zal rfl rfl fun Q0 q0=>?_;simp only[↓bO,go_sem,seval,GNode.cells,hb1,hb2,hw3,zf,za];refine q0 _ ⟨trivial,?_⟩;clear q0 Q0;refine zag (i:=5) (by kernel_rfl) ?_
    ·
     refine zal rfl rfl fun Q0 q0=>?_;simp only[↓bO,go_sem,seval,GNode.cells,hb1,hb2,hw3,zf,za];refine q0 _ ⟨trivial,?_⟩;clear q0 Q0;refine zag (i:=6) (by kernel_rfl) ?_
     ·
      refine zal rfl rfl fun Q0 q0=>?_;simp only[↓bO,go_sem,seval,↓zbX,↓zbT,↓zbY,↓zbW,↓zb0,↓zbS,↓zbR,↓zbQ,↓zbZ,↓zbo,↓zbp,↓zbq,GNode.cells,hb1,hb2,hw3,zf,za];refine q0 _ ⟨trivial,?_⟩;clear q0 Q0;refine zag (i:=7) (by kernel_rfl) ?_
      ·
       refine zal rfl rfl fun Q0 q0=>?_;simp only[↓bO,go_sem,seval,GNode.cells,hb1,hb2,hw3,zf,za];refine q0 _ ⟨trivial,?_⟩;clear q0 Q0;refine zae 8 rfl (by kernel_rfl) (by kernel_rfl) (by kernel_rfl) (fun _ _ h=>h) fun Q0 q0=>?_;simp only[↓bO,go_sem,seval,GNode.cells,hb1,hb2,hw3,zf,za];refine q0 _ ?_;clear q0 Q0;refine zae 9 rfl (by kernel_rfl) (by kernel_rfl) (by kernel_rfl) (fun _ _ h=>h) fun Q0 q0=>?_;simp only[↓bO,go_sem,seval,GNode.cells,hb1,hb2,hw3,zf,za];refine q0 _ ?_;clear q0 Q0;refine zag (i:=10) (by kernel_rfl) ?_
       ·
        refine zal rfl rfl fun Q0 q0=>?_;simp only[↓bO,go_sem,seval,GNode.cells,hb1,hb2,hw3,zf,za];refine q0 _ ⟨trivial,?_⟩;clear q0 Q0;refine zaG (by kernel_rfl) ?_;simp only[zaf,zad,zac];refine y0 _ ?_;(try clear y0 Y0);refine zab fun Y0 y0=>?_;refine zaa ?_;(iterate 2 (refine z8 3 fun Q0 q0=>?_;simp only[↓bO,go_sem,seval,GNode.cells,hb1,hb2,hw3,zf,za];refine q0 _ ?_;clear q0 Q0;simp only[go_sem]));simp only[↓bO,go_sem,seval,GNode.cells,hb1,hb2,hw3,zf,za];refine y0 _ ?_;(try clear y0 Y0);refine zam ?_;(try simp only[zaf,zad,zac,zaZ,zaW,zaC,bS,bA]);subst hk;refine ⟨_,zai 0 (zci (N++[⟨x.k,x.n,zba N 1 x.parts,x.parts⟩]) V),⟨rfl,rfl⟩,.v _ _,zhS (by omega) _ _,?_,⟨1,?_,rfl⟩,by omega⟩
        ·
         refine Le.of_eq (congrArg (fun n=>AV.v (.int .i64 n)) ?_);first | exact hw3 | (simp;done)
        · simp only[zci,zai,zk,zw,zz,zI,List.map_nil,zf,zi,zm,GNode.cells,z6,Nat.reduceAdd,zR]
   ·
    refine zal rfl rfl fun Q0 q0=>?_;simp only[↓bO,go_sem,seval,GNode.cells,hb1,hb2,hw3,zf,za];refine q0 _ ⟨trivial,?_⟩;clear q0 Q0;refine za4 (i:=4) (j:=6) (by kernel_rfl) ?_ ?_
    ·
     refine zal rfl rfl fun Q0 q0=>?_;simp only[↓bO,go_sem,seval,GNode.cells,hb1,hb2,hw3,zf,za];refine q0 _ ⟨trivial,?_⟩;clear q0 Q0;refine zag (i:=6) (by kernel_rfl) ?_
     ·
      refine zal rfl rfl fun Q0 q0=>?_;simp only[↓bO,go_sem,seval,↓zbX,↓zbT,↓zbY,↓zbW,↓zb0,↓zbS,↓zbR,↓zbQ,↓zbZ,↓zbo,↓zbp,↓zbq,GNode.cells,hb1,hb2,hw3,zf,za];refine q0 _ ⟨trivial,?_⟩;clear q0 Q0;refine zag (i:=7) (by kernel_rfl) ?_
      ·
       refine zal rfl rfl fun Q0 q0=>?_;simp only[↓bO,go_sem,seval,GNode.cells,hb1,hb2,hw3,zf,za];refine q0 _ ⟨trivial,?_⟩;clear q0 Q0;refine zae 8 rfl (by kernel_rfl) (by kernel_rfl) (by kernel_rfl) (fun _ _ h=>h) fun Q0 q0=>?_;simp only[↓bO,go_sem,seval,GNode.cells,hb1,hb2,hw3,zf,za];refine q0 _ ?_;clear q0 Q0;refine zae 9 rfl (by kernel_rfl) (by kernel_rfl) (by kernel_rfl) (fun _ _ h=>h) fun Q0 q0=>?_;simp only[↓bO,go_sem,seval,GNode.cells,hb1,hb2,hw3,zf,za];refine q0 _ ?_;clear q0 Q0;refine zag (i:=10) (by kernel_rfl) ?_
       ·
        refine zal rfl rfl fun Q0 q0=>?_;simp only[↓bO,go_sem,seval,GNode.cells,hb1,hb2,hw3,zf,za];refine q0 _ ⟨trivial,?_⟩;clear q0 Q0;refine zaG (by kernel_rfl) ?_;simp only[zaf,zad,zac];refine y0 _ ?_;(try clear y0 Y0);refine zab fun Y0 y0=>?_;refine zaa ?_;(iterate 2 (refine z8 3 fun Q0 q0=>?_;simp only[↓bO,go_sem,seval,GNode.cells,hb1,hb2,hw3,zf,za];refine q0 _ ?_;clear q0 Q0;simp only[go_sem]));simp only[↓bO,go_sem,seval,GNode.cells,hb1,hb2,hw3,zf,za];refine y0 _ ?_;(try clear y0 Y0);refine zam ?_;(try simp only[zaf,zad,zac,zaZ,zaW,zaC,bS,bA]);subst hk;refine ⟨_,zai 0 (zci (N++[⟨x.k,x.n,zba N 1 x.parts,x.parts⟩]) V),⟨rfl,rfl⟩,.v _ _,zhS (by omega) _ _,?_,⟨1,?_,rfl⟩,by omega⟩
        ·
         refine Le.of_eq (congrArg (fun n=>AV.v (.int .i64 n)) ?_);first | exact hw3 | (simp;done)
        · simp only[zci,zai,zk,zw,zz,zI,List.map_nil,zf,zi,zm,GNode.cells,z6,Nat.reduceAdd,zR]
    ·
     refine zal rfl rfl fun Q0 q0=>?_;simp only[↓bO,go_sem,seval,↓zbX,↓zbT,↓zbY,↓zbW,↓zb0,↓zbS,↓zbR,↓zbQ,↓zbZ,↓zbo,↓zbp,↓zbq,GNode.cells,hb1,hb2,hw3,zf,za];refine q0 _ ⟨trivial,?_⟩;clear q0 Q0;refine zag (i:=4) (by kernel_rfl) ?_
     ·
      refine zal rfl rfl fun Q0 q0=>?_;simp only[↓bO,go_sem,seval,GNode.cells,hb1,hb2,hw3,zf,za];refine q0 _ ⟨trivial,?_⟩;clear q0 Q0;refine zag (i:=7) (by kernel_rfl) ?_
      ·
       refine zal rfl rfl fun Q0 q0=>?_;simp only[↓bO,go_sem,seval,GNode.cells,hb1,hb2,hw3,zf,za];refine q0 _ ⟨trivial,?_⟩;clear q0 Q0;refine zae 8 rfl (by kernel_rfl) (by kernel_rfl) (by kernel_rfl) (fun _ _ h=>h) fun Q0 q0=>?_;simp only[↓bO,go_sem,seval,GNode.cells,hb1,hb2,hw3,zf,za];refine q0 _ ?_;clear q0 Q0;refine zae 9 rfl (by kernel_rfl) (by kernel_rfl) (by kernel_rfl) (fun _ _ h=>h) fun Q0 q0=>?_;simp only[↓bO,go_sem,seval,GNode.cells,hb1,hb2,hw3,zf,za];refine q0 _ ?_;clear q0 Q0;refine zag (i:=10) (by kernel_rfl) ?_
       ·
        refine zal rfl rfl fun Q0 q0=>?_;simp only[↓bO,go_sem,seval,GNode.cells,hb1,hb2,hw3,zf,za];refine q0 _ ⟨trivial,?_⟩;clear q0 Q0;refine zaG (by kernel_rfl) ?_;simp only[zaf,zad,zac];refine y0 _ ?_;(try clear y0 Y0);refine zab fun Y0 y0=>?_;refine zaa ?_;(iterate 2 (refine z8 3 fun Q0 q0=>?_;simp only[↓bO,go_sem,seval,GNode.cells,hb1,hb2,hw3,zf,za];refine q0 _ ?_;clear q0 Q0;simp only[go_sem]));simp only[↓bO,go_sem,seval,GNode.cells,hb1,hb2,hw3,zf,za];refine y0 _ ?_;(try clear y0 Y0);refine zam ?_;(try simp only[zaf,zad,zac,zaZ,zaW,zaC,bS,bA]);subst hk;refine ⟨_,zai 0 (zci (N++[⟨x.k,x.n,zba N 1 x.parts,x.parts⟩]) V),⟨rfl,rfl⟩,.v _ _,zhS (by omega) _ _,?_,⟨1,?_,rfl⟩,by omega⟩
        ·
         refine Le.of_eq (congrArg (fun n=>AV.v (.int .i64 n)) ?_);first | exact hw3 | (simp;done)
        · simp only[zci,zai,zk,zw,zz,zI,List.map_nil,zf,zi,zm,GNode.cells,z6,Nat.reduceAdd,zR]
end Go.Proofs.YtpfiliamceimmaaGreatDoor
namespace Go.Proofs.YtpfiliamceimmaaGreatDoor
open Go Go.RowKit
attribute [local irreducible] aops za1
structure GS where
  N:List GNode
  V:List (Int×Int)
def zaM:List (Int×Int)→Int→Option Int
  | [],_=>none
  | (k,x)::rest,i=>if k=i then some x else zaM rest i
def zf3:List (Int×Int)→Int→Int→List (Int×Int)
  | [],k,x=>[(k,x)]
  | (k',y)::rest,k,x=>if k'=k then (k,x)::rest else (k',y)::zf3 rest k x
theorem zau (k:Int):∀V:List (Int×Int),zbU (V.map vC) k=(zaM V k).map fun i=>AV.v (.int .i64 i)
  | []=>rfl
  | (a,b)::V=>by simp only[zI,vC,zbU,zaM];split <;> simp[zau k V]
theorem zaE (k x:Int):∀V:List (Int×Int),zdR (V.map vC) k (.v (.int .i64 x))=(zf3 V k x).map vC
  | []=>rfl
  | (a,b)::V=>by simp only[zI,vC,zdR,zf3];split <;> simp[zaE k x V,vC]
theorem zao (k x:Int):∀V:List (Int×Int),zaM (zf3 V k x) k=some x
  | []=>by simp[zf3,zaM]
  | (a,b)::V=>by simp only[zf3];split <;> simp_all [zaM,zao k x V]
theorem zb9 {k x:Int}:∀{V:List (Int×Int)},zaM V k=some x→(k,x)∈V
  | (a,b)::V,h=>by
    simp only[zaM] at h;(split at h);(· rename_i e;cases h;subst e;simp);· exact List.mem_cons_of_mem _ (zb9 h)
theorem zi0 {k x:Int} {p:Int×Int}:∀{V:List (Int×Int)},p∈zf3 V k x→p=(k,x)∨p∈V
  | [],h=>by simp[zf3] at h;exact .inl h
  | (a,b)::V,h=>by
    simp only[zf3] at h;split at h
    · rcases zM.1 h with h | h
      (· exact .inl h);· exact .inr (List.mem_cons_of_mem _ h)
    · rcases zM.1 h with h | h
      (· exact .inr (by simp[h]));· exact (zi0 h).imp id (List.mem_cons_of_mem _)
mutual
def Ty.gadd:Ty→GS→GS×Int
  | .mk k n ps,G =>
    if k=1 then
      match zaM G.V n with
      | some i=>(G,i)
      | none=>(⟨G.N++[⟨k,n,1,[]⟩],zf3 G.V n G.N.length⟩,G.N.length)
    else
      let r:=Ty.gaddL ps G []
      (⟨r.1.N++[⟨k,0,zba r.1.N 1 r.2,r.2⟩],r.1.V⟩,r.1.N.length)
def Ty.gaddL:List Ty→GS→List Int→GS×List Int
  | [],G,l=>(G,l)
  | p::ps,G,l =>
    let r:=Ty.gadd p G
    Ty.gaddL ps r.1 (l++[r.2])
end
theorem Ty.gadd_var {t:Ty} (h:t.k=1) (G:GS):t.gadd G=match zaM G.V t.n with
      | some i=>(G,i)
      | none=>(⟨G.N++[⟨t.k,t.n,1,[]⟩],zf3 G.V t.n G.N.length⟩,G.N.length):=by
  obtain ⟨k,n,ps⟩:=t;have h:k=1:=h;rw[Ty.gadd,if_pos h];rfl
theorem Ty.gadd_more {t:Ty} (h:¬t.k=1) (G:GS):t.gadd G =
    ((⟨(Ty.gaddL t.ps G []).1.N++[⟨t.k,0,zba (Ty.gaddL t.ps G []).1.N 1 (Ty.gaddL t.ps G []).2,(Ty.gaddL t.ps G []).2⟩],(Ty.gaddL t.ps G []).1.V⟩:GS),((Ty.gaddL t.ps G []).1.N.length:Int)):=by
  obtain ⟨k,n,ps⟩:=t;have h:¬k=1:=h;rw[Ty.gadd,if_neg h];rfl
theorem Ty.gaddL_append:∀(ps qs:List Ty) (G:GS) (l:List Int),Ty.gaddL (ps++qs) G l=Ty.gaddL qs (Ty.gaddL ps G l).1 (Ty.gaddL ps G l).2
  | [],qs,G,l=>by simp[Ty.gaddL]
  | p::ps,qs,G,l=>by simp[Ty.gaddL,Ty.gaddL_append ps qs]
theorem Ty.gaddL_step {ps:List Ty} {s:Nat} {p:Ty} (hp:ps[s]?=some p) (G:GS) (l:List Int) :
    Ty.gaddL (ps.take (s+1)) G l=((p.gadd (Ty.gaddL (ps.take s) G l).1).1,(Ty.gaddL (ps.take s) G l).2++[(p.gadd (Ty.gaddL (ps.take s) G l).1).2]):=by
  rw[List.take_add_one,hp,Ty.gaddL_append];simp[Ty.gaddL]
structure GInv (G:GS):Prop where
  size:∀x∈G.N,0≤x.size∧x.size≤1099511627776
  vars:∀p∈G.V,0≤p.2∧p.2<G.N.length
structure GStep (G G':GS) (n:Nat):Prop where
  inv:GInv G'
  ge:G.N.length≤G'.N.length
  le:G'.N.length≤G.N.length+n
theorem Ty.gaddL_inv:∀(ps:List Ty) (_:∀p∈ps,∀G,GInv G→GStep G (p.gadd G).1 p.cnt∧0≤(p.gadd G).2∧(p.gadd G).2<(p.gadd G).1.N.length) (G:GS) (l:List Int),GInv G→(∀x∈l,0≤x∧x<(G.N.length:Int)) →
    GStep G (Ty.gaddL ps G l).1 (Ty.cntL ps)∧(∀x∈(Ty.gaddL ps G l).2,0≤x∧x<((Ty.gaddL ps G l).1.N.length:Int))∧(Ty.gaddL ps G l).2.length=l.length+ps.length
  | [],_,G,l,h,hl=>⟨⟨h,zW _,by simp[Ty.gaddL]⟩,by simpa [Ty.gaddL] using hl,by simp[Ty.gaddL]⟩
  | p::ps,hp,G,l,h,hl=>by
    obtain ⟨h1,h2,h3⟩:=hp p (by simp) G h
    obtain ⟨h4,h5,h6⟩:=Ty.gaddL_inv ps (fun q hq=>hp q (by simp[hq])) (p.gadd G).1 (l++[(p.gadd G).2]) h1.inv (fun x hx=>by
      (rcases zG.1 hx with hx | hx);· have:=hl x hx;have:=h1.ge;omega
      · simp at hx;subst hx;exact ⟨h2,h3⟩)
    simp only[Ty.gaddL,Ty.cntL];refine ⟨⟨h4.inv,Nat.le_trans h1.ge h4.ge,?_⟩,h5,?_⟩;(· have:=h1.le;have:=h4.le;omega);· rw[h6];simp;omega
theorem Ty.gadd_inv:∀(t:Ty) (G:GS),GInv G→GStep G (t.gadd G).1 t.cnt∧0≤(t.gadd G).2∧(t.gadd G).2<(t.gadd G).1.N.length:=by
  refine Ty.ind fun t ih=>?_;intro G h;have hc:=t.cnt_eq
  by_cases hk:t.k=1
  · rw[Ty.gadd_var hk]
    cases hf:zaM G.V t.n with
    | some i=>exact ⟨⟨h,zW _,by simp only;omega⟩,h.vars _ (zb9 hf)⟩
    | none =>
      refine ⟨⟨⟨fun x hx=>?_,fun p hp=>?_⟩,by simp,by simp;omega⟩,by simp,by simp;omega⟩
      · rcases zG.1 hx with hx | hx
        (· exact h.size x hx);· simp at hx;subst hx;simp
      · simp only[zf,zi,zm]
        (rcases zi0 hp with hp | hp);(· subst hp;simp;omega);· have:=h.vars p hp;omega
  · rw[Ty.gadd_more hk]
    obtain ⟨h1,h2,h3⟩:=Ty.gaddL_inv t.ps ih G [] h (by simp);refine ⟨⟨⟨fun x hx=>?_,fun p hp=>?_⟩,?_,?_⟩,by simp,by simp;omega⟩
    · rcases zG.1 hx with hx | hx
      (· exact h1.inv.size x hx);· simp at hx;subst hx;exact zem h1.inv.size _ 1 (by omega) (by omega)
    · have:=h1.inv.vars p hp
      simp only[zf,zi,zm];omega
    (· have:=h1.ge;simp;omega);· have:=h1.le;simp;omega
theorem Ty.gaddL_inv0 (ps:List Ty) (G:GS) (h:GInv G):GStep G (Ty.gaddL ps G []).1 (Ty.cntL ps)∧(∀x∈(Ty.gaddL ps G []).2,0≤x∧x<((Ty.gaddL ps G []).1.N.length:Int))∧(Ty.gaddL ps G []).2.length=ps.length:=by
  have:=Ty.gaddL_inv ps (fun p _=>p.gadd_inv) G [] h (by simp);simpa using this
theorem add_calls:∀(T:Ty) (G:GS),GInv G→G.N.length+T.cnt≤1099511627776→GCalls 159 [.ptr 0 0,.agg T.cells] G.N G.V (.v (.int .i64 (T.gadd G).2)) (T.gadd G).1.N (T.gadd G).1.V:=by
  refine Ty.ind fun T ih=>?_;intro G hG hl;refine ACalls.clean (C:=fun r os=>r=_∧os=_) ?_;refine zah Tryz.func159 (by kernel_rfl) rfl (by rw[Tryz.ntmps159];simp) (fun hm=>?_);simp only[Tryz.ntmps159,Tryz.results159,zi,zm,Nat.reduceAdd,Nat.reduceSub,zt,zq,zh,zj];simp only[zci,zai,Nat.reduceAdd];simp only[Ty.cells_eq T,zh,zj];have hm1:=T.cnt_eq;have hcl:=Ty.cntL_len T.ps;refine zab fun Y0 y0=>?_;refine zaa ?_;simp only[↓bO,go_sem,seval,zau,zaE,zao,zp,zba];refine y0 _ ?_;(try clear y0 Y0);refine zab fun Y0 y0=>?_;refine zab fun Y1 y1=>?_;refine zaa ?_;refine z8 2 fun Q0 q0=>?_;simp only[↓bO,go_sem,seval,zau,zaE,zao,zp,zba];refine q0 _ ?_;clear q0 Q0;simp only[go_sem];simp only[↓bO,go_sem,seval,zau,zaE,zao,zp,zba];refine y1 _ ?_;(try clear y1 Y1);refine zan rfl (fun hb12=>?_) (fun hb12=>?_)
  ·
   (have hk1:T.k=1:=by simpa using hb12);refine zab fun Y1 y1=>?_;refine zab fun Y2 y2=>?_;refine zaP [(3,0,[.v (.int .i64 T.k)]),(3,1,[.v (.int .i64 T.n)]),(0,1,[.map 2])] 12 rfl mixed (⟨⟨_,_,rfl,by simp,rfl,trivial,trivial⟩,⟨_,_,rfl,by simp,rfl,trivial,trivial⟩,⟨_,_,rfl,by simp,rfl,trivial,trivial⟩,trivial⟩) rfl ?_;dsimp only;refine zae 0 rfl (by kernel_rfl) (by kernel_rfl) (by kernel_rfl) (fun _ _ h=>h) fun Q0 q0=>?_;simp only[↓bO,go_sem,seval,zau,zaE,zao,zp,zba];refine q0 _ ?_;clear q0 Q0;refine zae 1 rfl (by kernel_rfl) (by kernel_rfl) (by kernel_rfl) (fun _ _ h=>h) fun Q0 q0=>?_;simp only[↓bO,go_sem,seval,zau,zaE,zao,zp,zba];refine q0 _ ?_;clear q0 Q0;refine zae 2 rfl (by kernel_rfl) (by kernel_rfl) (by kernel_rfl) (fun _ _ h=>h) fun Q0 q0=>?_;simp only[↓bO,go_sem,seval,zau,zaE,zao,zp,zba];refine q0 _ ?_;clear q0 Q0;refine zay 3 2 rfl rfl (by kernel_rfl) (by kernel_rfl) (by kernel_rfl) (fun _ _ h=>h) fun Q0 q0=>?_;simp only[↓bO,go_sem,seval,zau,zaE,zao,zp,zba];refine q0 _ ?_;clear q0 Q0;refine zae 4 rfl (by kernel_rfl) (by kernel_rfl) (by kernel_rfl) (fun _ _ h=>h) fun Q0 q0=>?_;simp only[↓bO,go_sem,seval,zau,zaE,zao,zp,zba];refine q0 _ ?_;clear q0 Q0;refine zay 5 1 rfl rfl (by kernel_rfl) (by kernel_rfl) (by kernel_rfl) (fun _ _ h=>h) fun Q0 q0=>?_;simp only[↓bO,go_sem,seval,zau,zaE,zao,zp,zba];refine q0 _ ?_;clear q0 Q0;refine zag (i:=6) (by kernel_rfl) ?_
   ·
    refine zal rfl rfl fun Q0 q0=>?_;simp only[↓bO,go_sem,seval,zau,zaE,zao,zp,zba];refine q0 _ ⟨⟨⟨_,_,rfl,by simp,rfl,trivial,trivial⟩,⟨_,_,rfl,by simp,rfl,trivial,trivial⟩,⟨_,_,rfl,by simp,rfl,trivial,trivial⟩,trivial⟩,?_⟩;clear q0 Q0;refine zae 7 rfl (by kernel_rfl) (by kernel_rfl) (by kernel_rfl) (fun _ _ h=>h) fun Q0 q0=>?_;simp only[↓bO,go_sem,seval,zau,zaE,zao,zp,zba];refine q0 _ ?_;clear q0 Q0;refine zae 8 rfl (by kernel_rfl) (by kernel_rfl) (by kernel_rfl) (fun _ _ h=>h) fun Q0 q0=>?_;simp only[↓bO,go_sem,seval,zau,zaE,zao,zp,zba];refine q0 _ ?_;clear q0 Q0;refine zae 9 rfl (by kernel_rfl) (by kernel_rfl) (by kernel_rfl) (fun _ _ h=>h) fun Q0 q0=>?_;simp only[↓bO,go_sem,seval,zau,zaE,zao,zp,zba];refine q0 _ ?_;clear q0 Q0;refine zae 10 rfl (by kernel_rfl) (by kernel_rfl) (by kernel_rfl) (fun _ _ h=>h) fun Q0 q0=>?_;simp only[↓bO,go_sem,seval,zau,zaE,zao,zp,zba];refine q0 _ ?_;clear q0 Q0;refine zae 11 rfl (by kernel_rfl) (by kernel_rfl) (by kernel_rfl) (fun _ _ h=>h) fun Q0 q0=>?_;simp only[↓bO,go_sem,seval,zau,zaE,zao,zp,zba];refine q0 _ ?_;clear q0 Q0;refine zaG (by kernel_rfl) ?_;simp only[zaf,zad,zac];refine y2 _ ?_;(try clear y2 Y2);refine zab fun Y2 y2=>?_;refine zaa ?_;simp only[↓bO,go_sem,seval,zau,zaE,zao,zp,zba];refine y2 _ ?_;(try clear y2 Y2);refine zan rfl (fun hb23=>?_) (fun hb23=>?_)
    ·
     refine zab fun Y2 y2=>?_;refine zaa ?_;simp only[↓bO,go_sem,seval,zau,zaE,zao,zp,zba];refine y2 _ ?_;(try clear y2 Y2);refine zam ?_;try simp only[zaf,zad,zac,zaZ,zaW,zaC,bS,bA]
     obtain ⟨i,hf⟩:∃i,zaM G.V T.n=some i:=by
      cases hf:zaM G.V T.n with
      | none=>rw[hf] at hb23;cases hb23
      | some i=>exact ⟨i,rfl⟩
     (have hg:T.gadd G=(G,i):=by rw[Ty.gadd_var hk1,hf]);rw[hg,hf];refine ⟨_,zai 0 (zci (G.N) (G.V)),⟨rfl,rfl⟩,.v _ _,zhS (by omega) _ _,?_,?_,by omega⟩
     ·
      refine Le.of_eq ?_;rfl
     · first | (refine ⟨1,?_,rfl⟩;first | rfl | (simp only[zci,zai,zk,zw,zz,zI,List.map_nil,zf,zi,zm,GNode.cells,z6,Nat.reduceAdd,zR];done))
    ·
     refine zar ?_;(try simp only[zaf,zad,zac]);refine y1 _ ?_;(try clear y1 Y1);refine zab fun Y1 y1=>?_;refine zaP [(3,0,[.v (.int .i64 T.k)]),(3,1,[.v (.int .i64 T.n)]),(0,1,[.map 2])] 14 rfl mixed (⟨⟨_,_,rfl,by simp,rfl,trivial,trivial⟩,⟨_,_,rfl,by simp,rfl,trivial,trivial⟩,⟨_,_,rfl,by simp,rfl,trivial,trivial⟩,trivial⟩) rfl ?_;dsimp only;refine zae 0 rfl (by kernel_rfl) (by kernel_rfl) (by kernel_rfl) (fun _ _ h=>h) fun Q0 q0=>?_;simp only[↓bO,go_sem,seval,zau,zaE,zao,zp,zba];refine q0 _ ?_;clear q0 Q0;refine zae 1 rfl (by kernel_rfl) (by kernel_rfl) (by kernel_rfl) (fun _ _ h=>h) fun Q0 q0=>?_;simp only[↓bO,go_sem,seval,zau,zaE,zao,zp,zba];refine q0 _ ?_;clear q0 Q0;refine zae 2 rfl (by kernel_rfl) (by kernel_rfl) (by kernel_rfl) (fun _ _ h=>h) fun Q0 q0=>?_;simp only[↓bO,go_sem,seval,zau,zaE,zao,zp,zba];refine q0 _ ?_;clear q0 Q0;refine zay 3 2 rfl rfl (by kernel_rfl) (by kernel_rfl) (by kernel_rfl) (fun _ _ h=>h) fun Q0 q0=>?_;simp only[↓bO,go_sem,seval,zau,zaE,zao,zp,zba];refine q0 _ ?_;clear q0 Q0;refine zae 4 rfl (by kernel_rfl) (by kernel_rfl) (by kernel_rfl) (fun _ _ h=>h) fun Q0 q0=>?_;simp only[↓bO,go_sem,seval,zau,zaE,zao,zp,zba];refine q0 _ ?_;clear q0 Q0;refine zay 5 1 rfl rfl (by kernel_rfl) (by kernel_rfl) (by kernel_rfl) (fun _ _ h=>h) fun Q0 q0=>?_;simp only[↓bO,go_sem,seval,zau,zaE,zao,zp,zba];refine q0 _ ?_;clear q0 Q0;refine zae 6 rfl (by kernel_rfl) (by kernel_rfl) (by kernel_rfl) (fun _ _ h=>h) fun Q0 q0=>?_;simp only[↓bO,go_sem,seval,zau,zaE,zao,zp,zba];refine q0 _ ?_;clear q0 Q0;refine zae 7 rfl (by kernel_rfl) (by kernel_rfl) (by kernel_rfl) (fun _ _ h=>h) fun Q0 q0=>?_;simp only[↓bO,go_sem,seval,zau,zaE,zao,zp,zba];refine q0 _ ?_;clear q0 Q0;refine zay 8 0 rfl rfl (by kernel_rfl) (by kernel_rfl) (by kernel_rfl) (fun _ _ h=>h) fun Q0 q0=>?_;simp only[↓bO,go_sem,seval,zau,zaE,zao,zp,zba];refine q0 _ ?_;clear q0 Q0;refine zae 9 rfl (by kernel_rfl) (by kernel_rfl) (by kernel_rfl) (fun _ _ h=>h) fun Q0 q0=>?_;simp only[↓bO,go_sem,seval,zau,zaE,zao,zp,zba];refine q0 _ ?_;clear q0 Q0;refine zay 10 1 rfl rfl (by kernel_rfl) (by kernel_rfl) (by kernel_rfl) (fun _ _ h=>h) fun Q0 q0=>?_;simp only[↓bO,go_sem,seval,zau,zaE,zao,zp,zba];refine q0 _ ?_;clear q0 Q0;refine zag (i:=11) (by kernel_rfl) ?_
     ·
      refine zal rfl rfl fun Q0 q0=>?_;simp only[↓bO,go_sem,seval,zau,zaE,zao,zp,zba];refine q0 _ ⟨⟨⟨_,_,rfl,by simp,rfl,trivial,trivial⟩,⟨_,_,rfl,by simp,rfl,trivial,trivial⟩,⟨_,_,rfl,by simp,rfl,trivial,trivial⟩,trivial⟩,?_⟩;clear q0 Q0;refine zag (i:=12) (by kernel_rfl) ?_
      ·
       refine zal rfl rfl fun Q0 q0=>?_;simp only[↓bO,go_sem,seval,zau,zaE,zao,zp,zba];refine ACalls.args (args':=[.ptr 0 0,.agg (GNode.cells ⟨T.k,T.n,0,[]⟩)]) ⟨.refl _,Le.agg ⟨.refl _,.refl _,.refl _,Le.slNil 1,trivial⟩,trivial⟩ ?_;refine GCalls.at (zhJ G.N G.V ⟨T.k,T.n,0,[]⟩ hG.size (by omega) (by simp) (by simp)) (.cons (.agg (GNode.data _)) .nil) (.v _) (i:=0) (j:=1) (k:=2) rfl rfl rfl (by decide) (by decide) (by decide) (by first | omega | (simp only;omega)) (by first | omega | (simp only;omega)) (by first | omega | (simp only;omega)) ?_;simp only[zaz,Nat.reduceEqDiff,↓reduceIte];(try simp only[bS,bA]);refine q0 _ ⟨⟨⟨_,_,rfl,by simp,rfl,trivial,trivial⟩,⟨_,_,rfl,by simp,rfl,trivial,trivial⟩,⟨_,_,rfl,by simp,rfl,trivial,trivial⟩,trivial⟩,?_⟩;clear q0 Q0;refine zag (i:=13) (by kernel_rfl) ?_
       ·
        refine zal rfl rfl fun Q0 q0=>?_;simp only[↓bO,go_sem,seval,zau,zaE,zao,zp,zba];refine q0 _ ⟨⟨⟨_,_,rfl,by simp,rfl,trivial,trivial⟩,⟨_,_,rfl,by simp,rfl,trivial,trivial⟩,⟨_,_,rfl,by simp,rfl,trivial,trivial⟩,trivial⟩,?_⟩;clear q0 Q0;refine zaG (by kernel_rfl) ?_;simp only[zaf,zad,zac];refine y1 _ ?_;(try clear y1 Y1);refine zab fun Y1 y1=>?_;refine za8 7 mixed (by kernel_rfl) fun J0 j0=>?_;(iterate 3 (simp only[go_sem];refine zaD 2 fun Q0 q0=>?_;simp only[↓za1,↓dOp,↓bO,go_sem,seval,zau,zaE,zao,zp,zba];refine q0 _ ?_;clear q0 Q0));simp only[go_sem];simp only[↓za1,↓dOp,↓bO,go_sem,seval,zau,zaE,zao,zp,zba];refine j0 _ ?_;clear j0 J0;simp only[go_sem];simp only[↓bO,go_sem,seval,zau,zaE,zao,zp,zba];refine y1 _ ?_;(try clear y1 Y1);refine zam ?_;try simp only[zaf,zad,zac,zaZ,zaW,zaC,bS,bA]
        have hf:zaM G.V T.n=none:=by
         cases hf:zaM G.V T.n with
         | none=>rfl
         | some i=>rw[hf] at hb23;cases hb23
        (have hg:T.gadd G=((⟨G.N++[⟨T.k,T.n,1,[]⟩],zf3 G.V T.n G.N.length⟩:GS),(G.N.length:Int)):=by rw[Ty.gadd_var hk1,hf]);rw[hg];refine ⟨_,zai 0 (zci (G.N++[⟨T.k,T.n,1,[]⟩]) (zf3 G.V T.n G.N.length)),⟨rfl,rfl⟩,.v _ _,zhS (by omega) _ _,?_,?_,by omega⟩
        ·
         refine Le.of_eq ?_;rfl
        · first | (refine ⟨1,?_,rfl⟩;first | rfl | (simp only[zci,zai,zk,zw,zz,zI,List.map_nil,zf,zi,zm,GNode.cells,z6,Nat.reduceAdd,zR];done))
  ·
   (have hk1:¬T.k=1:=by simpa using hb12);refine zar ?_;(try simp only[zaf,zad,zac]);refine y0 _ ?_;(try clear y0 Y0);refine zab fun Y0 y0=>?_;refine zaa ?_;(iterate 2 (refine z8 2 fun Q0 q0=>?_;simp only[↓bO,go_sem,seval,zau,zaE,zao,zp,zba];refine q0 _ ?_;clear q0 Q0;simp only[go_sem]));simp only[↓bO,go_sem,seval,zau,zaE,zao,zp,zba];refine y0 _ ?_;(try clear y0 Y0);refine zab fun Y0 y0=>?_;refine zab fun Y1 y1=>?_;refine zaa ?_;refine z8 2 fun Q0 q0=>?_;simp only[↓bO,go_sem,seval,zau,zaE,zao,zp,zba];refine q0 _ ?_;clear q0 Q0;simp only[go_sem];simp only[↓bO,go_sem,seval,zau,zaE,zao,zp,zba];refine y1 _ ?_;(try clear y1 Y1);refine zav ?_;refine zbk (Weak.tokCell 3 1 (id:=4) (t:=194) [.v (.int .i64 T.k),.v (.int .i64 0),.v (.int .i64 0),.osl 5 1 []] rfl ⟨.inl (.refl _),.inl (.refl _),.inl (.refl _),.inr ⟨rfl,rfl⟩,trivial⟩) ?_;simp only[zaz,Nat.reduceEqDiff,↓reduceIte];refine zaS (σ:=Nat) (mB 67 3940649673949313) (fun s=>s≤T.ps.length) (fun s=>[(51,.v (.int .i64 (s:Int)))]) (fun s=>[(0,.cells 169 [.osl 1 4 ((Ty.gaddL (T.ps.take s) G []).1.N.map GNode.cells),.map 2]),(1,.tok 194 4 (Ty.gaddL (T.ps.take s) G []).1.N.length),(2,.map ((Ty.gaddL (T.ps.take s) G []).1.V.map vC)),(4,.cells 194 [.v (.int .i64 T.k),.v (.int .i64 0),.v (.int .i64 0),.osl 5 1 ((Ty.gaddL (T.ps.take s) G []).2.map intC)]),(5,.tok 3 1 s)]) (fun s=>T.ps.length-s) 0 (by omega) ?_ (fun s hs=>?_)
   ·
    simp only[zaA,zaB,zaq,zaz,mB,zc,zb,seval,bL,Ty.gaddL];exact zcm
   simp only[zaA,zaB,zaq,zaz,mB,zc,zb,seval];refine zab fun Y1 y1=>?_;refine zaa ?_;simp only[↓bO,go_sem,seval,zau,zaE,zao,zp,zba];refine y1 _ ?_;(try clear y1 Y1);refine zab fun Y1 y1=>?_;refine zan rfl (fun hb52=>?_) (fun hb52=>?_)
   ·
    (have hk:s<T.ps.length:=by simpa using hb52);obtain ⟨p,hp⟩:∃p,T.ps[s]?=some p:=⟨_,zd hk⟩;have hpm:=zl hp;have hpc:=Ty.cntL_step hp;obtain ⟨hi1,hi2,hi3⟩:=Ty.gaddL_inv0 (T.ps.take s) G hG;have hi4:=hi1.le;(have hln:(Ty.gaddL (T.ps.take s) G []).2.length=s:=by rw[hi3];simp;omega);have hw:IntKind.i64.wrap ((s:Int)+1)=(s:Int)+1:=zaT (by omega) (by omega);(have hb1:(s+1) * 8≤140737488355328:=by omega);(have hb2:s+1≤maxLen:=by simp only[maxLen];omega);refine zar ?_;(try simp only[zaf,zad,zac]);refine y1 _ ?_;(try clear y1 Y1);refine zab fun Y1 y1=>?_;refine zav ?_;refine zab fun Y2 y2=>?_;refine zaa ?_;refine z8 2 fun Q0 q0=>?_;simp only[↓bO,go_sem,seval,zau,zaE,zao,zp,zba,hk,gM hp,za,hw,hln,hb1,hb2,zz,Ty.gaddL_step hp G []];refine q0 _ ?_;clear q0 Q0;simp only[go_sem];simp only[↓bO,go_sem,seval,zau,zaE,zao,zp,zba,hk,gM hp,za,hw,hln,hb1,hb2,zz,Ty.gaddL_step hp G []];refine y2 _ ?_;(try clear y2 Y2);refine zaP [] 9 rfl mixed (trivial) rfl ?_;dsimp only;refine zae 0 rfl (by kernel_rfl) (by kernel_rfl) (by kernel_rfl) (fun _ _ h=>h) fun Q0 q0=>?_;simp only[↓bO,go_sem,seval,zau,zaE,zao,zp,zba,hk,gM hp,za,hw,hln,hb1,hb2,zz,Ty.gaddL_step hp G []];refine q0 _ ?_;clear q0 Q0;refine zae 2 rfl (by kernel_rfl) (by kernel_rfl) (by kernel_rfl) (fun _ _ h=>h) fun Q0 q0=>?_;simp only[↓bO,go_sem,seval,zau,zaE,zao,zp,zba,hk,gM hp,za,hw,hln,hb1,hb2,zz,Ty.gaddL_step hp G []];refine q0 _ ?_;clear q0 Q0;refine za4 (i:=1) (j:=3) (by kernel_rfl) ?_ ?_
    ·
     refine zal rfl rfl fun Q0 q0=>?_;simp only[↓bO,go_sem,seval,zau,zaE,zao,zp,zba,hk,gM hp,za,hw,hln,hb1,hb2,zz,Ty.gaddL_step hp G []];refine q0 _ ⟨trivial,?_⟩;clear q0 Q0;refine zag (i:=3) (by kernel_rfl) ?_
     ·
      refine zal rfl rfl fun Q0 q0=>?_;simp only[↓bO,go_sem,seval,zau,zaE,zao,zp,zba,hk,gM hp,za,hw,hln,hb1,hb2,zz,Ty.gaddL_step hp G []];refine q0 _ ⟨trivial,?_⟩;clear q0 Q0;refine zag (i:=4) (by kernel_rfl) ?_
      ·
       refine zal rfl rfl fun Q0 q0=>?_;simp only[↓bO,go_sem,seval,zau,zaE,zao,zp,zba,hk,gM hp,za,hw,hln,hb1,hb2,zz,Ty.gaddL_step hp G []];refine GCalls.at (ih p hpm (Ty.gaddL (T.ps.take s) G []).1 hi1.inv (by omega)) (.cons (Ty.dataAgg p) .nil) (.v _) (i:=0) (j:=1) (k:=2) rfl rfl rfl (by decide) (by decide) (by decide) (by first | omega | (simp only;omega)) (by first | omega | (simp only;omega)) (by first | omega | (simp only;omega)) ?_;simp only[zaz,Nat.reduceEqDiff,↓reduceIte];(try simp only[bS,bA]);refine q0 _ ⟨trivial,?_⟩;clear q0 Q0;refine zag (i:=5) (by kernel_rfl) ?_
       ·
        refine zal rfl rfl fun Q0 q0=>?_;simp only[↓bO,go_sem,seval,↓zbX,↓zbT,↓zbY,↓zbW,↓zb0,↓zbS,↓zbR,↓zbQ,↓zbZ,↓zbo,↓zbp,↓zbq,zau,zaE,zao,zp,zba,hk,gM hp,za,hw,hln,hb1,hb2,zz,Ty.gaddL_step hp G []];refine q0 _ ⟨trivial,?_⟩;clear q0 Q0;refine zag (i:=6) (by kernel_rfl) ?_
        ·
         refine zal rfl rfl fun Q0 q0=>?_;simp only[↓bO,go_sem,seval,zau,zaE,zao,zp,zba,hk,gM hp,za,hw,hln,hb1,hb2,zz,Ty.gaddL_step hp G []];refine q0 _ ⟨trivial,?_⟩;clear q0 Q0;refine zae 7 rfl (by kernel_rfl) (by kernel_rfl) (by kernel_rfl) (fun _ _ h=>h) fun Q0 q0=>?_;simp only[↓bO,go_sem,seval,zau,zaE,zao,zp,zba,hk,gM hp,za,hw,hln,hb1,hb2,zz,Ty.gaddL_step hp G []];refine q0 _ ?_;clear q0 Q0;refine zag (i:=8) (by kernel_rfl) ?_
         ·
          refine zal rfl rfl fun Q0 q0=>?_;simp only[↓bO,go_sem,seval,zau,zaE,zao,zp,zba,hk,gM hp,za,hw,hln,hb1,hb2,zz,Ty.gaddL_step hp G []];refine q0 _ ⟨trivial,?_⟩;clear q0 Q0;refine zaG (by kernel_rfl) ?_;simp only[zaf,zad,zac];refine y1 _ ?_;(try clear y1 Y1);refine zaa ?_;simp only[↓bO,go_sem,seval,zau,zaE,zao,zp,zba,hk,gM hp,za,hw,hln,hb1,hb2,zz,Ty.gaddL_step hp G []];refine ⟨(s+1),(by omega),by omega,?_⟩;simp only[zaA,zaB,zaq,zaz,mB,zc,zb,seval,hk,gM hp,za,zL,hw,hln,hb1,hb2,zz,bL,Ty.gaddL_step hp G []];(first | (refine Weak.drops 1 6 rfl rfl (by simp only;omega) (by simp only;omega) ?_ ?_ ?_) | (refine Weak.drops 0 6 rfl rfl (by simp only;omega) (by simp only;omega) ?_ ?_ ?_));(· simp only[go_sem,Le.refl,Le.any,za,zP,zL]);(· simp only[UndL,UndOs,Ob.Und,and_true,true_and,and_self,Und.v,Und.any,Und.ptr,Und.map,Nat.reduceLT,Nat.zero_lt_succ,Und.tys,Und.tyAgg,Und.oslTys,Und.oslTys1,Und.clo0,Und.ty,Und.oslG,Und.oslI,Und.oslI1,Und.oslI2,Und.mapG]);· simp only[UndL,UndOs,Ob.Und,and_true,true_and,and_self,Und.v,Und.any,Und.ptr,Und.map,Nat.reduceLT,Nat.zero_lt_succ,Und.tys,Und.tyAgg,Und.oslTys,Und.oslTys1,Und.clo0,Und.ty,Und.oslG,Und.oslI,Und.oslI1,Und.oslI2,Und.mapG]
    ·
     refine zal rfl rfl fun Q0 q0=>?_;simp only[↓bO,go_sem,seval,zau,zaE,zao,zp,zba,hk,gM hp,za,hw,hln,hb1,hb2,zz,Ty.gaddL_step hp G []];refine q0 _ ⟨trivial,?_⟩;clear q0 Q0;refine za4 (i:=1) (j:=4) (by kernel_rfl) ?_ ?_
     ·
      refine zal rfl rfl fun Q0 q0=>?_;simp only[↓bO,go_sem,seval,zau,zaE,zao,zp,zba,hk,gM hp,za,hw,hln,hb1,hb2,zz,Ty.gaddL_step hp G []];refine q0 _ ⟨trivial,?_⟩;clear q0 Q0;refine zag (i:=4) (by kernel_rfl) ?_
      ·
       refine zal rfl rfl fun Q0 q0=>?_;simp only[↓bO,go_sem,seval,zau,zaE,zao,zp,zba,hk,gM hp,za,hw,hln,hb1,hb2,zz,Ty.gaddL_step hp G []];refine GCalls.at (ih p hpm (Ty.gaddL (T.ps.take s) G []).1 hi1.inv (by omega)) (.cons (Ty.dataAgg p) .nil) (.v _) (i:=0) (j:=1) (k:=2) rfl rfl rfl (by decide) (by decide) (by decide) (by first | omega | (simp only;omega)) (by first | omega | (simp only;omega)) (by first | omega | (simp only;omega)) ?_;simp only[zaz,Nat.reduceEqDiff,↓reduceIte];(try simp only[bS,bA]);refine q0 _ ⟨trivial,?_⟩;clear q0 Q0;refine zag (i:=5) (by kernel_rfl) ?_
       ·
        refine zal rfl rfl fun Q0 q0=>?_;simp only[↓bO,go_sem,seval,↓zbX,↓zbT,↓zbY,↓zbW,↓zb0,↓zbS,↓zbR,↓zbQ,↓zbZ,↓zbo,↓zbp,↓zbq,zau,zaE,zao,zp,zba,hk,gM hp,za,hw,hln,hb1,hb2,zz,Ty.gaddL_step hp G []];refine q0 _ ⟨trivial,?_⟩;clear q0 Q0;refine zag (i:=6) (by kernel_rfl) ?_
        ·
         refine zal rfl rfl fun Q0 q0=>?_;simp only[↓bO,go_sem,seval,zau,zaE,zao,zp,zba,hk,gM hp,za,hw,hln,hb1,hb2,zz,Ty.gaddL_step hp G []];refine q0 _ ⟨trivial,?_⟩;clear q0 Q0;refine zae 7 rfl (by kernel_rfl) (by kernel_rfl) (by kernel_rfl) (fun _ _ h=>h) fun Q0 q0=>?_;simp only[↓bO,go_sem,seval,zau,zaE,zao,zp,zba,hk,gM hp,za,hw,hln,hb1,hb2,zz,Ty.gaddL_step hp G []];refine q0 _ ?_;clear q0 Q0;refine zag (i:=8) (by kernel_rfl) ?_
         ·
          refine zal rfl rfl fun Q0 q0=>?_;simp only[↓bO,go_sem,seval,zau,zaE,zao,zp,zba,hk,gM hp,za,hw,hln,hb1,hb2,zz,Ty.gaddL_step hp G []];refine q0 _ ⟨trivial,?_⟩;clear q0 Q0;refine zaG (by kernel_rfl) ?_;simp only[zaf,zad,zac];refine y1 _ ?_;(try clear y1 Y1);refine zaa ?_;simp only[↓bO,go_sem,seval,zau,zaE,zao,zp,zba,hk,gM hp,za,hw,hln,hb1,hb2,zz,Ty.gaddL_step hp G []];refine ⟨(s+1),(by omega),by omega,?_⟩;simp only[zaA,zaB,zaq,zaz,mB,zc,zb,seval,hk,gM hp,za,zL,hw,hln,hb1,hb2,zz,bL,Ty.gaddL_step hp G []];(first | (refine Weak.drops 1 6 rfl rfl (by simp only;omega) (by simp only;omega) ?_ ?_ ?_) | (refine Weak.drops 0 6 rfl rfl (by simp only;omega) (by simp only;omega) ?_ ?_ ?_));(· simp only[go_sem,Le.refl,Le.any,za,zP,zL]);(· simp only[UndL,UndOs,Ob.Und,and_true,true_and,and_self,Und.v,Und.any,Und.ptr,Und.map,Nat.reduceLT,Nat.zero_lt_succ,Und.tys,Und.tyAgg,Und.oslTys,Und.oslTys1,Und.clo0,Und.ty,Und.oslG,Und.oslI,Und.oslI1,Und.oslI2,Und.mapG]);· simp only[UndL,UndOs,Ob.Und,and_true,true_and,and_self,Und.v,Und.any,Und.ptr,Und.map,Nat.reduceLT,Nat.zero_lt_succ,Und.tys,Und.tyAgg,Und.oslTys,Und.oslTys1,Und.clo0,Und.ty,Und.oslG,Und.oslI,Und.oslI1,Und.oslI2,Und.mapG]
     ·
      refine zal rfl rfl fun Q0 q0=>?_;simp only[↓bO,go_sem,seval,zau,zaE,zao,zp,zba,hk,gM hp,za,hw,hln,hb1,hb2,zz,Ty.gaddL_step hp G []];refine GCalls.at (ih p hpm (Ty.gaddL (T.ps.take s) G []).1 hi1.inv (by omega)) (.cons (Ty.dataAgg p) .nil) (.v _) (i:=0) (j:=1) (k:=2) rfl rfl rfl (by decide) (by decide) (by decide) (by first | omega | (simp only;omega)) (by first | omega | (simp only;omega)) (by first | omega | (simp only;omega)) ?_;simp only[zaz,Nat.reduceEqDiff,↓reduceIte];(try simp only[bS,bA]);refine q0 _ ⟨trivial,?_⟩;clear q0 Q0;refine za4 (i:=1) (j:=5) (by kernel_rfl) ?_ ?_
      ·
       refine zal rfl rfl fun Q0 q0=>?_;simp only[↓bO,go_sem,seval,zau,zaE,zao,zp,zba,hk,gM hp,za,hw,hln,hb1,hb2,zz,Ty.gaddL_step hp G []];refine q0 _ ⟨trivial,?_⟩;clear q0 Q0;refine zag (i:=5) (by kernel_rfl) ?_
       ·
        refine zal rfl rfl fun Q0 q0=>?_;simp only[↓bO,go_sem,seval,↓zbX,↓zbT,↓zbY,↓zbW,↓zb0,↓zbS,↓zbR,↓zbQ,↓zbZ,↓zbo,↓zbp,↓zbq,zau,zaE,zao,zp,zba,hk,gM hp,za,hw,hln,hb1,hb2,zz,Ty.gaddL_step hp G []];refine q0 _ ⟨trivial,?_⟩;clear q0 Q0;refine zag (i:=6) (by kernel_rfl) ?_
        ·
         refine zal rfl rfl fun Q0 q0=>?_;simp only[↓bO,go_sem,seval,zau,zaE,zao,zp,zba,hk,gM hp,za,hw,hln,hb1,hb2,zz,Ty.gaddL_step hp G []];refine q0 _ ⟨trivial,?_⟩;clear q0 Q0;refine zae 7 rfl (by kernel_rfl) (by kernel_rfl) (by kernel_rfl) (fun _ _ h=>h) fun Q0 q0=>?_;simp only[↓bO,go_sem,seval,zau,zaE,zao,zp,zba,hk,gM hp,za,hw,hln,hb1,hb2,zz,Ty.gaddL_step hp G []];refine q0 _ ?_;clear q0 Q0;refine zag (i:=8) (by kernel_rfl) ?_
         ·
          refine zal rfl rfl fun Q0 q0=>?_;simp only[↓bO,go_sem,seval,zau,zaE,zao,zp,zba,hk,gM hp,za,hw,hln,hb1,hb2,zz,Ty.gaddL_step hp G []];refine q0 _ ⟨trivial,?_⟩;clear q0 Q0;refine zaG (by kernel_rfl) ?_;simp only[zaf,zad,zac];refine y1 _ ?_;(try clear y1 Y1);refine zaa ?_;simp only[↓bO,go_sem,seval,zau,zaE,zao,zp,zba,hk,gM hp,za,hw,hln,hb1,hb2,zz,Ty.gaddL_step hp G []];refine ⟨(s+1),(by omega),by omega,?_⟩;simp only[zaA,zaB,zaq,zaz,mB,zc,zb,seval,hk,gM hp,za,zL,hw,hln,hb1,hb2,zz,bL,Ty.gaddL_step hp G []];(first | (refine Weak.drops 1 6 rfl rfl (by simp only;omega) (by simp only;omega) ?_ ?_ ?_) | (refine Weak.drops 0 6 rfl rfl (by simp only;omega) (by simp only;omega) ?_ ?_ ?_));(· simp only[go_sem,Le.refl,Le.any,za,zP,zL]);(· simp only[UndL,UndOs,Ob.Und,and_true,true_and,and_self,Und.v,Und.any,Und.ptr,Und.map,Nat.reduceLT,Nat.zero_lt_succ,Und.tys,Und.tyAgg,Und.oslTys,Und.oslTys1,Und.clo0,Und.ty,Und.oslG,Und.oslI,Und.oslI1,Und.oslI2,Und.mapG]);· simp only[UndL,UndOs,Ob.Und,and_true,true_and,and_self,Und.v,Und.any,Und.ptr,Und.map,Nat.reduceLT,Nat.zero_lt_succ,Und.tys,Und.tyAgg,Und.oslTys,Und.oslTys1,Und.clo0,Und.ty,Und.oslG,Und.oslI,Und.oslI1,Und.oslI2,Und.mapG]
      ·
       refine zal rfl rfl fun Q0 q0=>?_;simp only[↓bO,go_sem,seval,↓zbX,↓zbT,↓zbY,↓zbW,↓zb0,↓zbS,↓zbR,↓zbQ,↓zbZ,↓zbo,↓zbp,↓zbq,zau,zaE,zao,zp,zba,hk,gM hp,za,hw,hln,hb1,hb2,zz,Ty.gaddL_step hp G []];refine q0 _ ⟨trivial,?_⟩;clear q0 Q0;refine zag (i:=1) (by kernel_rfl) ?_
       ·
        refine zal rfl rfl fun Q0 q0=>?_;simp only[↓bO,go_sem,seval,zau,zaE,zao,zp,zba,hk,gM hp,za,hw,hln,hb1,hb2,zz,Ty.gaddL_step hp G []];refine q0 _ ⟨trivial,?_⟩;clear q0 Q0;refine zag (i:=6) (by kernel_rfl) ?_
        ·
         refine zal rfl rfl fun Q0 q0=>?_;simp only[↓bO,go_sem,seval,zau,zaE,zao,zp,zba,hk,gM hp,za,hw,hln,hb1,hb2,zz,Ty.gaddL_step hp G []];refine q0 _ ⟨trivial,?_⟩;clear q0 Q0;refine zae 7 rfl (by kernel_rfl) (by kernel_rfl) (by kernel_rfl) (fun _ _ h=>h) fun Q0 q0=>?_;simp only[↓bO,go_sem,seval,zau,zaE,zao,zp,zba,hk,gM hp,za,hw,hln,hb1,hb2,zz,Ty.gaddL_step hp G []];refine q0 _ ?_;clear q0 Q0;refine zag (i:=8) (by kernel_rfl) ?_
         ·
          refine zal rfl rfl fun Q0 q0=>?_;simp only[↓bO,go_sem,seval,zau,zaE,zao,zp,zba,hk,gM hp,za,hw,hln,hb1,hb2,zz,Ty.gaddL_step hp G []];refine q0 _ ⟨trivial,?_⟩;clear q0 Q0;refine zaG (by kernel_rfl) ?_;simp only[zaf,zad,zac];refine y1 _ ?_;(try clear y1 Y1);refine zaa ?_;simp only[↓bO,go_sem,seval,zau,zaE,zao,zp,zba,hk,gM hp,za,hw,hln,hb1,hb2,zz,Ty.gaddL_step hp G []];refine ⟨(s+1),(by omega),by omega,?_⟩;simp only[zaA,zaB,zaq,zaz,mB,zc,zb,seval,hk,gM hp,za,zL,hw,hln,hb1,hb2,zz,bL,Ty.gaddL_step hp G []];(first | (refine Weak.drops 1 6 rfl rfl (by simp only;omega) (by simp only;omega) ?_ ?_ ?_) | (refine Weak.drops 0 6 rfl rfl (by simp only;omega) (by simp only;omega) ?_ ?_ ?_));(· simp only[go_sem,Le.refl,Le.any,za,zP,zL]);(· simp only[UndL,UndOs,Ob.Und,and_true,true_and,and_self,Und.v,Und.any,Und.ptr,Und.map,Nat.reduceLT,Nat.zero_lt_succ,Und.tys,Und.tyAgg,Und.oslTys,Und.oslTys1,Und.clo0,Und.ty,Und.oslG,Und.oslI,Und.oslI1,Und.oslI2,Und.mapG]);· simp only[UndL,UndOs,Ob.Und,and_true,true_and,and_self,Und.v,Und.any,Und.ptr,Und.map,Nat.reduceLT,Nat.zero_lt_succ,Und.tys,Und.tyAgg,Und.oslTys,Und.oslTys1,Und.clo0,Und.ty,Und.oslG,Und.oslI,Und.oslI1,Und.oslI2,Und.mapG]
   ·
    (have hk:s=T.ps.length:=by simp at hb52;omega);refine zaV ?_;simp only[zaf,zad,zac,bA,Nat.reduceEqDiff,↓reduceIte];refine y0 _ ?_;(try clear y0 Y0);have hk9:s=T.ps.length:=hk;subst hk9;rw[z6];obtain ⟨hi1,hi2,hi3⟩:=Ty.gaddL_inv0 T.ps G hG;have hi4:=hi1.le;refine zab fun Y0 y0=>?_;refine zaa ?_;refine z8 2 fun Q0 q0=>?_;simp only[↓bO,go_sem,seval,zau,zaE,zao,zp,zba];refine q0 _ ?_;clear q0 Q0;simp only[go_sem];refine z8 1 fun Q0 q0=>?_;simp only[↓bO,go_sem,seval,zau,zaE,zao,zp,zba];refine ACalls.args (args':=[.ptr 0 0,.agg (GNode.cells ⟨T.k,0,0,(Ty.gaddL T.ps G []).2⟩)]) ⟨.refl _,Le.agg ⟨.refl _,.refl _,.refl _,Le.oslL,trivial⟩,trivial⟩ ?_;refine GCalls.at (zhJ (Ty.gaddL T.ps G []).1.N (Ty.gaddL T.ps G []).1.V ⟨T.k,0,0,(Ty.gaddL T.ps G []).2⟩ hi1.inv.size (by omega) (by simp only;omega) hi2) (.cons (.agg (GNode.data _)) .nil) (.v _) (i:=0) (j:=1) (k:=2) rfl rfl rfl (by decide) (by decide) (by decide) (by first | omega | (simp only;omega)) (by first | omega | (simp only;omega)) (by first | omega | (simp only;omega)) ?_;simp only[zaz,Nat.reduceEqDiff,↓reduceIte];(try simp only[bS,bA,zaf,zad,zac]);refine q0 _ ?_;clear q0 Q0;simp only[go_sem];simp only[↓bO,go_sem,seval,zau,zaE,zao,zp,zba];refine y0 _ ?_;(try clear y0 Y0);refine zam ?_;(try simp only[zaf,zad,zac,zaZ,zaW,zaC,bS,bA]);rw[Ty.gadd_more hk1 G];refine ⟨_,zai 0 (zci ((Ty.gaddL T.ps G []).1.N++[⟨T.k,0,zba (Ty.gaddL T.ps G []).1.N 1 (Ty.gaddL T.ps G []).2,(Ty.gaddL T.ps G []).2⟩]) ((Ty.gaddL T.ps G []).1.V)),⟨rfl,rfl⟩,.v _ _,zhS (by omega) _ _,?_,?_,by omega⟩
    ·
     refine Le.of_eq ?_;rfl
    · first | (refine ⟨3,?_,rfl⟩;first | rfl | (simp only[zci,zai,zk,zw,zz,zI,List.map_nil,zf,zi,zm,GNode.cells,z6,Nat.reduceAdd,zR];done))
end Go.Proofs.YtpfiliamceimmaaGreatDoor
namespace Go.Proofs.YtpfiliamceimmaaGreatDoor
open Go Go.RowKit
attribute [local irreducible] aops za1
def Ty.gAdd (t:Ty) (G:GS):GS×Int×Int:=if t.right=true then ((t.gadd G).1,(t.gadd G).2,0) else (G,0,1)
theorem lookup_at {α:Type} (l:List α) (i:Int) (h:0≤i∧i<l.length):∃x,l[i.toNat]?=some x:=⟨_,zd (by omega)⟩
def GS.there (G:GS) (i:Int):Bool:=decide (0≤i∧i<(G.N.length:Int))
def GS.parts (G:GS) (i:Int):List Int:=if 0≤i then ((G.N[i.toNat]?).map GNode.parts).getD [] else []
theorem GS.parts_in {G:GS} {i:Int} {x:GNode} (h:0≤i) (hx:G.N[i.toNat]?=some x):G.parts i=x.parts:=by rw[GS.parts,if_pos h,hx];rfl
theorem GS.parts_out {G:GS} {i:Int} (h:¬(0≤i∧i<(G.N.length:Int))):G.parts i=[]:=by
  rw[GS.parts];split;(· rw[List.getElem?_eq_none (by omega)];rfl);· rfl
theorem Add_calls (T:Ty) (G:GS) (hG:GInv G) (hl:G.N.length+T.cnt≤1099511627776):GCalls 143 [.ptr 0 0,.agg T.cells] (G.N) (G.V) (.tup [.v (.int .i64 (T.gAdd G).2.1),.v (.int .i64 (T.gAdd G).2.2)]) ((T.gAdd G).1.N) ((T.gAdd G).1.V):=by
  refine ACalls.clean (C:=fun r os=>r=_∧os=_) ?_;refine zah Tryz.func143 (by kernel_rfl) rfl (by rw[Tryz.ntmps143];simp) (fun hm=>?_);simp only[Tryz.ntmps143,Tryz.results143,zi,zm,Nat.reduceAdd,Nat.reduceSub,zt,zq,zh,zj];simp only[zci,zai,Nat.reduceAdd];refine zab fun Y0 y0=>?_;refine zaa ?_;simp only[↓bO,go_sem,seval];refine y0 _ ?_;(try clear y0 Y0);refine zab fun Y0 y0=>?_;refine zav ?_;refine zab fun Y1 y1=>?_;refine zaa ?_;simp only[↓bO,go_sem,seval];refine y1 _ ?_;(try clear y1 Y1);refine zan rfl (fun hb6=>?_) (fun hb6=>?_)
  ·
   cases hb6
  ·
   refine zab fun Y1 y1=>?_;refine zaa ?_;refine z8 1 fun Q0 q0=>?_;simp only[↓bO,go_sem,seval];refine q0 _ ?_;clear q0 Q0;simp only[go_sem];refine z8 1 fun Q0 q0=>?_;simp only[↓bO,go_sem,seval];refine APure.call (zcG T) ?_;(try simp only[bS,bA,zaf,zad,zac]);refine q0 _ ?_;clear q0 Q0;simp only[go_sem];simp only[↓bO,go_sem,seval];refine y1 _ ?_;(try clear y1 Y1);refine zan rfl (fun hb9=>?_) (fun hb9=>?_)
   ·
    refine zab fun Y1 y1=>?_;refine zaa ?_;simp only[↓bO,go_sem,seval];refine y1 _ ?_;(try clear y1 Y1);refine zam ?_;(try simp only[zaf,zad,zac,zaZ,zaW,zaC,bS,bA]);(have hr:T.right=false:=by simpa using hb9);(have hg:T.gAdd G=(G,0,1):=by rw[Ty.gAdd,hr];rfl);rw[hg];refine ⟨_,zai 0 (zci (G.N) (G.V)),⟨rfl,rfl⟩,.tup ⟨.v _ _,.v _ _,trivial⟩,zhS (by omega) _ _,?_,?_,by omega⟩
    ·
     refine Le.of_eq ?_;rfl
    · first | (refine ⟨1,?_,rfl⟩;first | rfl | (simp only[zci,zai,zk,zw,zz,zI,List.map_nil,zf,zi,zm,GNode.cells,z6,Nat.reduceAdd,zR];done))
   ·
    refine zar ?_;(try simp only[zaf,zad,zac]);refine y0 _ ?_;(try clear y0 Y0);refine zab fun Y0 y0=>?_;refine zaa ?_;refine z8 2 fun Q0 q0=>?_;simp only[↓bO,go_sem,seval];refine q0 _ ?_;clear q0 Q0;simp only[go_sem];refine z8 1 fun Q0 q0=>?_;simp only[↓bO,go_sem,seval];refine GCalls.at (add_calls T G hG (by omega)) (.cons (Ty.dataAgg T) .nil) (.v _) (i:=0) (j:=1) (k:=2) rfl rfl rfl (by decide) (by decide) (by decide) (by first | omega | (simp only;omega)) (by first | omega | (simp only;omega)) (by first | omega | (simp only;omega)) ?_;simp only[zaz,Nat.reduceEqDiff,↓reduceIte];(try simp only[bS,bA,zaf,zad,zac]);refine q0 _ ?_;clear q0 Q0;simp only[go_sem];simp only[↓bO,go_sem,seval];refine y0 _ ?_;(try clear y0 Y0);refine zam ?_;(try simp only[zaf,zad,zac,zaZ,zaW,zaC,bS,bA]);(have hr:T.right=true:=by simpa using hb9);(have hg:T.gAdd G=((T.gadd G).1,(T.gadd G).2,0):=by rw[Ty.gAdd,hr];rfl);rw[hg];refine ⟨_,zai 0 (zci ((T.gadd G).1.N) ((T.gadd G).1.V)),⟨rfl,rfl⟩,.tup ⟨.v _ _,.v _ _,trivial⟩,zhS (by omega) _ _,?_,?_,by omega⟩
    ·
     refine Le.of_eq ?_;rfl
    · first | (refine ⟨1,?_,rfl⟩;first | rfl | (simp only[zci,zai,zk,zw,zz,zI,List.map_nil,zf,zi,zm,GNode.cells,z6,Nat.reduceAdd,zR];done))
theorem zfh (G:GS) (i:Int):GCalls 155 [.ptr 0 0,.v (.int .i64 i)] (G.N) (G.V) (.v (.bool (G.there i))) (G.N) (G.V):=by
  refine ACalls.clean (C:=fun r os=>r=_∧os=_) ?_;refine zah Tryz.func155 (by kernel_rfl) rfl (by rw[Tryz.ntmps155];simp) (fun hm=>?_);simp only[Tryz.ntmps155,Tryz.results155,zi,zm,Nat.reduceAdd,Nat.reduceSub,zt,zq,zh,zj];simp only[zci,zai,Nat.reduceAdd];refine zab fun Y0 y0=>?_;refine zaa ?_;simp only[↓bO,go_sem,seval];refine y0 _ ?_;(try clear y0 Y0);refine zab fun Y0 y0=>?_;refine zaa ?_;refine z8 3 fun Q0 q0=>?_;simp only[↓bO,go_sem,seval];refine q0 _ ?_;clear q0 Q0;simp only[go_sem];refine zaN 7 rfl (fun hc7=>?_) (fun hc7=>?_)
  ·
   simp only[zc,zb];refine z8 4 fun Q0 q0=>?_;simp only[↓bO,go_sem,seval];refine q0 _ ?_;clear q0 Q0;simp only[go_sem];refine zaN 11 rfl (fun hc11=>?_) (fun hc11=>?_)
   ·
    simp only[zc,zb];(iterate 2 (refine z8 4 fun Q0 q0=>?_;simp only[↓bO,go_sem,seval];refine q0 _ ?_;clear q0 Q0;simp only[go_sem]));simp only[↓bO,go_sem,seval];refine y0 _ ?_;(try clear y0 Y0);refine zam ?_;(try simp only[zaf,zad,zac,zaZ,zaW,zaC,bS,bA]);refine ⟨_,zai 0 (zci (G.N) (G.V)),⟨rfl,rfl⟩,.v _ _,zhS (by omega) _ _,?_,?_,by omega⟩
    ·
     refine Le.of_eq ?_;refine congrArg (fun b=>AV.v (.bool b)) ?_;rw[GS.there,Bool.eq_iff_iff];simp only[zA,zQ,zV,false_iff,ge_iff_le] at *;try omega
    · first | (refine ⟨0,?_,rfl⟩;first | rfl | (simp only[zci,zai,zk,zw,zz,zI,List.map_nil,zf,zi,zm,GNode.cells,z6,Nat.reduceAdd,zR];done))
   ·
    simp only[zc,zb];(iterate 2 (refine z8 4 fun Q0 q0=>?_;simp only[↓bO,go_sem,seval];refine q0 _ ?_;clear q0 Q0;simp only[go_sem]));simp only[↓bO,go_sem,seval];refine y0 _ ?_;(try clear y0 Y0);refine zam ?_;(try simp only[zaf,zad,zac,zaZ,zaW,zaC,bS,bA]);refine ⟨_,zai 0 (zci (G.N) (G.V)),⟨rfl,rfl⟩,.v _ _,zhS (by omega) _ _,?_,?_,by omega⟩
    ·
     refine Le.of_eq ?_;refine congrArg (fun b=>AV.v (.bool b)) ?_;rw[GS.there,Bool.eq_iff_iff];simp only[zA,zQ,zV,false_iff,ge_iff_le] at *;try omega
    · first | (refine ⟨0,?_,rfl⟩;first | rfl | (simp only[zci,zai,zk,zw,zz,zI,List.map_nil,zf,zi,zm,GNode.cells,z6,Nat.reduceAdd,zR];done))
  ·
   simp only[zc,zb];cases hc7
theorem Len_calls (G:GS):GCalls 144 [.ptr 0 0] (G.N) (G.V) (.v (.int .i64 (G.N.length:Int))) (G.N) (G.V):=by
  refine ACalls.clean (C:=fun r os=>r=_∧os=_) ?_;refine zah Tryz.func144 (by kernel_rfl) rfl (by rw[Tryz.ntmps144];simp) (fun hm=>?_);simp only[Tryz.ntmps144,Tryz.results144,zi,zm,Nat.reduceAdd,Nat.reduceSub,zt,zq,zh,zj];simp only[zci,zai,Nat.reduceAdd];refine zab fun Y0 y0=>?_;refine zaa ?_;simp only[↓bO,go_sem,seval];refine y0 _ ?_;(try clear y0 Y0);refine zab fun Y0 y0=>?_;refine zab fun Y1 y1=>?_;refine zaa ?_;simp only[↓bO,go_sem,seval];refine y1 _ ?_;(try clear y1 Y1);refine zan rfl (fun hb4=>?_) (fun hb4=>?_)
  ·
   cases hb4
  ·
   refine zar ?_;(try simp only[zaf,zad,zac]);refine y0 _ ?_;(try clear y0 Y0);refine zab fun Y0 y0=>?_;refine zaa ?_;refine z8 4 fun Q0 q0=>?_;simp only[↓bO,go_sem,seval];refine q0 _ ?_;clear q0 Q0;simp only[go_sem];simp only[↓bO,go_sem,seval];refine y0 _ ?_;(try clear y0 Y0);refine zam ?_;(try simp only[zaf,zad,zac,zaZ,zaW,zaC,bS,bA]);refine ⟨_,zai 0 (zci (G.N) (G.V)),⟨rfl,rfl⟩,.v _ _,zhS (by omega) _ _,?_,?_,by omega⟩
   ·
    refine Le.of_eq ?_;rfl
   · first | (refine ⟨0,?_,rfl⟩;first | rfl | (simp only[zci,zai,zk,zw,zz,zI,List.map_nil,zf,zi,zm,GNode.cells,z6,Nat.reduceAdd,zR];done))
theorem zdB (G:GS) (i:Int) (hs:∀x∈G.N,x.parts.length≤1099511627776):GCalls 146 [.ptr 0 0,.v (.int .i64 i)] (G.N) (G.V) (.sl 1 ((G.parts i).map intC)) (G.N) (G.V):=by
  refine ACalls.clean (C:=fun r os=>r=_∧os=_) ?_;refine zah Tryz.func146 (by kernel_rfl) rfl (by rw[Tryz.ntmps146];simp) (fun hm=>?_);simp only[Tryz.ntmps146,Tryz.results146,zi,zm,Nat.reduceAdd,Nat.reduceSub,zt,zq,zh,zj];simp only[zci,zai,Nat.reduceAdd];refine zab fun Y0 y0=>?_;refine zaa ?_;simp only[↓bO,go_sem,seval,GNode.cells];refine y0 _ ?_;(try clear y0 Y0);refine zab fun Y0 y0=>?_;refine zab fun Y1 y1=>?_;refine zaa ?_;refine z8 2 fun Q0 q0=>?_;simp only[↓bO,go_sem,seval,GNode.cells];refine q0 _ ?_;clear q0 Q0;simp only[go_sem];refine z8 1 fun Q0 q0=>?_;simp only[↓bO,go_sem,seval,GNode.cells];refine GCalls.at (zfh G i) (.cons (.v _) .nil) (.v _) (i:=0) (j:=1) (k:=2) rfl rfl rfl (by decide) (by decide) (by decide) (by first | omega | (simp only;omega)) (by first | omega | (simp only;omega)) (by first | omega | (simp only;omega)) ?_;simp only[zaz,Nat.reduceEqDiff,↓reduceIte];(try simp only[bS,bA,zaf,zad,zac]);refine q0 _ ?_;clear q0 Q0;simp only[go_sem];simp only[↓bO,go_sem,seval,GNode.cells];refine y1 _ ?_;(try clear y1 Y1);refine zan rfl (fun hb8=>?_) (fun hb8=>?_)
  ·
   (have hi:¬(0≤i∧i<(G.N.length:Int)):=by simp[GS.there] at hb8;omega);refine zab fun Y1 y1=>?_;refine zaa ?_;simp only[↓bO,go_sem,seval,GNode.cells];refine y1 _ ?_;(try clear y1 Y1);refine zam ?_;(try simp only[zaf,zad,zac,zaZ,zaW,zaC,bS,bA]);rw[GS.parts_out hi];refine ⟨_,zai 0 (zci (G.N) (G.V)),⟨rfl,rfl⟩,.data (za6 _),zhS (by omega) _ _,?_,?_,by omega⟩;(· refine Le.slNil 1);· first | (refine ⟨0,?_,rfl⟩;first | rfl | (simp only[zci,zai,zk,zw,zz,zI,List.map_nil,zf,zi,zm,GNode.cells,z6,Nat.reduceAdd,zR];done)) | (refine ⟨1,?_,rfl⟩;first | rfl | (simp only[zci,zai,zk,zw,zz,zI,List.map_nil,zf,zi,zm,GNode.cells,z6,Nat.reduceAdd,zR];done))
  ·
   (have hi:0≤i∧i<(G.N.length:Int):=by simp[GS.there] at hb8;omega);obtain ⟨hi0,hi1⟩:=hi;obtain ⟨x,hx⟩:=lookup_at G.N i ⟨hi0,hi1⟩;have hxl:=hs x (zl hx);(have hb1:x.parts.length * 8≤140737488355328:=by omega);(have hb2:x.parts.length≤maxLen:=by simp only[maxLen];omega);have hon:((x.parts.map intC).all fun y=>y.all AV.one)=true:=ints_one _;refine zar ?_;(try simp only[zaf,zad,zac]);refine y0 _ ?_;(try clear y0 Y0);refine zab fun Y0 y0=>?_;refine zaa ?_;(iterate 2 (refine z8 4 fun Q0 q0=>?_;simp only[↓bO,go_sem,seval,GNode.cells,hi0,hi1,hb1,hb2,hon,gM hx];refine q0 _ ?_;clear q0 Q0;simp only[go_sem]));simp only[↓bO,go_sem,seval,GNode.cells,hi0,hi1,hb1,hb2,hon,gM hx];refine y0 _ ?_;(try clear y0 Y0);refine zam ?_;(try simp only[zaf,zad,zac,zaZ,zaW,zaC,bS,bA]);rw[GS.parts_in hi0 hx];refine ⟨_,zai 0 (zci (G.N) (G.V)),⟨rfl,rfl⟩,.data (za6 _),zhS (by omega) _ _,?_,?_,by omega⟩;(· refine Le.oslL);· first | (refine ⟨0,?_,rfl⟩;first | rfl | (simp only[zci,zai,zk,zw,zz,zI,List.map_nil,zf,zi,zm,GNode.cells,z6,Nat.reduceAdd,zR];done)) | (refine ⟨1,?_,rfl⟩;first | rfl | (simp only[zci,zai,zk,zw,zz,zI,List.map_nil,zf,zi,zm,GNode.cells,z6,Nat.reduceAdd,zR];done))
end Go.Proofs.YtpfiliamceimmaaGreatDoor
namespace Go.Proofs.YtpfiliamceimmaaGreatDoor
open Go Go.RowKit
attribute [local irreducible] aops za1
def rObs (N:List GNode) (V:List (Int×Int)):List Ob:=[.cells 169 [.osl 1 4 (N.map GNode.cells),.map 2],.tok 194 4 N.length,.map (V.map vC),.cells 124 [.ptr 0 0],.cells 74 [.clo 0 [.ptr 3 0,.ptr 4 0]]]
def ziZ (i j k a b:Nat) (N:List GNode) (V:List (Int×Int)):List Ob:=[.cells 169 [.osl j 4 (N.map GNode.cells),.map k],.tok 194 4 N.length,.map (V.map vC),.cells 124 [.ptr i 0],.cells 74 [.clo 0 [.ptr a 0,.ptr b 0]]]
def RCalls (f:Nat) (args:List AV) (N:List GNode) (V:List (Int×Int)) (R:AV):Prop :=
  ACalls Tryz.prog f args (zai 0 (rObs N V)) 5 fun r os n=>(r=R∧os=zai 0 (rObs N V))∧n=5
theorem RCalls.at {f:Nat} {args args':List AV} {N:List GNode} {V:List (Int×Int)} {R:AV} (h:RCalls f args N V R) (hR:Data R) {i j k a b:Nat} {os':Os} {nx':Nat} (hargs:RenL (zbs [i,j,k,a,b] nx') args args')
    (hi:zaJ os' i=some (.cells 169 [.osl j 4 (N.map GNode.cells),.map k])) (hj:zaJ os' j=some (.tok 194 4 N.length)) (hk:zaJ os' k=some (.map (V.map vC)))
    (ha:zaJ os' a=some (.cells 124 [.ptr i 0])) (hb:zaJ os' b=some (.cells 74 [.clo 0 [.ptr a 0,.ptr b 0]]))
    (hnd:[i,j,k,a,b].Nodup) (hlt:∀x∈[i,j,k,a,b],x<nx') {Q':AV→Os→Nat→Prop}
    (hq:Q' R (zaq os' ([i,j,k,a,b].zip (ziZ i j k a b N V))) nx'):ACalls Tryz.prog f args' os' nx' Q':=by
  have ren:RenOs (zbs [i,j,k,a,b] nx') 0 (rObs N V) (ziZ i j k a b N V) :=
    ⟨.cells ⟨.osl rfl (GNode.dataRows N),.map rfl,trivial⟩,.tok,.map (zbb V),.cells ⟨.ptr rfl,trivial⟩,.cells ⟨.clo ⟨.ptr rfl,.ptr rfl,trivial⟩,trivial⟩,trivial⟩
  exact ACalls.at (args:=args) (obs:=rObs N V) (obs1:=rObs N V) (obs':=ziZ i j k a b N V) (obs1':=ziZ i j k a b N V) [i,j,k,a,b] (h.mono fun r os n ⟨⟨h1,h2⟩,h3⟩=>⟨h1,h2,h3⟩) rfl rfl hnd hlt hargs (.data hR) ren ⟨hi,hj,hk,ha,hb,trivial⟩ ren hq
def gty (N:List GNode):Nat→Int→Ty
  | 0,_=>.mk 0 0 []
  | f+1,i=>match N[i.toNat]? with | none=>.mk 0 0 [] | some x=>.mk x.k x.n (x.parts.map (gty N f))
def tyAt (N:List GNode) (i:Int):Ty:=gty N (i.toNat+1) i
def GWf (N:List GNode):Prop:=∀(j:Nat) (x:GNode),N[j]?=some x→(∀p∈x.parts,0≤p∧p<(j:Int))∧x.parts.length≤1099511627776
theorem gty_fuel {N:List GNode} (h:GWf N):∀(n:Nat) (f:Nat) (i:Int),0≤i→i.toNat≤n→i.toNat<f→gty N f i=tyAt N i:=by
  intro n
  induction n with
  | zero =>
    intro f i h0 h1 h2;obtain ⟨f,rfl⟩:∃g,f=g+1:=⟨f-1,by omega⟩;simp only[tyAt,gty]
    cases hx:N[i.toNat]? with
    | none=>rfl
    | some x =>
      have he:x.parts=[]:=by
        cases hp:x.parts with
        | nil=>rfl
        | cons p ps=>have:=(h _ x hx).1 p (by rw[hp];simp);omega
      simp[he]
  | succ n ih =>
    intro f i h0 h1 h2;obtain ⟨f,rfl⟩:∃g,f=g+1:=⟨f-1,by omega⟩;simp only[tyAt,gty]
    cases hx:N[i.toNat]? with
    | none=>rfl
    | some x =>
      have:x.parts.map (gty N f)=x.parts.map (gty N i.toNat):=List.map_congr_left fun p hp=>by
        have:=(h _ x hx).1 p hp;rw[ih f p this.1 (by omega) (by omega),ih i.toNat p this.1 (by omega) (by omega)]
      simp[this]
theorem tyAt_eq {N:List GNode} (h:GWf N) {i:Int} {x:GNode} (hx:N[i.toNat]?=some x):tyAt N i=.mk x.k x.n (x.parts.map (tyAt N)):=by
  simp only[tyAt,gty,hx];(congr 1);refine List.map_congr_left fun p hp=>?_;have:=(h _ x hx).1 p hp;exact gty_fuel h i.toNat _ p this.1 (by omega) (by omega)
def GS.type (G:GS) (i most:Int):Ty×Int :=
  if G.there i=false then (.mk 0 0 [],9) else if most<((G.N[i.toNat]?).map GNode.size).getD 0 then (.mk 0 0 [],6) else (tyAt G.N i,0)
theorem GS.type_in {G:GS} {i most:Int} {x:GNode} (h:G.there i=true) (hx:G.N[i.toNat]?=some x):G.type i most=if most<x.size then (.mk 0 0 [],6) else (tyAt G.N i,0):=by
  rw[GS.type,if_neg (by rw[h];simp),hx];rfl
end Go.Proofs.YtpfiliamceimmaaGreatDoor
namespace Go.Proofs.YtpfiliamceimmaaGreatDoor
open Go Go.RowKit
attribute [local irreducible] aops za1
theorem FAdd_f (F:FS) (hn:F.up.length<1048576) (hl:F.rank.length=F.up.length):FCalls (σ:=Unit) 142 [.ptr 0 0] (F) (fun s=>s.1=⟨F.up++[F.up.length],F.rank++[0],IntKind.i64.wrap (F.sets+1),F.steps⟩) (fun s=>.v (.int .i64 (F.up.length:Int))):=by
  refine ACalls.clean (C:=fun r os=>∃s:FS×Unit,(s.1=⟨F.up++[F.up.length],F.rank++[0],IntKind.i64.wrap (F.sets+1),F.steps⟩)∧r=(fun s:Unit=>.v (.int .i64 (F.up.length:Int))) s.2∧os=zai 0 (zcK s.1)) ?_;refine zah Tryz.func142 (by kernel_rfl) rfl (by rw[Tryz.ntmps142];simp) (fun hm=>?_);simp only[Tryz.ntmps142,Tryz.results142,zi,zm,Nat.reduceAdd,Nat.reduceSub,zt,zq,zh,zj];simp only[zcK,zai,Nat.reduceAdd];(have hb1:(F.up.length+1) * 8≤140737488355328:=by omega);(have hb2:F.up.length+1≤maxLen:=by simp only[maxLen];omega);(have hb3:(F.rank.length+1) * 8≤140737488355328:=by omega);(have hb4:F.rank.length+1≤maxLen:=by simp only[maxLen];omega);refine zab fun Y0 y0=>?_;refine zaa ?_;simp only[↓bO,go_sem,seval,hb1,hb2,hb3,hb4,zcd,za7,zf];refine y0 _ ?_;(try clear y0 Y0);refine zab fun Y0 y0=>?_;refine zab fun Y1 y1=>?_;refine zaa ?_;refine z8 3 fun Q0 q0=>?_;simp only[↓bO,go_sem,seval,hb1,hb2,hb3,hb4,zcd,za7,zf];refine q0 _ ?_;clear q0 Q0;simp only[go_sem];refine zaN 6 rfl (fun hc6=>?_) (fun hc6=>?_)
  ·
   simp only[zc,zb];cases hc6
  ·
   simp only[zc,zb];(iterate 2 (refine z8 3 fun Q0 q0=>?_;simp only[↓bO,go_sem,seval,hb1,hb2,hb3,hb4,zcd,za7,zf];refine q0 _ ?_;clear q0 Q0;simp only[go_sem]));simp only[↓bO,go_sem,seval,hb1,hb2,hb3,hb4,zcd,za7,zf];refine y1 _ ?_;(try clear y1 Y1);refine zan rfl (fun hb13=>?_) (fun hb13=>?_)
   ·
    exact absurd hb13 (by simp;omega)
   ·
    refine zar ?_;(try simp only[zaf,zad,zac]);refine y0 _ ?_;(try clear y0 Y0);refine zab fun Y0 y0=>?_;refine zaa ?_;refine z8 3 fun Q0 q0=>?_;simp only[↓bO,go_sem,seval,hb1,hb2,hb3,hb4,zcd,za7,zf];refine q0 _ ?_;clear q0 Q0;simp only[go_sem];simp only[↓bO,go_sem,seval,hb1,hb2,hb3,hb4,zcd,za7,zf];refine y0 _ ?_;(try clear y0 Y0);refine zab fun Y0 y0=>?_;refine zaa ?_;(iterate 2 (refine z8 3 fun Q0 q0=>?_;simp only[↓bO,go_sem,seval,hb1,hb2,hb3,hb4,zcd,za7,zf];refine q0 _ ?_;clear q0 Q0;simp only[go_sem]));refine z8 3 fun Q0 q0=>?_;simp only[↓bO,go_sem,seval,↓zbX,↓zbT,↓zbY,↓zbW,↓zb0,↓zbS,↓zbR,↓zbQ,↓zbZ,↓zbo,↓zbp,↓zbq,hb1,hb2,hb3,hb4,zcd,za7,zf];refine q0 _ ?_;clear q0 Q0;simp only[go_sem];simp only[↓bO,go_sem,seval,hb1,hb2,hb3,hb4,zcd,za7,zf];refine y0 _ ?_;(try clear y0 Y0);refine zab fun Y0 y0=>?_;refine zaa ?_;refine z8 3 fun Q0 q0=>?_;simp only[↓bO,go_sem,seval,hb1,hb2,hb3,hb4,zcd,za7,zf];refine q0 _ ?_;clear q0 Q0;simp only[go_sem];refine z8 3 fun Q0 q0=>?_;simp only[↓bO,go_sem,seval,↓zbX,↓zbT,↓zbY,↓zbW,↓zb0,↓zbS,↓zbR,↓zbQ,↓zbZ,↓zbo,↓zbp,↓zbq,hb1,hb2,hb3,hb4,zcd,za7,zf];refine q0 _ ?_;clear q0 Q0;simp only[go_sem];refine z8 3 fun Q0 q0=>?_;simp only[↓bO,go_sem,seval,hb1,hb2,hb3,hb4,zcd,za7,zf];refine q0 _ ?_;clear q0 Q0;simp only[go_sem];simp only[↓bO,go_sem,seval,hb1,hb2,hb3,hb4,zcd,za7,zf];refine y0 _ ?_;(try clear y0 Y0);refine zab fun Y0 y0=>?_;refine zaa ?_;(iterate 2 (refine z8 3 fun Q0 q0=>?_;simp only[↓bO,go_sem,seval,hb1,hb2,hb3,hb4,zcd,za7,zf];refine q0 _ ?_;clear q0 Q0;simp only[go_sem]));simp only[↓bO,go_sem,seval,hb1,hb2,hb3,hb4,zcd,za7,zf];refine y0 _ ?_;(try clear y0 Y0);refine zab fun Y0 y0=>?_;refine zaa ?_;simp only[↓bO,go_sem,seval,hb1,hb2,hb3,hb4,zcd,za7,zf];refine y0 _ ?_;(try clear y0 Y0);refine zam ?_;(try simp only[zaf,zad,zac,zaZ,zaW,zaC,bS,bA]);refine ⟨_,zai 0 (zcK (⟨F.up++[F.up.length],F.rank++[0],IntKind.i64.wrap (F.sets+1),F.steps⟩)),⟨(⟨F.up++[F.up.length],F.rank++[0],IntKind.i64.wrap (F.sets+1),F.steps⟩,()),?_,rfl,rfl⟩,.v _ _,fUnd (by omega) _,?_,?_,by omega⟩;· rfl
    ·
     exact Le.refl _
    · first | (refine ⟨0,rfl,rfl⟩) | (refine ⟨0,by simp only[zcK,zai,zw,zk,Nat.reduceAdd,zf,zi,zm,zR],rfl⟩)
theorem zdj (G:GS) (i:Int) (x:GNode) (hi:0≤i) (hx:G.N[i.toNat]?=some x):GCalls 130 [.ptr 0 0,.v (.int .i64 i)] (G.N) (G.V) (.v (.int .i64 x.k)) (G.N) (G.V):=by
  refine ACalls.clean (C:=fun r os=>r=_∧os=_) ?_;refine zah Tryz.func130 (by kernel_rfl) rfl (by rw[Tryz.ntmps130];simp) (fun hm=>?_);simp only[Tryz.ntmps130,Tryz.results130,zi,zm,Nat.reduceAdd,Nat.reduceSub,zt,zq,zh,zj];simp only[zci,zai,Nat.reduceAdd];(have hi2:i<(G.N.length:Int):=by have:=(ze.1 hx).1;omega);refine zab fun Y0 y0=>?_;refine zaa ?_;simp only[↓bO,go_sem,seval,GNode.cells,hi,hi2,gM hx];refine y0 _ ?_;(try clear y0 Y0);refine zab fun Y0 y0=>?_;refine zab fun Y1 y1=>?_;refine zaa ?_;refine z8 2 fun Q0 q0=>?_;simp only[↓bO,go_sem,seval,GNode.cells,hi,hi2,gM hx];refine q0 _ ?_;clear q0 Q0;simp only[go_sem];refine z8 1 fun Q0 q0=>?_;simp only[↓bO,go_sem,seval,GNode.cells,hi,hi2,gM hx];refine GCalls.at (zfh G i) (.cons (.v _) .nil) (.v _) (i:=0) (j:=1) (k:=2) rfl rfl rfl (by decide) (by decide) (by decide) (by first | omega | (simp only;omega)) (by first | omega | (simp only;omega)) (by first | omega | (simp only;omega)) ?_;simp only[zaz,Nat.reduceEqDiff,↓reduceIte];(try simp only[bS,bA,zaf,zad,zac]);refine q0 _ ?_;clear q0 Q0;simp only[go_sem];simp only[↓bO,go_sem,seval,GNode.cells,hi,hi2,gM hx];refine y1 _ ?_;(try clear y1 Y1);refine zan rfl (fun hb8=>?_) (fun hb8=>?_)
  ·
   exact absurd hb8 (by simp[GS.there];omega)
  ·
   refine zar ?_;(try simp only[zaf,zad,zac]);refine y0 _ ?_;(try clear y0 Y0);refine zab fun Y0 y0=>?_;refine zaa ?_;(iterate 2 (refine z8 4 fun Q0 q0=>?_;simp only[↓bO,go_sem,seval,GNode.cells,hi,hi2,gM hx];refine q0 _ ?_;clear q0 Q0;simp only[go_sem]));simp only[↓bO,go_sem,seval,GNode.cells,hi,hi2,gM hx];refine y0 _ ?_;(try clear y0 Y0);refine zam ?_;(try simp only[zaf,zad,zac,zaZ,zaW,zaC,bS,bA]);refine ⟨_,zai 0 (zci (G.N) (G.V)),⟨rfl,rfl⟩,.v _ _,zhS (by omega) _ _,?_,?_,by omega⟩
   ·
    refine Le.of_eq ?_;rfl
   · first | (refine ⟨0,?_,rfl⟩;first | rfl | (simp only[zci,zai,zk,zw,zz,zI,List.map_nil,zf,zi,zm,GNode.cells,z6,Nat.reduceAdd,zR];done))
theorem tick_at {id t:Nat} {n:Int} {cs:List AV} {os:Os} {nx:Nat} (h:zaJ os id=some (.cells t (.v (.int .i64 n)::cs))) {Q:AV→Os→Nat→Prop} (hq:Q (.tup []) (zaz os id (.cells t (.v (.int .i64 (IntKind.i64.wrap (n+1)))::cs))) nx):ACalls Tryz.prog 122 [.ptr id 0] os nx Q:=by
  refine zah Tryz.func122 (by kernel_rfl) rfl (by rw[Tryz.ntmps122];simp) (fun hm=>?_);simp only[Tryz.ntmps122,Tryz.results122,zi,zm,Nat.reduceAdd,Nat.reduceSub,zt,zq,zh,zj];refine zaa ?_;refine z8 4 fun Q0 q0=>?_;simp only[↓bO,go_sem,seval,h,Nat.le_add_left];refine q0 _ ?_;clear q0 Q0;simp only[go_sem];simp only[↓bO,go_sem,seval,h,Nat.le_add_left];(try simp only[zaf,zad,zac,zaZ,zaW,zaC,bS,bA]);exact hq
structure CS where
  G:GS
  F:FS
  W:List Int
  steps:Int
  clash:Bool
def zaL (i1 i2 i3 i4 i5 i6 i7:Nat) (S:CS):List Ob:=[.cells 127 [.v (.int .i64 S.steps),.ptr i1 0,.ptr i4 0,.own i7 S.W.length,.v (.bool S.clash)],.cells 169 [.osl i2 4 (S.G.N.map GNode.cells),.map i3],.tok 194 4 S.G.N.length,.map (S.G.V.map vC),
  .cells 184 [.own i5 S.F.up.length,.own i6 S.F.rank.length,.v (.int .i64 S.F.sets),.v (.int .i64 S.F.steps)],.row 3 1 (S.F.up.map nC),.row 3 1 (S.F.rank.map intC),.row 3 1 (S.W.map intC)]
def zaF (S:CS):List Ob:=[.cells 127 [.v (.int .i64 S.steps),.ptr 1 0,.ptr 4 0,.own 7 S.W.length,.v (.bool S.clash)],.cells 169 [.osl 2 4 (S.G.N.map GNode.cells),.map 3],.tok 194 4 S.G.N.length,.map (S.G.V.map vC),
  .cells 184 [.own 5 S.F.up.length,.own 6 S.F.rank.length,.v (.int .i64 S.F.sets),.v (.int .i64 S.F.steps)],.row 3 1 (S.F.up.map nC),.row 3 1 (S.F.rank.map intC),.row 3 1 (S.W.map intC)]
theorem zcp {n:Nat} (h:8≤n) (S:CS):UndOs n (zai 0 (zaF S)) :=
  ⟨by omega,⟨.v _ _,.ptr (by omega),.ptr (by omega),.own (by omega),.v _ _,trivial⟩,by omega,⟨.osl (by omega) (.data (.sl (GNode.dataRows S.G.N))),.map (by omega),trivial⟩,by omega,trivial,by omega,fun p hp=>.data (zbb S.G.V p hp),
    by omega,⟨.own (by omega),.own (by omega),.v _ _,.v _ _,trivial⟩,by omega,Und.rowI (zbg _),by omega,Und.rowI (za2 _),by omega,Und.rowI (za2 _),trivial⟩
theorem renC (S:CS) (i0 i1 i2 i3 i4 i5 i6 i7 nx:Nat):RenOs (zbs [i0,i1,i2,i3,i4,i5,i6,i7] nx) 0 (zaF S) (zaL i1 i2 i3 i4 i5 i6 i7 S) :=
  ⟨.cells ⟨.v _,.ptr rfl,.ptr rfl,.own rfl,.v _,trivial⟩,.cells ⟨.osl rfl (GNode.dataRows S.G.N),.map rfl,trivial⟩,.tok,.map (zbb S.G.V),.cells ⟨.own rfl,.own rfl,.v _,.v _,trivial⟩,.row (zbg _),.row (za2 _),.row (za2 _),trivial⟩
def CCalls {σ:Type} (f:Nat) (args:List AV) (S:CS) (C:CS×σ→Prop) (R:σ→AV):Prop :=
  ACalls Tryz.prog f args (zai 0 (zaF S)) 8 fun r os n=>(∃s:CS×σ,C s∧r=R s.2∧os=zai 0 (zaF s.1))∧n=8
theorem CCalls.at {σ:Type} {f:Nat} {args:List AV} {S:CS} {C:CS×σ→Prop} {R:σ→AV} (h:CCalls f (.ptr 0 0::args) S C R) (hd:DataL args) (hR:∀s,Data (R s)) {i0 i1 i2 i3 i4 i5 i6 i7:Nat} {os':Os} {nx':Nat}
    (hnd:[i0,i1,i2,i3,i4,i5,i6,i7].Nodup) (hlt:∀x∈[i0,i1,i2,i3,i4,i5,i6,i7],x<nx') (hg:GetsO os' [i0,i1,i2,i3,i4,i5,i6,i7] (zaL i1 i2 i3 i4 i5 i6 i7 S)) {Q':AV→Os→Nat→Prop}
    (hq:∀(S1:CS) (s:σ),C (S1,s)→Q' (R s) (zaq os' ([i0,i1,i2,i3,i4,i5,i6,i7].zip (zaL i1 i2 i3 i4 i5 i6 i7 S1))) nx'):ACalls Tryz.prog f (.ptr i0 0::args) os' nx' Q':=by
  have same:∀(l:List AV),DataL l→RenL (zbs [i0,i1,i2,i3,i4,i5,i6,i7] nx') l l:=by
    intro l hl
    induction l with
    | nil=>trivial
    | cons x l ih=>exact ⟨.data (hl x (by simp)),ih fun y hy=>hl y (by simp[hy])⟩
  exact ACalls.atE (σ:=CS×σ) (C:=C) (args:=.ptr 0 0::args) (R:=fun s=>R s.2) (R':=fun s=>R s.2) (obs:=zaF S) (obs1:=fun s=>zaF s.1) (obs':=zaL i1 i2 i3 i4 i5 i6 i7 S) (obs1':=fun s=>zaL i1 i2 i3 i4 i5 i6 i7 s.1) [i0,i1,i2,i3,i4,i5,i6,i7] h rfl (fun _=>rfl) hnd hlt ⟨.ptr rfl,same args hd⟩ (fun s=>.data (hR s.2)) (renC S i0 i1 i2 i3 i4 i5 i6 i7 nx') hg (fun s=>renC s.1 i0 i1 i2 i3 i4 i5 i6 i7 nx') (fun s hs=>hq s.1 s.2 hs)
theorem zeu (S:CS) (hF:FInv S.F) (i:Nat) (hi:i<S.F.up.length):CCalls (σ:=Nat) 94 [.ptr 0 0,.v (.int .i64 (i:Int))] (S) (fun s=>FSame S.F s.1.F∧Rt S.F.up i s.2∧s.1={S with F:=s.1.F}) (fun s=>.v (.int .i64 (s:Int))):=by
  refine ACalls.clean (C:=fun r os=>∃s:CS×Nat,(FSame S.F s.1.F∧Rt S.F.up i s.2∧s.1={S with F:=s.1.F})∧r=(fun s:Nat=>.v (.int .i64 (s:Int))) s.2∧os=zai 0 (zaF s.1)) ?_;refine zah Tryz.func94 (by kernel_rfl) rfl (by rw[Tryz.ntmps94];simp) (fun hm=>?_);simp only[Tryz.ntmps94,Tryz.results94,zi,zm,Nat.reduceAdd,Nat.reduceSub,zt,zq,zh,zj];simp only[zaF,zai,Nat.reduceAdd];refine zab fun Y0 y0=>?_;refine zaa ?_;simp only[↓bO,go_sem,seval];refine y0 _ ?_;(try clear y0 Y0);refine zab fun Y0 y0=>?_;refine zaa ?_;refine z8 4 fun Q0 q0=>?_;(iterate 2 (simp only[↓bO,go_sem,seval];refine q0 _ ?_;clear q0 Q0;simp only[go_sem];refine z8 1 fun Q0 q0=>?_));simp only[↓bO,go_sem,seval];refine FCalls.at (Root_f S.F hF i hi) (.cons (.v _) .nil) (fun _=>.tup (.cons (.v _) (.cons (.v _) .nil))) (i:=4) (j:=5) (k:=6) rfl rfl rfl (by decide) (by decide) (by decide) (by first | omega | (simp only;omega)) (by first | omega | (simp only;omega)) (by first | omega | (simp only;omega)) (fun G r hG=>?_);(try dsimp only at hG);simp only[zaz,Nat.reduceEqDiff,↓reduceIte];(try simp only[bS,bA,zaf,zad,zac]);refine q0 _ ?_;clear q0 Q0;simp only[go_sem];refine z8 4 fun Q0 q0=>?_;simp only[↓bO,go_sem,seval];refine q0 _ ?_;clear q0 Q0;simp only[go_sem];simp only[↓bO,go_sem,seval];refine y0 _ ?_;(try clear y0 Y0);refine zab fun Y0 y0=>?_;refine zaa ?_;simp only[↓bO,go_sem,seval];refine y0 _ ?_;(try clear y0 Y0);refine zam ?_;(try simp only[zaf,zad,zac,zaZ,zaW,zaC,bS,bA]);refine ⟨_,zai 0 (zaF ({S with F:=G})),⟨({S with F:=G},r),?_,rfl,rfl⟩,.v _ _,zcp (by omega) _,?_,?_,by omega⟩;· exact ⟨hG.1,hG.2,rfl⟩
  ·
   exact Le.refl _
  · first | (refine ⟨0,rfl,rfl⟩) | (refine ⟨0,by simp only[zaF,zai,zw,zk,Nat.reduceAdd],rfl⟩)
end Go.Proofs.YtpfiliamceimmaaGreatDoor
namespace Go.Proofs.YtpfiliamceimmaaGreatDoor
open Go Go.RowKit
attribute [local irreducible] aops za1
theorem Rt.push_iff {up:List Nat} {h:Nat→Nat} (H:UpOk up h) (k q:Nat):Rt (up++[up.length]) k q↔Rt up k q∨(k=up.length∧q=up.length):=by
  refine ⟨fun k1=>k1.push H.lt,fun k1=>?_⟩;(rcases k1 with k1 | ⟨rfl,rfl⟩);(· exact k1.mono);· exact .base (by simp)
def wk (x:GNode) (k:Nat):Int:=if x.k=1 then -1 else (k:Int)
structure LayI (S:CS) (G:GS) (k:Nat) (F:FS) (W:List Int):Prop where
  inv:FInv F
  fl:F.up.length=k
  wl:W.length=k
  ge:S.W.length≤k
  rt:∀a q,Rt F.up a q↔Rt S.F.up a q∨(S.W.length≤a∧a<k∧q=a)
  old:∀i,i<S.W.length→W[i]?=S.W[i]?
  new:∀(i:Nat) (x:GNode),S.W.length≤i→i<k→G.N[i]?=some x→W[i]?=some (wk x i)
theorem LayI.start {S:CS} (G:GS) (h:FInv S.F) (hl:S.F.up.length=S.W.length):LayI S G S.W.length S.F S.W :=
  ⟨h,hl,rfl,zW _,fun a q=>⟨.inl,fun h=>h.elim id fun h=>by omega⟩,fun _ _=>rfl,fun i x h1 h2=>by omega⟩
theorem LayI.step {S:CS} {G:GS} {k:Nat} {F:FS} {W:List Int} (h:LayI S G k F W) {x:GNode} (hx:G.N[k]?=some x) (a b:Int):LayI S G (k+1) ⟨F.up++[F.up.length],F.rank++[0],a,b⟩ (W++[wk x k]):=by
  obtain ⟨hi,hok⟩:=h.inv.ok;have hge:=h.ge;refine ⟨h.inv.push a b,by simp[h.fl],by simp[h.wl],by omega,fun a q=>?_,fun i hi=>?_,fun i y h1 h2 hy=>?_⟩
  · refine (Rt.push_iff hok a q).trans ?_
    rw[h.rt,h.fl];constructor
    · rintro ((h1 | h1) | h1)
      (· exact .inl h1);(· exact .inr ⟨h1.1,by omega,h1.2.2⟩);· exact .inr ⟨by omega,by omega,by omega⟩
    · rintro (h1 | ⟨h1,h2,h3⟩)
      · exact .inl (.inl h1)
      · by_cases e:a=k
        (· exact .inr ⟨e,by omega⟩);· exact .inl (.inr ⟨h1,by omega,h3⟩)
  · rw[zE (by rw[h.wl];omega)];exact h.old i hi
  · by_cases e:i=k
    · subst e
      rw[hx] at hy;cases hy;rw[zJ (by rw[h.wl];exact zW _),h.wl];simp
    · rw[zE (by rw[h.wl];omega)];exact h.new i y h1 (by omega) hy
def StepsI (S:CS) (k:Nat) (st:Int):Prop:=0≤S.steps→S.steps≤1099511627776→st+(S.W.length:Int)=S.steps+(k:Int)
theorem StepsI.step {S:CS} {k:Nat} {st:Int} (h:StepsI S k st) (hk:k≤1048576) (hw:S.W.length≤k):StepsI S (k+1) (IntKind.i64.wrap (st+1)):=fun h1 h2=>by
  have h3:=h h1 h2;rw[zaT (by omega) (by omega)];omega
structure Lay (S:CS) (T:Ty) (s:CS×Int):Prop where
  node:s.2=(T.gadd S.G).2
  g:s.1.G=(T.gadd S.G).1
  clash:s.1.clash=S.clash
  lay:LayI S s.1.G s.1.G.N.length s.1.F s.1.W
theorem zj1 (S:CS) (T:Ty) (hr:T.right=true) (hG:GInv S.G) (hF:FInv S.F) (hl1:S.F.up.length=S.W.length) (hl2:S.W.length=S.G.N.length) (hl:S.G.N.length+T.cnt≤1048576):CCalls (σ:=Int) 121 [.ptr 0 0,.agg T.cells] (S) (fun s=>Lay S T s∧StepsI S s.1.G.N.length s.1.steps) (fun s=>.v (.int .i64 s)):=by
  refine ACalls.clean (C:=fun r os=>∃s:CS×Int,(Lay S T s∧StepsI S s.1.G.N.length s.1.steps)∧r=(fun s:Int=>.v (.int .i64 s)) s.2∧os=zai 0 (zaF s.1)) ?_;refine zah Tryz.func121 (by kernel_rfl) rfl (by rw[Tryz.ntmps121];simp) (fun hm=>?_);simp only[Tryz.ntmps121,Tryz.results121,zi,zm,Nat.reduceAdd,Nat.reduceSub,zt,zq,zh,zj];simp only[zaF,zai,Nat.reduceAdd];(have hg:T.gAdd S.G=((T.gadd S.G).1,(T.gadd S.G).2,0):=by rw[Ty.gAdd,if_pos hr]);have hA:=Add_calls T S.G hG (by omega);rw[hg] at hA;obtain ⟨hs1,hs2,hs3⟩:=T.gadd_inv S.G hG;have hge:=hs1.ge;have hle:=hs1.le;dsimp only at hA;refine zab fun Y0 y0=>?_;refine zaa ?_;simp only[↓bO,go_sem,seval];refine y0 _ ?_;(try clear y0 Y0);refine zab fun Y0 y0=>?_;refine zaP [(0,1,[.ptr 1 0])] 11 rfl mixed (⟨⟨_,_,rfl,by simp,rfl,trivial,trivial⟩,trivial⟩) rfl ?_;dsimp only;refine zae 0 rfl (by kernel_rfl) (by kernel_rfl) (by kernel_rfl) (fun _ _ h=>h) fun Q0 q0=>?_;simp only[↓bO,go_sem,seval];refine q0 _ ?_;clear q0 Q0;refine zae 1 rfl (by kernel_rfl) (by kernel_rfl) (by kernel_rfl) (fun _ _ h=>h) fun Q0 q0=>?_;simp only[↓bO,go_sem,seval];refine q0 _ ?_;clear q0 Q0;refine zae 2 rfl (by kernel_rfl) (by kernel_rfl) (by kernel_rfl) (fun _ _ h=>h) fun Q0 q0=>?_;simp only[↓bO,go_sem,seval];refine q0 _ ?_;clear q0 Q0;refine zay 3 0 rfl rfl (by kernel_rfl) (by kernel_rfl) (by kernel_rfl) (fun _ _ h=>h) fun Q0 q0=>?_;simp only[↓bO,go_sem,seval];refine q0 _ ?_;clear q0 Q0;refine zag (i:=4) (by kernel_rfl) ?_
  ·
   refine zal rfl rfl fun Q0 q0=>?_;simp only[↓bO,go_sem,seval];refine q0 _ ⟨⟨⟨_,_,rfl,by simp,rfl,trivial,trivial⟩,trivial⟩,?_⟩;clear q0 Q0;refine zag (i:=5) (by kernel_rfl) ?_
   ·
    refine zal rfl rfl fun Q0 q0=>?_;simp only[↓bO,go_sem,seval];refine GCalls.at (hA) (.cons (Ty.dataAgg T) .nil) (.tup (.cons (.v _) (.cons (.v _) .nil))) (i:=1) (j:=2) (k:=3) rfl rfl rfl (by decide) (by decide) (by decide) (by first | omega | (simp only;omega)) (by first | omega | (simp only;omega)) (by first | omega | (simp only;omega)) ?_;simp only[zaz,Nat.reduceEqDiff,↓reduceIte];(try simp only[bS,bA]);refine q0 _ ⟨⟨⟨_,_,rfl,by simp,rfl,trivial,trivial⟩,trivial⟩,?_⟩;clear q0 Q0;refine zae 6 rfl (by kernel_rfl) (by kernel_rfl) (by kernel_rfl) (fun _ _ h=>h) fun Q0 q0=>?_;simp only[↓bO,go_sem,seval];refine q0 _ ?_;clear q0 Q0;refine zae 7 rfl (by kernel_rfl) (by kernel_rfl) (by kernel_rfl) (fun _ _ h=>h) fun Q0 q0=>?_;simp only[↓bO,go_sem,seval];refine q0 _ ?_;clear q0 Q0;refine zae 8 rfl (by kernel_rfl) (by kernel_rfl) (by kernel_rfl) (fun _ _ h=>h) fun Q0 q0=>?_;simp only[↓bO,go_sem,seval];refine q0 _ ?_;clear q0 Q0;refine zae 9 rfl (by kernel_rfl) (by kernel_rfl) (by kernel_rfl) (fun _ _ h=>h) fun Q0 q0=>?_;simp only[↓bO,go_sem,seval];refine q0 _ ?_;clear q0 Q0;refine zae 10 rfl (by kernel_rfl) (by kernel_rfl) (by kernel_rfl) (fun _ _ h=>h) fun Q0 q0=>?_;simp only[↓bO,go_sem,seval];refine q0 _ ?_;clear q0 Q0;refine zaG (by kernel_rfl) ?_;simp only[zaf,zad,zac];refine y0 _ ?_;(try clear y0 Y0);refine zab fun Y0 y0=>?_;refine zab fun Y1 y1=>?_;refine zaa ?_;(iterate 2 (refine z8 2 fun Q0 q0=>?_;simp only[↓bO,go_sem,seval];refine q0 _ ?_;clear q0 Q0;simp only[go_sem]));simp only[↓bO,go_sem,seval];refine y1 _ ?_;(try clear y1 Y1);refine zav ?_;refine zaS (σ:=Nat×FS×List Int×Int) (mB 67 161) (fun s=>LayI S (T.gadd S.G).1 s.1 s.2.1 s.2.2.1∧StepsI S s.1 s.2.2.2∧s.1≤(T.gadd S.G).1.N.length) (fun s=>[(7,.v (.int .i64 (s.1:Int)))]) (fun s=>[(0,.cells 127 [.v (.int .i64 s.2.2.2),.ptr 1 0,.ptr 4 0,.own 7 s.2.2.1.length,.v (.bool S.clash)]),(4,.cells 184 [.own 5 s.2.1.up.length,.own 6 s.2.1.rank.length,.v (.int .i64 s.2.1.sets),.v (.int .i64 s.2.1.steps)]),(5,.row 3 1 (s.2.1.up.map nC)),(6,.row 3 1 (s.2.1.rank.map intC)),(7,.row 3 1 (s.2.2.1.map intC))]) (fun s=>(T.gadd S.G).1.N.length-s.1) (S.W.length,S.F,S.W,S.steps) (⟨LayI.start _ hF hl1,fun _ _=>rfl,by omega⟩) ?_ (fun s hs=>?_)
    ·
     simp only[zaA,zaB,zaq,zaz,mB,zc,zb,seval];exact zcm
    simp only[zaA,zaB,zaq,zaz,mB,zc,zb,seval];refine zab fun Y1 y1=>?_;refine zab fun Y2 y2=>?_;refine zaa ?_;(iterate 2 (refine z8 2 fun Q0 q0=>?_;simp only[↓bO,go_sem,seval];refine q0 _ ?_;clear q0 Q0;simp only[go_sem]));refine z8 1 fun Q0 q0=>?_;simp only[↓bO,go_sem,seval];refine q0 _ ?_;clear q0 Q0;simp only[go_sem];refine z8 1 fun Q0 q0=>?_;simp only[↓bO,go_sem,seval];refine GCalls.at (Len_calls (T.gadd S.G).1) (.nil) (.v _) (i:=1) (j:=2) (k:=3) rfl rfl rfl (by decide) (by decide) (by decide) (by first | omega | (simp only;omega)) (by first | omega | (simp only;omega)) (by first | omega | (simp only;omega)) ?_;simp only[zaz,Nat.reduceEqDiff,↓reduceIte];(try simp only[bS,bA,zaf,zad,zac]);refine q0 _ ?_;clear q0 Q0;simp only[go_sem];simp only[↓bO,go_sem,seval];refine y2 _ ?_;(try clear y2 Y2);refine zan rfl (fun hb28=>?_) (fun hb28=>?_)
    ·
     (have hk:s.1<(T.gadd S.G).1.N.length:=by have h8:=hb28;simp at h8;omega);obtain ⟨x,hx⟩:∃x,(T.gadd S.G).1.N[s.1]?=some x:=⟨_,zd hk⟩;(have hxi:(T.gadd S.G).1.N[((s.1:Nat):Int).toNat]?=some x:=by simpa using hx);have hfl:=hs.1.fl;have hwl:=hs.1.wl;have hrl:=hs.1.inv.len;have hw:IntKind.i64.wrap ((s.1:Int)+1)=(s.1:Int)+1:=zaT (by omega) (by omega);(have hb1:(s.2.2.1.length+1) * 8≤140737488355328:=by omega);(have hb2:s.2.2.1.length+1≤maxLen:=by simp only[maxLen];omega);(have hb3:(s.1+1) * 8≤140737488355328:=by omega);(have hb4:s.1+1≤maxLen:=by simp only[maxLen];omega);refine zar ?_;(try simp only[zaf,zad,zac]);refine y1 _ ?_;(try clear y1 Y1);refine zab fun Y1 y1=>?_;refine zav ?_;refine zab fun Y2 y2=>?_;refine zaa ?_;refine z8 2 fun Q0 q0=>?_;simp only[↓bO,go_sem,seval,hb1,hb2,hb3,hb4,za7,zf,za,hw,hwl];refine q0 _ ?_;clear q0 Q0;simp only[go_sem];refine z8 1 fun Q0 q0=>?_;simp only[↓bO,go_sem,seval,hb1,hb2,hb3,hb4,za7,zf,za,hw,hwl];refine q0 _ ?_;clear q0 Q0;simp only[go_sem];simp only[↓bO,go_sem,seval,hb1,hb2,hb3,hb4,za7,zf,za,hw,hwl];refine tick_at rfl ?_;simp only[zaz,Nat.reduceEqDiff,↓reduceIte];(try simp only[bS,bA,zaf,zad,zac]);refine y2 _ ?_;(try clear y2 Y2);refine zab fun Y2 y2=>?_;refine zaa ?_;(iterate 2 (refine z8 2 fun Q0 q0=>?_;simp only[↓bO,go_sem,seval,hb1,hb2,hb3,hb4,za7,zf,za,hw,hwl];refine q0 _ ?_;clear q0 Q0;simp only[go_sem]));simp only[↓bO,go_sem,seval,hb1,hb2,hb3,hb4,za7,zf,za,hw,hwl];refine FCalls.at (FAdd_f s.2.1 (by omega) hrl) (.nil) (fun _=>.v _) (i:=4) (j:=5) (k:=6) rfl rfl rfl (by decide) (by decide) (by decide) (by first | omega | (simp only;omega)) (by first | omega | (simp only;omega)) (by first | omega | (simp only;omega)) (fun F2 u2 hF2=>?_);(try dsimp only at hF2);simp only[zaz,Nat.reduceEqDiff,↓reduceIte];subst hF2;(try simp only[bS,bA,zaf,zad,zac]);refine y2 _ ?_;(try clear y2 Y2);refine zab fun Y2 y2=>?_;refine zaa ?_;(iterate 2 (refine z8 2 fun Q0 q0=>?_;simp only[↓bO,go_sem,seval,hb1,hb2,hb3,hb4,za7,zf,za,hw,hwl];refine q0 _ ?_;clear q0 Q0;simp only[go_sem]));refine z8 1 fun Q0 q0=>?_;simp only[↓bO,go_sem,seval,hb1,hb2,hb3,hb4,za7,zf,za,hw,hwl];refine q0 _ ?_;clear q0 Q0;simp only[go_sem];refine z8 1 fun Q0 q0=>?_;simp only[↓bO,go_sem,seval,hb1,hb2,hb3,hb4,za7,zf,za,hw,hwl];refine GCalls.at (zdj (T.gadd S.G).1 (s.1:Int) x (by omega) hxi) (.cons (.v _) .nil) (.v _) (i:=1) (j:=2) (k:=3) rfl rfl rfl (by decide) (by decide) (by decide) (by first | omega | (simp only;omega)) (by first | omega | (simp only;omega)) (by first | omega | (simp only;omega)) ?_;simp only[zaz,Nat.reduceEqDiff,↓reduceIte];(try simp only[bS,bA,zaf,zad,zac]);refine q0 _ ?_;clear q0 Q0;simp only[go_sem];simp only[↓bO,go_sem,seval,hb1,hb2,hb3,hb4,za7,zf,za,hw,hwl];refine y2 _ ?_;(try clear y2 Y2);refine zan rfl (fun hb46=>?_) (fun hb46=>?_)
     ·
      (have hk1:x.k=1:=by simpa using hb46);have hw1:wk x s.1=-1:=if_pos hk1;refine zaa ?_;(iterate 2 (refine z8 2 fun Q0 q0=>?_;simp only[↓bO,go_sem,seval,hb1,hb2,hb3,hb4,za7,zf,za,hw,hwl,hw1];refine q0 _ ?_;clear q0 Q0;simp only[go_sem]));refine z8 2 fun Q0 q0=>?_;simp only[↓bO,go_sem,seval,↓zbX,↓zbT,↓zbY,↓zbW,↓zb0,↓zbS,↓zbR,↓zbQ,↓zbZ,↓zbo,↓zbp,↓zbq,hb1,hb2,hb3,hb4,za7,zf,za,hw,hwl,hw1];refine q0 _ ?_;clear q0 Q0;simp only[go_sem];refine z8 2 fun Q0 q0=>?_;simp only[↓bO,go_sem,seval,hb1,hb2,hb3,hb4,za7,zf,za,hw,hwl,hw1];refine q0 _ ?_;clear q0 Q0;simp only[go_sem];simp only[↓bO,go_sem,seval,hb1,hb2,hb3,hb4,za7,zf,za,hw,hwl,hw1];refine y1 _ ?_;(try clear y1 Y1);refine zaa ?_;refine z8 2 fun Q0 q0=>?_;simp only[↓bO,go_sem,seval,hb1,hb2,hb3,hb4,za7,zf,za,hw,hwl,hw1];refine q0 _ ?_;clear q0 Q0;simp only[go_sem];simp only[↓bO,go_sem,seval,hb1,hb2,hb3,hb4,za7,zf,za,hw,hwl,hw1];refine ⟨(s.1+1,⟨s.2.1.up++[s.2.1.up.length],s.2.1.rank++[0],IntKind.i64.wrap (s.2.1.sets+1),s.2.1.steps⟩,s.2.2.1++[wk x s.1],IntKind.i64.wrap (s.2.2.2+1)),⟨hs.1.step hx _ _,hs.2.1.step (by omega) hs.1.ge,by omega⟩,(by simp only;omega),?_⟩;simp only[zaA,zaB,zaq,zaz,mB,zc,zb,seval,hb1,hb2,hb3,hb4,za7,zf,bL,za,zL,hw,hwl,hw1];exact zcm
     ·
      (have hk1:¬x.k=1:=by simpa using hb46);have hw1:wk x s.1=(s.1:Int):=if_neg hk1;refine zaa ?_;(iterate 3 (refine z8 2 fun Q0 q0=>?_;simp only[↓bO,go_sem,seval,hb1,hb2,hb3,hb4,za7,zf,za,hw,hwl,hw1];refine q0 _ ?_;clear q0 Q0;simp only[go_sem]));refine z8 2 fun Q0 q0=>?_;simp only[↓bO,go_sem,seval,↓zbX,↓zbT,↓zbY,↓zbW,↓zb0,↓zbS,↓zbR,↓zbQ,↓zbZ,↓zbo,↓zbp,↓zbq,hb1,hb2,hb3,hb4,za7,zf,za,hw,hwl,hw1];refine q0 _ ?_;clear q0 Q0;simp only[go_sem];refine z8 2 fun Q0 q0=>?_;simp only[↓bO,go_sem,seval,hb1,hb2,hb3,hb4,za7,zf,za,hw,hwl,hw1];refine q0 _ ?_;clear q0 Q0;simp only[go_sem];simp only[↓bO,go_sem,seval,hb1,hb2,hb3,hb4,za7,zf,za,hw,hwl,hw1];refine y1 _ ?_;(try clear y1 Y1);refine zaa ?_;refine z8 2 fun Q0 q0=>?_;simp only[↓bO,go_sem,seval,hb1,hb2,hb3,hb4,za7,zf,za,hw,hwl,hw1];refine q0 _ ?_;clear q0 Q0;simp only[go_sem];simp only[↓bO,go_sem,seval,hb1,hb2,hb3,hb4,za7,zf,za,hw,hwl,hw1];refine ⟨(s.1+1,⟨s.2.1.up++[s.2.1.up.length],s.2.1.rank++[0],IntKind.i64.wrap (s.2.1.sets+1),s.2.1.steps⟩,s.2.2.1++[wk x s.1],IntKind.i64.wrap (s.2.2.2+1)),⟨hs.1.step hx _ _,hs.2.1.step (by omega) hs.1.ge,by omega⟩,(by simp only;omega),?_⟩;simp only[zaA,zaB,zaq,zaz,mB,zc,zb,seval,hb1,hb2,hb3,hb4,za7,zf,bL,za,zL,hw,hwl,hw1];exact zcm
    ·
     (have hk:s.1=(T.gadd S.G).1.N.length:=by have h8:=hb28;simp at h8;have:=hs.2.2;omega);refine zaV ?_;simp only[zaf,zad,zac,bA,Nat.reduceEqDiff,↓reduceIte];refine y0 _ ?_;(try clear y0 Y0);refine zab fun Y0 y0=>?_;refine zaa ?_;simp only[↓bO,go_sem,seval];refine y0 _ ?_;(try clear y0 Y0);refine zam ?_;(try simp only[zaf,zad,zac,zaZ,zaW,zaC,bS,bA]);refine ⟨_,zai 0 (zaF (⟨(T.gadd S.G).1,s.2.1,s.2.2.1,s.2.2.2,S.clash⟩)),⟨(⟨(T.gadd S.G).1,s.2.1,s.2.2.1,s.2.2.2,S.clash⟩,(T.gadd S.G).2),?_,rfl,rfl⟩,.v _ _,zcp (by omega) _,?_,?_,by omega⟩;· exact ⟨⟨rfl,rfl,rfl,by have h9:=hs.1;rw[hk] at h9;exact h9⟩,by have h9:=hs.2.1;rw[hk] at h9;exact h9⟩
     ·
      exact Le.refl _
     · first | (refine ⟨1,rfl,rfl⟩) | (refine ⟨1,by simp only[zaF,zai,zw,zk,Nat.reduceAdd],rfl⟩)
end Go.Proofs.YtpfiliamceimmaaGreatDoor
namespace Go.Proofs.YtpfiliamceimmaaGreatDoor
open Go Go.RowKit
attribute [local irreducible] aops za1
def pC (p:Int×Int):List AV:=[.v (.int .i64 p.1),.v (.int .i64 p.2)]
theorem zer (l:List (Int×Int)):Data (.sl 2 (l.map pC)):=.sl fun x hx=>by
  obtain ⟨p,_,rfl⟩:=zC.1 hx;exact .cons (.v _) (.cons (.v _) .nil)
structure CInv (S:CS):Prop where
  g:GInv S.G
  f:FInv S.F
  fl:S.F.up.length=S.W.length
  wl:S.W.length=S.G.N.length
  wr:∀w∈S.W,w=-1∨(0≤w∧w<(S.G.N.length:Int))
  pl:∀x∈S.G.N,x.parts.length≤8
  pr:∀x∈S.G.N,∀p∈x.parts,0≤p∧p<(S.G.N.length:Int)
def clash (x y:GNode):Bool:=x.k != y.k||x.parts.length != y.parts.length
structure CJoin (S:CS) (a b:Nat) (s:CS×(List (Int×Int)×Bool)):Prop where
  g:s.1.G=S.G
  c:s.1.clash=S.clash
  ex:∃(r:Nat) (two:Bool),FJoin S.F a b (s.1.F,(r,two))∧((two=false∧s.1.W=S.W∧s.2=([],true)) ∨
    (two=true∧∃(ra rb:Nat) (x y:Int),Rt S.F.up a ra∧Rt S.F.up b rb∧S.W[ra]?=some x∧S.W[rb]?=some y ∧
      (((x<0∨y<0)∧s.1.W=S.W.set r (max x y)∧s.2=([],true)) ∨
       (0≤x∧0≤y∧s.1.W=S.W.set r x∧∃gx gy:GNode,S.G.N[x.toNat]?=some gx∧S.G.N[y.toNat]?=some gy ∧
          ((clash gx gy=true∧s.2=([],false))∨(clash gx gy=false∧s.2=(gx.parts.zip gy.parts,true)))))))
theorem FJoin.of {F F2:FS} {a b:Nat} {s:FS×(Nat×Bool)} (h:FSame F F2) (k:FJoin F2 a b s):FJoin F a b s:=by
  obtain ⟨ra,rb,h1,h2,h3⟩:=k.ex;refine ⟨k.inv,k.len.trans h.len,ra,rb,(h.rt _ _).1 h1,(h.rt _ _).1 h2,?_⟩;(rcases h3 with ⟨e,h4,h5⟩ | ⟨e,h4,h5,h6⟩);(· exact .inl ⟨e,h4,fun k q=>(h5 k q).trans (h.rt k q)⟩);· exact .inr ⟨e,h4,h5,fun k q=>(h6 k q).trans (by simp only[h.rt])⟩
theorem FJoin.rlt {F:FS} {a b:Nat} {s:FS×(Nat×Bool)} (k:FJoin F a b s):s.2.1<F.up.length:=by
  obtain ⟨ra,rb,h1,h2,h3⟩:=k.ex;(rcases h3 with ⟨e,h4,_⟩ | ⟨e,_,h4,_⟩);· rw[h4];exact h1.lt
  · rcases h4 with h4 | h4 <;> rw[h4]
    (· exact h1.lt);· exact h2.lt
theorem ziY (a b:Nat):(((a:Nat):Int) != ((b:Nat):Int))=(a != b):=by
  rw[Bool.eq_iff_iff];simp;omega
theorem clash_eq (x y:GNode):(x.k != y.k)=true→clash x y=true:=fun h=>by rw[clash,h];rfl
theorem join_c (S:CS) (hS:CInv S) (a b:Nat) (ha:a<S.F.up.length) (hb:b<S.F.up.length):CCalls (σ:=List (Int×Int)×Bool) 123 [.ptr 0 0,.v (.int .i64 (a:Int)),.v (.int .i64 (b:Int))] (S) (fun s=>CJoin S a b s∧s.1.steps=S.steps) (fun s=>.tup [.sl 2 (s.1.map pC),.v (.bool s.2)]):=by
  refine ACalls.clean (C:=fun r os=>∃s:CS×List (Int×Int)×Bool,(CJoin S a b s∧s.1.steps=S.steps)∧r=(fun s:List (Int×Int)×Bool=>.tup [.sl 2 (s.1.map pC),.v (.bool s.2)]) s.2∧os=zai 0 (zaF s.1)) ?_;refine zah Tryz.func123 (by kernel_rfl) rfl (by rw[Tryz.ntmps123];simp) (fun hm=>?_);simp only[Tryz.ntmps123,Tryz.results123,zi,zm,Nat.reduceAdd,Nat.reduceSub,zt,zq,zh,zj];simp only[zaF,zai,Nat.reduceAdd];(have hpl:∀x∈S.G.N,x.parts.length≤1099511627776:=fun x hx=>by have:=hS.pl x hx;omega);refine zab fun Y0 y0=>?_;refine zaa ?_;simp only[↓bO,go_sem,seval];refine y0 _ ?_;(try clear y0 Y0);refine AWp_joinE (σ:=FS×Nat×Nat×Int×Int) (mB 119 775) (fun j=>[(8,.v (.int .i64 j.2.2.2.1)),(9,.v (.int .i64 j.2.2.2.2))]) (fun j=>[(4,.cells 184 [.own 5 j.1.up.length,.own 6 j.1.rank.length,.v (.int .i64 j.1.sets),.v (.int .i64 j.1.steps)]),(5,.row 3 1 (j.1.up.map nC)),(6,.row 3 1 (j.1.rank.map intC))]) (fun j=>FSame S.F j.1∧Rt S.F.up a j.2.1∧Rt S.F.up b j.2.2.1∧S.W[j.2.1]?=some j.2.2.2.1∧S.W[j.2.2.1]?=some j.2.2.2.2) ?_ (fun j hj=>?_)
  ·
   refine zaP [(0,3,[.own 7 S.W.length])] 20 rfl mixed (⟨⟨_,_,rfl,by simp,rfl,by simp[CurL,CurOk,zaJ]⟩,trivial⟩) rfl ?_;dsimp only;refine zae 0 rfl (by kernel_rfl) (by kernel_rfl) (by kernel_rfl) (fun _ _ h=>h) fun Q0 q0=>?_;simp only[↓bO,go_sem,seval];refine q0 _ ?_;clear q0 Q0;refine zae 1 rfl (by kernel_rfl) (by kernel_rfl) (by kernel_rfl) (fun _ _ h=>h) fun Q0 q0=>?_;simp only[↓bO,go_sem,seval];refine q0 _ ?_;clear q0 Q0;refine zae 2 rfl (by kernel_rfl) (by kernel_rfl) (by kernel_rfl) (fun _ _ h=>h) fun Q0 q0=>?_;simp only[↓bO,go_sem,seval];refine q0 _ ?_;clear q0 Q0;refine zay 3 0 rfl rfl (by kernel_rfl) (by kernel_rfl) (by kernel_rfl) (fun _ _ h=>h) fun Q0 q0=>?_;simp only[↓bO,go_sem,seval];refine q0 _ ?_;clear q0 Q0;refine zae 4 rfl (by kernel_rfl) (by kernel_rfl) (by kernel_rfl) (fun _ _ h=>h) fun Q0 q0=>?_;simp only[↓bO,go_sem,seval];refine q0 _ ?_;clear q0 Q0;refine zae 5 rfl (by kernel_rfl) (by kernel_rfl) (by kernel_rfl) (fun _ _ h=>h) fun Q0 q0=>?_;simp only[↓bO,go_sem,seval];refine q0 _ ?_;clear q0 Q0;refine zae 9 rfl (by kernel_rfl) (by kernel_rfl) (by kernel_rfl) (fun _ _ h=>h) fun Q0 q0=>?_;simp only[↓bO,go_sem,seval];refine q0 _ ?_;clear q0 Q0;refine zae 10 rfl (by kernel_rfl) (by kernel_rfl) (by kernel_rfl) (fun _ _ h=>h) fun Q0 q0=>?_;simp only[↓bO,go_sem,seval];refine q0 _ ?_;clear q0 Q0;refine zae 11 rfl (by kernel_rfl) (by kernel_rfl) (by kernel_rfl) (fun _ _ h=>h) fun Q0 q0=>?_;simp only[↓bO,go_sem,seval];refine q0 _ ?_;clear q0 Q0;refine zay 12 0 rfl rfl (by kernel_rfl) (by kernel_rfl) (by kernel_rfl) (fun _ _ h=>h) fun Q0 q0=>?_;simp only[↓bO,go_sem,seval];refine q0 _ ?_;clear q0 Q0;refine zae 13 rfl (by kernel_rfl) (by kernel_rfl) (by kernel_rfl) (fun _ _ h=>h) fun Q0 q0=>?_;simp only[↓bO,go_sem,seval];refine q0 _ ?_;clear q0 Q0;refine zae 14 rfl (by kernel_rfl) (by kernel_rfl) (by kernel_rfl) (fun _ _ h=>h) fun Q0 q0=>?_;simp only[↓bO,go_sem,seval];refine q0 _ ?_;clear q0 Q0;refine zag (i:=6) (by kernel_rfl) ?_
   ·
    refine zal rfl rfl fun Q0 q0=>?_;simp only[↓bO,go_sem,seval];refine CCalls.at (zeu S hS.f a ha) (.cons (.v _) .nil) (fun _=>.v _) (i0:=0) (i1:=1) (i2:=2) (i3:=3) (i4:=4) (i5:=5) (i6:=6) (i7:=7) (by decide) (by simp) ⟨rfl,rfl,rfl,rfl,rfl,rfl,rfl,rfl,trivial⟩ (fun S1 r1 hS1=>?_);(try dsimp only at hS1);simp only[zaL,zu,zy,zx,zaq,zaz,Nat.reduceEqDiff,↓reduceIte];obtain ⟨F1,rfl⟩:∃F1,S1={S with F:=F1}:=⟨S1.F,hS1.2.2⟩;dsimp only at hS1;obtain ⟨x,hx⟩:∃x,S.W[r1]?=some x:=⟨_,zd (by rw[← hS.fl];exact hS1.2.1.lt)⟩;have hi1:r1<S.W.length:=(ze.1 hx).1;(have hi2:(r1:Int)<(S.W.length:Int):=by omega);(try simp only[bS,bA]);refine q0 _ ⟨⟨⟨_,_,rfl,by simp,rfl,by simp[CurL,CurOk,zaJ]⟩,trivial⟩,?_⟩;clear q0 Q0;refine za4 (i:=7) (j:=15) (by kernel_rfl) ?_ ?_
    ·
     refine zal rfl rfl fun Q0 q0=>?_;simp only[↓bO,go_sem,seval,gM hx,hi1,hi2];refine q0 _ ⟨⟨⟨_,_,rfl,by simp,rfl,by simp[CurL,CurOk,zaJ]⟩,trivial⟩,?_⟩;clear q0 Q0;refine za4 (i:=8) (j:=15) (by kernel_rfl) ?_ ?_
     ·
      refine zal rfl rfl fun Q0 q0=>?_;simp only[↓bO,go_sem,seval,gM hx,hi1,hi2];refine q0 _ ⟨⟨⟨_,_,rfl,by simp,rfl,by simp[CurL,CurOk,zaJ]⟩,trivial⟩,?_⟩;clear q0 Q0;refine zag (i:=15) (by kernel_rfl) ?_
      ·
       refine zal rfl rfl fun Q0 q0=>?_;simp only[↓bO,go_sem,seval,gM hx,hi1,hi2];refine CCalls.at (zeu {S with F:=F1} hS1.1.inv b (by dsimp only;rw[hS1.1.len];exact hb)) (.cons (.v _) .nil) (fun _=>.v _) (i0:=0) (i1:=1) (i2:=2) (i3:=3) (i4:=4) (i5:=5) (i6:=6) (i7:=7) (by decide) (by simp) ⟨rfl,rfl,rfl,rfl,rfl,rfl,rfl,rfl,trivial⟩ (fun S2 r2 hS2=>?_);(try dsimp only at hS2);simp only[zaL,zu,zy,zx,zaq,zaz,Nat.reduceEqDiff,↓reduceIte];obtain ⟨F2,rfl⟩:∃F2,S2={S with F:=F2}:=⟨S2.F,hS2.2.2⟩;dsimp only at hS2;have hS3:=hS1.1.trans hS2.1;have hb2:Rt S.F.up b r2:=(hS1.1.rt _ _).1 hS2.2.1;obtain ⟨y,hy⟩:∃y,S.W[r2]?=some y:=⟨_,zd (by rw[← hS.fl];exact hb2.lt)⟩;have hj1:r2<S.W.length:=(ze.1 hy).1;(have hj2:(r2:Int)<(S.W.length:Int):=by omega);(try simp only[bS,bA]);refine q0 _ ⟨⟨⟨_,_,rfl,by simp,rfl,by simp[CurL,CurOk,zaJ]⟩,trivial⟩,?_⟩;clear q0 Q0;refine zae 18 rfl (by kernel_rfl) (by kernel_rfl) (by kernel_rfl) (fun _ _ h=>h) fun Q0 q0=>?_;simp only[↓bO,go_sem,seval,gM hx,hi1,hi2,gM hy,hj1,hj2];refine q0 _ ?_;clear q0 Q0;refine zag (i:=16) (by kernel_rfl) ?_
       ·
        refine zal rfl rfl fun Q0 q0=>?_;simp only[↓bO,go_sem,seval,gM hx,hi1,hi2,gM hy,hj1,hj2];refine q0 _ ⟨⟨⟨_,_,rfl,by simp,rfl,by simp[CurL,CurOk,zaJ]⟩,trivial⟩,?_⟩;clear q0 Q0;refine zag (i:=17) (by kernel_rfl) ?_
        ·
         refine zal rfl rfl fun Q0 q0=>?_;simp only[↓bO,go_sem,seval,gM hx,hi1,hi2,gM hy,hj1,hj2];refine q0 _ ⟨⟨⟨_,_,rfl,by simp,rfl,by simp[CurL,CurOk,zaJ]⟩,trivial⟩,?_⟩;clear q0 Q0;refine zae 19 rfl (by kernel_rfl) (by kernel_rfl) (by kernel_rfl) (fun _ _ h=>h) fun Q0 q0=>?_;simp only[↓bO,go_sem,seval,gM hx,hi1,hi2,gM hy,hj1,hj2];refine q0 _ ?_;clear q0 Q0;refine zaG (by kernel_rfl) ?_;simp only[zaf,zad,zac];(try simp only[zaA,zaB,zaq,zaz,mB,zc,zb,seval]);refine ⟨(F2,r1,r2,x,y),⟨hS3,hS1.2.1,hb2,hx,hy⟩,?_⟩;exact clz2
     ·
      refine zal rfl rfl fun Q0 q0=>?_;simp only[↓bO,go_sem,seval,gM hx,hi1,hi2];refine CCalls.at (zeu {S with F:=F1} hS1.1.inv b (by dsimp only;rw[hS1.1.len];exact hb)) (.cons (.v _) .nil) (fun _=>.v _) (i0:=0) (i1:=1) (i2:=2) (i3:=3) (i4:=4) (i5:=5) (i6:=6) (i7:=7) (by decide) (by simp) ⟨rfl,rfl,rfl,rfl,rfl,rfl,rfl,rfl,trivial⟩ (fun S2 r2 hS2=>?_);(try dsimp only at hS2);simp only[zaL,zu,zy,zx,zaq,zaz,Nat.reduceEqDiff,↓reduceIte];obtain ⟨F2,rfl⟩:∃F2,S2={S with F:=F2}:=⟨S2.F,hS2.2.2⟩;dsimp only at hS2;have hS3:=hS1.1.trans hS2.1;have hb2:Rt S.F.up b r2:=(hS1.1.rt _ _).1 hS2.2.1;obtain ⟨y,hy⟩:∃y,S.W[r2]?=some y:=⟨_,zd (by rw[← hS.fl];exact hb2.lt)⟩;have hj1:r2<S.W.length:=(ze.1 hy).1;(have hj2:(r2:Int)<(S.W.length:Int):=by omega);(try simp only[bS,bA]);refine q0 _ ⟨⟨⟨_,_,rfl,by simp,rfl,by simp[CurL,CurOk,zaJ]⟩,trivial⟩,?_⟩;clear q0 Q0;refine za4 (i:=8) (j:=16) (by kernel_rfl) ?_ ?_
      ·
       refine zal rfl rfl fun Q0 q0=>?_;simp only[↓bO,go_sem,seval,gM hx,hi1,hi2,gM hy,hj1,hj2];refine q0 _ ⟨⟨⟨_,_,rfl,by simp,rfl,by simp[CurL,CurOk,zaJ]⟩,trivial⟩,?_⟩;clear q0 Q0;refine zae 18 rfl (by kernel_rfl) (by kernel_rfl) (by kernel_rfl) (fun _ _ h=>h) fun Q0 q0=>?_;simp only[↓bO,go_sem,seval,gM hx,hi1,hi2,gM hy,hj1,hj2];refine q0 _ ?_;clear q0 Q0;refine zag (i:=16) (by kernel_rfl) ?_
       ·
        refine zal rfl rfl fun Q0 q0=>?_;simp only[↓bO,go_sem,seval,gM hx,hi1,hi2,gM hy,hj1,hj2];refine q0 _ ⟨⟨⟨_,_,rfl,by simp,rfl,by simp[CurL,CurOk,zaJ]⟩,trivial⟩,?_⟩;clear q0 Q0;refine zag (i:=17) (by kernel_rfl) ?_
        ·
         refine zal rfl rfl fun Q0 q0=>?_;simp only[↓bO,go_sem,seval,gM hx,hi1,hi2,gM hy,hj1,hj2];refine q0 _ ⟨⟨⟨_,_,rfl,by simp,rfl,by simp[CurL,CurOk,zaJ]⟩,trivial⟩,?_⟩;clear q0 Q0;refine zae 19 rfl (by kernel_rfl) (by kernel_rfl) (by kernel_rfl) (fun _ _ h=>h) fun Q0 q0=>?_;simp only[↓bO,go_sem,seval,gM hx,hi1,hi2,gM hy,hj1,hj2];refine q0 _ ?_;clear q0 Q0;refine zaG (by kernel_rfl) ?_;simp only[zaf,zad,zac];(try simp only[zaA,zaB,zaq,zaz,mB,zc,zb,seval]);refine ⟨(F2,r1,r2,x,y),⟨hS3,hS1.2.1,hb2,hx,hy⟩,?_⟩;exact clz2
      ·
       refine zal rfl rfl fun Q0 q0=>?_;simp only[↓bO,go_sem,seval,gM hx,hi1,hi2,gM hy,hj1,hj2];refine q0 _ ⟨⟨⟨_,_,rfl,by simp,rfl,by simp[CurL,CurOk,zaJ]⟩,trivial⟩,?_⟩;clear q0 Q0;refine za4 (i:=8) (j:=17) (by kernel_rfl) ?_ ?_
       ·
        refine zal rfl rfl fun Q0 q0=>?_;simp only[↓bO,go_sem,seval,gM hx,hi1,hi2,gM hy,hj1,hj2];refine q0 _ ⟨⟨⟨_,_,rfl,by simp,rfl,by simp[CurL,CurOk,zaJ]⟩,trivial⟩,?_⟩;clear q0 Q0;refine zae 18 rfl (by kernel_rfl) (by kernel_rfl) (by kernel_rfl) (fun _ _ h=>h) fun Q0 q0=>?_;simp only[↓bO,go_sem,seval,gM hx,hi1,hi2,gM hy,hj1,hj2];refine q0 _ ?_;clear q0 Q0;refine zag (i:=17) (by kernel_rfl) ?_
        ·
         refine zal rfl rfl fun Q0 q0=>?_;simp only[↓bO,go_sem,seval,gM hx,hi1,hi2,gM hy,hj1,hj2];refine q0 _ ⟨⟨⟨_,_,rfl,by simp,rfl,by simp[CurL,CurOk,zaJ]⟩,trivial⟩,?_⟩;clear q0 Q0;refine zae 19 rfl (by kernel_rfl) (by kernel_rfl) (by kernel_rfl) (fun _ _ h=>h) fun Q0 q0=>?_;simp only[↓bO,go_sem,seval,gM hx,hi1,hi2,gM hy,hj1,hj2];refine q0 _ ?_;clear q0 Q0;refine zaG (by kernel_rfl) ?_;simp only[zaf,zad,zac];(try simp only[zaA,zaB,zaq,zaz,mB,zc,zb,seval]);refine ⟨(F2,r1,r2,x,y),⟨hS3,hS1.2.1,hb2,hx,hy⟩,?_⟩;exact clz2
       ·
        refine zal rfl rfl fun Q0 q0=>?_;simp only[↓bO,go_sem,seval,gM hx,hi1,hi2,gM hy,hj1,hj2];refine q0 _ ⟨⟨⟨_,_,rfl,by simp,rfl,by simp[CurL,CurOk,zaJ]⟩,trivial⟩,?_⟩;clear q0 Q0;refine zag (i:=8) (by kernel_rfl) ?_
        ·
         refine zal rfl rfl fun Q0 q0=>?_;simp only[↓bO,go_sem,seval,gM hx,hi1,hi2,gM hy,hj1,hj2];refine q0 _ ⟨⟨⟨_,_,rfl,by simp,rfl,by simp[CurL,CurOk,zaJ]⟩,trivial⟩,?_⟩;clear q0 Q0;refine zae 18 rfl (by kernel_rfl) (by kernel_rfl) (by kernel_rfl) (fun _ _ h=>h) fun Q0 q0=>?_;simp only[↓bO,go_sem,seval,gM hx,hi1,hi2,gM hy,hj1,hj2];refine q0 _ ?_;clear q0 Q0;refine zae 19 rfl (by kernel_rfl) (by kernel_rfl) (by kernel_rfl) (fun _ _ h=>h) fun Q0 q0=>?_;simp only[↓bO,go_sem,seval,gM hx,hi1,hi2,gM hy,hj1,hj2];refine q0 _ ?_;clear q0 Q0;refine zaG (by kernel_rfl) ?_;simp only[zaf,zad,zac];(try simp only[zaA,zaB,zaq,zaz,mB,zc,zb,seval]);refine ⟨(F2,r1,r2,x,y),⟨hS3,hS1.2.1,hb2,hx,hy⟩,?_⟩;exact clz2
    ·
     refine zal rfl rfl fun Q0 q0=>?_;simp only[↓bO,go_sem,seval,gM hx,hi1,hi2];refine CCalls.at (zeu {S with F:=F1} hS1.1.inv b (by dsimp only;rw[hS1.1.len];exact hb)) (.cons (.v _) .nil) (fun _=>.v _) (i0:=0) (i1:=1) (i2:=2) (i3:=3) (i4:=4) (i5:=5) (i6:=6) (i7:=7) (by decide) (by simp) ⟨rfl,rfl,rfl,rfl,rfl,rfl,rfl,rfl,trivial⟩ (fun S2 r2 hS2=>?_);(try dsimp only at hS2);simp only[zaL,zu,zy,zx,zaq,zaz,Nat.reduceEqDiff,↓reduceIte];obtain ⟨F2,rfl⟩:∃F2,S2={S with F:=F2}:=⟨S2.F,hS2.2.2⟩;dsimp only at hS2;have hS3:=hS1.1.trans hS2.1;have hb2:Rt S.F.up b r2:=(hS1.1.rt _ _).1 hS2.2.1;obtain ⟨y,hy⟩:∃y,S.W[r2]?=some y:=⟨_,zd (by rw[← hS.fl];exact hb2.lt)⟩;have hj1:r2<S.W.length:=(ze.1 hy).1;(have hj2:(r2:Int)<(S.W.length:Int):=by omega);(try simp only[bS,bA]);refine q0 _ ⟨⟨⟨_,_,rfl,by simp,rfl,by simp[CurL,CurOk,zaJ]⟩,trivial⟩,?_⟩;clear q0 Q0;refine za4 (i:=7) (j:=16) (by kernel_rfl) ?_ ?_
     ·
      refine zal rfl rfl fun Q0 q0=>?_;simp only[↓bO,go_sem,seval,gM hx,hi1,hi2,gM hy,hj1,hj2];refine q0 _ ⟨⟨⟨_,_,rfl,by simp,rfl,by simp[CurL,CurOk,zaJ]⟩,trivial⟩,?_⟩;clear q0 Q0;refine za4 (i:=8) (j:=16) (by kernel_rfl) ?_ ?_
      ·
       refine zal rfl rfl fun Q0 q0=>?_;simp only[↓bO,go_sem,seval,gM hx,hi1,hi2,gM hy,hj1,hj2];refine q0 _ ⟨⟨⟨_,_,rfl,by simp,rfl,by simp[CurL,CurOk,zaJ]⟩,trivial⟩,?_⟩;clear q0 Q0;refine zae 18 rfl (by kernel_rfl) (by kernel_rfl) (by kernel_rfl) (fun _ _ h=>h) fun Q0 q0=>?_;simp only[↓bO,go_sem,seval,gM hx,hi1,hi2,gM hy,hj1,hj2];refine q0 _ ?_;clear q0 Q0;refine zag (i:=16) (by kernel_rfl) ?_
       ·
        refine zal rfl rfl fun Q0 q0=>?_;simp only[↓bO,go_sem,seval,gM hx,hi1,hi2,gM hy,hj1,hj2];refine q0 _ ⟨⟨⟨_,_,rfl,by simp,rfl,by simp[CurL,CurOk,zaJ]⟩,trivial⟩,?_⟩;clear q0 Q0;refine zag (i:=17) (by kernel_rfl) ?_
        ·
         refine zal rfl rfl fun Q0 q0=>?_;simp only[↓bO,go_sem,seval,gM hx,hi1,hi2,gM hy,hj1,hj2];refine q0 _ ⟨⟨⟨_,_,rfl,by simp,rfl,by simp[CurL,CurOk,zaJ]⟩,trivial⟩,?_⟩;clear q0 Q0;refine zae 19 rfl (by kernel_rfl) (by kernel_rfl) (by kernel_rfl) (fun _ _ h=>h) fun Q0 q0=>?_;simp only[↓bO,go_sem,seval,gM hx,hi1,hi2,gM hy,hj1,hj2];refine q0 _ ?_;clear q0 Q0;refine zaG (by kernel_rfl) ?_;simp only[zaf,zad,zac];(try simp only[zaA,zaB,zaq,zaz,mB,zc,zb,seval]);refine ⟨(F2,r1,r2,x,y),⟨hS3,hS1.2.1,hb2,hx,hy⟩,?_⟩;exact clz2
      ·
       refine zal rfl rfl fun Q0 q0=>?_;simp only[↓bO,go_sem,seval,gM hx,hi1,hi2,gM hy,hj1,hj2];refine q0 _ ⟨⟨⟨_,_,rfl,by simp,rfl,by simp[CurL,CurOk,zaJ]⟩,trivial⟩,?_⟩;clear q0 Q0;refine za4 (i:=8) (j:=17) (by kernel_rfl) ?_ ?_
       ·
        refine zal rfl rfl fun Q0 q0=>?_;simp only[↓bO,go_sem,seval,gM hx,hi1,hi2,gM hy,hj1,hj2];refine q0 _ ⟨⟨⟨_,_,rfl,by simp,rfl,by simp[CurL,CurOk,zaJ]⟩,trivial⟩,?_⟩;clear q0 Q0;refine zae 18 rfl (by kernel_rfl) (by kernel_rfl) (by kernel_rfl) (fun _ _ h=>h) fun Q0 q0=>?_;simp only[↓bO,go_sem,seval,gM hx,hi1,hi2,gM hy,hj1,hj2];refine q0 _ ?_;clear q0 Q0;refine zag (i:=17) (by kernel_rfl) ?_
        ·
         refine zal rfl rfl fun Q0 q0=>?_;simp only[↓bO,go_sem,seval,gM hx,hi1,hi2,gM hy,hj1,hj2];refine q0 _ ⟨⟨⟨_,_,rfl,by simp,rfl,by simp[CurL,CurOk,zaJ]⟩,trivial⟩,?_⟩;clear q0 Q0;refine zae 19 rfl (by kernel_rfl) (by kernel_rfl) (by kernel_rfl) (fun _ _ h=>h) fun Q0 q0=>?_;simp only[↓bO,go_sem,seval,gM hx,hi1,hi2,gM hy,hj1,hj2];refine q0 _ ?_;clear q0 Q0;refine zaG (by kernel_rfl) ?_;simp only[zaf,zad,zac];(try simp only[zaA,zaB,zaq,zaz,mB,zc,zb,seval]);refine ⟨(F2,r1,r2,x,y),⟨hS3,hS1.2.1,hb2,hx,hy⟩,?_⟩;exact clz2
       ·
        refine zal rfl rfl fun Q0 q0=>?_;simp only[↓bO,go_sem,seval,gM hx,hi1,hi2,gM hy,hj1,hj2];refine q0 _ ⟨⟨⟨_,_,rfl,by simp,rfl,by simp[CurL,CurOk,zaJ]⟩,trivial⟩,?_⟩;clear q0 Q0;refine zag (i:=8) (by kernel_rfl) ?_
        ·
         refine zal rfl rfl fun Q0 q0=>?_;simp only[↓bO,go_sem,seval,gM hx,hi1,hi2,gM hy,hj1,hj2];refine q0 _ ⟨⟨⟨_,_,rfl,by simp,rfl,by simp[CurL,CurOk,zaJ]⟩,trivial⟩,?_⟩;clear q0 Q0;refine zae 18 rfl (by kernel_rfl) (by kernel_rfl) (by kernel_rfl) (fun _ _ h=>h) fun Q0 q0=>?_;simp only[↓bO,go_sem,seval,gM hx,hi1,hi2,gM hy,hj1,hj2];refine q0 _ ?_;clear q0 Q0;refine zae 19 rfl (by kernel_rfl) (by kernel_rfl) (by kernel_rfl) (fun _ _ h=>h) fun Q0 q0=>?_;simp only[↓bO,go_sem,seval,gM hx,hi1,hi2,gM hy,hj1,hj2];refine q0 _ ?_;clear q0 Q0;refine zaG (by kernel_rfl) ?_;simp only[zaf,zad,zac];(try simp only[zaA,zaB,zaq,zaz,mB,zc,zb,seval]);refine ⟨(F2,r1,r2,x,y),⟨hS3,hS1.2.1,hb2,hx,hy⟩,?_⟩;exact clz2
     ·
      refine zal rfl rfl fun Q0 q0=>?_;simp only[↓bO,go_sem,seval,gM hx,hi1,hi2,gM hy,hj1,hj2];refine q0 _ ⟨⟨⟨_,_,rfl,by simp,rfl,by simp[CurL,CurOk,zaJ]⟩,trivial⟩,?_⟩;clear q0 Q0;refine za4 (i:=7) (j:=17) (by kernel_rfl) ?_ ?_
      ·
       refine zal rfl rfl fun Q0 q0=>?_;simp only[↓bO,go_sem,seval,gM hx,hi1,hi2,gM hy,hj1,hj2];refine q0 _ ⟨⟨⟨_,_,rfl,by simp,rfl,by simp[CurL,CurOk,zaJ]⟩,trivial⟩,?_⟩;clear q0 Q0;refine za4 (i:=8) (j:=17) (by kernel_rfl) ?_ ?_
       ·
        refine zal rfl rfl fun Q0 q0=>?_;simp only[↓bO,go_sem,seval,gM hx,hi1,hi2,gM hy,hj1,hj2];refine q0 _ ⟨⟨⟨_,_,rfl,by simp,rfl,by simp[CurL,CurOk,zaJ]⟩,trivial⟩,?_⟩;clear q0 Q0;refine zae 18 rfl (by kernel_rfl) (by kernel_rfl) (by kernel_rfl) (fun _ _ h=>h) fun Q0 q0=>?_;simp only[↓bO,go_sem,seval,gM hx,hi1,hi2,gM hy,hj1,hj2];refine q0 _ ?_;clear q0 Q0;refine zag (i:=17) (by kernel_rfl) ?_
        ·
         refine zal rfl rfl fun Q0 q0=>?_;simp only[↓bO,go_sem,seval,gM hx,hi1,hi2,gM hy,hj1,hj2];refine q0 _ ⟨⟨⟨_,_,rfl,by simp,rfl,by simp[CurL,CurOk,zaJ]⟩,trivial⟩,?_⟩;clear q0 Q0;refine zae 19 rfl (by kernel_rfl) (by kernel_rfl) (by kernel_rfl) (fun _ _ h=>h) fun Q0 q0=>?_;simp only[↓bO,go_sem,seval,gM hx,hi1,hi2,gM hy,hj1,hj2];refine q0 _ ?_;clear q0 Q0;refine zaG (by kernel_rfl) ?_;simp only[zaf,zad,zac];(try simp only[zaA,zaB,zaq,zaz,mB,zc,zb,seval]);refine ⟨(F2,r1,r2,x,y),⟨hS3,hS1.2.1,hb2,hx,hy⟩,?_⟩;exact clz2
       ·
        refine zal rfl rfl fun Q0 q0=>?_;simp only[↓bO,go_sem,seval,gM hx,hi1,hi2,gM hy,hj1,hj2];refine q0 _ ⟨⟨⟨_,_,rfl,by simp,rfl,by simp[CurL,CurOk,zaJ]⟩,trivial⟩,?_⟩;clear q0 Q0;refine zag (i:=8) (by kernel_rfl) ?_
        ·
         refine zal rfl rfl fun Q0 q0=>?_;simp only[↓bO,go_sem,seval,gM hx,hi1,hi2,gM hy,hj1,hj2];refine q0 _ ⟨⟨⟨_,_,rfl,by simp,rfl,by simp[CurL,CurOk,zaJ]⟩,trivial⟩,?_⟩;clear q0 Q0;refine zae 18 rfl (by kernel_rfl) (by kernel_rfl) (by kernel_rfl) (fun _ _ h=>h) fun Q0 q0=>?_;simp only[↓bO,go_sem,seval,gM hx,hi1,hi2,gM hy,hj1,hj2];refine q0 _ ?_;clear q0 Q0;refine zae 19 rfl (by kernel_rfl) (by kernel_rfl) (by kernel_rfl) (fun _ _ h=>h) fun Q0 q0=>?_;simp only[↓bO,go_sem,seval,gM hx,hi1,hi2,gM hy,hj1,hj2];refine q0 _ ?_;clear q0 Q0;refine zaG (by kernel_rfl) ?_;simp only[zaf,zad,zac];(try simp only[zaA,zaB,zaq,zaz,mB,zc,zb,seval]);refine ⟨(F2,r1,r2,x,y),⟨hS3,hS1.2.1,hb2,hx,hy⟩,?_⟩;exact clz2
      ·
       refine zal rfl rfl fun Q0 q0=>?_;simp only[↓bO,go_sem,seval,gM hx,hi1,hi2,gM hy,hj1,hj2];refine q0 _ ⟨⟨⟨_,_,rfl,by simp,rfl,by simp[CurL,CurOk,zaJ]⟩,trivial⟩,?_⟩;clear q0 Q0;refine zag (i:=7) (by kernel_rfl) ?_
       ·
        refine zal rfl rfl fun Q0 q0=>?_;simp only[↓bO,go_sem,seval,gM hx,hi1,hi2,gM hy,hj1,hj2];refine q0 _ ⟨⟨⟨_,_,rfl,by simp,rfl,by simp[CurL,CurOk,zaJ]⟩,trivial⟩,?_⟩;clear q0 Q0;refine zag (i:=8) (by kernel_rfl) ?_
        ·
         refine zal rfl rfl fun Q0 q0=>?_;simp only[↓bO,go_sem,seval,gM hx,hi1,hi2,gM hy,hj1,hj2];refine q0 _ ⟨⟨⟨_,_,rfl,by simp,rfl,by simp[CurL,CurOk,zaJ]⟩,trivial⟩,?_⟩;clear q0 Q0;refine zae 18 rfl (by kernel_rfl) (by kernel_rfl) (by kernel_rfl) (fun _ _ h=>h) fun Q0 q0=>?_;simp only[↓bO,go_sem,seval,gM hx,hi1,hi2,gM hy,hj1,hj2];refine q0 _ ?_;clear q0 Q0;refine zae 19 rfl (by kernel_rfl) (by kernel_rfl) (by kernel_rfl) (fun _ _ h=>h) fun Q0 q0=>?_;simp only[↓bO,go_sem,seval,gM hx,hi1,hi2,gM hy,hj1,hj2];refine q0 _ ?_;clear q0 Q0;refine zaG (by kernel_rfl) ?_;simp only[zaf,zad,zac];(try simp only[zaA,zaB,zaq,zaz,mB,zc,zb,seval]);refine ⟨(F2,r1,r2,x,y),⟨hS3,hS1.2.1,hb2,hx,hy⟩,?_⟩;exact clz2
  simp only[zaA,zaB,zaq,zaz,mB,zc,zb,seval];refine zab fun Y0 y0=>?_;refine zaa ?_;(iterate 3 (refine z8 2 fun Q0 q0=>?_;simp only[↓bO,go_sem,seval];refine q0 _ ?_;clear q0 Q0;simp only[go_sem]));refine z8 1 fun Q0 q0=>?_;simp only[↓bO,go_sem,seval];refine FCalls.at (Join_f j.1 hj.1.inv a b (by rw[hj.1.len];exact ha) (by rw[hj.1.len];exact hb)) (.cons (.v _) (.cons (.v _) .nil)) (fun _=>.tup (.cons (.v _) (.cons (.v _) .nil))) (i:=4) (j:=5) (k:=6) rfl rfl rfl (by decide) (by decide) (by decide) (by first | omega | (simp only;omega)) (by first | omega | (simp only;omega)) (by first | omega | (simp only;omega)) (fun G3 r hG3=>?_);(try dsimp only at hG3);simp only[zaz,Nat.reduceEqDiff,↓reduceIte];(try simp only[bS,bA,zaf,zad,zac]);(iterate 2 (refine q0 _ ?_;clear q0 Q0;simp only[go_sem];refine z8 2 fun Q0 q0=>?_;simp only[↓bO,go_sem,seval]));refine q0 _ ?_;clear q0 Q0;simp only[go_sem];simp only[↓bO,go_sem,seval];refine y0 _ ?_;(try clear y0 Y0);refine zab fun Y0 y0=>?_;refine zab fun Y1 y1=>?_;refine zaa ?_;simp only[↓bO,go_sem,seval];refine y1 _ ?_;(try clear y1 Y1);refine zan rfl (fun hb45=>?_) (fun hb45=>?_)
  ·
   refine zab fun Y1 y1=>?_;refine zaa ?_;simp only[↓bO,go_sem,seval];refine y1 _ ?_;(try clear y1 Y1);refine zam ?_;(try simp only[zaf,zad,zac,zaZ,zaW,zaC,bS,bA]);refine ⟨_,zai 0 (zaF ({S with F:=G3})),⟨({S with F:=G3},([],true)),?_,rfl,rfl⟩,.tup ⟨.data (zer _),.v _ _,trivial⟩,zcp (by omega) _,?_,?_,by omega⟩;· exact ⟨⟨rfl,rfl,r.1,r.2,FJoin.of hj.1 hG3,.inl ⟨by simpa using hb45,rfl,rfl⟩⟩,rfl⟩
   ·
    exact Le.tup ⟨Le.slNil 2,.refl _,trivial⟩
   · first | (refine ⟨0,rfl,rfl⟩) | (refine ⟨0,by simp only[zaF,zai,zw,zk,Nat.reduceAdd],rfl⟩)
  ·
   refine zar ?_;(try simp only[zaf,zad,zac]);refine y0 _ ?_;(try clear y0 Y0);have hrl:=hG3.rlt;have hfl9:=hj.1.len;have hfl8:=hS.fl;obtain ⟨z,hz⟩:∃z,S.W[r.1]?=some z:=⟨_,zd (by dsimp only at hrl;omega)⟩;have hk1:r.1<S.W.length:=(ze.1 hz).1;(have hk2:(r.1:Int)<(S.W.length:Int):=by omega);(have hz2:(S.W.set r.1 (max j.2.2.2.1 j.2.2.2.2))[r.1]?=some (max j.2.2.2.1 j.2.2.2.2):=by rw[List.getElem?_set_self hk1]);refine zab fun Y0 y0=>?_;refine zaa ?_;(iterate 4 (refine z8 2 fun Q0 q0=>?_;simp only[↓bO,go_sem,seval,gM hz,gM hz2,hk1,hk2,zaQ,intC,zn,zN];refine q0 _ ?_;clear q0 Q0;simp only[go_sem]));simp only[↓bO,go_sem,seval,gM hz,gM hz2,hk1,hk2,zaQ,intC,zn,zN];refine y0 _ ?_;(try clear y0 Y0);refine zab fun Y0 y0=>?_;refine zab fun Y1 y1=>?_;refine zaa ?_;refine z8 2 fun Q0 q0=>?_;simp only[↓bO,go_sem,seval,gM hz,gM hz2,hk1,hk2,zaQ,intC,zn,zN];refine q0 _ ?_;clear q0 Q0;simp only[go_sem];refine z8 1 fun Q0 q0=>?_;simp only[↓bO,go_sem,seval,gM hz,gM hz2,hk1,hk2,zaQ,intC,zn,zN];refine q0 _ ?_;clear q0 Q0;simp only[go_sem];refine zaN 57 rfl (fun hc57=>?_) (fun hc57=>?_)
   ·
    simp only[zc,zb];have hneg:j.2.2.2.1<0∨j.2.2.2.2<0:=.inl (by simpa using hc57);refine z8 2 fun Q0 q0=>?_;simp only[↓bO,go_sem,seval,gM hz,gM hz2,hk1,hk2,zaQ,intC,zn,zN];refine q0 _ ?_;clear q0 Q0;simp only[go_sem];simp only[↓bO,go_sem,seval,gM hz,gM hz2,hk1,hk2,zaQ,intC,zn,zN];refine y1 _ ?_;(try clear y1 Y1);refine zan (b:=true) (by first | exact rfl | exact congrArg (fun b=>AV.v (.bool b)) hb60) (fun _=>?_) (fun h=>(by cases h));refine zab fun Y1 y1=>?_;refine zaa ?_;simp only[↓bO,go_sem,seval,gM hz,gM hz2,hk1,hk2,zaQ,intC,zn,zN];refine y1 _ ?_;(try clear y1 Y1);refine zam ?_;(try simp only[zaf,zad,zac,zaZ,zaW,zaC,bS,bA]);refine ⟨_,zai 0 (zaF ({S with F:=G3,W:=S.W.set r.1 (max j.2.2.2.1 j.2.2.2.2)})),⟨({S with F:=G3,W:=S.W.set r.1 (max j.2.2.2.1 j.2.2.2.2)},([],true)),?_,rfl,rfl⟩,.tup ⟨.data (zer _),.v _ _,trivial⟩,zcp (by omega) _,?_,?_,by omega⟩;· exact ⟨⟨rfl,rfl,r.1,r.2,FJoin.of hj.1 hG3,.inr ⟨by simpa using hb45,j.2.1,j.2.2.1,j.2.2.2.1,j.2.2.2.2,hj.2.1,hj.2.2.1,hj.2.2.2.1,hj.2.2.2.2,.inl ⟨hneg,rfl,rfl⟩⟩⟩,rfl⟩
    ·
     exact Le.tup ⟨Le.slNil 2,.refl _,trivial⟩
    · first | (refine ⟨0,rfl,rfl⟩) | (refine ⟨0,by simp only[zaF,zai,zw,zk,Nat.reduceAdd,zn],rfl⟩)
   ·
    simp only[zc,zb];(have hx0:0≤j.2.2.2.1:=by simpa using hc57);refine z8 2 fun Q0 q0=>?_;simp only[↓bO,go_sem,seval,gM hz,gM hz2,hk1,hk2,zaQ,intC,zn,zN];refine q0 _ ?_;clear q0 Q0;simp only[go_sem];simp only[↓bO,go_sem,seval,gM hz,gM hz2,hk1,hk2,zaQ,intC,zn,zN];refine y1 _ ?_;(try clear y1 Y1);refine zan rfl (fun hb60=>?_) (fun hb60=>?_)
    ·
     have hneg:j.2.2.2.1<0∨j.2.2.2.2<0:=.inr (by simpa using hb60);refine zab fun Y1 y1=>?_;refine zaa ?_;simp only[↓bO,go_sem,seval,gM hz,gM hz2,hk1,hk2,zaQ,intC,zn,zN];refine y1 _ ?_;(try clear y1 Y1);refine zam ?_;(try simp only[zaf,zad,zac,zaZ,zaW,zaC,bS,bA]);refine ⟨_,zai 0 (zaF ({S with F:=G3,W:=S.W.set r.1 (max j.2.2.2.1 j.2.2.2.2)})),⟨({S with F:=G3,W:=S.W.set r.1 (max j.2.2.2.1 j.2.2.2.2)},([],true)),?_,rfl,rfl⟩,.tup ⟨.data (zer _),.v _ _,trivial⟩,zcp (by omega) _,?_,?_,by omega⟩;· exact ⟨⟨rfl,rfl,r.1,r.2,FJoin.of hj.1 hG3,.inr ⟨by simpa using hb45,j.2.1,j.2.2.1,j.2.2.2.1,j.2.2.2.2,hj.2.1,hj.2.2.1,hj.2.2.2.1,hj.2.2.2.2,.inl ⟨hneg,rfl,rfl⟩⟩⟩,rfl⟩
     ·
      exact Le.tup ⟨Le.slNil 2,.refl _,trivial⟩
     · first | (refine ⟨0,rfl,rfl⟩) | (refine ⟨0,by simp only[zaF,zai,zw,zk,Nat.reduceAdd,zn],rfl⟩)
    ·
     (have hy0:0≤j.2.2.2.2:=by simpa using hb60);obtain ⟨gx,hgx⟩:∃g,S.G.N[(j.2.2.2.1).toNat]?=some g:=⟨_,zd (by have:=hS.wr _ (zl hj.2.2.2.1);omega)⟩;obtain ⟨gy,hgy⟩:∃g,S.G.N[(j.2.2.2.2).toNat]?=some g:=⟨_,zd (by have:=hS.wr _ (zl hj.2.2.2.2);omega)⟩;have hPx:=zdB S.G j.2.2.2.1 hpl;rw[GS.parts_in hx0 hgx] at hPx;have hPy:=zdB S.G j.2.2.2.2 hpl;rw[GS.parts_in hy0 hgy] at hPy;have hlx:=hS.pl gx (zl hgx);have hly:=hS.pl gy (zl hgy);refine zar ?_;(try simp only[zaf,zad,zac]);refine y0 _ ?_;(try clear y0 Y0);refine zab fun Y0 y0=>?_;refine zaa ?_;(iterate 3 (refine z8 2 fun Q0 q0=>?_;simp only[↓bO,go_sem,seval,gM hz,gM hz2,hk1,hk2,zaQ,intC,zn,zN];refine q0 _ ?_;clear q0 Q0;simp only[go_sem]));simp only[↓bO,go_sem,seval,gM hz,gM hz2,hk1,hk2,zaQ,intC,zn,zN];refine y0 _ ?_;(try clear y0 Y0);refine zab fun Y0 y0=>?_;refine zaP [(0,1,[.ptr 1 0])] 14 rfl mixed (⟨⟨_,_,rfl,by simp,rfl,trivial,trivial⟩,trivial⟩) rfl ?_;dsimp only;refine zae 0 rfl (by kernel_rfl) (by kernel_rfl) (by kernel_rfl) (fun _ _ h=>h) fun Q0 q0=>?_;simp only[↓bO,go_sem,seval,gM hz,gM hz2,hk1,hk2,zaQ,intC,zn,zN];refine q0 _ ?_;clear q0 Q0;refine zae 1 rfl (by kernel_rfl) (by kernel_rfl) (by kernel_rfl) (fun _ _ h=>h) fun Q0 q0=>?_;simp only[↓bO,go_sem,seval,gM hz,gM hz2,hk1,hk2,zaQ,intC,zn,zN];refine q0 _ ?_;clear q0 Q0;refine zae 2 rfl (by kernel_rfl) (by kernel_rfl) (by kernel_rfl) (fun _ _ h=>h) fun Q0 q0=>?_;simp only[↓bO,go_sem,seval,gM hz,gM hz2,hk1,hk2,zaQ,intC,zn,zN];refine q0 _ ?_;clear q0 Q0;refine zay 3 0 rfl rfl (by kernel_rfl) (by kernel_rfl) (by kernel_rfl) (fun _ _ h=>h) fun Q0 q0=>?_;simp only[↓bO,go_sem,seval,gM hz,gM hz2,hk1,hk2,zaQ,intC,zn,zN];refine q0 _ ?_;clear q0 Q0;refine zae 4 rfl (by kernel_rfl) (by kernel_rfl) (by kernel_rfl) (fun _ _ h=>h) fun Q0 q0=>?_;simp only[↓bO,go_sem,seval,gM hz,gM hz2,hk1,hk2,zaQ,intC,zn,zN];refine q0 _ ?_;clear q0 Q0;refine zae 6 rfl (by kernel_rfl) (by kernel_rfl) (by kernel_rfl) (fun _ _ h=>h) fun Q0 q0=>?_;simp only[↓bO,go_sem,seval,gM hz,gM hz2,hk1,hk2,zaQ,intC,zn,zN];refine q0 _ ?_;clear q0 Q0;refine zae 7 rfl (by kernel_rfl) (by kernel_rfl) (by kernel_rfl) (fun _ _ h=>h) fun Q0 q0=>?_;simp only[↓bO,go_sem,seval,gM hz,gM hz2,hk1,hk2,zaQ,intC,zn,zN];refine q0 _ ?_;clear q0 Q0;refine zae 8 rfl (by kernel_rfl) (by kernel_rfl) (by kernel_rfl) (fun _ _ h=>h) fun Q0 q0=>?_;simp only[↓bO,go_sem,seval,gM hz,gM hz2,hk1,hk2,zaQ,intC,zn,zN];refine q0 _ ?_;clear q0 Q0;refine zay 9 0 rfl rfl (by kernel_rfl) (by kernel_rfl) (by kernel_rfl) (fun _ _ h=>h) fun Q0 q0=>?_;simp only[↓bO,go_sem,seval,gM hz,gM hz2,hk1,hk2,zaQ,intC,zn,zN];refine q0 _ ?_;clear q0 Q0;refine zae 10 rfl (by kernel_rfl) (by kernel_rfl) (by kernel_rfl) (fun _ _ h=>h) fun Q0 q0=>?_;simp only[↓bO,go_sem,seval,gM hz,gM hz2,hk1,hk2,zaQ,intC,zn,zN];refine q0 _ ?_;clear q0 Q0;refine zag (i:=5) (by kernel_rfl) ?_
     ·
      refine zal rfl rfl fun Q0 q0=>?_;simp only[↓bO,go_sem,seval,gM hz,gM hz2,hk1,hk2,zaQ,intC,zn,zN];refine GCalls.at (hPx) (.cons (.v _) .nil) (za6 _) (i:=1) (j:=2) (k:=3) rfl rfl rfl (by decide) (by decide) (by decide) (by first | omega | (simp only;omega)) (by first | omega | (simp only;omega)) (by first | omega | (simp only;omega)) ?_;simp only[zaz,Nat.reduceEqDiff,↓reduceIte];(try simp only[bS,bA]);refine q0 _ ⟨⟨⟨_,_,rfl,by simp,rfl,trivial,trivial⟩,trivial⟩,?_⟩;clear q0 Q0;refine zag (i:=11) (by kernel_rfl) ?_
      ·
       refine zal rfl rfl fun Q0 q0=>?_;simp only[↓bO,go_sem,seval,gM hz,gM hz2,hk1,hk2,zaQ,intC,zn,zN];refine GCalls.at (hPy) (.cons (.v _) .nil) (za6 _) (i:=1) (j:=2) (k:=3) rfl rfl rfl (by decide) (by decide) (by decide) (by first | omega | (simp only;omega)) (by first | omega | (simp only;omega)) (by first | omega | (simp only;omega)) ?_;simp only[zaz,Nat.reduceEqDiff,↓reduceIte];(try simp only[bS,bA]);refine q0 _ ⟨⟨⟨_,_,rfl,by simp,rfl,trivial,trivial⟩,trivial⟩,?_⟩;clear q0 Q0;refine zae 12 rfl (by kernel_rfl) (by kernel_rfl) (by kernel_rfl) (fun _ _ h=>h) fun Q0 q0=>?_;simp only[↓bO,go_sem,seval,gM hz,gM hz2,hk1,hk2,zaQ,intC,zn,zN];refine q0 _ ?_;clear q0 Q0;refine zae 13 rfl (by kernel_rfl) (by kernel_rfl) (by kernel_rfl) (fun _ _ h=>h) fun Q0 q0=>?_;simp only[↓bO,go_sem,seval,gM hz,gM hz2,hk1,hk2,zaQ,intC,zn,zN];refine q0 _ ?_;clear q0 Q0;refine zaG (by kernel_rfl) ?_;simp only[zaf,zad,zac];refine y0 _ ?_;(try clear y0 Y0);refine zab fun Y0 y0=>?_;refine zdU (mB 119 633825300114114700748351614976) ([(99,.v (.bool (clash gx gy)))]) ([]) ?_ ?_
       ·
        refine zaP [(0,1,[.ptr 1 0])] 20 rfl mixed (⟨⟨_,_,rfl,by simp,rfl,trivial,trivial⟩,trivial⟩) rfl ?_;dsimp only;refine zae 0 rfl (by kernel_rfl) (by kernel_rfl) (by kernel_rfl) (fun _ _ h=>h) fun Q0 q0=>?_;simp only[↓bO,go_sem,seval,gM hz,gM hz2,hk1,hk2,zaQ,intC,zn,zN];refine q0 _ ?_;clear q0 Q0;refine zae 1 rfl (by kernel_rfl) (by kernel_rfl) (by kernel_rfl) (fun _ _ h=>h) fun Q0 q0=>?_;simp only[↓bO,go_sem,seval,gM hz,gM hz2,hk1,hk2,zaQ,intC,zn,zN];refine q0 _ ?_;clear q0 Q0;refine zae 2 rfl (by kernel_rfl) (by kernel_rfl) (by kernel_rfl) (fun _ _ h=>h) fun Q0 q0=>?_;simp only[↓bO,go_sem,seval,gM hz,gM hz2,hk1,hk2,zaQ,intC,zn,zN];refine q0 _ ?_;clear q0 Q0;refine zay 3 0 rfl rfl (by kernel_rfl) (by kernel_rfl) (by kernel_rfl) (fun _ _ h=>h) fun Q0 q0=>?_;simp only[↓bO,go_sem,seval,gM hz,gM hz2,hk1,hk2,zaQ,intC,zn,zN];refine q0 _ ?_;clear q0 Q0;refine zae 4 rfl (by kernel_rfl) (by kernel_rfl) (by kernel_rfl) (fun _ _ h=>h) fun Q0 q0=>?_;simp only[↓bO,go_sem,seval,gM hz,gM hz2,hk1,hk2,zaQ,intC,zn,zN];refine q0 _ ?_;clear q0 Q0;refine zae 6 rfl (by kernel_rfl) (by kernel_rfl) (by kernel_rfl) (fun _ _ h=>h) fun Q0 q0=>?_;simp only[↓bO,go_sem,seval,gM hz,gM hz2,hk1,hk2,zaQ,intC,zn,zN];refine q0 _ ?_;clear q0 Q0;refine zae 7 rfl (by kernel_rfl) (by kernel_rfl) (by kernel_rfl) (fun _ _ h=>h) fun Q0 q0=>?_;simp only[↓bO,go_sem,seval,gM hz,gM hz2,hk1,hk2,zaQ,intC,zn,zN];refine q0 _ ?_;clear q0 Q0;refine zae 8 rfl (by kernel_rfl) (by kernel_rfl) (by kernel_rfl) (fun _ _ h=>h) fun Q0 q0=>?_;simp only[↓bO,go_sem,seval,gM hz,gM hz2,hk1,hk2,zaQ,intC,zn,zN];refine q0 _ ?_;clear q0 Q0;refine zay 9 0 rfl rfl (by kernel_rfl) (by kernel_rfl) (by kernel_rfl) (fun _ _ h=>h) fun Q0 q0=>?_;simp only[↓bO,go_sem,seval,gM hz,gM hz2,hk1,hk2,zaQ,intC,zn,zN];refine q0 _ ?_;clear q0 Q0;refine zae 10 rfl (by kernel_rfl) (by kernel_rfl) (by kernel_rfl) (fun _ _ h=>h) fun Q0 q0=>?_;simp only[↓bO,go_sem,seval,gM hz,gM hz2,hk1,hk2,zaQ,intC,zn,zN];refine q0 _ ?_;clear q0 Q0;refine zag (i:=5) (by kernel_rfl) ?_
        ·
         refine zal rfl rfl fun Q0 q0=>?_;simp only[↓bO,go_sem,seval,gM hz,gM hz2,hk1,hk2,zaQ,intC,zn,zN];refine GCalls.at (zdj S.G j.2.2.2.1 gx hx0 hgx) (.cons (.v _) .nil) (.v _) (i:=1) (j:=2) (k:=3) rfl rfl rfl (by decide) (by decide) (by decide) (by first | omega | (simp only;omega)) (by first | omega | (simp only;omega)) (by first | omega | (simp only;omega)) ?_;simp only[zaz,Nat.reduceEqDiff,↓reduceIte];(try simp only[bS,bA]);refine q0 _ ⟨⟨⟨_,_,rfl,by simp,rfl,trivial,trivial⟩,trivial⟩,?_⟩;clear q0 Q0;refine zag (i:=11) (by kernel_rfl) ?_
         ·
          refine zal rfl rfl fun Q0 q0=>?_;simp only[↓bO,go_sem,seval,gM hz,gM hz2,hk1,hk2,zaQ,intC,zn,zN];refine GCalls.at (zdj S.G j.2.2.2.2 gy hy0 hgy) (.cons (.v _) .nil) (.v _) (i:=1) (j:=2) (k:=3) rfl rfl rfl (by decide) (by decide) (by decide) (by first | omega | (simp only;omega)) (by first | omega | (simp only;omega)) (by first | omega | (simp only;omega)) ?_;simp only[zaz,Nat.reduceEqDiff,↓reduceIte];(try simp only[bS,bA]);refine q0 _ ⟨⟨⟨_,_,rfl,by simp,rfl,trivial,trivial⟩,trivial⟩,?_⟩;clear q0 Q0;refine zag (i:=12) (by kernel_rfl) ?_
          ·
           refine zal rfl rfl fun Q0 q0=>?_;simp only[↓bO,go_sem,seval,gM hz,gM hz2,hk1,hk2,zaQ,intC,zn,zN];refine q0 _ ⟨⟨⟨_,_,rfl,by simp,rfl,trivial,trivial⟩,trivial⟩,?_⟩;clear q0 Q0;refine zae 13 rfl (by kernel_rfl) (by kernel_rfl) (by kernel_rfl) (fun _ _ h=>h) fun Q0 q0=>?_;simp only[↓bO,go_sem,seval,gM hz,gM hz2,hk1,hk2,zaQ,intC,zn,zN];refine q0 _ ?_;clear q0 Q0;refine zg5 93 rfl (fun hc93=>?_) (fun hc93=>?_)
           ·
            simp only[zc,zb];have hcl:clash gx gy=true:=clash_eq gx gy hc93;refine zbh 14 rfl (by kernel_rfl) (by kernel_rfl) (by kernel_rfl) (fun _ _ h=>h) (by kernel_rfl) ?_;simp only[bS,bA];refine zbh 15 rfl (by kernel_rfl) (by kernel_rfl) (by kernel_rfl) (fun _ _ h=>h) (by kernel_rfl) ?_;simp only[bS,bA];refine zbh 16 rfl (by kernel_rfl) (by kernel_rfl) (by kernel_rfl) (fun _ _ h=>h) (by kernel_rfl) ?_;simp only[bS,bA];refine zbh 17 rfl (by kernel_rfl) (by kernel_rfl) (by kernel_rfl) (fun _ _ h=>h) (by kernel_rfl) ?_;simp only[bS,bA];refine zbh 18 rfl (by kernel_rfl) (by kernel_rfl) (by kernel_rfl) (fun _ _ h=>h) (by kernel_rfl) ?_;simp only[bS,bA];refine zag (i:=19) (by kernel_rfl) ?_
            ·
             refine zal rfl rfl fun Q0 q0=>?_;simp only[↓bO,go_sem,seval,gM hz,gM hz2,hk1,hk2,zaQ,intC,zn,zN];refine q0 _ ⟨⟨⟨_,_,rfl,by simp,rfl,trivial,trivial⟩,trivial⟩,?_⟩;clear q0 Q0;refine zaG (by kernel_rfl) ?_;simp only[zaf,zad,zac];(try simp only[zaA,zaB,zaq,zaz,mB,zc,zb,seval]);(first | rw[hcl] | rw[clash]);exact Weak.mk (by first | (simp only[go_sem,Le.refl,Le.any];done) | (simp only[go_sem,clash,hc93,ziY,Bool.false_or,Le.refl,Le.any];done)) (fun _ _ h=>h) rfl rfl
           ·
            simp only[zc,zb];refine zb2 14 rfl (by kernel_rfl) (by kernel_rfl) (by kernel_rfl) (fun _ _ h=>h) (by kernel_rfl) fun Q0 q0=>?_;simp only[↓bO,go_sem,seval,gM hz,gM hz2,hk1,hk2,zaQ,intC,zn,zN];refine q0 _ ?_;clear q0 Q0;refine zb2 15 rfl (by kernel_rfl) (by kernel_rfl) (by kernel_rfl) (fun _ _ h=>h) (by kernel_rfl) fun Q0 q0=>?_;simp only[↓bO,go_sem,seval,gM hz,gM hz2,hk1,hk2,zaQ,intC,zn,zN];refine q0 _ ?_;clear q0 Q0;refine zb2 16 rfl (by kernel_rfl) (by kernel_rfl) (by kernel_rfl) (fun _ _ h=>h) (by kernel_rfl) fun Q0 q0=>?_;simp only[↓bO,go_sem,seval,gM hz,gM hz2,hk1,hk2,zaQ,intC,zn,zN];refine q0 _ ?_;clear q0 Q0;refine zb2 17 rfl (by kernel_rfl) (by kernel_rfl) (by kernel_rfl) (fun _ _ h=>h) (by kernel_rfl) fun Q0 q0=>?_;simp only[↓bO,go_sem,seval,gM hz,gM hz2,hk1,hk2,zaQ,intC,zn,zN];refine q0 _ ?_;clear q0 Q0;refine zag (i:=18) (by kernel_rfl) ?_
            ·
             refine aAt_if rfl fun Q0 q0=>?_;simp only[↓bO,go_sem,seval,gM hz,gM hz2,hk1,hk2,zaQ,intC,zn,zN];refine q0 _ ⟨⟨⟨_,_,rfl,by simp,rfl,trivial,trivial⟩,trivial⟩,?_⟩;clear q0 Q0;refine zag (i:=19) (by kernel_rfl) ?_
             ·
              refine zal rfl rfl fun Q0 q0=>?_;simp only[↓bO,go_sem,seval,gM hz,gM hz2,hk1,hk2,zaQ,intC,zn,zN];refine q0 _ ⟨⟨⟨_,_,rfl,by simp,rfl,trivial,trivial⟩,trivial⟩,?_⟩;clear q0 Q0;refine zaG (by kernel_rfl) ?_;simp only[zaf,zad,zac];(try simp only[zaA,zaB,zaq,zaz,mB,zc,zb,seval]);(first | rw[hcl] | rw[clash]);exact Weak.mk (by first | (simp only[go_sem,Le.refl,Le.any];done) | (simp only[go_sem,clash,hc93,ziY,Bool.false_or,Le.refl,Le.any];done)) (fun _ _ h=>h) rfl rfl
       simp only[zaA,zaB,zaq,zaz,mB,zc,zb,seval];refine zan rfl (fun hb99=>?_) (fun hb99=>?_)
       ·
        (have hcl:clash gx gy=true:=by simpa using hb99);refine zab fun Y1 y1=>?_;refine zaa ?_;simp only[↓bO,go_sem,seval,gM hz,gM hz2,hk1,hk2,zaQ,intC,zn,zN];refine y1 _ ?_;(try clear y1 Y1);refine zam ?_;(try simp only[zaf,zad,zac,zaZ,zaW,zaC,bS,bA]);refine ⟨_,zai 0 (zaF ({S with F:=G3,W:=S.W.set r.1 j.2.2.2.1})),⟨({S with F:=G3,W:=S.W.set r.1 j.2.2.2.1},([],false)),?_,rfl,rfl⟩,.tup ⟨.data (zer _),.v _ _,trivial⟩,zcp (by omega) _,?_,?_,by omega⟩;· exact ⟨⟨rfl,rfl,r.1,r.2,FJoin.of hj.1 hG3,.inr ⟨by simpa using hb45,j.2.1,j.2.2.1,j.2.2.2.1,j.2.2.2.2,hj.2.1,hj.2.2.1,hj.2.2.2.1,hj.2.2.2.2,.inr ⟨hx0,hy0,rfl,gx,gy,hgx,hgy,.inl ⟨hcl,rfl⟩⟩⟩⟩,rfl⟩
        ·
         exact Le.tup ⟨Le.slNil 2,.refl _,trivial⟩
        · first | (refine ⟨0,rfl,rfl⟩) | (refine ⟨0,by simp only[zaF,zai,zw,zk,Nat.reduceAdd,zn],rfl⟩)
       ·
        (have hcl:clash gx gy=false:=by simpa using hb99);(have hll:gx.parts.length=gy.parts.length:=by have h9:=hcl;simp[clash] at h9;exact h9.2);refine zar ?_;(try simp only[zaf,zad,zac]);refine y0 _ ?_;(try clear y0 Y0);refine zab fun Y0 y0=>?_;refine zaa ?_;simp only[↓bO,go_sem,seval,gM hz,gM hz2,hk1,hk2,zaQ,intC,zn,zN];refine y0 _ ?_;(try clear y0 Y0);refine zab fun Y0 y0=>?_;refine zab fun Y1 y1=>?_;refine zaa ?_;refine z8 2 fun Q0 q0=>?_;simp only[↓bO,go_sem,seval,gM hz,gM hz2,hk1,hk2,zaQ,intC,zn,zN];refine q0 _ ?_;clear q0 Q0;simp only[go_sem];simp only[↓bO,go_sem,seval,gM hz,gM hz2,hk1,hk2,zaQ,intC,zn,zN];refine y1 _ ?_;(try clear y1 Y1);refine zav ?_;refine zbk (Weak.tokSlot 14 108 2 rfl) ?_;simp only[zc,zb];refine zaS (σ:=Nat) (mB 119 7605903601369376408980219260928) (fun s=>s≤gx.parts.length) (fun s=>[(14,.osl 8 2 (((gx.parts.zip gy.parts).take s).map pC)),(102,.v (.int .i64 (s:Int)))]) (fun s=>[(8,.tok 108 2 s)]) (fun s=>gx.parts.length-s) 0 (by omega) ?_ (fun s hs=>?_)
        ·
         simp only[zaA,zaB,zaq,zaz,mB,zc,zb,seval,bL];exact zcm
        simp only[zaA,zaB,zaq,zaz,mB,zc,zb,seval];refine zab fun Y1 y1=>?_;refine zaa ?_;simp only[↓bO,go_sem,seval,gM hz,gM hz2,hk1,hk2,zaQ,intC,zn,zN];refine y1 _ ?_;(try clear y1 Y1);refine zab fun Y1 y1=>?_;refine zan rfl (fun hb103=>?_) (fun hb103=>?_)
        ·
         (have hk:s<gx.parts.length:=by simpa using hb103);(have hkk2:s<gy.parts.length:=by omega);obtain ⟨p,hp⟩:∃p,gx.parts[s]?=some p:=⟨_,zd hk⟩;obtain ⟨q,hq⟩:∃q,gy.parts[s]?=some q:=⟨_,zd hkk2⟩;(have hpq:(gx.parts.zip gy.parts)[s]?=some (p,q):=by rw[List.getElem?_zip_eq_some];exact ⟨hp,hq⟩);have hw:IntKind.i64.wrap ((s:Int)+1)=(s:Int)+1:=zaT (by omega) (by omega);(have hln:(((gx.parts.zip gy.parts).take s).map pC).length=s:=by simp;omega);(have hb1:(s+1) * 16≤140737488355328:=by omega);(have hb2:s+1≤maxLen:=by simp only[maxLen];omega);refine zar ?_;(try simp only[zaf,zad,zac]);refine y1 _ ?_;(try clear y1 Y1);refine zab fun Y1 y1=>?_;refine zav ?_;refine zab fun Y2 y2=>?_;refine zaa ?_;simp only[↓bO,go_sem,seval,hk,hkk2,gM hp,gM hq,intC,za,hw,hln,hb1,hb2,za0 pC hpq,pC,gM hz,gM hz2,hk1,hk2,zaQ,zn,zN];refine y2 _ ?_;(try clear y2 Y2);refine za8 11 mixed (by kernel_rfl) fun J0 j0=>?_;(iterate 5 (simp only[go_sem];refine zaD 2 fun Q0 q0=>?_;simp only[↓za1,↓dOp,↓bO,go_sem,seval,hk,hkk2,gM hp,gM hq,intC,za,hw,hln,hb1,hb2,za0 pC hpq,pC,gM hz,gM hz2,hk1,hk2,zaQ,zn,zN];refine q0 _ ?_;clear q0 Q0));simp only[go_sem];simp only[↓za1,↓dOp,↓bO,go_sem,seval,↓zbX,↓zbT,↓zbY,↓zbW,↓zb0,↓zbS,↓zbR,↓zbQ,↓zbZ,↓zbo,↓zbp,↓zbq,hk,hkk2,gM hp,gM hq,intC,za,hw,hln,hb1,hb2,za0 pC hpq,pC,gM hz,gM hz2,hk1,hk2,zaQ,zn,zN];refine j0 _ ?_;clear j0 J0;simp only[go_sem];simp only[↓bO,go_sem,seval,hk,hkk2,gM hp,gM hq,intC,za,hw,hln,hb1,hb2,za0 pC hpq,pC,gM hz,gM hz2,hk1,hk2,zaQ,zn,zN];refine y1 _ ?_;(try clear y1 Y1);refine zaa ?_;simp only[↓bO,go_sem,seval,hk,hkk2,gM hp,gM hq,intC,za,hw,hln,hb1,hb2,za0 pC hpq,pC,gM hz,gM hz2,hk1,hk2,zaQ,zn,zN];refine ⟨(s+1),(by omega),by omega,?_⟩;simp only[zaA,zaB,zaq,zaz,mB,zc,zb,seval,hk,hkk2,gM hp,gM hq,intC,za,zL,hw,hln,hb1,hb2,za0 pC hpq,pC,bL,gM hz,gM hz2,hk1,hk2,zaQ,zn,zN];exact zcm
        ·
         (have hk:s=(gx.parts.zip gy.parts).length:=by have h9:=hb103;simp at h9;simp;omega);refine zaV ?_;simp only[zaf,zad,zac,bA,Nat.reduceEqDiff,↓reduceIte];refine y0 _ ?_;(try clear y0 Y0);refine zab fun Y0 y0=>?_;refine zaa ?_;refine z8 2 fun Q0 q0=>?_;simp only[↓bO,go_sem,seval,gM hz,gM hz2,hk1,hk2,zaQ,intC,zn,zN];refine q0 _ ?_;clear q0 Q0;simp only[go_sem];simp only[↓bO,go_sem,seval,gM hz,gM hz2,hk1,hk2,zaQ,intC,zn,zN];refine y0 _ ?_;(try clear y0 Y0);refine zam ?_;(try simp only[zaf,zad,zac,zaZ,zaW,zaC,bS,bA]);refine ⟨_,zai 0 (zaF ({S with F:=G3,W:=S.W.set r.1 j.2.2.2.1})),⟨({S with F:=G3,W:=S.W.set r.1 j.2.2.2.1},(gx.parts.zip gy.parts,true)),?_,rfl,rfl⟩,.tup ⟨.data (zer _),.v _ _,trivial⟩,zcp (by omega) _,?_,?_,by omega⟩;· exact ⟨⟨rfl,rfl,r.1,r.2,FJoin.of hj.1 hG3,.inr ⟨by simpa using hb45,j.2.1,j.2.2.1,j.2.2.2.1,j.2.2.2.2,hj.2.1,hj.2.2.1,hj.2.2.2.1,hj.2.2.2.2,.inr ⟨hx0,hy0,rfl,gx,gy,hgx,hgy,.inr ⟨hcl,rfl⟩⟩⟩⟩,rfl⟩
         ·
          rw[hk,z6];exact Le.tup ⟨Le.oslL,.refl _,trivial⟩
         · first | (refine ⟨1,rfl,rfl⟩) | (refine ⟨1,by simp only[zaF,zai,zw,zk,Nat.reduceAdd,zn],rfl⟩)
end Go.Proofs.YtpfiliamceimmaaGreatDoor
