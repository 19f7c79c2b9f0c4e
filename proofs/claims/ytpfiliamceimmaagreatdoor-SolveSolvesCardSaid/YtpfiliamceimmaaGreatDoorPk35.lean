/- packed, part 35 of 48. Conditions: none. -/
import Derived.Test.YtpfiliamceimmaaGreatDoorPk34
import Derived.Shelf.SlIterI.Nil
import Derived.Shelf.SortM.Plain
import Derived.Shelf.SortM.SortNone
import Derived.Ground.GgzProg
import Derived.Ground.SlgmProg
import Derived.Test.YtpfiliamceimmaaGreatDoorProg
set_option linter.unusedVariables false
set_option linter.unusedSimpArgs false
set_option maxRecDepth 100000
set_option maxHeartbeats 4000000
namespace Go.Proofs.YtpfiliamceimmaaGreatDoor
open Go Go.RowKit
attribute [local irreducible] aops zaA
theorem vGet (V:List (Int×Int)) (n:Int):((zaw V n).map fun i=>AV.v (.int .i64 i)).getD (.v (.int .i64 0))=.v (.int .i64 ((zaw V n).getD 0)):=by cases zaw V n <;> rfl
theorem vIs (V:List (Int×Int)) (n:Int):((zaw V n).map fun i=>AV.v (.int .i64 i)).isSome=(zaw V n).isSome:=by cases zaw V n <;> rfl
def zeJ (S:CS) (n:Int):Int×Bool:=if S.clash=true then (0,false) else ((zaw S.G.V n).getD 0,(zaw S.G.V n).isSome)
theorem zeU {S:CS} {n:Int} (h:(zeJ S n).2=true):S.clash=false/\∃k,zaw S.G.V n=some k/\(zeJ S n).1=k:=by
 unfold zeJ at h ⊢;(split at h);(·cases h);(rename_i hc);rw[if_neg hc];refine ⟨by simpa using hc,?_⟩
 cases hv:zaw S.G.V n with
 | none=>rw[hv] at h;cases h
 | some k=>exact ⟨k,rfl,rfl⟩
theorem zeE {S:CS} {n:Int} (h:(zeJ S n).2=false):S.clash=true\/zaw S.G.V n=none:=by
 unfold zeJ at h;(split at h);·exact .inl (by assumption)
 cases hv:zaw S.G.V n with
 | none=>exact .inr rfl
 | some k=>rw[hv] at h;cases h
theorem nodeG_of {S:CS} {n k:Int} (h:S.clash=false) (hv:zaw S.G.V n=some k):zeJ S n=(k,true):=by
 unfold zeJ;rw[h,hv];rfl
theorem One.of_rt {up:List Nat} {a b r q:Nat} (ha:Rt up a r) (hb:Rt up b q):One up a b↔r=q:=by
 constructor
 ·rintro (rfl | ⟨t,h1,h2⟩)
  (·exact Rt.det ha hb);(cases Rt.det ha h1);exact (Rt.det hb h2).symm▸rfl
 rintro rfl;exact .inr ⟨r,ha,hb⟩
theorem zhe (G:GS) (n:Int):GCalls 128 [.ptr 0 0,.v (.int .i64 n)] (G.N) (G.V) (.tup [.v (.int .i64 ((zaw G.V n).getD 0)),.v (.bool (zaw G.V n).isSome)]) (G.N) (G.V):=by
  refine ACalls.clean (C:=fun r os=>r=_/\os=_) ?_;refine aIn Tryz.func128 fun hm=>?_;simp only[Tryz.ntmps128,Tryz.results128,go_sem,seval];simp only[zcl,zad,Nat.reduceAdd];refine sqR fun _ y=>?_;refine chS 1 ?_;simp only[↓bO,go_sem,seval];apply y;refine z6 fun _ y=>?_;refine sqR fun _ u=>?_;refine chS 1 ?_;simp only[↓bO,go_sem,seval];apply u;apply z8 rfl <;> intro hb9
  ·
   cases hb9
  apply zaa;apply y;refine sqR fun _ y=>?_;(iterate 10 (refine chS 1 ?_ (by intro _ q;simp only[↓bO,go_sem,seval,zfz,vGet,vIs];exact q)));simp only[↓bO,go_sem,seval];apply y;refine sqR fun _ y=>?_;(iterate 3 (refine chS 1 ?_));simp only[↓bO,go_sem,seval];apply y;apply zab;(try simp only[go_sem]);refine ⟨_,zad 0 (zcl (G.N) (G.V)),⟨rfl,rfl⟩,.tup ⟨.v _ _,.v _ _,trivial⟩,zjq tz1 _ _,?_,?_,by omega⟩
  ·
   refine Le.of_eq ?_;rfl
  first | (refine ⟨0,?_,rfl⟩;first | rfl | (simp only[zcl,zad,zf,zk,zu,zt,zW,zi,zz,zJ,GNode.cells,zI,Nat.reduceAdd,zO];done))
theorem zih (S:CS) (n:Int):CCalls (σ:=Int×Bool) 93 [.ptr 0 0,.v (.int .i64 n)] (S) (fun s=>s.1=S/\s.2=zeJ S n) (fun s=>.tup [.v (.int .i64 s.1),.v (.bool s.2)]):=by
  refine ACalls.clean (C:=fun r os=>∃s:CS×Int×Bool,(s.1=S/\s.2=zeJ S n)/\r=(fun s:Int×Bool=>.tup [.v (.int .i64 s.1),.v (.bool s.2)]) s.2/\os=zad 0 (zan s.1)) ?_;refine aIn Tryz.func93 fun hm=>?_;simp only[Tryz.ntmps93,Tryz.results93,go_sem,seval];simp only[zan,zad,Nat.reduceAdd];refine sqD ?_;refine z6 fun _ y=>?_;refine sqR fun _ u=>?_;refine chS 1 ?_;refine zZ 1 fun _ q=>?_;simp only[↓bO,go_sem,seval];refine CCalls.at (Err_c S) (.nil) (fun _=>.v _) (i0:=0) (i1:=1) (i2:=2) (i3:=3) (i4:=4) (i5:=5) (i6:=6) (i7:=7) tz3 tz4 zbc (fun Z9 u9 hZ9=>?_);(try dsimp only at hZ9);simp only[zat,zl,zp,zm,zah,zam,Nat.reduceEqDiff,↓reduceIte];obtain rfl:S=Z9:=hZ9.symm;apply q;clear q;simp only[↓bO,go_sem,seval];apply u;apply z8 rfl <;> intro hb8
  ·
   (have hcs:S.clash=true:=by (have h9:=hb8;cases hc:S.clash <;> simp[hc] at h9 ⊢));refine sqD ?_;apply zab;(try simp only[go_sem]);refine ⟨_,zad 0 (zan (S)),⟨(S,(0,false)),?_,rfl,rfl⟩,.tup ⟨.v _ _,.v _ _,trivial⟩,zcg tz1 _,?_,?_,by omega⟩;· exact ⟨rfl,by rw[zeJ,hcs];rfl⟩
   ·
    exact Le.refl _
   first | (refine ⟨0,rfl,rfl⟩) | (refine ⟨0,by simp only[zan,zad,zk,zf,Nat.reduceAdd],rfl⟩)
  (have hcs:S.clash=false:=by (have h9:=hb8;cases hc:S.clash <;> simp[hc] at h9 ⊢));apply zaa;apply y;refine sqR fun _ y=>?_;refine zZ 4 fun _ q=>?_;(iterate 2 (simp only[↓bO,go_sem,seval];apply q;clear q;refine zZ 1 fun _ q=>?_));simp only[↓bO,go_sem,seval];refine GCalls.at (zhe S.G n) (.cons (.v _) .nil) (.tup (.cons (.v _) (.cons (.v _) .nil))) (i:=1) (j:=2) (k:=3) rfl rfl rfl tz3 tz3 tz3 tz2 tz2 tz2 ?_;simp only[zam,Nat.reduceEqDiff,↓reduceIte];apply q;clear q;simp only[↓bO,go_sem,seval];apply y;apply zab;(try simp only[go_sem]);refine ⟨_,zad 0 (zan (S)),⟨(S,((zaw S.G.V n).getD 0,(zaw S.G.V n).isSome)),?_,rfl,rfl⟩,.tup ⟨.v _ _,.v _ _,trivial⟩,zcg tz1 _,?_,?_,by omega⟩;· exact ⟨rfl,by rw[zeJ,hcs];rfl⟩
  ·
   exact Le.refl _
  first | (refine ⟨0,rfl,rfl⟩) | (refine ⟨0,by simp only[zan,zad,zk,zf,Nat.reduceAdd],rfl⟩)
theorem FSm_f (F:FS) (hF:FInv F) (a b:Nat) (ha:a<F.up.length) (hb:b<F.up.length):FCalls (σ:=Bool) 131 [.ptr 0 0,.v (.int .i64 (a:Int)),.v (.int .i64 (b:Int))] (F) (fun s=>FSame F s.1/\(s.2=true↔One F.up a b)) (fun s=>.v (.bool s)):=by
  refine ACalls.clean (C:=fun r os=>∃s:FS×Bool,(FSame F s.1/\(s.2=true↔One F.up a b))/\r=(fun s:Bool=>.v (.bool s)) s.2/\os=zad 0 (zcY s.1)) ?_;refine aIn Tryz.func131 fun hm=>?_;simp only[Tryz.ntmps131,Tryz.results131,go_sem,seval];simp only[zcY,zad,Nat.reduceAdd];refine sqD ?_;refine sqR fun _ y=>?_;(iterate 2 (refine chS 1 ?_));refine zZ 1 fun _ q=>?_;simp only[↓bO,go_sem,seval];refine FCalls.at (zfM F (a:Int)) (.cons (.v _) .nil) (fun _=>.v _) (i:=0) (j:=1) (k:=2) rfl rfl rfl tz3 tz3 tz3 tz2 tz2 tz2 (fun G0 u0 hG0=>?_);(try dsimp only at hG0);simp only[zam,Nat.reduceEqDiff,↓reduceIte];obtain rfl:F=G0:=hG0.symm;apply q;clear q;refine chS 1 ?_;simp only[go_sem];refine zag 10 rfl (fun hc10=>?_) (fun hc10=>?_)
  ·
   (iterate 2 (refine chS 1 ?_));refine zZ 1 fun _ q=>?_;simp only[↓bO,go_sem,seval];refine FCalls.at (zfM F (b:Int)) (.cons (.v _) .nil) (fun _=>.v _) (i:=0) (j:=1) (k:=2) rfl rfl rfl tz3 tz3 tz3 tz2 tz2 tz2 (fun G0 u0 hG0=>?_);(try dsimp only at hG0);simp only[zam,Nat.reduceEqDiff,↓reduceIte];obtain rfl:F=G0:=hG0.symm;(iterate 2 (apply q;clear q;refine zZ 1 fun _ q=>?_;simp only[↓bO,go_sem,seval]));apply q;clear q;refine zag 15 rfl (fun hc15=>?_) (fun hc15=>?_)
   ·
    (iterate 2 (refine chS 1 ?_));refine zZ 1 fun _ q=>?_;simp only[↓bO,go_sem,seval];refine FCalls.at (zjm F hF a ha) (.cons (.v _) .nil) (fun _=>.v _) (i:=0) (j:=1) (k:=2) rfl rfl rfl tz3 tz3 tz3 tz2 tz2 tz2 (fun G1 r1 hG1=>?_);(try dsimp only at hG1);simp only[zam,Nat.reduceEqDiff,↓reduceIte];(iterate 3 (apply q;clear q;refine zZ 1 fun _ q=>?_;simp only[↓bO,go_sem,seval]));refine FCalls.at (zjm G1 hG1.1.inv b (by rw[hG1.1.len];exact hb)) (.cons (.v _) .nil) (fun _=>.v _) (i:=0) (j:=1) (k:=2) rfl rfl rfl tz3 tz3 tz3 tz2 tz2 tz2 (fun G2 r2 hG2=>?_);(try dsimp only at hG2);simp only[zam,Nat.reduceEqDiff,↓reduceIte];(iterate 2 (apply q;clear q;refine zZ 1 fun _ q=>?_;simp only[↓bO,go_sem,seval]));apply q;clear q;simp only[↓bO,go_sem,seval];apply y;apply zab;(try simp only[go_sem]);refine ⟨_,zad 0 (zcY (G2)),⟨(G2,((r1:Int)==(r2:Int))),?_,rfl,rfl⟩,.v _ _,fUnd tz1 _,?_,?_,by omega⟩;· exact ⟨hG1.1.trans hG2.1,by rw[One.of_rt hG1.2 ((hG1.1.rt _ _).1 hG2.2),beq_iff_eq];omega⟩
    ·
     exact Le.refl _
    first | (refine ⟨0,rfl,rfl⟩) | (refine ⟨0,by simp only[zcY,zad,zk,zf,Nat.reduceAdd],rfl⟩)
   simp only[go_sem];exact absurd hc15 tz8
  simp only[go_sem];exact absurd hc10 tz8
theorem CSame_c (S:CS) (hF:FInv S.F) (hv:∀n k,zaw S.G.V n=some k->0<=k/\k<(S.F.up.length:Int)) (a b:Int):CCalls (σ:=Bool) 96 [.ptr 0 0,.v (.int .i64 a),.v (.int .i64 b)] (S) (fun s=>FSame S.F s.1.F/\s.1={S with F:=s.1.F}/\(s.2=true↔S.clash=false/\∃i k,zaw S.G.V a=some i/\zaw S.G.V b=some k/\One S.F.up i.toNat k.toNat)) (fun s=>.v (.bool s)):=by
  refine ACalls.clean (C:=fun r os=>∃s:CS×Bool,(FSame S.F s.1.F/\s.1={S with F:=s.1.F}/\(s.2=true↔S.clash=false/\∃i k,zaw S.G.V a=some i/\zaw S.G.V b=some k/\One S.F.up i.toNat k.toNat))/\r=(fun s:Bool=>.v (.bool s)) s.2/\os=zad 0 (zan s.1)) ?_;refine aIn Tryz.func96 fun hm=>?_;simp only[Tryz.ntmps96,Tryz.results96,go_sem,seval];simp only[zan,zad,Nat.reduceAdd];refine sqD ?_;refine sqR fun _ u=>?_;(iterate 2 (refine chS 1 ?_));refine zZ 1 fun _ y=>?_;simp only[↓bO,go_sem,seval];refine CCalls.at (zih S a) (.cons (.v _) .nil) (fun _=>.tup (.cons (.v _) (.cons (.v _) .nil))) (i0:=0) (i1:=1) (i2:=2) (i3:=3) (i4:=4) (i5:=5) (i6:=6) (i7:=7) tz3 tz4 zbc (fun Z9 u9 hZ9=>?_);(try dsimp only at hZ9);simp only[zat,zl,zp,zm,zah,zam,Nat.reduceEqDiff,↓reduceIte];obtain ⟨hZ,rfl⟩:=hZ9;obtain rfl:S=Z9:=hZ.symm;(iterate 4 (apply y;clear y;refine zZ 1 fun _ y=>?_;simp only[↓bO,go_sem,seval]));apply y;clear y;simp only[↓bO,go_sem,seval];apply u;refine sqR fun _ u=>?_;(iterate 2 (refine chS 1 ?_));refine zZ 1 fun _ y=>?_;simp only[↓bO,go_sem,seval];refine CCalls.at (zih S b) (.cons (.v _) .nil) (fun _=>.tup (.cons (.v _) (.cons (.v _) .nil))) (i0:=0) (i1:=1) (i2:=2) (i3:=3) (i4:=4) (i5:=5) (i6:=6) (i7:=7) tz3 tz4 zbc (fun Z9 z9 hZ8=>?_);(try dsimp only at hZ8);simp only[zat,zl,zp,zm,zah,zam,Nat.reduceEqDiff,↓reduceIte];obtain ⟨hZ,rfl⟩:=hZ8;obtain rfl:S=Z9:=hZ.symm;(iterate 4 (apply y;clear y;refine zZ 1 fun _ y=>?_;simp only[↓bO,go_sem,seval]));apply y;clear y;simp only[↓bO,go_sem,seval];apply u;refine sqR fun _ u=>?_;(iterate 2 (refine chS 1 ?_));refine zag 24 rfl (fun hc24=>?_) (fun hc24=>?_)
  ·
   simp only[go_sem];obtain ⟨hcs,i0,hvi,hi0⟩:=zeU hc24;(iterate 3 (refine chS 1 ?_));refine zag 27 rfl (fun hc27=>?_) (fun hc27=>?_)
   ·
    simp only[go_sem];obtain ⟨_,k0,hvk,hk0⟩:=zeU hc27;have hib:=hv _ _ hvi;have hkb:=hv _ _ hvk;obtain ⟨i,rfl⟩:∃i:Nat,i0=(i:Int):=⟨i0.toNat,by omega⟩;obtain ⟨k,rfl⟩:∃k:Nat,k0=(k:Int):=⟨k0.toNat,by omega⟩;(iterate 6 (refine chS 1 ?_ (by intro _ q;simp only[↓bO,go_sem,seval,hi0,hk0];exact q)));refine zZ 1 fun _ y=>?_;simp only[↓bO,go_sem,seval];refine FCalls.at (FSm_f S.F hF i k tz1 tz1) (.cons (.v _) (.cons (.v _) .nil)) (fun _=>.v _) (i:=4) (j:=5) (k:=6) rfl rfl rfl tz3 tz3 tz3 tz2 tz2 tz2 (fun G1 r1 hG1=>?_);(try dsimp only at hG1);simp only[zam,Nat.reduceEqDiff,↓reduceIte];apply y;clear y;refine chS 1 ?_;simp only[↓bO,go_sem,seval];apply u;apply zab;(try simp only[go_sem]);refine ⟨_,zad 0 (zan ({S with F:=G1})),⟨({S with F:=G1},r1),?_,rfl,rfl⟩,.v _ _,zcg tz1 _,?_,?_,by omega⟩;· exact ⟨hG1.1,rfl,hG1.2.trans ⟨fun h9=>⟨hcs,_,_,hvi,hvk,h9⟩,fun h9=>(by obtain ⟨_,i9,k9,h1,h2,h3⟩:=h9;rw[hvi] at h1;rw[hvk] at h2;cases h1;cases h2;exact h3)⟩⟩
    ·
     exact Le.refl _
    first | (refine ⟨0,rfl,rfl⟩) | (refine ⟨0,by simp only[zan,zad,zk,zf,Nat.reduceAdd],rfl⟩)
   simp only[go_sem];have hno2:=zeE hc27;(iterate 8 (refine chS 1 ?_));simp only[↓bO,go_sem,seval];apply u;apply zab;(try simp only[go_sem]);refine ⟨_,zad 0 (zan (S)),⟨(S,false),?_,rfl,rfl⟩,.v _ _,zcg tz1 _,?_,?_,by omega⟩;· exact ⟨FSame.refl hF,rfl,by rcases hno2 with h9 | h9 <;> simp[h9]⟩
   ·
    exact Le.refl _
   first | (refine ⟨0,rfl,rfl⟩) | (refine ⟨0,by simp only[zan,zad,zk,zf,Nat.reduceAdd],rfl⟩)
  simp only[go_sem];have hno:=zeE hc24;(iterate 11 (refine chS 1 ?_));simp only[↓bO,go_sem,seval];apply u;apply zab;(try simp only[go_sem]);refine ⟨_,zad 0 (zan (S)),⟨(S,false),?_,rfl,rfl⟩,.v _ _,zcg tz1 _,?_,?_,by omega⟩;· exact ⟨FSame.refl hF,rfl,by rcases hno with h9 | h9 <;> simp[h9]⟩
  ·
   exact Le.refl _
  first | (refine ⟨0,rfl,rfl⟩) | (refine ⟨0,by simp only[zan,zad,zk,zf,Nat.reduceAdd],rfl⟩)
theorem PKind_c (S:CS) (hw:∀w∈S.W,w=-1\/(0<=w/\w<(S.G.N.length:Int))) (r:Nat) (x:Int) (hx:S.W[r]?=some x):ACalls Tryz.prog 95 [.agg [.ptr 0 0,.v (.int .i64 (r:Int))]] (zad 0 (zan S)) 8 fun z os n=>(∃s:CS×Int,(s.1=S/\((x<0/\s.2=0)\/(0<=x/\∃g,S.G.N[x.toNat]?=some g/\s.2=g.k)))/\z=(fun s:Int=>.v (.int .i64 s)) s.2/\os=zad 0 (zan s.1))/\n=8:=by
  refine ACalls.clean (C:=fun z os=>∃s:CS×Int,(s.1=S/\((x<0/\s.2=0)\/(0<=x/\∃g,S.G.N[x.toNat]?=some g/\s.2=g.k)))/\z=(fun s:Int=>.v (.int .i64 s)) s.2/\os=zad 0 (zan s.1)) ?_;refine aIn Tryz.func95 fun hm=>?_;simp only[Tryz.ntmps95,Tryz.results95,go_sem,seval];simp only[zan,zad,Nat.reduceAdd];have hrl:=(zb.1 hx).1;have hwx:=hw x (zc hx);refine sqR fun _ y=>?_;refine chS 1 ?_;simp only[↓bO,go_sem,seval];apply y;refine z6 fun _ y=>?_;refine z6 fun _ u=>?_;refine zay 15 mixed tz0 fun J0 j0=>?_;(iterate 4 (simp only[go_sem];refine zae 1 fun _ q=>?_;simp only[↓zaA,↓dOp,↓bO,go_sem,seval];apply q;clear q));simp only[go_sem];refine za5 6 rfl (fun hc6=>?_) (fun hc6=>?_)
  ·
   simp only[go_sem];cases hc6
  simp only[go_sem];(iterate 10 (refine zae 1 fun _ q=>?_;simp only[↓zaA,↓dOp,↓bO,go_sem,seval,hrl,gM hx,intC];apply q;clear q));simp only[↓zaA,↓dOp,↓bO,go_sem,seval];refine j0 _ ?_;clear j0 J0;simp only[bL,aops,zao,zaj,zaf];apply u;apply z8 rfl <;> intro hb17
  ·
   (have hneg:x<0:=by simpa using hb17);refine sqD ?_;apply zab;(try simp only[go_sem]);refine ⟨_,zad 0 (zan (S)),⟨(S,(0:Int)),?_,rfl,rfl⟩,.v _ _,zcg tz1 _,?_,?_,by omega⟩;· exact ⟨rfl,.inl ⟨hneg,rfl⟩⟩
   ·
    exact Le.refl _
   first | (refine ⟨1,rfl,rfl⟩) | (refine ⟨0,rfl,rfl⟩) | (refine ⟨1,by simp only[zan,zad,zk,zf,Nat.reduceAdd],rfl⟩) | (refine ⟨0,by simp only[zan,zad,zk,zf,Nat.reduceAdd],rfl⟩)
  (have hpos:0<=x:=by simpa using hb17);obtain ⟨g,hg⟩:∃g,S.G.N[x.toNat]?=some g:=⟨_,za tz1⟩;apply zaa;apply y;refine z6 fun _ y=>?_;refine zay 14 mixed tz0 fun J0 j0=>?_;(iterate 13 (simp only[go_sem];refine zae 1 fun _ q=>?_;simp only[↓zaA,↓dOp,↓bO,go_sem,seval,hrl];apply q;clear q));simp only[go_sem];simp only[↓zaA,↓dOp,↓bO,go_sem,seval,hrl,gM hx,intC];refine j0 _ ?_;clear j0 J0;simp only[go_sem];refine zZ 1 fun _ q=>?_;simp only[↓bO,go_sem,seval];refine GCalls.at (zdD S.G x g hpos hg) (.cons (.v _) .nil) (.v _) (i:=1) (j:=2) (k:=3) rfl rfl rfl tz3 tz3 tz3 tz2 tz2 tz2 ?_;simp only[zam,Nat.reduceEqDiff,↓reduceIte];apply q;clear q;simp only[↓bO,go_sem,seval];apply y;apply zab;(try simp only[go_sem]);refine ⟨_,zad 0 (zan (S)),⟨(S,g.k),?_,rfl,rfl⟩,.v _ _,zcg tz1 _,?_,?_,by omega⟩;· exact ⟨rfl,.inr ⟨hpos,g,hg,rfl⟩⟩
  ·
   exact Le.refl _
  first | (refine ⟨1,rfl,rfl⟩) | (refine ⟨0,rfl,rfl⟩) | (refine ⟨1,by simp only[zan,zad,zk,zf,Nat.reduceAdd],rfl⟩) | (refine ⟨0,by simp only[zan,zad,zk,zf,Nat.reduceAdd],rfl⟩)
theorem CKind_c (S:CS) (hF:FInv S.F) (hfl:S.F.up.length=S.W.length) (hw:∀w∈S.W,w=-1\/(0<=w/\w<(S.G.N.length:Int))) (hv:∀n k,zaw S.G.V n=some k->0<=k/\k<(S.F.up.length:Int)) (n:Int):CCalls (σ:=Int) 48 [.ptr 0 0,.v (.int .i64 n)] (S) (fun s=>FSame S.F s.1.F/\s.1={S with F:=s.1.F}/\(((S.clash=true\/zaw S.G.V n=none)/\s.2=0)\/(S.clash=false/\∃(i:Int) (r:Nat) (x:Int),zaw S.G.V n=some i/\Rt S.F.up i.toNat r/\S.W[r]?=some x/\((x<0/\s.2=0)\/(0<=x/\∃g,S.G.N[x.toNat]?=some g/\s.2=g.k))))) (fun s=>.v (.int .i64 s)):=by
  refine ACalls.clean (C:=fun r os=>∃s:CS×Int,(FSame S.F s.1.F/\s.1={S with F:=s.1.F}/\(((S.clash=true\/zaw S.G.V n=none)/\s.2=0)\/(S.clash=false/\∃(i:Int) (r:Nat) (x:Int),zaw S.G.V n=some i/\Rt S.F.up i.toNat r/\S.W[r]?=some x/\((x<0/\s.2=0)\/(0<=x/\∃g,S.G.N[x.toNat]?=some g/\s.2=g.k)))))/\r=(fun s:Int=>.v (.int .i64 s)) s.2/\os=zad 0 (zan s.1)) ?_;refine aIn Tryz.func48 fun hm=>?_;simp only[Tryz.ntmps48,Tryz.results48,go_sem,seval];simp only[zan,zad,Nat.reduceAdd];refine sqD ?_;refine sqR fun _ u=>?_;(iterate 2 (refine chS 1 ?_));refine zZ 1 fun _ y=>?_;simp only[↓bO,go_sem,seval];refine CCalls.at (zih S n) (.cons (.v _) .nil) (fun _=>.tup (.cons (.v _) (.cons (.v _) .nil))) (i0:=0) (i1:=1) (i2:=2) (i3:=3) (i4:=4) (i5:=5) (i6:=6) (i7:=7) tz3 tz4 zbc (fun Z9 u9 hZ9=>?_);(try dsimp only at hZ9);simp only[zat,zl,zp,zm,zah,zam,Nat.reduceEqDiff,↓reduceIte];obtain ⟨hZ,rfl⟩:=hZ9;obtain rfl:S=Z9:=hZ.symm;(iterate 4 (apply y;clear y;refine zZ 1 fun _ y=>?_;simp only[↓bO,go_sem,seval]));apply y;clear y;simp only[↓bO,go_sem,seval];apply u;refine z6 fun _ u=>?_;refine sqR fun _ j=>?_;refine chS 1 ?_;simp only[↓bO,go_sem,seval];apply j;apply z8 rfl <;> intro hb14
  ·
   have hno:=zeE (by simpa using hb14);refine sqD ?_;apply zab;(try simp only[go_sem]);refine ⟨_,zad 0 (zan (S)),⟨(S,(0:Int)),?_,rfl,rfl⟩,.v _ _,zcg tz1 _,?_,?_,by omega⟩;· exact ⟨FSame.refl hF,rfl,.inl ⟨hno,rfl⟩⟩
   ·
    exact Le.refl _
   first | (refine ⟨0,rfl,rfl⟩) | (refine ⟨0,by simp only[zan,zad,zk,zf,Nat.reduceAdd],rfl⟩)
  obtain ⟨hcs,i0,hvi,hi0⟩:=zeU (S:=S) (n:=n) (by simpa using hb14);have hib:=hv _ _ hvi;obtain ⟨i,rfl⟩:∃i:Nat,i0=(i:Int):=⟨i0.toNat,by omega⟩;apply zaa;apply u;refine sqR fun _ u=>?_;(iterate 3 (refine chS 1 ?_ (by intro _ q;simp only[↓bO,go_sem,seval,hi0];exact q)));refine zZ 1 fun _ y=>?_;simp only[↓bO,go_sem,seval];refine CCalls.at (ze4 S hF i tz1) (.cons (.v _) .nil) (fun _=>.v _) (i0:=0) (i1:=1) (i2:=2) (i3:=3) (i4:=4) (i5:=5) (i6:=6) (i7:=7) tz3 tz4 zbc (fun S1 r hS1=>?_);(try dsimp only at hS1);simp only[zat,zl,zp,zm,zah,zam,Nat.reduceEqDiff,↓reduceIte];obtain ⟨hfs,hrt,hS1e⟩:=hS1;have hrl:=hrt.lt';have hrl2:=hrt.lt;obtain ⟨x,hx⟩:∃x,S.W[r]?=some x:=⟨_,za tz1⟩;(have hx1:S1.W[r]?=some x:=by rw[hS1e];exact hx);(iterate 2 (apply y;clear y;refine zZ 1 fun _ y=>?_;simp only[↓bO,go_sem,seval]));refine ACalls.mono (show ACalls Tryz.prog 95 _ (zad 0 (zan S1)) 8 _ from PKind_c S1 (by rw[hS1e];exact hw) r x hx1) ?_;rintro z os' nx' ⟨⟨s9,⟨hs9,hk9⟩,rfl,rfl⟩,rfl⟩;obtain rfl:S1=s9.1:=hs9.symm;simp only[zan,zad,Nat.reduceAdd];apply y;clear y;simp only[↓bO,go_sem,seval];apply u;apply zab;(try simp only[go_sem]);refine ⟨_,zad 0 (zan (s9.1)),⟨(s9.1,s9.2),?_,rfl,rfl⟩,.v _ _,zcg tz1 _,?_,?_,by omega⟩;· exact ⟨hfs,hS1e,.inr ⟨hcs,_,r,x,hvi,hrt,hx,by rw[hS1e] at hk9;exact hk9⟩⟩
  ·
   exact Le.refl _
  first | (refine ⟨0,rfl,rfl⟩) | (refine ⟨0,by simp only[zan,zad,zk,zf,Nat.reduceAdd],rfl⟩)
end Go.Proofs.YtpfiliamceimmaaGreatDoor
namespace Go.Proofs.YtpfiliamceimmaaGreatDoor
open Go Go.RowKit
def zcN (c:List Int) (a b:Nat):List Int:=c.map fun x=>if x=(c[b]?).getD 0 then (c[a]?).getD 0 else x
def zds (n:Nat):List Int:=(List.range n).map fun (i:Nat)=>(i:Int)
theorem zl8 (n:Nat):(zds n).length=n:=by simp[zds]
theorem zf4 (c:List Int) (a b:Nat):(zcN c a b).length=c.length:=by simp[zcN]
theorem zfN {n s:Nat} (h:s<n):(zds n)[s]?=some (s:Int):=by simp[zds,h]
theorem zes {c:List Int} {a b s:Nat} {x y z:Int} (hx:c[s]?=some x) (hy:c[b]?=some y) (hz:c[a]?=some z):(zcN c a b)[s]?=some (if x=y then z else x):=by
 simp[zcN,zN,hx,hy,hz]
theorem zgV {c:List Int} {a b i k:Nat} (h:c[i]?=c[k]?):(zcN c a b)[i]?=(zcN c a b)[k]?:=by
 simp only[zcN,zN,h]
theorem zgW {c:List Int} {a b:Nat} (ha:a<c.length) (hb:b<c.length):(zcN c a b)[a]?=(zcN c a b)[b]?:=by
 have h1:c[a]?=some c[a]:=za ha;have h2:c[b]?=some c[b]:=za hb;rw[zes h1 h2 h1,zes h2 h2 h1,if_pos rfl];split <;> rfl
theorem zlJ {c:List Int} {a b i k:Nat} (ha:a<c.length) (hb:b<c.length) (hi:i<c.length) (hk:k<c.length) (h:(zcN c a b)[i]?=(zcN c a b)[k]?) :
  c[i]?=c[k]?\/(c[i]?=c[b]?/\c[k]?=c[a]?)\/(c[i]?=c[a]?/\c[k]?=c[b]?):=by
 have h1:c[a]?=some c[a]:=za ha;have h2:c[b]?=some c[b]:=za hb;have h3:c[i]?=some c[i]:=za hi;have h4:c[k]?=some c[k]:=za hk;rw[zes h3 h2 h1,zes h4 h2 h1] at h;rw[h1,h2,h3,h4]
 by_cases e1:c[i]=c[b] <;> by_cases e2:c[k]=c[b]
 ·left;rw[e1,e2]
 ·rw[if_pos e1,if_neg e2] at h
  right;left;exact ⟨by rw[e1],h.symm⟩
 ·rw[if_neg e1,if_pos e2] at h
  right;right;exact ⟨h,by rw[e2]⟩
 rw[if_neg e1,if_neg e2] at h;left;exact h
structure Col (m:List RNode) (E:List (Nat×Nat)) (c:List Int):Prop where
 len:c.length=m.length
 sub:∀i k,i<m.length->k<m.length->c[i]?=c[k]?->Cl (shR m) E i k
theorem Col.range (m:List RNode) (E:List (Nat×Nat)):Col m E (zds m.length):=by
 refine ⟨zl8 _,fun i k hi hk h=>?_⟩;rw[zfN hi,zfN hk] at h;have:i=k:=Int.ofNat.inj (Option.some.inj h);exact this▸.refl i
theorem Col.join {m:List RNode} {E:List (Nat×Nat)} {c:List Int} (h:Col m E c) {a b:Nat} (ha:a<m.length) (hb:b<m.length) (hc:Cl (shR m) E a b):Col m E (zcN c a b):=by
 have hl:=h.len;refine ⟨by rw[zf4,hl],fun i k hi hk hik=>?_⟩;(rcases zlJ tz1 tz1 tz1 tz1 hik with e | ⟨e1,e2⟩ | ⟨e1,e2⟩);(·exact h.sub i k hi hk e);(·exact ((h.sub i b hi hb e1).trans hc.symm).trans (h.sub k a hk ha e2).symm);exact ((h.sub i a hi ha e1).trans hc).trans (h.sub k b hk hb e2).symm
def HeldC (E:List (Nat×Nat)) (c:List Int):Prop:=∀e∈E,c[e.1]?=c[e.2]?
theorem HeldC.join {E:List (Nat×Nat)} {c:List Int} (h:HeldC E c) (a b:Nat):HeldC E (zcN c a b):=fun e he=>zgV (h e he)
def PUp (m:List RNode) (c:List Int) (i k j:Nat):Prop:=∀(x y:RNode) (q:Nat) (p r:Int),q<j->m[i]?=some x->m[k]?=some y->x.parts[q]?=some p->y.parts[q]?=some r->c[p.toNat]?=c[r.toNat]?
def POk (m:List RNode) (c:List Int) (i k:Nat):Prop:=∀(x y:RNode),m[i]?=some x->m[k]?=some y->c[i]?=c[k]?->x.t.k≠1->x.t.k=y.t.k->x.parts.length=y.parts.length->PUp m c i k x.parts.length
def PAll (m:List RNode) (c:List Int) (s t:Nat):Prop:=(∀i k,i<s->k<i->POk m c i k)/\∀k,k<t->POk m c s k
theorem PAll.zero (m:List RNode) (c:List Int):PAll m c 0 0:=⟨fun _ _ h=>by omega,fun _ h=>by omega⟩
theorem PAll.next {m:List RNode} {c:List Int} {s t:Nat} (h:PAll m c s t) (hp:POk m c s t):PAll m c s (t+1):=⟨h.1,fun k hk=>by
 (rcases zG k t with h1 | h1);(·exact h.2 k h1);have:k=t:=by omega
 exact this▸hp⟩
theorem PAll.row {m:List RNode} {c:List Int} {s:Nat} (h:PAll m c s s):PAll m c (s+1) 0:=⟨fun i k hi hk=>by
 (rcases zG i s with h1 | h1);(·exact h.1 i k h1 hk);have:i=s:=by omega
 subst this;exact h.2 k hk,fun _ h=>by omega⟩
theorem PUp.zero (m:List RNode) (c:List Int) (i k:Nat):PUp m c i k 0:=fun _ _ _ _ _ h=>by omega
theorem PUp.next {m:List RNode} {c:List Int} {i k j:Nat} {x y:RNode} {p r:Int} (h:PUp m c i k j) (hx:m[i]?=some x) (hy:m[k]?=some y) (hp:x.parts[j]?=some p) (hr:y.parts[j]?=some r) (hc:c[p.toNat]?=c[r.toNat]?):PUp m c i k (j+1):=fun x' y' q p' r' hq h1 h2 h3 h4=>by
 rw[hx] at h1;cases h1;rw[hy] at h2;cases h2;(rcases zG q j with h5 | h5);(·exact h _ _ q p' r' h5 hx hy h3 h4);(have:q=j:=by omega);subst this;rw[hp] at h3;cases h3;rw[hr] at h4;cases h4;exact hc
theorem POk.skip {m:List RNode} {c:List Int} {i k:Nat} {x y:RNode} (hx:m[i]?=some x) (hy:m[k]?=some y) (h:¬(c[i]?=c[k]?/\x.t.k≠1/\x.t.k=y.t.k/\x.parts.length=y.parts.length)):POk m c i k:=fun x' y' h1 h2 h3 h4 h5 h6=>by
 rw[hx] at h1;cases h1;rw[hy] at h2;cases h2;exact absurd ⟨h3,h4,h5,h6⟩ h
theorem POk.all {m:List RNode} {c:List Int} {i k:Nat} {x:RNode} (hx:m[i]?=some x) (h:PUp m c i k x.parts.length):POk m c i k:=fun x' y' h1 h2 _ _ _ _=>by
 rw[hx] at h1;cases h1;exact h
def MOk (m:List RNode):Prop:=∀x∈m,∀p∈x.parts,0<=p/\p<(m.length:Int)
theorem zdp {m:List RNode} {i:Nat} {x:RNode} (h:m[i]?=some x):shR m i=some (x.t.k,x.parts):=by unfold shR;rw[h];rfl
theorem zdQ {m:List RNode} {i:Nat} {c:Int} {ps:List Int} (h:shR m i=some (c,ps)):∃x,m[i]?=some x/\x.t.k=c/\x.parts=ps:=by
 unfold shR at h
 cases hx:m[i]? with
 | none=>rw[hx] at h;cases h
 | some x=>rw[hx] at h;cases h;exact ⟨x,rfl,rfl,rfl⟩
theorem Col.iff {m:List RNode} {E:List (Nat×Nat)} {c:List Int} (h:Col m E c) (hE:HeldC E c) (hr:∀e∈E,e.1<m.length/\e.2<m.length) (hM:MOk m) (hp:∀i k,i<m.length->k<i->POk m c i k)
  {i k:Nat} (hi:i<m.length) (hk:k<m.length):c[i]?=c[k]?↔Cl (shR m) E i k:=by
 refine ⟨h.sub i k hi hk,fun hc=>?_⟩
 have key:i=k\/(i<m.length/\k<m.length/\c[i]?=c[k]?):=by
  refine Cl.least (R:=fun i k=>i=k\/(i<m.length/\k<m.length/\c[i]?=c[k]?)) ⟨fun e he=>.inr ⟨(hr e he).1,(hr e he).2,hE e he⟩,fun _=>.inl rfl,?_,?_,?_⟩ hc
  ·rintro a b (rfl | ⟨h1,h2,h3⟩)
   (·exact .inl rfl);exact .inr ⟨h2,h1,h3.symm⟩
  ·rintro a b d (rfl | ⟨h1,h2,h3⟩) (rfl | ⟨h4,h5,h6⟩)
   (·exact .inl rfl);(·exact .inr ⟨h4,h5,h6⟩);(·exact .inr ⟨h1,h2,h3⟩);exact .inr ⟨h1,h5,h3.trans h6⟩
  rintro a b j d p q ps qs hab ha hb hd hl hpj hqj;obtain ⟨x,hx,rfl,rfl⟩:=zdQ ha;obtain ⟨y,hy,hyk,rfl⟩:=zdQ hb;have hpm:=hM x (zc hx) p (zc hpj);have hqm:=hM y (zc hy) q (zc hqj);have hjl:=(zb.1 hpj).1;have hal:=(zb.1 hx).1;have hbl:=(zb.1 hy).1;rcases hab with rfl | ⟨_,_,h3⟩
  ·rw[hx] at hy;cases hy
   rw[hpj] at hqj;cases hqj;exact .inl rfl
  refine .inr ⟨by omega,by omega,?_⟩;rcases Nat.lt_trichotomy a b with hlt | rfl | hlt
  ·have:=hp b a hbl hlt y x hy hx h3.symm (by rw[hyk];exact hd) hyk hl.symm
   exact (this y x j q p tz1 hy hx hqj hpj).symm
  ·rw[hx] at hy;cases hy
   rw[hpj] at hqj;cases hqj;rfl
  have:=hp a b hal hlt x y hx hy h3 hd hyk.symm hl;exact this x y j p q tz1 hx hy hpj hqj
 (rcases key with rfl | ⟨_,_,h⟩);(·rfl);exact h
def ndC (c:List Int):Nat:=((List.range c.length).flatMap fun i=>(List.range c.length).map fun k=>(i,k)).countP fun e=>decide (c[e.1]?≠c[e.2]?)
theorem ndC_join {c:List Int} {a b:Nat} (ha:a<c.length) (hb:b<c.length) (h:c[a]?≠c[b]?):ndC (zcN c a b)<ndC c:=by
 unfold ndC;rw[zf4];refine zfY (fun x _ hx=>?_) ⟨(a,b),?_,by simpa using h,by simpa using zgW ha hb⟩
 ·simp only[zd] at hx ⊢
  exact fun e=>hx (zgV e)
 simp[ha,hb]
open Classical in
noncomputable def clB (m:List RNode) (c:List Int):Bool:=decide (∃i k,i<m.length/\k<i/\c[i]?=c[k]?/\ClashAt (shR m) i k)
theorem ClashAt.symm {sh:Sh} {i k:Nat} (h:ClashAt sh i k):ClashAt sh k i:=by
 obtain ⟨c,d,ps,qs,h1,h2,h3,h4,h5⟩:=h;exact ⟨d,c,qs,ps,h2,h1,h4,h3,h5.imp Ne.symm Ne.symm⟩
theorem clB_iff {m:List RNode} {E:List (Nat×Nat)} {c:List Int} (h:∀i k,i<m.length->k<m.length->(c[i]?=c[k]?↔Cl (shR m) E i k)):clB m c=true↔Clash (shR m) E:=by
 classical
 unfold clB;rw[zd];constructor
 ·rintro ⟨i,k,h1,h2,h3,h4⟩
  exact ⟨i,k,(h i k h1 tz1).1 h3,h4⟩
 rintro ⟨i,k,h1,h2⟩;obtain ⟨cc,d,ps,qs,h3,h4,h5⟩:=h2;obtain ⟨x,hx,hxk,hxp⟩:=zdQ h3;obtain ⟨y,hy,hyk,hyp⟩:=zdQ h4;have hil:=(zb.1 hx).1;have hkl:=(zb.1 hy).1;have hca:ClashAt (shR m) i k:=⟨cc,d,ps,qs,h3,h4,h5⟩;(rcases Nat.lt_trichotomy i k with hlt | rfl | hlt);·exact ⟨k,i,hkl,hlt,(h k i hkl hil).2 h1.symm,hca.symm⟩
 ·rw[h3] at h4;cases h4
  rcases h5.2.2 with e | e <;> exact absurd rfl e
 exact ⟨i,k,hil,hlt,(h i k hil hkl).2 h1,hca⟩
def NoCl (m:List RNode) (c:List Int) (s t:Nat):Prop:=(∀i k,i<s->k<i->c[i]?=c[k]?->¬ClashAt (shR m) i k)/\∀k,k<t->c[s]?=c[k]?->¬ClashAt (shR m) s k
theorem NoCl.zero (m:List RNode) (c:List Int):NoCl m c 0 0:=⟨fun _ _ h=>by omega,fun _ h=>by omega⟩
theorem NoCl.next {m:List RNode} {c:List Int} {s t:Nat} (h:NoCl m c s t) (hp:c[s]?=c[t]?->¬ClashAt (shR m) s t):NoCl m c s (t+1):=⟨h.1,fun k hk=>by
 (rcases zG k t with h1 | h1);(·exact h.2 k h1);have:k=t:=by omega
 exact this▸hp⟩
theorem NoCl.row {m:List RNode} {c:List Int} {s:Nat} (h:NoCl m c s s):NoCl m c (s+1) 0:=⟨fun i k hi hk=>by
 (rcases zG i s with h1 | h1);(·exact h.1 i k h1 hk);have:i=s:=by omega
 subst this;exact h.2 k hk,fun _ h=>by omega⟩
theorem NoCl.all {m:List RNode} {c:List Int} (h:NoCl m c m.length 0):clB m c=false:=by
 classical
 unfold clB;rw[ze];rintro ⟨i,k,h1,h2,h3,h4⟩;exact h.1 i k h1 h2 h3 h4
theorem clB_of {m:List RNode} {c:List Int} {i k:Nat} (h1:i<m.length) (h2:k<i) (h3:c[i]?=c[k]?) (h4:ClashAt (shR m) i k):clB m c=true:=by
 classical
 unfold clB;rw[zd];exact ⟨i,k,h1,h2,h3,h4⟩
theorem zcy {m:List RNode} {i k:Nat} {x y:RNode} (hx:m[i]?=some x) (hy:m[k]?=some y):ClashAt (shR m) i k↔x.t.k≠1/\y.t.k≠1/\(x.t.k≠y.t.k\/x.parts.length≠y.parts.length):=by
 constructor
 ·rintro ⟨c,d,ps,qs,h1,h2,h3⟩
  rw[zdp hx] at h1;cases h1;rw[zdp hy] at h2;cases h2;exact h3
 intro h;exact ⟨_,_,_,_,zdp hx,zdp hy,h⟩
theorem zdl:∀(l:List (Ty×Ty)),(∀e∈l,e.1.right=true/\e.2.right=true/\e.1.cnt<=400/\e.2.cnt<=400) ->
  (∃G,Rel G (eqF l).1)/\(∀p∈(eqF l).2,(0<=p.1/\p.1<((eqF l).1.length:Int))/\0<=p.2/\p.2<((eqF l).1.length:Int)):=by
 suffices h:∀(n:Nat) (l:List (Ty×Ty)),l.length=n->(∀e∈l,e.1.right=true/\e.2.right=true/\e.1.cnt<=400/\e.2.cnt<=400) ->
  (∃G,Rel G (eqF l).1)/\(∀p∈(eqF l).2,(0<=p.1/\p.1<((eqF l).1.length:Int))/\0<=p.2/\p.2<((eqF l).1.length:Int)) from fun l=>h l.length l rfl
 intro n
 induction n with
 | zero =>
  intro l hl _;have:l=[]:=List.length_eq_zero_iff.1 hl;subst this;refine ⟨⟨⟨[],[]⟩,⟨rfl,?_,?_⟩⟩,by simp[eqF]⟩;·intro i x r h;simp at h
  intro n;left;exact ⟨rfl,by simp[eqF,zbE]⟩
 | succ n ih =>
  intro l hl hr;(have hne:l≠[]:=fun e=>by rw[e] at hl;simp at hl);obtain ⟨d,e,rfl⟩:∃d e,l=d++[e]:=⟨l.dropLast,l.getLast hne,(List.dropLast_concat_getLast hne).symm⟩;obtain ⟨⟨G,hG⟩,hp⟩:=ih d (by simp at hl;omega) (fun x hx=>hr x (by simp[hx]));obtain ⟨h1,h2,h3,h4⟩:=hr e tz4;have s1:=zbM e.1 h1 h3 G _ hG;have s2:=zbM e.2 h2 h4 _ _ s1.rel;rw[za1];have l1:=s1.pre.len;have l2:=s2.pre.len
  have key:∀{m:List RNode} {i:Nat} {t:Ty},(m[i]?).map RNode.t=some t->i<m.length:=fun {m i t} h=>by
   (rcases zG i m.length with h5 | h5);(·exact h5);rw[List.getElem?_eq_none h5] at h;cases h
  have a1:=key s1.at';have a2:=key s2.at';have g1:=s1.ge;have g2:=s2.ge;refine ⟨⟨_,s2.rel⟩,fun p hp'=>?_⟩;simp only[zdS] at hp' ⊢;rcases zD.1 hp' with hp' | hp'
  ·have:=hp p hp'
   omega
  (simp at hp';subst hp');(simp only);omega
theorem Rel.mok {G:GS} {m:List RNode} (h:Rel G m):MOk m:=fun x hx p hp=>by
 obtain ⟨i,hi⟩:=List.mem_iff_getElem?.1 hx;have hl:=(zb.1 hi).1;have hGi:G.N[i]?=some (G.N[i]'(by have:=h.len;omega)):=za (by have:=h.len;omega);obtain ⟨_,_,h3,_⟩:=h.node i _ _ hGi hi;have:=h.small.2 _ (zc hGi) p (by rw[h3];exact hp);rw[h.len] at this;exact this
theorem Rel.parts8 {G:GS} {m:List RNode} (h:Rel G m) {x:RNode} (hx:x∈m):x.parts.length<=8:=by
 obtain ⟨i,hi⟩:=List.mem_iff_getElem?.1 hx;have hl:=(zb.1 hi).1;have hGi:G.N[i]?=some (G.N[i]'(by have:=h.len;omega)):=za (by have:=h.len;omega);obtain ⟨_,_,h3,_⟩:=h.node i _ _ hGi hi;have:=h.small.1 _ (zc hGi);rw[h3] at this;exact this
structure ColF (m:List RNode) (E:List (Nat×Nat)) (c:List Int):Prop where
 col:Col m E c
 held:HeldC E c
 ok:∀i k,i<m.length->k<i->POk m c i k
theorem ColF.clash {m:List RNode} {E:List (Nat×Nat)} {c:List Int} (h:ColF m E c) (hr:∀e∈E,e.1<m.length/\e.2<m.length) (hM:MOk m):clB m c=true↔Clash (shR m) E :=
 clB_iff fun _ _ hi hk=>h.col.iff h.held hr hM h.ok hi hk
theorem One.congr {up up':List Nat} (h:∀i q,Rt up' i q↔Rt up i q) {i k:Nat}:One up' i k↔One up i k:=by
 unfold One;simp only[h]
theorem WInv.fsame {E:List (Nat×Nat)} {S:CS} {F':FS} (h:WInv E S []) (k:FSame S.F F'):WInv E {S with F:=F'} []:=by
 have hc:=h.c;refine ⟨⟨hc.g,k.inv,k.len.trans hc.fl,hc.wl,hc.wr,hc.pl,hc.pr⟩,by simp,fun i j hij=>h.sub i j ((One.congr k.rt).1 hij),by simp,fun e he=>Qv.one ((One.congr k.rt).2 (h.ex e he).nil),?_,?_⟩
 ·intro r i x c ps h1 h2 h3 h4
  exact h.neg r i x c ps h1 h2 ((k.rt _ _).1 h3) h4
 intro r x h1 h2 h3;obtain ⟨h4,c,ps,h5,h6,h7⟩:=h.pos r x ((k.rt _ _).1 h1) h2 h3;refine ⟨(k.rt _ _).2 h4,c,ps,h5,h6,fun i d qs h8 h9 h10=>?_⟩;obtain ⟨h11,h12,h13⟩:=h7 i d qs ((k.rt _ _).1 h8) h9 h10;exact ⟨h11,h12,fun j p q hp hq=>Qv.one ((One.congr k.rt).2 (h13 j p q hp hq).nil)⟩
theorem Good.fsame {E:List (Nat×Nat)} {m:List RNode} {S:CS} {F':FS} (h:Good E m S) (k:FSame S.F F'):Good E m {S with F:=F'}:=⟨h.w.fsame k,h.rel⟩
theorem Holds.fsame {l:List (Ty×Ty)} {S S1:CS} (h:Holds l S) (k:FSame S.F S1.F) (e:S1={S with F:=S1.F}):Holds l S1:=by
 rw[e];exact ⟨h.1,h.2.fsame k⟩
def KindIs (sh:Sh) (E:List (Nat×Nat)) (i:Nat) (k:Int):Prop :=
 (k=0/\∀(j:Nat) (c:Int) (qs:List Int),Cl sh E i j->sh j=some (c,qs)->c=1)\/(k≠1/\∃(j:Nat) (qs:List Int),Cl sh E i j/\sh j=some (k,qs))
theorem One.rt {up:List Nat} {i k r:Nat} (h:One up i k) (hr:Rt up i r):Rt up k r:=by
 (rcases h with rfl | ⟨q,h1,h2⟩);(·exact hr);cases Rt.det hr h1;exact h2
theorem Good.vin {E:List (Nat×Nat)} {m:List RNode} {S:CS} (h:Good E m S):∀n k,zaw S.G.V n=some k->0<=k/\k<(S.F.up.length:Int):=fun n k hv=>by
 have:=h.w.c.g.vars _ (zb6 hv);have h1:=h.w.c.fl;have h2:=h.w.c.wl;(simp only at this);omega
end Go.Proofs.YtpfiliamceimmaaGreatDoor
namespace Go.Proofs.YtpfiliamceimmaaGreatDoor
open Go Go.RowKit
attribute [local irreducible] aops zaA
def insI (n:Int) (l:List Int):List Int:=l.takeWhile (fun x=>decide (x<n))++n::l.dropWhile (fun x=>decide (x<n))
theorem zkS (l:List Int):((l.map intC).all fun y=>y.all AV.one)=true:=by
 induction l with
 | nil=>rfl
 | cons x l ih=>rw[zt,List.all_cons,ih];rfl
def zj2 (l:List Int) (r:RNode):List Int:=if r.t.k=1 then insI r.t.n l else l
def varsI (g:List RNode):List Int:=g.foldl zj2 []
end Go.Proofs.YtpfiliamceimmaaGreatDoor
namespace Go.Proofs.YtpfiliamceimmaaGreatDoor
open Go Go.Shelf
def keysA_ren:Go.Shelf.Ren:=⟨fun | 7=>126 | 10=>152 | n=>n,fun | 23=>130 | 26=>3 | 3=>3 | 28=>165 | 0=>0 | 27=>164 | 33=>85 | 4=>4 | n=>n,fun | n=>n⟩
theorem keysA:Go.Proofs.SlLaysZI.n7 Tryz.prog keysA_ren:={
 mixed:=by kernel_rfl
 f7:=⟨Tryz.f126.name,by decide,Tryz.func126.trans (congrArg some tz0)⟩
 f10:=⟨Tryz.f152.name,by decide,Tryz.func152.trans (congrArg some tz0)⟩
 t0:=Tryz.underlying0
 a0:=Tryz.isAgg0
 z0:=Tryz.sizeOf0
 v0:=Tryz.zeroValue0
 t4:=Tryz.underlying4
 a4:=Tryz.isAgg4
 z4:=Tryz.sizeOf4
 v4:=Tryz.zeroValue4
 t23:=Tryz.underlying130
 a23:=Tryz.isAgg130
 z23:=Tryz.sizeOf130
 v23:=Tryz.zeroValue130
 t26:=Tryz.underlying3
 a26:=Tryz.isAgg3
 z26:=Tryz.sizeOf3
 v26:=Tryz.zeroValue3
 t27:=Tryz.underlying164
 a27:=Tryz.isAgg164
 z27:=Tryz.sizeOf164
 v27:=Tryz.zeroValue164
 t28:=Tryz.underlying165
 a28:=Tryz.isAgg165
 z28:=Tryz.sizeOf165
 v28:=Tryz.zeroValue165
 t33:=Tryz.underlying85
 a33:=Tryz.isAgg85
 z33:=Tryz.sizeOf85
 v33:=Tryz.zeroValue85}
def sortedA_ren:Go.Shelf.Ren:=⟨fun | 6=>125 | 8=>150 | 9=>151 | 11=>163 | 13=>165 | 12=>164 | 23=>179 | 24=>180 | 14=>170 | 15=>171 | 16=>172 | 17=>173 | 18=>174 | 19=>175 | 20=>176 | 21=>177 | 22=>178 | 25=>185 | 26=>186 | 27=>187 | 28=>188 | 29=>189 | 30=>190 | 31=>195 | n=>n,fun | 26=>3 | 28=>165 | 24=>54 | 0=>0 | 3=>3 | 37=>207 | 48=>221 | 50=>223 | 4=>4 | 40=>215 | 39=>214 | 45=>81 | 5=>5 | 9=>9 | 51=>228 | 55=>232 | 57=>237 | 58=>238 | 33=>85 | n=>n,fun | n=>n⟩
theorem sortedA:Go.Proofs.SlLaysZI.n6 Tryz.prog sortedA_ren:={
 mixed:=by kernel_rfl
 f6:=⟨Tryz.f125.name,by decide,Tryz.func125.trans (congrArg some tz0)⟩
 f8:=⟨Tryz.f150.name,by decide,Tryz.func150.trans (congrArg some tz0)⟩
 f11:=⟨Tryz.f163.name,by decide,Tryz.func163.trans (congrArg some tz0)⟩
 t0:=Tryz.underlying0
 a0:=Tryz.isAgg0
 z0:=Tryz.sizeOf0
 v0:=Tryz.zeroValue0
 t24:=Tryz.underlying54
 a24:=Tryz.isAgg54
 z24:=Tryz.sizeOf54
 v24:=Tryz.zeroValue54
 t26:=Tryz.underlying3
 a26:=Tryz.isAgg3
 z26:=Tryz.sizeOf3
 v26:=Tryz.zeroValue3
 t28:=Tryz.underlying165
 a28:=Tryz.isAgg165
 z28:=Tryz.sizeOf165
 v28:=Tryz.zeroValue165
 i26:=by kernel_rfl}
def sortA_ren:Go.Shelf.Ren:=⟨fun | 5=>151 | 8=>165 | 7=>164 | 19=>179 | 20=>180 | 10=>170 | 11=>171 | 12=>172 | 13=>173 | 14=>174 | 15=>175 | 16=>176 | 17=>177 | 18=>178 | 30=>185 | 31=>186 | 32=>187 | 33=>188 | 34=>189 | 35=>190 | 40=>195 | n=>n,fun | 23=>54 | 25=>3 | 3=>3 | 32=>207 | 22=>54 | 0=>0 | 44=>221 | 46=>223 | 4=>4 | 36=>215 | 35=>214 | 41=>81 | 5=>5 | 9=>9 | 53=>228 | 57=>232 | 63=>237 | 64=>238 | n=>n,fun | n=>n⟩
theorem sortA:Go.Proofs.SlLaysM.n5 Tryz.prog sortA_ren:={
 mixed:=by kernel_rfl
 f5:=⟨Tryz.f151.name,by decide,Tryz.func151.trans (congrArg some tz0)⟩
 f7:=⟨Tryz.f164.name,by decide,Tryz.func164.trans (congrArg some tz0)⟩
 f8:=Tryz.func165.trans (congrArg some tz0)
 f10:=⟨Tryz.f170.name,by decide,Tryz.func170.trans (congrArg some tz0)⟩
 f11:=⟨Tryz.f171.name,by decide,Tryz.func171.trans (congrArg some tz0)⟩
 f12:=⟨Tryz.f172.name,by decide,Tryz.func172.trans (congrArg some tz0)⟩
 f13:=⟨Tryz.f173.name,by decide,Tryz.func173.trans (congrArg some tz0)⟩
 f14:=⟨Tryz.f174.name,by decide,Tryz.func174.trans (congrArg some tz0)⟩
 f15:=⟨Tryz.f175.name,by decide,Tryz.func175.trans (congrArg some tz0)⟩
 f16:=⟨Tryz.f176.name,by decide,Tryz.func176.trans (congrArg some tz0)⟩
 f17:=⟨Tryz.f177.name,by decide,Tryz.func177.trans (congrArg some tz0)⟩
 f18:=⟨Tryz.f178.name,by decide,Tryz.func178.trans (congrArg some tz0)⟩
 f19:=Tryz.func179.trans (congrArg some tz0)
 f20:=Tryz.func180.trans (congrArg some tz0)
 f30:=⟨Tryz.f185.name,by decide,Tryz.func185.trans (congrArg some tz0)⟩
 f31:=Tryz.func186.trans (congrArg some tz0)
 f32:=Tryz.func187.trans (congrArg some tz0)
 f33:=⟨Tryz.f188.name,by decide,Tryz.func188.trans (congrArg some tz0)⟩
 f34:=⟨Tryz.f189.name,by decide,Tryz.func189.trans (congrArg some tz0)⟩
 f35:=⟨Tryz.f190.name,by decide,Tryz.func190.trans (congrArg some tz0)⟩
 f40:=⟨Tryz.f195.name,by decide,Tryz.func195.trans (congrArg some tz0)⟩
 t0:=Tryz.underlying0
 a0:=Tryz.isAgg0
 z0:=Tryz.sizeOf0
 v0:=Tryz.zeroValue0
 t3:=Tryz.underlying3
 a3:=Tryz.isAgg3
 z3:=Tryz.sizeOf3
 v3:=Tryz.zeroValue3
 t4:=Tryz.underlying4
 a4:=Tryz.isAgg4
 z4:=Tryz.sizeOf4
 v4:=Tryz.zeroValue4
 t5:=Tryz.underlying5
 a5:=Tryz.isAgg5
 z5:=Tryz.sizeOf5
 v5:=Tryz.zeroValue5
 t9:=Tryz.underlying9
 a9:=Tryz.isAgg9
 z9:=Tryz.sizeOf9
 v9:=Tryz.zeroValue9
 t22:=Tryz.underlying54
 a22:=Tryz.isAgg54
 z22:=Tryz.sizeOf54
 v22:=Tryz.zeroValue54
 t23:=Tryz.underlying54
 a23:=Tryz.isAgg54
 z23:=Tryz.sizeOf54
 v23:=Tryz.zeroValue54
 t25:=Tryz.underlying3
 a25:=Tryz.isAgg3
 z25:=Tryz.sizeOf3
 v25:=Tryz.zeroValue3
 t32:=Tryz.underlying207
 a32:=Tryz.isAgg207
 z32:=Tryz.sizeOf207
 v32:=Tryz.zeroValue207
 t35:=Tryz.underlying214
 a35:=Tryz.isAgg214
 z35:=Tryz.sizeOf214
 v35:=Tryz.zeroValue214
 t36:=Tryz.underlying215
 a36:=Tryz.isAgg215
 z36:=Tryz.sizeOf215
 v36:=Tryz.zeroValue215
 t41:=Tryz.underlying81
 a41:=Tryz.isAgg81
 z41:=Tryz.sizeOf81
 v41:=Tryz.zeroValue81
 t44:=Tryz.underlying221
 a44:=Tryz.isAgg221
 z44:=Tryz.sizeOf221
 v44:=Tryz.zeroValue221
 t46:=Tryz.underlying223
 a46:=Tryz.isAgg223
 z46:=Tryz.sizeOf223
 v46:=Tryz.zeroValue223
 t53:=Tryz.underlying228
 a53:=Tryz.isAgg228
 z53:=Tryz.sizeOf228
 v53:=Tryz.zeroValue228
 t57:=Tryz.underlying232
 a57:=Tryz.isAgg232
 z57:=Tryz.sizeOf232
 v57:=Tryz.zeroValue232
 t63:=Tryz.underlying237
 a63:=Tryz.isAgg237
 z63:=Tryz.sizeOf237
 v63:=Tryz.zeroValue237
 t64:=Tryz.underlying238
 a64:=Tryz.isAgg238
 z64:=Tryz.sizeOf238
 v64:=Tryz.zeroValue238}
end Go.Proofs.YtpfiliamceimmaaGreatDoor
namespace Go.Proofs.YtpfiliamceimmaaGreatDoor
open Go Go.RowKit Go.Maps Go.Sort Go.Shelf Go.WideElems Go.WideShapes
theorem sortsI (m:Nat):AnyZI.SortsIn Tryz.prog sortedA_ren Fence.wide m :=
 ⟨fun blk off cap ss W hH hblk hsz=>callsIn_wide.2 (AnyM.slices_Sort_int sortA blk off cap ss W hH hblk hsz),fun p cap W=>callsIn_wide.2 (AnyM.slices_Sort_int_none sortA p cap W)⟩
theorem zly {H:Type} (p b nn:Nat) (D0:DataW H) (R:Value->Option (DataW H×List MemPlace)) (w:World) (hown:w.ownsMap Tryz.prog 3 R b nn D0) (hcell:w.cell? ⟨p,0,none⟩=some (.map (some b))) (hmax:Maps.size D0<=maxLen) (hbytes:Maps.size D0 * 8<=140737488355328) :
  Calls Tryz.prog 125 #[.func (.func 152) #[] #[.pointer (some ⟨p,0,none⟩)]] w fun e w'=>∃(v:Value) (ss:List Int),e=.returned v/\ss.Perm (intKeys D0) /\
   w'.ownsRow w.heap.size 3 1 v ss.length ((ss.mergeSort (fun x y=>decide (x<=y))).map encZ)/\(v=.slice none 0 0↔ss=[])/\Below w.heap.size w w':=by
 refine (callsIn_wide (n:=5)).1 ?_
 have hseq:SeqGives Fence.wide 2 Tryz.prog 152 #[.pointer (some ⟨p,0,none⟩)] encZ (fun ss=>ss.Perm (intKeys D0)) (Maps.size D0) w :=
  AnyZI.keys_gives (ρ:=keysA_ren) {keysA with} Fence.wide _ trivial rfl tz1 p b nn D0 w (World.block_lt_of_cell? w _ hcell) hcell hown
 exact AnyZI.sorted_in sortedA Fence.wide 5 trivial trivial trivial trivial rfl tz1 (sortsI _) (enters_of Tryz.func151 tz0 rfl) 152 #[.pointer (some ⟨p,0,none⟩)] trivial (enters_of Tryz.func152 tz0 rfl) _ _ hmax hbytes _ hseq
def is64 (n:Int):Prop:=-9223372036854775808<=n/\n<9223372036854775808
theorem is64_wf {n:Int} (h:is64 n):(Lit.int .i64 n).wf=true:=by
 obtain ⟨h1,h2⟩:=h;(have e1:IntKind.i64.min=-9223372036854775808:=by decide);(have e2:IntKind.i64.max=9223372036854775807:=by decide);simp only[Lit.wf,e1,e2,zy,zd];omega
abbrev zcf (l:List Int):List Int:=l.mergeSort fun x y=>decide (x<=y)
theorem rpInts {E:Env} {A:Nat->Nat->Prop} {w:World} {base n:Nat} {v:Value} {l:List Int} (h:w.ownsRow base 3 1 v n (l.map encZ)) (hA:∀b o,A b o->b<base) (hcap:n<=maxLen):Rp E A w (.sl 1 (l.map intC)) v:=by
 obtain ⟨hl,h⟩:=h;(have hn:l.length=n:=by simpa using hl);rcases h with ⟨rfl,h0⟩ | ⟨g,cap,cur,rfl,hb,hh,h1,h2,h3,h4⟩
 ·have:l=[]:=List.eq_nil_of_length_eq_zero tz1
  subst this;exact .sl0 (by simp[maxLen])
 have hfl:∀l:List Int,(l.map intC).flatten=l.map fun x=>AV.v (.int .i64 x):=fun l=>by
  induction l with
  | nil=>rfl
  | cons x l ih=>simp[intC,ih]
 have hlen:(l.map intC).flatten.length=n:=by rw[hfl,zx,hn]
 have hcur:∀j x,l[j]?=some x->cur[j]?=some (encZ x):=fun j x hj=>by
  have hjl:=(zb.1 hj).1;(have h5:(l.map encZ)[j]?=some (encZ x):=by rw[zN,hj];rfl);rw[<- h4,List.getElem?_take,if_pos tz1] at h5;rw[<- zR];exact h5
 refine .sl (fun j=>cur.getD j undef) (by rw[zx,hn]) h1 h2 (fun x hx=>by obtain ⟨y,_,rfl⟩:=zq.1 hx;rfl) (fun j hj=>⟨?_,fun ha=>?_⟩) fun j c hj=>?_
 ·rw[hlen] at hj
  (have hlt:j<cur.size:=by rw[h3];omega);rw[zO,cell_of_row w _ _ cur 3 (0,0) hh];simp[Array.getD,hlt]
 (·have:=hA _ _ ha;omega);rw[hfl,zN] at hj
 cases hx:l[j]? with
 | none=>rw[hx] at hj;cases hj
 | some x =>
  rw[hx] at hj;(cases hj);have h5:=hcur j x hx;have hlt:j<cur.size:=(Array.getElem?_eq_some_iff.1 h5).1
  have h6:cur.getD j undef=encZ x:=by
   rw[zP hlt] at h5;simp[Array.getD,hlt,Option.some.inj h5]
  rw[h6];exact .v _
theorem ziH {os:Os} {nx p m:Nat} {es:List (Int×AV)} {Q:AV->Os->Nat->Prop} (hp:zav os p=some (.cells 130 [.map m])) (hm:zav os m=some (.map es)) (hwf:∀q∈es,is64 q.1) (hlen:es.length<=1099511627776)
  (hq:Q (.sl 1 ((zcf (es.map Prod.fst)).map intC)) os nx):ACalls Tryz.prog 125 [.clo 152 [.ptr p 0]] os nx Q:=by
 refine ⟨⟨Tryz.f125,Tryz.func125,by kernel_rfl,rfl⟩,fun A0 E w vs hok hnx hr=>?_⟩;obtain ⟨hsz,hv⟩:=hr;have hsz:vs.size=1:=hsz;obtain ⟨hvp,cur,hh,hcs,hc⟩:=hok.ok p _ hp;obtain ⟨hvm,ents,clock,hme,hes,hent,hst⟩:=hok.ok m _ hm;have hcs:cur.size=1:=hcs;have hv0:=hv 0 (.clo 152 [.ptr p 0]) vs[0] rfl (zP tz1)
 have hvs:vs=#[.func (.func 152) #[] #[.pointer (some ⟨E.blk p,0,none⟩)]]:=by
  have e0:vs[0]=.func (.func 152) #[] #[.pointer (some ⟨E.blk p,0,none⟩)]:=by
   generalize vs[0]=u at hv0
   cases hv0 with
   | @clo _ _ us hs hr =>
    have hs:us.size=1:=hs;have h1:=hr 0 (.ptr p 0) us[0] rfl (zP tz1)
    have e1:us[0]=.pointer (some ⟨E.blk p,0,none⟩):=by
     (generalize us[0]=u at h1);cases h1;rfl
    (congr 1);(apply Array.ext (by simp[hs]));intro i h2 h3;(have:i=0:=by omega);subst this;simpa using e1
  (apply Array.ext (by simp[hsz]));intro i h2 h3;(have:i=0:=by omega);subst this;simpa using e0
 have hcell:w.cell? ⟨E.blk p,0,none⟩=some (.map (some (E.blk m))):=by
  have h1:cur[0]?=some cur[0]:=zP tz1;have h2:=hc 0 (.map m) _ rfl h1
  have e2:cur[0]=.map (some (E.blk m)):=by
   (generalize cur[0]=u at h2);cases h2;rfl
  rw[cell_of_row w _ _ cur 130 (0,0) hh,h1,e2]
 have hkey:∀x∈ents.toList,∃q∈es,x.key=.int .i64 q.1:=fun x hx=>by
  obtain ⟨i,hi,rfl⟩:=zS.1 hx;(have hie:i<es.length:=by rw[<- hes];simpa using hi);exact ⟨_,List.getElem_mem hie,(hent i _ _ (za hie) (by rw[<- zR];exact za hi)).1⟩
 have hk64:∀x∈ents.toList,∃n:Int,x.key=.int .i64 n/\keyOf Tryz.prog 3 x.key=some (.int .i64 n):=fun x hx=>by
  obtain ⟨q,hq,he⟩:=hkey x hx;refine ⟨q.1,he,?_⟩;rw[he];simp[keyOf,Tryz.underlying3,mapKey,is64_wf (hwf q hq)]
 let R:Value->Option (DataW Unit×List MemPlace):=fun _=>some (.nil,[])
 have hF:Fit Tryz.prog 3 R ents clock:=⟨by rw[hes];simp only[maxLen];omega,hst,fun x hx=>by
  obtain ⟨n,_,hk⟩:=hk64 x hx
  exact ⟨_,by simp only[Go.WideElems.rd,hk,R,Option.bind_some,zY];rfl⟩⟩
 have hown:=World.ownsMap_of_fit (R:=R) hme hF (fun x _ z hz=>hz)
 have hsize:Maps.size (DataW.map ((ents.toList.map (rg Tryz.prog 3 R)).foldr DataW.insert []))=es.length:=by
  simp[Maps.size,length_sorted,hes]
 have hperm:(intKeys (DataW.map ((ents.toList.map (rg Tryz.prog 3 R)).foldr DataW.insert []))).Perm (es.map Prod.fst):=by
  (show List.Perm (((ents.toList.map (rg Tryz.prog 3 R)).foldr DataW.insert []).map fun p=>Go.intOf p.1) _);refine ((sorted_perm _).map _).trans (List.Perm.of_eq ?_);(apply List.ext_getElem (by simp[hes]));intro i h1 h2;simp only[List.getElem_map];(have hi:i<ents.size:=by simpa using h1);(have hie:i<es.length:=by rw[<- hes];exact hi);have he:=(hent i _ _ (za hie) (zP hi)).1;have hx:=hwf _ (List.getElem_mem hie);simp[Go.WideElems.rg,Go.WideElems.rd,he,keyOf,Tryz.underlying3,mapKey,is64_wf hx,R,Go.intOf]
 rw[hvs];refine (zly (E.blk p) (E.blk m) _ _ R w hown hcell (by rw[hsize];simp only[maxLen];omega) (by rw[hsize];omega)).mono ?_;rintro e w' ⟨v,ss,rfl,hS,hrow,_,hb⟩;have hsort:ss.mergeSort (fun x y=>decide (x<=y))=zcf (es.map Prod.fst):=mergeSort_of_perm_i (hS.trans hperm);rw[hsort] at hrow
 have hAv:∀b o,AvX A0 E os b o->b<w.heap.size:=by
  rintro b o (h | ⟨id,ob,hg,hbk,_⟩);(·exact hok.bnd b o h);exact Ob.blk_lt (hok.ok id ob hg).2 hbk
 have hssl:ss.length<=maxLen:=by
  have:=(hS.trans hperm).length_eq;rw[zx] at this;simp only[maxLen];omega
 exact ⟨_,v,os,nx,E,rfl,hq,rpInts hrow hAv hssl,hok.keep hb,hnx,.refl E,.of_below hb,fun b o ha=>.inl ha⟩
end Go.Proofs.YtpfiliamceimmaaGreatDoor
namespace Go.Proofs.YtpfiliamceimmaaGreatDoor
open Go Go.RowKit
attribute [local irreducible] aops zaA
theorem vC_fst (V:List (Int×Int)):(V.map vC).map Prod.fst=V.map Prod.fst:=by simp[vC,List.map_map,Function.comp_def]
theorem vC_64 {V:List (Int×Int)} (h:∀q∈V,is64 q.1):∀q∈V.map vC,is64 q.1:=fun q hq=>by
 obtain ⟨p,hp,rfl⟩:=zq.1 hq;exact h p hp
def kindG (G:GS) (i:Int):Int:=if 0<=i/\i<(G.N.length:Int) then ((G.N[i.toNat]?).map GNode.k).getD 0 else 0
def nameG (G:GS) (i:Int):Int×Bool:=if kindG G i=1 then (((G.N[i.toNat]?).map GNode.n).getD 0,true) else (0,false)
theorem Keys_at {m:Nat} {os:Os} {nx:Nat} {Q:AV->Os->Nat->Prop} (hq:Q (.clo 152 [.ptr nx 0]) ((nx,.cells 130 [.map m])::os) (nx+1)):ACalls Tryz.prog 126 [.map m] os nx Q:=by
 refine aIn Tryz.func126 fun hm=>?_;simp only[Tryz.ntmps126,Tryz.results126,go_sem,seval];refine sqR fun _ q=>?_;refine chS 1 ?_;simp only[↓bO,go_sem,seval];apply q;refine sqR fun _ q=>?_;refine chS 1 ?_;simp only[↓bO,go_sem,seval];apply q;apply zab;(try simp only[go_sem]);exact hq
theorem zfZ (G:GS) (hw:∀q∈G.V,is64 q.1) (hl:G.V.length<=1099511627776):GCalls 90 [.ptr 0 0] (G.N) (G.V) (.sl 1 ((zcf (G.V.map Prod.fst)).map intC)) (G.N) (G.V):=by
  refine ACalls.clean (C:=fun r os=>r=_/\os=_) ?_;refine aIn Tryz.func90 fun hm=>?_;simp only[Tryz.ntmps90,Tryz.results90,go_sem,seval];simp only[zcl,zad,Nat.reduceAdd];refine sqD ?_;refine z6 fun _ u=>?_;refine sqR fun _ w=>?_;refine chS 1 ?_;simp only[↓bO,go_sem,seval];apply w;apply z8 rfl <;> intro hb4
  ·
   cases hb4
  apply zaa;apply u;refine sqR fun _ u=>?_;(iterate 4 (refine chS 1 ?_));refine zZ 1 fun _ y=>?_;simp only[↓bO,go_sem,seval];refine Keys_at ?_;apply y;clear y;refine zZ 1 fun _ y=>?_;simp only[↓bO,go_sem,seval];refine ziH (p:=3) (m:=2) (es:=G.V.map vC) rfl rfl (vC_64 hw) (by rw[zx];exact hl) ?_;rw[vC_fst];apply y;clear y;simp only[↓bO,go_sem,seval];apply u;apply zab;(try simp only[go_sem]);refine ⟨_,zad 0 (zcl (G.N) (G.V)),⟨rfl,rfl⟩,Und.data (zap _),zjq tz1 _ _,?_,?_,by omega⟩
  ·
   refine Le.of_eq ?_;rfl
  first | (refine ⟨1,?_,rfl⟩;first | rfl | (simp only[zcl,zad,zf,zk,zu,zt,zW,zi,zz,zJ,GNode.cells,zI,Nat.reduceAdd,zO];done))
end Go.Proofs.YtpfiliamceimmaaGreatDoor
namespace Go.Proofs.YtpfiliamceimmaaGreatDoor
open Go Go.RowKit
def vns (m:List RNode):List Int:=(m.filter fun r=>r.t.k==1).map fun r=>r.t.n
theorem vns_app (m:List RNode) (r:RNode):vns (m++[r])=if r.t.k=1 then vns m++[r.t.n] else vns m:=by
 unfold vns;rw[List.filter_append]
 by_cases h:r.t.k=1
 (·simp[h]);simp[h]
theorem vset_none {V:List (Int×Int)} {k:Int} (x:Int) (h:zaw V k=none):zg5 V k x=V++[(k,x)]:=by
 induction V with
 | nil=>rfl
 | cons a V ih =>
  obtain ⟨a,b⟩:=a;simp only[zaw] at h;(split at h);(·cases h);(rename_i hne);simp only[zg5,if_neg hne,ih h,zw]
theorem zjg:∀(ps:List Ty) (_:∀p∈ps,∀(G:GS) (m:List RNode),Rel G m->G.V.map Prod.fst=vns m->(p.gadd G).1.V.map Prod.fst=vns (p.radd m).1/\Rel (p.gadd G).1 (p.radd m).1) (G:GS) (m:List RNode) (l l':List Int),Rel G m->G.V.map Prod.fst=vns m ->
  (Ty.gaddL ps G l).1.V.map Prod.fst=vns (Ty.raddL ps m l').1
 | [],_,G,m,l,l',_,h=>by simpa [Ty.gaddL,Ty.raddL] using h
 | p::ps,hp,G,m,l,l',hr,h=>by
  obtain ⟨h1,h2⟩:=hp p tz4 G m hr h;simp only[Ty.gaddL,Ty.raddL];exact zjg ps (fun q hq=>hp q (by simp[hq])) _ _ _ _ h2 h1
theorem zk6:∀(T:Ty),T.right=true->T.cnt<=400->∀(G:GS) (m:List RNode),Rel G m->G.V.map Prod.fst=vns m->(T.gadd G).1.V.map Prod.fst=vns (T.radd m).1:=by
 refine Ty.ind fun T ih=>?_;intro hr hc G m h hk;obtain ⟨hok,hps⟩:=T.right_ok hr
 by_cases h1:T.k=1
 ·have hps0:T.ps=[]:=by rw[T.var_eq hr h1];rfl
  rcases h.vars T.n with ⟨hv,hi⟩ | ⟨k,hv,hi,h0⟩
  ·have em:T.radd m=(m++[⟨T,[]⟩],(m.length:Int)):=by rw[Ty.radd_eq,if_neg tz1,hps0];rfl
   rw[Ty.gadd_var h1,hv,em];(simp only);rw[vset_none _ hv,zu,hk,vns_app,if_pos h1];rfl
  rw[Ty.gadd_var h1,hv,Ty.radd_eq,hi,if_pos ⟨h1,h0⟩];exact hk
 rw[Ty.gadd_more h1,Ty.radd_eq,if_neg tz1];(simp only);rw[vns_app,if_neg h1];exact zjg T.ps (fun p hp G m hr' hk'=>⟨ih p hp (hps p hp) (Nat.le_trans (Ty.cnt_le_mem hp) hc) G m hr' hk',(zbM p (hps p hp) (Nat.le_trans (Ty.cnt_le_mem hp) hc) G m hr').rel⟩) G m [] [] h hk
theorem insI_perm (n:Int) (l:List Int):(insI n l).Perm (n::l):=by
 unfold insI;refine List.perm_middle.trans ?_;rw[List.takeWhile_append_dropWhile]
theorem zc0 {p:Int->Bool}:∀{l:List Int} {x:Int},x∈l.takeWhile p->x∈l/\p x=true
 | a::l,x,h=>by
  rw[List.takeWhile_cons] at h;split at h
  ·rename_i ha
   (rcases zE.1 h with rfl | h);(·exact ⟨by simp,ha⟩);exact ⟨by simp[(zc0 h).1],(zc0 h).2⟩
  cases h
theorem zfc {n:Int}:∀{l:List Int},l.Pairwise (fun a b=>a<=b)->∀x∈l.dropWhile (fun y=>decide (y<n)),n<=x
 | [],_,x,h=>by simp at h
 | a::l,hs,x,h=>by
  rw[List.dropWhile_cons] at h;have hs':=List.pairwise_cons.1 hs;(split at h);(·exact zfc hs'.2 x h);(rename_i ha);(have ha:n<=a:=by simpa using ha);(rcases zE.1 h with rfl | h);(·exact ha);have:=hs'.1 x h;omega
theorem zjP {n:Int} {l:List Int} (h:l.Pairwise (fun a b=>a<=b)):(insI n l).Pairwise (fun a b=>a<=b):=by
 (have hlt:∀x∈l.takeWhile (fun y=>decide (y<n)),x<n:=fun x hx=>by simpa using (zc0 hx).2);have hge:=zfc (n:=n) h;(have hsp:(l.takeWhile (fun y=>decide (y<n))++l.dropWhile (fun y=>decide (y<n))).Pairwise (fun a b=>a<=b):=by rw[List.takeWhile_append_dropWhile];exact h);obtain ⟨h1,h2,h3⟩:=List.pairwise_append.1 hsp;unfold insI;refine List.pairwise_append.2 ⟨h1,List.pairwise_cons.2 ⟨hge,h2⟩,fun a ha b hb=>?_⟩;have:=hlt a ha;(rcases zE.1 hb with rfl | hb);(·omega);have:=hge b hb;omega
theorem zgF:∀(m:List RNode) (l:List Int),l.Pairwise (fun a b=>a<=b)->(m.foldl zj2 l).Pairwise (fun a b=>a<=b)/\(m.foldl zj2 l).Perm (l++vns m)
 | [],l,h=>by simpa [vns] using h
 | r::m,l,h=>by
  have key:(zj2 l r).Pairwise (fun a b=>a<=b)/\(zj2 l r++vns m).Perm (l++vns (r::m)):=by
   unfold zj2
   by_cases hk:r.t.k=1
   ·rw[if_pos hk]
    refine ⟨zjP h,?_⟩;(have e:vns (r::m)=r.t.n::vns m:=by simp[vns,hk]);rw[e];exact ((insI_perm _ _).append_right _).trans List.perm_middle.symm
   rw[if_neg hk];(have e:vns (r::m)=vns m:=by simp[vns,hk]);rw[e];exact ⟨h,.refl _⟩
  obtain ⟨h1,h2⟩:=zgF m (zj2 l r) key.1;exact ⟨h1,h2.trans key.2⟩
theorem zks (m:List RNode):varsI m=zcf (vns m):=by
 obtain ⟨h1,h2⟩:=zgF m [] .nil;(have tr:∀a b c:Int,decide (a<=b)=true->decide (b<=c)=true->decide (a<=c)=true:=fun a b c h1 h2=>by simp only[zd] at *;omega);(have to:∀a b:Int,(decide (a<=b)||decide (b<=a))=true:=fun a b=>by simp only[Bool.or_eq_true,zd];omega);have h3:=List.pairwise_mergeSort (le:=fun x y:Int=>decide (x<=y)) tr to (vns m);refine List.Perm.eq_of_pairwise (le:=fun a b:Int=>a<=b) (fun a b _ _ h1 h2=>by omega) h1 (h3.imp fun h=>by simpa using h) (h2.trans (List.mergeSort_perm _ _).symm)
theorem vns_64 {G:GS} {m:List RNode} (h:Rel G m):∀n∈vns m,is64 n:=fun n hn=>by
 unfold vns at hn;obtain ⟨r,hr,rfl⟩:=zq.1 hn;obtain ⟨hrm,hk⟩:=List.mem_filter.1 hr;obtain ⟨i,hi⟩:=List.mem_iff_getElem?.1 hrm;have hl:=(zb.1 hi).1;have hGi:G.N[i]?=some (G.N[i]'(by have:=h.len;omega)):=za (by have:=h.len;omega);have hright:=(h.node i _ _ hGi hi).2.2.2.2.2.1;have hok:=(r.t.right_ok hright).1;(have hk1:r.t.k=1:=by simpa using hk);simp only[okN,zd] at hok;unfold is64;omega
def OkE (l:List (Ty×Ty)):Prop:=∀e∈l,e.1.right=true/\e.2.right=true/\e.1.cnt<=400/\e.2.cnt<=400
theorem zhU {l:List (Ty×Ty)} {e:Ty×Ty} (h:OkE (l++[e])):Pre (eqF l).1 (eqF (l++[e])).1:=by
 (obtain ⟨⟨G,hG⟩,_⟩:=zdl l fun x hx=>h x (by simp[hx]));obtain ⟨h1,h2,h3,h4⟩:=h e tz4;have s1:=zbM e.1 h1 h3 G _ hG;have s2:=zbM e.2 h2 h4 _ _ s1.rel;rw[za1];exact s1.pre.trans s2.pre
theorem zkO (l:List (Ty×Ty)) (e:Ty×Ty):∀x∈zcn (eqF l).2,x∈zcn (eqF (l++[e])).2:=fun x hx=>by
 rw[za1];simp only[zdS,zcn,zu,zD];exact .inl hx
theorem zkY:∀(k l:List (Ty×Ty)),OkE (l++k)->Pre (eqF l).1 (eqF (l++k)).1/\∀x∈zcn (eqF l).2,x∈zcn (eqF (l++k)).2
 | [],l,_=>by simp only[List.append_nil];exact ⟨.refl _,fun _ h=>h⟩
 | e::k,l,h=>by
  (have e1:l++e::k=(l++[e])++k:=by simp);rw[e1] at h ⊢;obtain ⟨h1,h2⟩:=zkY k (l++[e]) h;exact ⟨(zhU fun x hx=>h x (by simp only[zD] at hx ⊢;exact .inl hx)).trans h1,fun x hx=>h2 x (zkO l e x hx)⟩
theorem Clashes.more {l k:List (Ty×Ty)} (h:Clashes l) (hk:OkE (l++k)):Clashes (l++k):=by
 obtain ⟨h1,h2⟩:=zkY k l hk;exact Clash.mono h1.sh h2 h
structure CSt (l:List (Ty×Ty)) (S:CS):Prop where
 st:(Holds l S/\S.G.V.map Prod.fst=vns (eqF l).1)\/(S.clash=true/\Clashes l)
 len:S.G.N.length<=zbD l
 ok:OkE l
theorem CSt.none:CSt [] CS0:=⟨.inl ⟨Holds.none,rfl⟩,by simp[CS0],fun e he=>by cases he⟩
theorem CSt.good {l:List (Ty×Ty)} {S:CS} (h:CSt l S) (hc:S.clash=false):Holds l S/\S.G.V.map Prod.fst=vns (eqF l).1:=by
 (rcases h.st with h | h);(·exact h);rw[hc] at h;cases h.1
theorem CSt.step {l:List (Ty×Ty)} {S:CS} {e:Ty×Ty} {s:CS×Int} (h:CSt l S) (he:e.1.right=true/\e.2.right=true/\e.1.cnt<=400/\e.2.cnt<=400) (hs:EqR S (zcn (eqF l).2) (eqF l).1 e.1 e.2 s):CSt (l++[e]) s.1:=by
 have hok:OkE (l++[e]):=fun x hx=>by
  (rcases zD.1 hx with hx | hx);(·exact h.ok x hx);simp at hx;subst hx;exact he
 have hsum:=zcV l e;have hlen:=h.len;rcases h.st with ⟨hH,hK⟩ | ⟨hc,hcl⟩
 ·have hG:s.1.G=(e.2.gadd (e.1.gadd S.G).1).1:=by
   (rcases hs with ⟨h1,_⟩ | ⟨_,h1,_⟩ | ⟨_,_,_,h3,_⟩);(·rw[hH.1] at h1;cases h1);(·rw[he.1,he.2.1] at h1;cases h1);exact h3
  have hle:s.1.G.N.length<=zbD (l++[e]):=by
   have g1:=e.1.gadd_inv S.G hH.2.w.c.g;have g2:=e.2.gadd_inv _ g1.1.inv;have:=g1.1.le;have:=g2.1.le;rw[hG];omega
  refine ⟨?_,hle,hok⟩;(rcases hH.step (e:=e) hs with ⟨h1,_⟩ | ⟨_,h1,h2⟩ | ⟨_,_,_,h3,_⟩);·rw[he.1,he.2.1] at h1;cases h1
  ·refine .inr ⟨?_,h1⟩
   (rcases hs with ⟨h4,_⟩ | ⟨_,h4,_⟩ | ⟨_,_,_,_,⟨h4,_⟩ | ⟨_,h4,_⟩⟩);(·rw[hH.1] at h4;cases h4);(·rw[he.1,he.2.1] at h4;cases h4);(·rw[h4] at h2;cases h2);exact h4
  refine .inl ⟨h3,?_⟩;have s1:=zbM e.1 he.1 he.2.2.1 S.G _ hH.2.rel;have k1:=zk6 e.1 he.1 he.2.2.1 S.G _ hH.2.rel hK;have k2:=zk6 e.2 he.2.1 he.2.2.2 _ _ s1.rel k1;rw[hG,k2,za1];rfl
 (rcases hs with ⟨_,rfl⟩ | ⟨h1,_⟩ | ⟨h1,_⟩);(·exact ⟨.inr ⟨hc,hcl.more hok⟩,by simp only;omega,hok⟩);(·rw[hc] at h1;cases h1);rw[hc] at h1;cases h1
theorem CSt.fsame {l:List (Ty×Ty)} {S S1:CS} (h:CSt l S) (k:FSame S.F S1.F) (e:S1={S with F:=S1.F}):CSt l S1:=by
 have hst:=h.st;have hlen:=h.len;have hok:=h.ok;(have e1:S1.G=S.G:=by rw[e]);(have e2:S1.clash=S.clash:=by rw[e]);refine ⟨?_,by rw[e1];exact hlen,hok⟩;(rcases hst with ⟨h1,h2⟩ | ⟨h1,h2⟩);(·exact .inl ⟨h1.fsame k e,by rw[e1];exact h2⟩);exact .inr ⟨by rw[e2];exact h1,h2⟩
def SameR (S:CS) (a b:Int) (r:Bool):Prop:=r=true↔S.clash=false/\∃i k,zaw S.G.V a=some i/\zaw S.G.V b=some k/\One S.F.up i.toNat k.toNat
structure Hom (m:List RNode) (E:List (Nat×Nat)) (m':List RNode) (E':List (Nat×Nat)) (f:Nat->Nat):Prop where
 node:∀(i:Nat) (r:RNode),m[i]?=some r->∃r',m'[f i]?=some r'/\r'.t=r.t/\r'.parts.length=r.parts.length/\∀(j:Nat) (p p':Int),r.parts[j]?=some p->r'.parts[j]?=some p'->p'.toNat=f p.toNat
 eqs:∀e∈E,Cl (shR m') E' (f e.1) (f e.2)
def HomN (m m':List RNode) (f:Nat->Nat):Prop :=
 ∀(i:Nat) (r:RNode),m[i]?=some r->∃r',m'[f i]?=some r'/\r'.t=r.t/\r'.parts.length=r.parts.length/\∀(j:Nat) (p p':Int),r.parts[j]?=some p->r'.parts[j]?=some p'->p'.toNat=f p.toNat
def VarU (m:List RNode):Prop:=∀(i j:Nat) (r s:RNode),m[i]?=some r->m[j]?=some s->r.t.k=1->s.t.k=1->r.t.n=s.t.n->i=j
theorem HomN.ext {G:GS} {m m':List RNode} {f g:Nat->Nat} (hR:Rel G m) (h:HomN m m' f) (e:∀i,i<m.length->g i=f i):HomN m m' g:=fun i r hr=>by
 have hil:=(zb.1 hr).1;obtain ⟨r',h1,h2,h3,h4⟩:=h i r hr;refine ⟨r',by rw[e i hil];exact h1,h2,h3,fun j p p' hp hp'=>?_⟩;have hm:=hR.mok r (zc hr) p (zc hp);rw[h4 j p p' hp hp',e _ tz1]
theorem HomN.snoc {G:GS} {m m':List RNode} {f:Nat->Nat} (hR:Rel G m) (h:HomN m m' f) {x:RNode} (hx:∀p∈x.parts,0<=p/\p<(m.length:Int)) {a:Nat} {y:RNode} (hy:m'[a]?=some y) (ht:y.t=x.t) (hl:y.parts.length=x.parts.length)
  (hp:∀(j:Nat) (p p':Int),x.parts[j]?=some p->y.parts[j]?=some p'->p'.toNat=f p.toNat):HomN (m++[x]) m' (fun i=>if i=m.length then a else f i):=by
 have h':=HomN.ext (g:=fun i=>if i=m.length then a else f i) hR h (fun i hi=>by rw[if_neg tz1]);intro i r hr;rcases zG i m.length with hi | hi
 ·rw[zA hi] at hr
  exact h' i r hr
 have hi2:i=m.length:=by
  have:=(zb.1 hr).1;simp only[zi,zz,zJ] at this;omega
 subst hi2;rw[zK (zQ _),Nat.sub_self] at hr;simp only[List.getElem?_cons_zero,Option.some.injEq] at hr;subst hr;refine ⟨y,by simp only[if_true];exact hy,ht,hl,fun j p p' h1 h2=>?_⟩;have h5:=hx p (zc h1);(have h6:¬p.toNat=m.length:=by omega);simp only[if_neg h6];exact hp j p p' h1 h2
theorem idxI_no {g:RNode->Bool} {m:List RNode} (h:zbE g m=-1) {i:Nat} {r:RNode} (hr:m[i]?=some r):g r=false:=by
 cases hg:g r with
 | false=>rfl
 | true =>
  have ha:m.any g=true:=List.any_eq_true.2 ⟨r,zc hr,hg⟩;unfold zbE at h;rw[if_pos ha] at h;omega
theorem idxI_neg (g:RNode->Bool) (m:List RNode) (h:zbE g m<0):zbE g m=-1:=by
 unfold zbE at h ⊢;(split at h);(·omega);rename_i hn;rw[if_neg hn]
theorem VarU.empty:VarU []:=by intro i j r s h;simp at h
theorem snoc_at {m:List RNode} {x r:RNode} {i:Nat} (h:(m++[x])[i]?=some r):(i<m.length/\m[i]?=some r)\/(i=m.length/\r=x):=by
 rcases zG i m.length with hi | hi
 ·rw[zA hi] at h
  exact .inl ⟨hi,h⟩
 have hi2:i=m.length:=by
  have:=(zb.1 h).1;simp only[zi,zz,zJ] at this;omega
 subst hi2;rw[zK (zQ _),Nat.sub_self] at h;simp only[List.getElem?_cons_zero,Option.some.injEq] at h;exact .inr ⟨rfl,h.symm⟩
theorem VarU.snoc {m:List RNode} (h:VarU m) {x:RNode} (hx:x.t.k=1->zbE (RNode.isVar x.t.n) m=-1):VarU (m++[x]):=by
 intro i j r s hr hs h1 h2 h3;(rcases snoc_at hr with ⟨_,hr2⟩ | ⟨hi,rfl⟩ <;> rcases snoc_at hs with ⟨_,hs2⟩ | ⟨hj,rfl⟩);·exact h i j r s hr2 hs2 h1 h2 h3
 ·have:=idxI_no (hx h2) hr2
  simp[RNode.isVar,h1,h3] at this
 ·have:=idxI_no (hx h1) hs2
  simp[RNode.isVar,h2,h3] at this
 omega
theorem ziM:∀(ps:List Ty) (_:∀p∈ps,∀(m:List RNode),VarU m->VarU (p.radd m).1) (m:List RNode) (l:List Int),VarU m->VarU (Ty.raddL ps m l).1
 | [],_,m,l,h=>by simpa [Ty.raddL] using h
 | p::ps,hp,m,l,h=>by
  simp only[Ty.raddL];exact ziM ps (fun q hq=>hp q (by simp[hq])) _ _ (hp p tz4 m h)
theorem zkP:∀(T:Ty),T.right=true->∀(m:List RNode),VarU m->VarU (T.radd m).1:=by
 refine Ty.ind fun T ih=>?_;intro hr m h;obtain ⟨hok,hps⟩:=T.right_ok hr;rw[Ty.radd_eq];split;(·exact h);(rename_i hn);refine (ziM T.ps (fun p hp=>ih p hp (hps p hp)) m [] h).snoc fun h1=>?_;(simp only at h1);(have hps0:T.ps=[]:=by rw[T.var_eq hr h1];rfl);rw[hps0];simp only[Ty.raddL];exact idxI_neg _ _ tz1
theorem Rel.nodeT {G:GS} {m:List RNode} (h:Rel G m) {i:Nat} {r:RNode} (hr:m[i]?=some r):r.t.right=true/\r.parts.length=r.t.ps.length /\
  ∀(j:Nat) (p:Int) (q:Ty),r.parts[j]?=some p->r.t.ps[j]?=some q->(m[p.toNat]?).map RNode.t=some q:=by
 have hl:=(zb.1 hr).1;have hGi:G.N[i]?=some (G.N[i]'(by have:=h.len;omega)):=za (by have:=h.len;omega);obtain ⟨_,_,_,_,_,h6,h7,h8⟩:=h.node i _ _ hGi hr;exact ⟨h6,h7,fun j p q hp hq=>(h8 j p q hp hq).2.2⟩
theorem map_t {m:List RNode} {i:Nat} {T:Ty} (h:(m[i]?).map RNode.t=some T):∃r,m[i]?=some r/\r.t=T/\i<m.length:=by
 cases hm:m[i]? with
 | none=>rw[hm] at h;cases h
 | some r=>rw[hm] at h;exact ⟨r,rfl,Option.some.inj h,(zb.1 hm).1⟩
theorem zk1 {m':List RNode}:∀(ps:List Ty) (_:∀p∈ps,∀(G:GS) (m:List RNode) (f:Nat->Nat) (a':Nat),Rel G m->HomN m m' f->(m'[a']?).map RNode.t=some p->RelStep p G m/\∃g,HomN (p.radd m).1 m' g/\g (p.radd m).2.toNat=a'/\∀i,i<m.length->g i=f i)
  (G:GS) (m:List RNode) (f:Nat->Nat) (l cs:List Int),Rel G m->HomN m m' f->cs.length=ps.length->(∀(j:Nat) (a:Int) (q:Ty),cs[j]?=some a->ps[j]?=some q->(m'[a.toNat]?).map RNode.t=some q) ->
  ∃g l',HomN (Ty.raddL ps m l).1 m' g/\(Ty.raddL ps m l).2=l++l'/\(∀(j:Nat) (p a:Int),l'[j]?=some p->cs[j]?=some a->g p.toNat=a.toNat)/\∀i,i<m.length->g i=f i
 | [],_,G,m,f,l,cs,hR,h,hl,_=>⟨f,[],by simpa [Ty.raddL] using h,by simp[Ty.raddL],by simp,fun _ _=>rfl⟩
 | p::ps,hp,G,m,f,l,[],_,_,hl,_=>by simp at hl
 | p::ps,hp,G,m,f,l,a::cs,hR,h,hl,ha=>by
  obtain ⟨s,g1,h1,h2,h3⟩:=hp p tz4 G m f a.toNat hR h (ha 0 a p rfl rfl);obtain ⟨g2,l',h4,h5,h6,h7⟩:=zk1 ps (fun q hq=>hp q (by simp[hq])) (p.gadd G).1 (p.radd m).1 g1 (l++[(p.radd m).2]) cs s.rel h1 (by simpa using hl) (fun j a q h8 h9=>ha (j+1) a q (by simpa using h8) (by simpa using h9));have hlen:=s.pre.len;obtain ⟨_,_,_,h10⟩:=map_t s.at';simp only[Ty.raddL];refine ⟨g2,(p.radd m).2::l',h4,by rw[h5];simp,fun j b c hb hc=>?_,fun i hi=>by rw[h7 i tz1,h3 i hi]⟩
  cases j with
  | zero=>simp at hb hc;subst hb;subst hc;rw[h7 _ h10,h2]
  | succ j=>exact h6 j b c (by simpa using hb) (by simpa using hc)
theorem hom_add {G':GS} {m':List RNode} (hR':Rel G' m') (hV:VarU m'):∀(T:Ty),T.right=true->T.cnt<=400->∀(G:GS) (m:List RNode) (f:Nat->Nat) (a':Nat),Rel G m->HomN m m' f->(m'[a']?).map RNode.t=some T ->
  ∃g,HomN (T.radd m).1 m' g/\g (T.radd m).2.toNat=a'/\∀i,i<m.length->g i=f i:=by
 refine Ty.ind fun T ih=>?_;intro hr hc G m f a' h hf ha;obtain ⟨hok,hps⟩:=T.right_ok hr;obtain ⟨y,hy,hyt,_⟩:=map_t ha;obtain ⟨_,hyl,hyp⟩:=hR'.nodeT hy;rw[hyt] at hyl hyp
 by_cases hk:T.k=1
 ·have hT:=T.var_eq hr hk
  (have hps0:T.ps=[]:=by rw[hT];rfl);rcases h.vars T.n with ⟨hv,hi⟩ | ⟨k,hv,hi,h0⟩
  ·have em:T.radd m=(m++[⟨T,[]⟩],(m.length:Int)):=by rw[Ty.radd_eq,if_neg tz1,hps0];rfl
   rw[em];refine ⟨_,HomN.snoc h hf (x:=⟨T,[]⟩) tz4 hy hyt (by rw[hyl,hps0];rfl) tz4,?_,fun i hi=>?_⟩;(·simp);simp only[if_neg (show ¬i=m.length by omega)]
  (have em:T.radd m=(m,k):=by rw[Ty.radd_eq,hi,if_pos ⟨hk,h0⟩]);rw[em];refine ⟨f,hf,?_,fun _ _=>rfl⟩;obtain ⟨r,hr1,hr2⟩:=zdZ (g:=RNode.isVar T.n) (l:=m) tz1;rw[hi] at hr1;simp only[RNode.isVar,zy,beq_iff_eq] at hr2;obtain ⟨r',h1,h2,_⟩:=hf _ r hr1;exact hV _ _ r' y h1 hy (by rw[h2];exact hr2.1) (by rw[hyt];exact hk) (by rw[h2,hyt];exact hr2.2)
 have ih':∀p∈T.ps,∀(G:GS) (m:List RNode) (f:Nat->Nat) (a':Nat),Rel G m->HomN m m' f->(m'[a']?).map RNode.t=some p->RelStep p G m/\∃g,HomN (p.radd m).1 m' g/\g (p.radd m).2.toNat=a'/\∀i,i<m.length->g i=f i:=fun p hp G m f a' hR hf ha =>
  ⟨zbM p (hps p hp) (Nat.le_trans (Ty.cnt_le_mem hp) hc) G m hR,ih p hp (hps p hp) (Nat.le_trans (Ty.cnt_le_mem hp) hc) G m f a' hR hf ha⟩
 obtain ⟨g,l',h1,h2,h3,h4⟩:=zk1 T.ps ih' G m f [] y.parts h hf hyl hyp;obtain ⟨h5,h6,h7,l2,h8,h9,h10⟩:=zhD T.ps (fun p hp=>zbM p (hps p hp) (Nat.le_trans (Ty.cnt_le_mem hp) hc)) G m [] h;simp only[zB] at h2 h8;obtain rfl:l'=l2:=h2.symm.trans h8;(have em:T.radd m=((Ty.raddL T.ps m []).1++[⟨T,l'⟩],((Ty.raddL T.ps m []).1.length:Int)):=by rw[Ty.radd_eq,if_neg tz1,h2]);rw[em];have hlen:=h7.len;refine ⟨_,HomN.snoc h5 h1 (x:=⟨T,l'⟩) (fun p hp=>?_) hy hyt (by rw[hyl,h9]) (fun j p p' hp hp'=>(h3 j p p' hp hp').symm),?_,fun i hi=>?_⟩
 ·obtain ⟨j,hj⟩:=List.mem_iff_getElem?.1 hp
  have hjl:=(zb.1 hj).1;(simp only at hjl);obtain ⟨h11,h12⟩:=h10 j p _ hj (za tz1);obtain ⟨_,_,_,h13⟩:=map_t h12;omega
 (·simp);simp only[if_neg (show ¬i=(Ty.raddL T.ps m []).1.length by omega)];exact h4 i hi
def Tgt (m':List RNode) (E':List (Nat×Nat)) (e:Ty×Ty):Prop:=∃a b,(m'[a]?).map RNode.t=some e.1/\(m'[b]?).map RNode.t=some e.2/\Cl (shR m') E' a b
theorem Tgt.swap {m':List RNode} {E':List (Nat×Nat)} {e:Ty×Ty} (h:Tgt m' E' e):Tgt m' E' (e.2,e.1):=by
 obtain ⟨a,b,h1,h2,h3⟩:=h;exact ⟨b,a,h2,h1,h3.symm⟩
theorem zga {P:List (Ty×Ty)->Prop} (h0:P []) (h1:∀d e,OkE (d++[e])->OkE d->P d->P (d++[e])):∀l,OkE l->P l:=by
 suffices h:∀(n:Nat) (l:List (Ty×Ty)),l.length=n->OkE l->P l from fun l=>h l.length l rfl
 intro n
 induction n with
 | zero=>intro l hl _;rw[List.length_eq_zero_iff.1 hl];exact h0
 | succ n ih =>
  intro l hl hr;(have hne:l≠[]:=fun e=>by rw[e] at hl;simp at hl);obtain ⟨d,e,rfl⟩:∃d e,l=d++[e]:=⟨l.dropLast,l.getLast hne,(List.dropLast_concat_getLast hne).symm⟩;(have hd:OkE d:=fun x hx=>hr x (by simp[hx]));exact h1 d e hr hd (ih d (by simp at hl;omega) hd)
theorem zez:∀l,OkE l->VarU (eqF l).1:=zga (by simpa [eqF] using VarU.empty) fun d e h _ ih=>by
 obtain ⟨h1,h2,h3,h4⟩:=h e tz4;rw[za1];exact zkP e.2 h2 _ (zkP e.1 h1 _ ih)
theorem zhM:∀l,OkE l->∀e∈l,Tgt (eqF l).1 (zcn (eqF l).2) e:=zga (fun e he=>by cases he) fun d e h hd ih x hx=>by
 rcases zD.1 hx with hx | hx
 ·obtain ⟨a,b,h1,h2,h3⟩:=ih x hx
  have hp:=zhU h;exact ⟨a,b,hp.get h1,hp.get h2,h3.mono hp.sh (zkO d e)⟩
 (simp at hx;subst hx);(obtain ⟨⟨G,hG⟩,_⟩:=zdl d fun x hx=>hd x hx);obtain ⟨h1,h2,h3,h4⟩:=h x tz4;have s1:=zbM x.1 h1 h3 G _ hG;have s2:=zbM x.2 h2 h4 _ _ s1.rel;refine ⟨(x.1.radd (eqF d).1).2.toNat,(x.2.radd (x.1.radd (eqF d).1).1).2.toNat,?_,?_,.base ?_⟩
 rotate_left 2
 ·rw[za1]
  simp only[zdS,zcn,zu,zD,zt,zW];exact .inr (List.mem_singleton.2 rfl)
 (·rw[za1];exact s2.pre.get s1.at');rw[za1];exact s2.at'
theorem hom_eqF {G':GS} {m':List RNode} {E':List (Nat×Nat)} (hR':Rel G' m') (hV:VarU m'):∀l,OkE l->(∀e∈l,Tgt m' E' e)->∃f,Hom (eqF l).1 (zcn (eqF l).2) m' E' f:=by
 refine zga (P:=fun l=>(∀e∈l,Tgt m' E' e)->∃f,Hom (eqF l).1 (zcn (eqF l).2) m' E' f) ?_ ?_
 ·intro _
  exact ⟨fun i=>i,fun i r hr=>by simp[eqF] at hr,fun e he=>by simp[eqF,zcn] at he⟩
 intro d e h hd ih ht;(obtain ⟨f,hf⟩:=ih fun x hx=>ht x (by simp[hx]));(obtain ⟨⟨G,hG⟩,hok⟩:=zdl d fun x hx=>hd x hx);obtain ⟨h1,h2,h3,h4⟩:=h e tz4;have s1:=zbM e.1 h1 h3 G _ hG;have s2:=zbM e.2 h2 h4 _ _ s1.rel;obtain ⟨a,b,ha,hb,hab⟩:=ht e tz4;obtain ⟨g1,k1,k2,k3⟩:=hom_add hR' hV e.1 h1 h3 G _ f a hG hf.node ha;obtain ⟨g2,k4,k5,k6⟩:=hom_add hR' hV e.2 h2 h4 _ _ g1 b s1.rel k1 hb;obtain ⟨_,_,_,l1⟩:=map_t s1.at';have l2:=s1.pre.len;rw[za1];refine ⟨g2,k4,fun x hx=>?_⟩;simp only[zdS,zcn,zu,zD,zt,zW] at hx;rcases hx with hx | hx
 ·obtain ⟨p,hp,rfl⟩:=zq.1 hx
  have hp2:=hok p hp;have hq:=hf.eqs _ (zq.2 ⟨p,hp,rfl⟩);(simp only at hq ⊢);rw[k6 _ tz1,k6 _ tz1,k3 _ tz1,k3 _ tz1];exact hq
 obtain rfl:=List.mem_singleton.1 hx;(simp only);rw[k6 _ l1,k2,k5];exact hab
def SubE (l l':List (Ty×Ty)):Prop:=∀e∈l,e∈l'\/(e.2,e.1)∈l'
theorem SubE.hom {l l':List (Ty×Ty)} (h:SubE l l') (ho:OkE l) (ho':OkE l'):∃f,Hom (eqF l).1 (zcn (eqF l).2) (eqF l').1 (zcn (eqF l').2) f:=by
 (obtain ⟨⟨G',hG'⟩,_⟩:=zdl l' fun x hx=>ho' x hx);refine hom_eqF hG' (zez l' ho') l ho fun e he=>?_;(rcases h e he with h1 | h1);(·exact zhM l' ho' e h1);exact (zhM l' ho' _ h1).swap
theorem zeG {m:List RNode} {n:Int}:n∈vns m↔∃(i:Nat) (r:RNode),m[i]?=some r/\r.t.k=1/\r.t.n=n:=by
 unfold vns;constructor
 ·intro h
  obtain ⟨r,hr,rfl⟩:=zq.1 h;obtain ⟨hrm,hk⟩:=List.mem_filter.1 hr;obtain ⟨i,hi⟩:=List.mem_iff_getElem?.1 hrm;exact ⟨i,r,hi,by simpa using hk,rfl⟩
 rintro ⟨i,r,hi,hk,rfl⟩;exact zq.2 ⟨r,List.mem_filter.2 ⟨zc hi,by simpa using hk⟩,rfl⟩
theorem zdt:∀{m:List RNode},VarU m->(vns m).Nodup
 | [],_=>by simp[vns]
 | r::m,h=>by
  have hm:VarU m:=fun i j r s hr hs h1 h2 h3=>by
   have:=h (i+1) (j+1) r s (by simpa using hr) (by simpa using hs) h1 h2 h3;omega
  by_cases hk:r.t.k=1
  ·have e:vns (r::m)=r.t.n::vns m:=by simp[vns,hk]
   rw[e,List.nodup_cons];refine ⟨fun hn=>?_,zdt hm⟩;obtain ⟨i,s,hs,h1,h2⟩:=zeG.1 hn;have:=h 0 (i+1) r s rfl (by simpa using hs) hk h1 h2.symm;omega
  (have e:vns (r::m)=vns m:=by simp[vns,hk]);rw[e];exact zdt hm
theorem Hom.vns {m m':List RNode} {E E':List (Nat×Nat)} {f:Nat->Nat} (h:Hom m E m' E' f) {n:Int} (hn:n∈vns m):n∈Go.Proofs.YtpfiliamceimmaaGreatDoor.vns m':=by
 obtain ⟨i,r,hr,h1,h2⟩:=zeG.1 hn;obtain ⟨r',h3,h4,_⟩:=h.node i r hr;exact zeG.2 ⟨_,r',h3,by rw[h4];exact h1,by rw[h4];exact h2⟩
theorem zmc {a b:List Int} (h:a.Perm b):zcf a=zcf b:=by
 (have tr:∀a b c:Int,decide (a<=b)=true->decide (b<=c)=true->decide (a<=c)=true:=fun a b c h1 h2=>by simp only[zd] at *;omega);(have to:∀a b:Int,(decide (a<=b)||decide (b<=a))=true:=fun a b=>by simp only[Bool.or_eq_true,zd];omega);have h1:=List.pairwise_mergeSort (le:=fun x y:Int=>decide (x<=y)) tr to a;have h2:=List.pairwise_mergeSort (le:=fun x y:Int=>decide (x<=y)) tr to b;exact List.Perm.eq_of_pairwise (le:=fun a b:Int=>a<=b) (fun a b _ _ h1 h2=>by omega) (h1.imp fun h=>by simpa using h) (h2.imp fun h=>by simpa using h) ((List.mergeSort_perm _ _).trans (h.trans (List.mergeSort_perm _ _).symm))
theorem SubE.vars {l l':List (Ty×Ty)} (h:SubE l l') (h':SubE l' l) (ho:OkE l) (ho':OkE l'):zcf (vns (eqF l).1)=zcf (vns (eqF l').1):=by
 obtain ⟨f,hf⟩:=h.hom ho ho';obtain ⟨f',hf'⟩:=h'.hom ho' ho;refine zmc (List.perm_iff_count.2 fun a=>?_);have n1:=zdt (zez l ho);have n2:=zdt (zez l' ho')
 by_cases ha:a∈Go.Proofs.YtpfiliamceimmaaGreatDoor.vns (eqF l).1
 (·rw[n1.count,n2.count,if_pos ha,if_pos (hf.vns ha)]);rw[List.count_eq_zero_of_not_mem ha,List.count_eq_zero_of_not_mem fun hb=>ha (hf'.vns hb)]
theorem VarU.idx {m:List RNode} (h:VarU m) {i:Nat} {r:RNode} (hr:m[i]?=some r) (hk:r.t.k=1):zbE (RNode.isVar r.t.n) m=i:=by
 refine zbl (p:=r) hr (by simp[RNode.isVar,hk]) fun j q hj hq=>?_
 cases hg:RNode.isVar r.t.n q with
 | false=>rfl
 | true =>
  simp only[RNode.isVar,zy,beq_iff_eq] at hg;have:=h j i q r hq hr hg.1 hk hg.2;omega
open Classical in
noncomputable def zeI (S:CS) (a b:Int):Bool:=decide (S.clash=false/\∃i k,zaw S.G.V a=some i/\zaw S.G.V b=some k/\One S.F.up i.toNat k.toNat)
theorem zhp (S:CS) (a b:Int):SameR S a b (zeI S a b):=by
 classical
 unfold SameR zeI;rw[zd]
theorem SameR.eq {S:CS} {a b:Int} {r:Bool} (h:SameR S a b r):r=zeI S a b:=by
 have h1:=h.trans (zhp S a b).symm
 cases r with
 | true=>exact (h1.1 rfl).symm
 | false =>
  cases hs:zeI S a b with
  | false=>rfl
  | true=>exact h1.2 hs
theorem SameR.fsame {S S1:CS} {a b:Int} {r:Bool} (k:FSame S.F S1.F) (e:S1={S with F:=S1.F}) (h:SameR S1 a b r):SameR S a b r:=by
 (have e1:S1.G=S.G:=by rw[e]);(have e2:S1.clash=S.clash:=by rw[e]);unfold SameR at h ⊢;rw[e1,e2] at h;simp only[One.congr k.rt] at h;exact h
theorem zjM {S S1:CS} (k:FSame S.F S1.F) (e:S1={S with F:=S1.F}) (a b:Int):zeI S1 a b=zeI S a b:=((zhp S1 a b).fsame k e).eq
theorem CSt.clash_iff {l:List (Ty×Ty)} {S:CS} (h:CSt l S):S.clash=true↔Clashes l:=by
 rcases h.st with ⟨h1,_⟩ | ⟨h1,h2⟩
 ·rw[h1.1]
  exact ⟨fun h=>(by cases h),fun h=>absurd h h1.noClash⟩
 exact ⟨fun _=>h2,fun _=>h1⟩
noncomputable def zfQ (S:CS) (v:Int) (L:List Int):List Int:=L.filter (zeI S v)
theorem clsF_yes {S:CS} {v:Int} {L:List Int} {s:Nat} {w:Int} (h:L[s]?=some w) (hr:zeI S v w=true):zfQ S v (L.take (s+1))=zfQ S v (L.take s)++[w]:=by
 rw[zM,h,zfQ,List.filter_append];simp[zfQ,hr]
theorem clsF_no {S:CS} {v:Int} {L:List Int} {s:Nat} {w:Int} (h:L[s]?=some w) (hr:zeI S v w=false):zfQ S v (L.take (s+1))=zfQ S v (L.take s):=by
 rw[zM,h,zfQ,List.filter_append];simp[zfQ,hr]
theorem clsF_len (S:CS) (v:Int) (L:List Int):(zfQ S v L).length<=L.length:=List.length_filter_le _ _
theorem ColF.iff {m:List RNode} {E:List (Nat×Nat)} {c:List Int} (h:ColF m E c) (hr:∀e∈E,e.1<m.length/\e.2<m.length) (hM:MOk m) {i k:Nat} (hi:i<m.length) (hk:k<m.length):c[i]?=c[k]?↔Cl (shR m) E i k :=
 h.col.iff h.held hr hM h.ok hi hk
structure ColE (l:List (Ty×Ty)) (c:List Int):Prop where
 ok:OkE l
 len:c.length=(eqF l).1.length
 iff:∀i k,i<(eqF l).1.length->k<(eqF l).1.length->(c[i]?=c[k]?↔Cl (shR (eqF l).1) (zcn (eqF l).2) i k)
theorem ColF.colE {l:List (Ty×Ty)} {c:List Int} (h:ColF (eqF l).1 (zcn (eqF l).2) c) (ho:OkE l):ColE l c:=by
 (obtain ⟨⟨G,hG⟩,hP⟩:=zdl l fun e he=>ho e he);refine ⟨ho,h.col.len,fun i k hi hk=>h.iff (fun e he=>?_) hG.mok hi hk⟩;simp only[zcn,zq] at he;obtain ⟨p,hp,rfl⟩:=he;have:=hP p hp;(simp only);omega
def zaX (m:List RNode) (c:List Int) (i k:Nat):Bool:=decide (c[k]?=c[i]?)&&decide (((m[k]?).map fun x=>x.t.k)≠some 1)
def zbh (m:List RNode) (c:List Int) (i:Nat):Int:=zbE (zaX m c i) (List.range m.length)
theorem zlh {m:List RNode} {c:List Int} {i k:Nat} {x:RNode} {y z:Int} (hx:m[k]?=some x) (hy:c[k]?=some y) (hz:c[i]?=some z):zaX m c i k=(decide (y=z)&&decide (x.t.k≠1)):=by
 unfold zaX;rw[hx,hy,hz];congr 1 <;> simp
theorem zhG {n j q:Nat} (h:(List.range n)[j]?=some q):q=j/\j<n:=by
 obtain ⟨h1,h2⟩:=zb.1 h;(simp at h1 h2);exact ⟨h2.symm,h1⟩
theorem zjc {m:List RNode} {c:List Int} {i k:Nat} (hk:k<m.length) (h:zaX m c i k=true) (hb:∀j,j<k->zaX m c i j=false):zbh m c i=k :=
 zbl (p:=k) (by simp[hk]) h fun j q hj hq=>by
  obtain ⟨rfl,_⟩:=zhG hq;exact hb q hj
theorem wholeI_no {m:List RNode} {c:List Int} {i:Nat} (hb:∀j,j<m.length->zaX m c i j=false):zbh m c i=-1 :=
 zbT fun j q hj hq=>by
  obtain ⟨rfl,_⟩:=zhG hq;exact hb q (by simpa using hj)
theorem zbY (m:List RNode) (c:List Int) (i:Nat):(zbh m c i=-1/\∀j,j<m.length->zaX m c i j=false)\/∃k:Nat,zbh m c i=(k:Int)/\k<m.length/\zaX m c i k=true:=by
 rcases Int.lt_or_le (zbh m c i) 0 with h | h
 ·left
  unfold zbh at h ⊢
  have h1:zbE (zaX m c i) (List.range m.length)=-1:=by
   unfold zbE at h ⊢;(split at h);(·omega);rename_i hn;rw[if_neg hn]
  refine ⟨h1,fun j hj=>?_⟩
  cases hg:zaX m c i j with
  | false=>rfl
  | true =>
   have ha:(List.range m.length).any (zaX m c i)=true:=List.any_eq_true.2 ⟨j,by simpa using hj,hg⟩;unfold zbE at h1;rw[if_pos ha] at h1;omega
 right;obtain ⟨r,h1,h2⟩:=zdZ (g:=zaX m c i) (l:=List.range m.length) h;obtain ⟨h3,h4⟩:=zhG h1;(have h5:zbh m c i=((zbh m c i).toNat:Int):=by omega);have h6:r=(zbh m c i).toNat:=h3;refine ⟨r,by rw[h6];exact h5,by rw[h6];exact h4,h2⟩
def zlU (m:List RNode) (c:List Int) (i:Nat):Int:=if 0<=zbh m c i then ((m[(zbh m c i).toNat]?).map fun x=>x.t.k).getD 0 else 0
theorem zc7 {m:List RNode} {c:List Int} {i k:Nat}:zaX m c i k=true↔c[k]?=c[i]?/\((m[k]?).map fun x=>x.t.k)≠some 1:=by
 unfold zaX;rw[zy,zd,zd]
theorem Holds.vf {l:List (Ty×Ty)} {S:CS} (h:Holds l S) (n:Int):(zaw S.G.V n=Option.none/\zbE (RNode.isVar n) (eqF l).1=-1)\/∃i:Nat,zaw S.G.V n=some (i:Int)/\zbE (RNode.isVar n) (eqF l).1=(i:Int)/\i<(eqF l).1.length:=by
 (rcases h.2.rel.vars n with h1 | ⟨k,h1,h2,h3⟩);(·exact .inl h1);obtain ⟨i,rfl⟩:∃i:Nat,k=(i:Int):=⟨k.toNat,by omega⟩;obtain ⟨r,h4,_⟩:=zdZ (g:=RNode.isVar n) (l:=(eqF l).1) tz1;rw[h2,zH] at h4;exact .inr ⟨i,h1,h2,(zb.1 h4).1⟩
def clsN (m:List RNode) (c:List Int) (i:Nat) (L:List Int):List Int:=L.filter fun w=>decide (c[(zbE (RNode.isVar w) m).toNat]?=c[i]?)
theorem mem_varsI {m:List RNode} {n:Int}:n∈varsI m↔n∈vns m:=by
 rw[zks];exact (List.mergeSort_perm _ _).mem_iff
theorem var_idx {m:List RNode} {n:Int} (h:n∈varsI m):∃i:Nat,zbE (RNode.isVar n) m=(i:Int)/\i<m.length:=by
 obtain ⟨i,r,hr,h1,h2⟩:=zeG.1 (mem_varsI.1 h);have ha:m.any (RNode.isVar n)=true:=List.any_eq_true.2 ⟨r,zc hr,by simp[RNode.isVar,h1,h2]⟩;refine ⟨m.findIdx (RNode.isVar n),by unfold zbE;rw[if_pos ha],List.findIdx_lt_length.2 (by simpa using ha)⟩
def zbQ (c:Nat) (r:Nat):List AV:=[.ptr c 0,.v (.int .i64 (r:Int))]
theorem Rp.slMap {E E':Env} {A:Nat->Nat->Prop} {w:World} {sz:Nat} {xs ys:List (List AV)} {u:Value} (hl:ys.length=xs.length) (hsz:(∀x∈xs,x.length=sz)->∀y∈ys,y.length=sz)
  (hfl:ys.flatten.length=xs.flatten.length) (hr:∀(j:Nat) (c d:AV) (u:Value),xs.flatten[j]?=some c->ys.flatten[j]?=some d->Rp E A w c u->Rp E' A w d u) (h:Rp E A w (.sl sz xs) u):Rp E' A w (.sl sz ys) u:=by
 cases h with
 | sl0 hc =>
  have:ys=[]:=List.eq_nil_of_length_eq_zero (by simpa using hl)
  subst this;exact .sl0 hc
 | sl g hn hcap hc hs hcell h =>
  refine .sl g (hn.trans hl.symm) hcap hc (hsz hs) (fun j hj=>hcell j tz1) fun j d hd=>?_;(have hj:j<xs.flatten.length:=by have:=(zb.1 hd).1;omega);exact hr j _ d _ (za hj) hd (h j _ (za hj))
theorem Und.slR {n sz:Nat} {xs:List (List AV)} (h:∀x∈xs,UndL n x):Und n (.sl sz xs):=fun E A w u hr =>
 hr.slMap rfl id rfl fun j c d u hc hd hk=>by
  rw[hc] at hd;cases hd;obtain ⟨x,hx,hcx⟩:=List.mem_flatten.1 (zc hc);exact (h x hx).mem c hcx E A w u hk
theorem Und.parts {n c:Nat} (h:c<n) (rs:List Nat):Und n (.sl 2 (rs.map (zbQ c))):=.slR fun x hx=>by
 obtain ⟨r,_,rfl⟩:=zq.1 hx;exact ⟨.ptr h,.v _ _,trivial⟩
theorem RenL.parts {ρ:Nat->Nat} {i j:Nat} (h:ρ i=j):∀rs:List Nat,RenL ρ ((rs.map (zbQ i)).flatten) ((rs.map (zbQ j)).flatten)
 | []=>trivial
 | r::rs=>⟨.ptr h,.v _,RenL.parts h rs⟩
theorem RenV.parts {ρ:Nat->Nat} {i j:Nat} (h:ρ i=j) (rs:List Nat):RenV ρ (.sl 2 (rs.map (zbQ i))) (.sl 2 (rs.map (zbQ j))):=fun E A w u=>by
 have hR:=RenL.parts h rs
 have hsz:∀c,∀x∈rs.map (zbQ c),x.length=2:=fun c x hx=>by
  obtain ⟨r,_,rfl⟩:=zq.1 hx;rfl
 constructor
 ·refine Rp.slMap tz4 (fun _=>hsz j) hR.length.symm fun k c d u hc hd hk=>?_
  obtain ⟨y,hy,hv⟩:=hR.get k c hc;rw[hd] at hy;cases hy;exact (hv E A w u).1 hk
 refine Rp.slMap tz4 (fun _=>hsz i) hR.length fun k c d u hc hd hk=>?_;obtain ⟨y,hy,hv⟩:=hR.get k d hd;rw[hc] at hy;cases hy;exact (hv E A w u).2 hk
theorem RenV.part {ρ:Nat->Nat} {i j:Nat} (h:ρ i=j) (r:Nat):RenV ρ (.agg (zbQ i r)) (.agg (zbQ j r)):=.agg ⟨.ptr h,.v _,trivial⟩
theorem CCalls.atP {σ:Type} {f:Nat} {args args':List AV} {S:CS} {C:CS×σ->Prop} {R R':σ->AV} (h:CCalls f args S C R) {i0 i1 i2 i3 i4 i5 i6 i7:Nat} {os':Os} {nx':Nat}
  (ha:RenL (zbu [i0,i1,i2,i3,i4,i5,i6,i7] nx') args args') (hR:∀s,RenV (zbu [i0,i1,i2,i3,i4,i5,i6,i7] nx') (R s) (R' s))
  (hnd:[i0,i1,i2,i3,i4,i5,i6,i7].Nodup) (hlt:∀x∈[i0,i1,i2,i3,i4,i5,i6,i7],x<nx') (hg:GetsO os' [i0,i1,i2,i3,i4,i5,i6,i7] (zat i1 i2 i3 i4 i5 i6 i7 S)) {Q':AV->Os->Nat->Prop}
  (hq:∀(S1:CS) (s:σ),C (S1,s)->Q' (R' s) (zah os' ([i0,i1,i2,i3,i4,i5,i6,i7].zip (zat i1 i2 i3 i4 i5 i6 i7 S1))) nx'):ACalls Tryz.prog f args' os' nx' Q' :=
 ACalls.atE (σ:=CS×σ) (C:=C) (args:=args) (R:=fun s=>R s.2) (R':=fun s=>R' s.2) (obs:=zan S) (obs1:=fun s=>zan s.1) (obs':=zat i1 i2 i3 i4 i5 i6 i7 S) (obs1':=fun s=>zat i1 i2 i3 i4 i5 i6 i7 s.1) [i0,i1,i2,i3,i4,i5,i6,i7] h rfl (fun _=>rfl) hnd hlt ha (fun s=>hR s.2) (renC S i0 i1 i2 i3 i4 i5 i6 i7 nx') hg (fun s=>renC s.1 i0 i1 i2 i3 i4 i5 i6 i7 nx') (fun s hs=>hq s.1 s.2 hs)
open Classical in
noncomputable def rtB (S:CS) (r:Nat) (v:Int):Bool:=decide (∃i,zaw S.G.V v=some i/\Rt S.F.up i.toNat r)
theorem zdi {S:CS} {r:Nat} {v:Int}:rtB S r v=true↔∃i,zaw S.G.V v=some i/\Rt S.F.up i.toNat r:=by
 classical
 unfold rtB;rw[zd]
theorem zf8 {S S1:CS} (k:FSame S.F S1.F) (e:S1={S with F:=S1.F}) (r:Nat) (v:Int):rtB S1 r v=rtB S r v:=by
 rw[zF,zdi,zdi,show S1.G=S.G from by rw[e]];exact ⟨fun ⟨i,h1,h2⟩=>⟨i,h1,(k.rt _ _).1 h2⟩,fun ⟨i,h1,h2⟩=>⟨i,h1,(k.rt _ _).2 h2⟩⟩
noncomputable def za9 (S:CS) (r:Nat) (L:List Int):Int:=(L.find? (rtB S r)).getD (-1)
theorem zbV {l:List (Ty×Ty)} {S:CS} (h:Holds l S) {i k r:Nat} (hr:Rt S.F.up i r):Rt S.F.up k r↔Cl (shR (eqF l).1) (zcn (eqF l).2) i k:=by
 have h8:=h.2.w.iff i k;rw[h.2.rel.sh] at h8;rw[<- h8];exact ⟨fun hk=>.inr ⟨r,hr,hk⟩,fun ho=>ho.rt hr⟩
structure PartIs (l:List (Ty×Ty)) (c:List Int) (S:CS) (i:Nat) (x:Int):Prop where
 no:x<0->zbh (eqF l).1 c i=-1/\zlU (eqF l).1 c i=0
 yes:0<=x->∃(k:Nat) (g:GNode) (y:RNode),zbh (eqF l).1 c i=(k:Int)/\S.G.N[x.toNat]?=some g/\(eqF l).1[k]?=some y/\zlU (eqF l).1 c i=g.k/\1<=g.k/\g.parts.length=y.parts.length/\g.parts.length<=8/\(∀p∈g.parts,0<=p/\p<(S.F.up.length:Int)) /\
  ∀(j:Nat) (p q:Int),g.parts[j]?=some p->y.parts[j]?=some q->0<=q/\q<((eqF l).1.length:Int)/\∀r',Rt S.F.up p.toNat r'->Rt S.F.up q.toNat r'
theorem zjS {t:Ty} (h:t.right=true):1<=t.k:=by
 rw[Ty.right_eq,zy,okN,zd] at h;omega
theorem Holds.part {l:List (Ty×Ty)} {S:CS} (h:Holds l S) {c:List Int} (hc:ColE l c) {i r:Nat} {x:Int} (hi:i<(eqF l).1.length) (hr:Rt S.F.up i r) (hx:S.W[r]?=some x):PartIs l c S i x:=by
 have hrr:Rt S.F.up r r:=zcd.1 hr.root;have hW:=h.2.w;have hC:=hW.c;constructor
 ·intro hneg
  have h0:zbh (eqF l).1 c i=-1:=by
   (rcases zbY (eqF l).1 c i with ⟨h1,_⟩ | ⟨k,h1,h2,h3⟩);(·exact h1);exfalso;obtain ⟨h4,h5⟩:=zc7.1 h3;have hy:(eqF l).1[k]?=some ((eqF l).1[k]'h2):=za h2;have hk:=hW.neg r k x _ _ hx hneg ((zbV h hr).2 ((hc.iff i k hi h2).1 h4.symm)) (by rw[h.2.rel.sh];exact zdp hy);rw[hy] at h5;exact h5 (by simpa using hk)
  exact ⟨h0,by rw[zlU,h0,if_neg tz1]⟩
 intro hpos;obtain ⟨hxr,d,ps,hsx,hd,hall⟩:=hW.pos r x hrr hx hpos;obtain ⟨g,hg,hgk,hgp⟩:=shG_at hsx;have hxl:=(zb.1 hg).1;rcases zbY (eqF l).1 c i with ⟨_,h2⟩ | ⟨k,h1,h2,h3⟩
 ·exfalso
  have hsx':=hsx;rw[h.2.rel.sh] at hsx';obtain ⟨z,hz,hzk,_⟩:=zdQ hsx';have hzl:=(zb.1 hz).1;have h4:=h2 x.toNat hzl;rw[zc7.2 ⟨((hc.iff i x.toNat hi hzl).2 ((zbV h hr).1 hxr)).symm,by rw[hz];simpa using hzk.symm▸hd⟩] at h4;cases h4
 obtain ⟨h4,h5⟩:=zc7.1 h3;have hy:(eqF l).1[k]?=some ((eqF l).1[k]'h2):=za h2;rw[hy] at h5;have hkr:=(zbV h hr).2 ((hc.iff i k hi h2).1 h4.symm);obtain ⟨e1,e2,e3⟩:=hall k _ _ hkr (by rw[h.2.rel.sh];exact zdp hy) (by simpa using h5);(have hgl:k<S.G.N.length:=by rw[h.2.rel.len];exact h2);have hgk2:S.G.N[k]?=some (S.G.N[k]'hgl):=za hgl;obtain ⟨f1,f2,f3,f4,f5,f6,f7,f8⟩:=h.2.rel.node k _ _ hgk2 hy;have hfl:=hC.fl;have hwl:=hC.wl;refine ⟨k,g,_,h1,hg,hy,?_,?_,?_,hC.pl g (zc hg),fun p hp=>?_,fun j p q hp hq=>?_⟩
 ·rw[zlU,h1,if_pos tz1,zH,hy]
  simpa using e1.trans hgk.symm
 ·have:=zjS f6
  rw[hgk,<- e1];exact this
 ·rw[hgp,<- e2]
 ·have:=hC.pr g (zc hg) p hp
  omega
 have h9:=hC.pr _ (zc hgk2) q (by rw[f3];exact zc hq);rw[h.2.rel.len] at h9;refine ⟨h9.1,h9.2,fun r' hp'=>?_⟩;exact ((e3 j p q (by rw[<- hgp];exact hp) hq).nil.symm).rt hp'
theorem no_stepq {g:Int->Bool} {L:List Int} {s:Nat} {w:Int} (h:∀(j:Nat) (q:Int),j<s->L[j]?=some q->g q=false) (he:L[s]?=some w) (hw:g w=false):∀(j:Nat) (q:Int),j<s+1->L[j]?=some q->g q=false:=fun j q hj hq=>by
 (rcases zG j s with h1 | h1);(·exact h j q h1 hq);(obtain rfl:j=s:=by omega);rw[he] at hq;cases hq;exact hw
theorem zlg {α:Type} {g:α->Bool}:∀{L:List α},L.find? g=L[L.findIdx g]?
 | []=>rfl
 | a::l=>by
  rw[List.find?_cons,List.findIdx_cons]
  cases hg:g a with
  | true=>rfl
  | false=>simpa using zlg
theorem least_neg {S:CS} {r:Nat} {L:List Int} (h:zbE (rtB S r) L<0):za9 S r L=-1:=by
 unfold zbE at h;(split at h);(·omega);(rename_i ha);unfold za9;rw[List.find?_eq_none.2 fun x hx hg=>ha (List.any_eq_true.2 ⟨x,hx,hg⟩)];rfl
theorem least_pos {S:CS} {r:Nat} {L:List Int} (h:0<=zbE (rtB S r) L):∃q,L[(zbE (rtB S r) L).toNat]?=some q/\za9 S r L=q:=by
 obtain ⟨q,h1,_⟩:=zdZ h;refine ⟨q,h1,?_⟩;unfold za9
 have h2:zbE (rtB S r) L=(L.findIdx (rtB S r):Int):=by
  unfold zbE at h ⊢;(split at h);(·rename_i ha;rw[if_pos ha]);omega
 rw[h2,zH] at h1;rw[zlg,h1];rfl
theorem zmf {up:List Nat} {ps:List Int} {rs:List Nat} {p r1:Nat} (h:∀(j:Nat) (p:Int) (q:Nat),ps[j]?=some p->rs[j]?=some q->Rt up p.toNat q) (he:ps[rs.length]?=some (p:Int)) (hr:Rt up p r1) :
  ∀(j:Nat) (p:Int) (q:Nat),ps[j]?=some p->(rs++[r1])[j]?=some q->Rt up p.toNat q:=fun j p' q hp hq=>by
 (rcases zG j rs.length with h1 | h1);(·rw[zA h1] at hq;exact h j p' q hp hq);have hj:j<(rs++[r1]).length:=(zb.1 hq).1;rw[zi,List.length_singleton] at hj;(obtain rfl:j=rs.length:=by omega);rw[zK (zQ _),Nat.sub_self] at hq;(cases hq);rw[he] at hp;cases hp;simpa using hr
theorem ziU {v:Int}:∀{V:List (Int×Int)},v∈V.map Prod.fst->∃i,zaw V v=some i
 | [],h=>by cases h
 | (a,b)::V,h=>by
  rw[zt,zE] at h;unfold zaw
  by_cases e:a=v
  (·exact ⟨b,by rw[if_pos e]⟩);rw[if_neg e];(rcases h with h | h);(·exact absurd h.symm e);exact ziU h
theorem zeL {V:List (Int×Int)}:∀v∈zcf (V.map Prod.fst),∃i,zaw V v=some i:=fun _ hv=>ziU ((List.mergeSort_perm _ _).mem_iff.1 hv)
theorem rtB_at {S:CS} {r i r1:Nat} {v:Int} (hi:zaw S.G.V v=some (i:Int)) (hrt:Rt S.F.up i r1):rtB S r v=decide ((r1:Int)=(r:Int)):=by
 rw[zF,zdi,zd];constructor
 ·rintro ⟨i9,h1,h2⟩
  rw[hi] at h1;cases h1;rw[zH] at h2;rw[Rt.det h2 hrt]
 intro h9;(have h8:r1=r:=by omega);exact ⟨_,hi,by rw[zH,<- h8];exact hrt⟩
theorem pk_zero {S:CS} {x k:Int} (hk:(x<0/\k=0)\/(0<=x/\∃g,S.G.N[x.toNat]?=some g/\k=g.k)) (hg:0<=x->∃g,S.G.N[x.toNat]?=some g/\1<=g.k/\g.parts.length<=8/\∀p∈g.parts,0<=p/\p<(S.F.up.length:Int)):k=0↔x<0:=by
 (rcases hk with ⟨h1,h2⟩ | ⟨h1,g,hg1,h2⟩);(·exact ⟨fun _=>h1,fun _=>h2⟩);obtain ⟨g',hg2,hk2,_⟩:=hg h1;rw[hg1] at hg2;cases hg2;omega
end Go.Proofs.YtpfiliamceimmaaGreatDoor
namespace Go.Proofs.YtpfiliamceimmaaGreatDoor
open Go Go.RowKit
attribute [local irreducible] aops zaA
def EqT.ok (e:EqT):Bool:=e.l.right&&e.r.right
def zaE (es:List EqT):List EqT:=es.filter EqT.ok
theorem zkc {es:List EqT} {s:Nat} {e:EqT} (h:es[s]?=some e) (hr:e.ok=true):zaE (es.take (s+1))=zaE (es.take s)++[e]:=by
 rw[zM,h,zaE,List.filter_append];simp[zaE,hr]
theorem zhd {es:List EqT} {s:Nat} {e:EqT} (h:es[s]?=some e) (hr:e.ok=false):zaE (es.take (s+1))=zaE (es.take s):=by
 rw[zM,h,zaE,List.filter_append];simp[zaE,hr]
theorem zd1 (es:List EqT):(zaE es).length<=es.length:=List.length_filter_le _ _
theorem zeo (es:List EqT) (hl:es.length<=1048576):APure Tryz.prog 25 [.sl 8 (es.map EqT.cells)] (.sl 8 ((zaE es).map EqT.cells)):=by
  refine APure.mkL (.cons (EqT.dataSl es) .nil) (EqT.dataSl _) ?_;refine aIn Tryz.func25 fun hm=>?_;simp only[Tryz.ntmps25,Tryz.results25,go_sem,seval];(iterate 2 (refine z6 fun _ u=>?_;apply z7;simp only[↓bO,go_sem,seval];apply u));refine z6 fun _ u=>?_;refine sqD ?_;apply zac;refine zaH (Weak.tokSlot 3 32 8 rfl) ?_;simp only[go_sem];refine zai (σ:=Nat) (mB 33 25) (fun s=>s<=es.length) (fun s=>[(3,.osl 0 8 ((zaE (es.take s)).map EqT.cells)),(4,.v (.int .i64 (s:Int)))]) (fun s=>[(0,.tok 32 8 (zaE (es.take s)).length)]) (fun s=>es.length-s) 0 tz1 ?_ (fun s hs=>?_)
  ·
   simp only[go_sem,seval,bL,zaE,List.filter_nil];exact zaL
  simp only[go_sem,seval];refine z6 fun _ w=>?_;refine sqR fun _ z=>?_;(iterate 3 (refine chS 1 ?_));simp only[↓bO,go_sem,seval];apply z;apply z8 rfl <;> intro hb8
  ·
   (have hk:s<es.length:=by simpa using hb8);obtain ⟨e,he⟩:∃e,es[s]?=some e:=⟨_,za hk⟩;have hw:IntKind.i64.wrap ((s:Int)+1)=(s:Int)+1:=zal tz1 tz1;have hrl:=zd1 (es.take s);(have hrt:(es.take s).length<=s:=by simp;omega);(have hb1:((zaE (es.take s)).length+1) * 96<=140737488355328:=by omega);(have hb2:(zaE (es.take s)).length+1<=maxLen:=by simp only[maxLen];omega);apply zaa;apply w;refine z6 fun _ w=>?_;apply zac;refine sqR fun _ z=>?_;(iterate 5 (refine chS 1 ?_ (by intro _ q;simp only[↓bO,go_sem,seval,hk,gM he,EqT.cells,Ty.refold];exact q)));refine zZ 1 fun _ y=>?_;simp only[↓bO,go_sem,seval];refine APure.call (za2 e.l) ?_;apply y;clear y;refine chS 1 ?_;simp only[go_sem];refine zag 17 rfl (fun hc17=>?_) (fun hc17=>?_)
   ·
    simp only[go_sem];(have hl1:e.l.right=true:=by simpa using hc17);(iterate 5 (refine chS 1 ?_ (by intro _ q;simp only[↓bO,go_sem,seval,hk,gM he,EqT.cells,Ty.refold];exact q)));refine zZ 1 fun _ y=>?_;simp only[↓bO,go_sem,seval];refine APure.call (za2 e.r) ?_;apply y;clear y;simp only[↓bO,go_sem,seval];apply z;apply z8 rfl <;> intro hb24
    ·
     (have hyes:e.ok=true:=by (have h9:e.r.right=true:=by simpa using hb24);rw[EqT.ok,hl1,h9];rfl);have hst:=zkc he hyes;apply z7;(iterate 5 (refine chS 1 ?_ (by intro _ q;simp only[↓bO,go_sem,seval,hk,gM he,EqT.cells];exact q)));refine chS 1 ?_ (by intro _ q;simp only[↓bO,go_sem,seval,↓zjp];exact q);refine chS 1 ?_ (by intro _ q;simp only[↓bO,go_sem,seval,hb1,hb2];exact q);simp only[↓bO,go_sem,seval];apply w;apply z7;(iterate 2 (refine chS 1 ?_ (by intro _ q;simp only[↓bO,go_sem,seval,hw];exact q)));simp only[↓bO,go_sem,seval];refine ⟨(s+1),tz1,by omega,?_⟩;simp only[zar,zas,zah,zam,mB,seval,EqT.cells,zj,zh,zn,hst,zu,bL,zi];exact zaL
    (have hno:e.ok=false:=by (have h9:e.r.right=false:=by simpa using hb24);rw[EqT.ok,h9,Bool.and_false]);have hst:=zhd he hno;apply zaa;apply w;apply z7;(iterate 2 (refine chS 1 ?_ (by intro _ q;simp only[↓bO,go_sem,seval,hw];exact q)));simp only[↓bO,go_sem,seval];refine ⟨(s+1),tz1,by omega,?_⟩;simp only[zar,zas,zah,zam,mB,seval,zj,zh,zn,hst];exact zaL
   simp only[go_sem];(have hno:e.ok=false:=by (have h9:e.l.right=false:=by simpa using hc17);rw[EqT.ok,h9];rfl);have hst:=zhd he hno;(iterate 6 (refine chS 1 ?_));simp only[↓bO,go_sem,seval];apply z;refine z8 (b:=false) (by first | exact rfl | exact congrArg (fun b=>AV.v (.bool b)) hb24) (fun h=>(by cases h)) (fun _=>?_);apply zaa;apply w;apply z7;(iterate 2 (refine chS 1 ?_ (by intro _ q;simp only[↓bO,go_sem,seval,hw];exact q)));simp only[↓bO,go_sem,seval];refine ⟨(s+1),tz1,by omega,?_⟩;simp only[zar,zas,zah,zam,mB,seval,zj,zh,zn,hst];exact zaL
  (have hk:s=es.length:=by simp at hb8;omega);apply zak;simp only[zao,zaj,zaf,bA,Nat.reduceEqDiff,↓reduceIte];apply u;refine sqR fun _ u=>?_;refine chS 1 ?_;simp only[↓bO,go_sem,seval];apply u;apply zab;(try simp only[go_sem]);rw[hk,zI];exact Le.oslL
theorem zfy (S:CS) (h64:S.clash=false->∀q∈S.G.V,is64 q.1) (hl:S.clash=false->S.G.V.length<=1099511627776):CCalls (σ:=Unit) 46 [.ptr 0 0] (S) (fun s=>s.1=S) (fun s=>.sl 1 ((if S.clash=true then [] else zcf (S.G.V.map Prod.fst)).map intC)):=by
  refine ACalls.clean (C:=fun r os=>∃s:CS×Unit,(s.1=S)/\r=(fun s:Unit=>.sl 1 ((if S.clash=true then [] else zcf (S.G.V.map Prod.fst)).map intC)) s.2/\os=zad 0 (zan s.1)) ?_;refine aIn Tryz.func46 fun hm=>?_;simp only[Tryz.ntmps46,Tryz.results46,go_sem,seval];simp only[zan,zad,Nat.reduceAdd];refine sqD ?_;refine z6 fun _ u=>?_;refine sqR fun _ w=>?_;refine chS 1 ?_;refine zZ 1 fun _ y=>?_;simp only[↓bO,go_sem,seval];refine CCalls.at (Err_c S) (.nil) (fun _=>.v _) (i0:=0) (i1:=1) (i2:=2) (i3:=3) (i4:=4) (i5:=5) (i6:=6) (i7:=7) tz3 tz4 zbc (fun Z9 u9 hZ9=>?_);(try dsimp only at hZ9);simp only[zat,zl,zp,zm,zah,zam,Nat.reduceEqDiff,↓reduceIte];obtain rfl:S=Z9:=hZ9.symm;apply y;clear y;simp only[↓bO,go_sem,seval];apply w;apply z8 rfl <;> intro hb5
  ·
   (have hcs:S.clash=true:=by (have h9:=hb5;cases hc:S.clash <;> simp[hc] at h9 ⊢));refine sqD ?_;apply zab;(try simp only[go_sem]);refine ⟨_,zad 0 (zan (S)),⟨(S,()),?_,rfl,rfl⟩,Und.data (zap _),zcg tz1 _,?_,?_,by omega⟩;· exact rfl
   ·
    rw[if_pos hcs];exact Le.slNil 1
   first | (refine ⟨0,rfl,rfl⟩) | (refine ⟨0,by simp only[zan,zad,zk,zf,Nat.reduceAdd],rfl⟩)
  (have hcs:S.clash=false:=by (have h9:=hb5;cases hc:S.clash <;> simp[hc] at h9 ⊢));apply zaa;apply u;refine sqR fun _ u=>?_;(iterate 4 (refine chS 1 ?_));refine zZ 1 fun _ y=>?_;simp only[↓bO,go_sem,seval];refine GCalls.at (zfZ S.G (h64 hcs) (hl hcs)) (.nil) (zap _) (i:=1) (j:=2) (k:=3) rfl rfl rfl tz3 tz3 tz3 tz2 tz2 tz2 ?_;simp only[zam,Nat.reduceEqDiff,↓reduceIte];apply y;clear y;simp only[↓bO,go_sem,seval];apply u;apply zab;(try simp only[go_sem]);refine ⟨_,zad 0 (zan (S)),⟨(S,()),?_,rfl,rfl⟩,Und.data (zap _),zcg tz1 _,?_,?_,by omega⟩;· exact rfl
  ·
   rw[if_neg (by rw[hcs];decide)];exact Le.refl _
  first | (refine ⟨0,rfl,rfl⟩) | (refine ⟨0,by simp only[zan,zad,zk,zf,Nat.reduceAdd],rfl⟩)
theorem Class_c (S:CS) (hF:FInv S.F) (hc:S.clash=false) (hv:∀n k,zaw S.G.V n=some k->0<=k/\k<(S.F.up.length:Int)) (h64:∀q∈S.G.V,is64 q.1) (hl:S.G.V.length<=1048576) (v:Int):CCalls (σ:=Unit) 49 [.ptr 0 0,.v (.int .i64 v)] (S) (fun s=>FSame S.F s.1.F/\s.1={S with F:=s.1.F}) (fun s=>.sl 1 ((zfQ S v (zcf (S.G.V.map Prod.fst))).map intC)):=by
  refine ACalls.clean (C:=fun r os=>∃s:CS×Unit,(FSame S.F s.1.F/\s.1={S with F:=s.1.F})/\r=(fun s:Unit=>.sl 1 ((zfQ S v (zcf (S.G.V.map Prod.fst))).map intC)) s.2/\os=zad 0 (zan s.1)) ?_;refine aIn Tryz.func49 fun hm=>?_;simp only[Tryz.ntmps49,Tryz.results49,go_sem,seval];simp only[zan,zad,Nat.reduceAdd];(iterate 2 (refine z6 fun _ u=>?_;apply z7;simp only[↓bO,go_sem,seval];apply u));refine z6 fun _ u=>?_;refine sqR fun _ z=>?_;refine chS 1 ?_;refine zZ 1 fun _ y=>?_;simp only[↓bO,go_sem,seval];refine CCalls.at (zfy S (fun _=>h64) (fun _=>by omega)) (.nil) (fun _=>zap _) (i0:=0) (i1:=1) (i2:=2) (i3:=3) (i4:=4) (i5:=5) (i6:=6) (i7:=7) tz3 tz4 zbc (fun Z9 u9 hZ9=>?_);(try dsimp only at hZ9);simp only[zat,zl,zp,zm,zah,zam,Nat.reduceEqDiff,↓reduceIte];obtain rfl:S=Z9:=hZ9.symm;rw[if_neg (show ¬(S.clash=true) from by rw[hc];decide)];obtain ⟨L,hL⟩:∃L,L=zcf (S.G.V.map Prod.fst):=⟨_,rfl⟩;rw[<- hL];(have hLl:L.length<=1048576:=by (rw[hL,List.length_mergeSort,zx];exact hl));apply y;clear y;refine chS 1 ?_;simp only[↓bO,go_sem,seval];apply z;apply zac;refine zaH (Weak.tokSlot 5 3 1 rfl) ?_;simp only[go_sem];refine zai (σ:=FS×Nat) (mB 25 3619) (fun s=>FSame S.F s.1/\s.2<=L.length) (fun s=>[(5,.osl 8 1 ((zfQ S v (L.take s.2)).map intC)),(11,.v (.int .i64 (s.2:Int)))]) (fun s=>[(4,.cells 184 [.own 5 s.1.up.length,.own 6 s.1.rank.length,.v (.int .i64 s.1.sets),.v (.int .i64 s.1.steps)]),(5,.row 3 1 (s.1.up.map nC)),(6,.row 3 1 (s.1.rank.map intC)),(8,.tok 3 1 (zfQ S v (L.take s.2)).length)]) (fun s=>L.length-s.2) (S.F,0) (⟨FSame.refl hF,Nat.zero_le _⟩) ?_ (fun s hs=>?_)
  ·
   simp only[go_sem,seval,bL,zfQ,List.filter_nil];exact zaL
  simp only[go_sem,seval];refine sqD ?_;refine z6 fun _ z=>?_;apply z8 rfl <;> intro hb12
  ·
   (have hk:s.2<L.length:=by simpa using hb12);obtain ⟨w,he⟩:∃w,L[s.2]?=some w:=⟨_,za hk⟩;have hw:IntKind.i64.wrap ((s.2:Int)+1)=(s.2:Int)+1:=zal tz1 tz1;have hrl:=clsF_len S v (L.take s.2);(have hrt:(L.take s.2).length<=s.2:=by simp;omega);(have hb1:((zfQ S v (L.take s.2)).length+1) * 8<=140737488355328:=by omega);(have hb2:(zfQ S v (L.take s.2)).length+1<=maxLen:=by simp only[maxLen];omega);apply zaa;apply z;refine z6 fun _ z=>?_;apply zac;refine sqR fun _ x=>?_;(iterate 2 (refine chS 1 ?_ (by intro _ q;simp only[↓bO,go_sem,seval,hk,gM he,intC];exact q)));simp only[↓bO,go_sem,seval];apply x;refine sqR fun _ x=>?_;(iterate 3 (refine chS 1 ?_));simp only[↓bO,go_sem,seval];refine CCalls.at (CSame_c {S with F:=s.1} hs.1.inv (by dsimp only;rw[hs.1.len];exact hv) v w) (.cons (.v _) (.cons (.v _) .nil)) (fun _=>.v _) (i0:=0) (i1:=1) (i2:=2) (i3:=3) (i4:=4) (i5:=5) (i6:=6) (i7:=7) tz3 tz4 zbc (fun S1 r1 hX=>?_);(try dsimp only at hX);simp only[zat,zl,zp,zm,zah,zam,Nat.reduceEqDiff,↓reduceIte];obtain ⟨F1,rfl⟩:∃F1,S1={S with F:=F1}:=⟨S1.F,hX.2.1⟩;dsimp only at hX;have hr0:SameR {S with F:=s.1} v w r1:=hX.2.2;have hr1:r1=zeI S v w:=(hr0.fsame (S:=S) hs.1 rfl).eq;have hF1:FSame S.F F1:=hs.1.trans hX.1;apply x;apply z8 rfl <;> intro hb18
   ·
    (have hyes:zeI S v w=true:=by rw[<- hr1];exact hb18);have hst:=clsF_yes he hyes;apply z7;(iterate 2 (refine chS 1 ?_));refine chS 1 ?_ (by intro _ q;simp only[↓bO,go_sem,seval,↓zcQ];exact q);refine chS 1 ?_ (by intro _ q;simp only[↓bO,go_sem,seval,hb1,hb2];exact q);simp only[↓bO,go_sem,seval];apply z;apply z7;refine chS 1 ?_ (by intro _ q;simp only[↓bO,go_sem,seval,hw];exact q);simp only[↓bO,go_sem,seval];refine ⟨(F1,s.2+1),⟨hF1,by simp only;omega⟩,tz5,?_⟩;simp only[zar,zas,zah,zam,mB,seval,intC,zj,zh,zn,hst,zu,bL,zi];exact zaL
   (have hno:zeI S v w=false:=by rw[<- hr1];simpa using hb18);have hst:=clsF_no he hno;apply zaa;apply z;apply z7;refine chS 1 ?_ (by intro _ q;simp only[↓bO,go_sem,seval,hw];exact q);simp only[↓bO,go_sem,seval];refine ⟨(F1,s.2+1),⟨hF1,by simp only;omega⟩,tz5,?_⟩;simp only[zar,zas,zah,zam,mB,seval,zj,zh,zn,hst];exact zaL
  (have hk:s.2=L.length:=by (have h9:=hb12;simp at h9;have:=hs.2;omega));apply zak;simp only[zao,zaj,zaf,bA,Nat.reduceEqDiff,↓reduceIte];apply u;refine sqR fun _ u=>?_;refine chS 1 ?_;simp only[↓bO,go_sem,seval];apply u;apply zab;(try simp only[go_sem]);refine ⟨_,zad 0 (zan ({S with F:=s.1})),⟨({S with F:=s.1},()),?_,rfl,rfl⟩,Und.data (zap _),zcg tz1 _,?_,?_,by omega⟩;· exact ⟨hs.1,rfl⟩
  ·
   rw[hk,zI,hL];exact Le.oslL
  first | (refine ⟨1,rfl,rfl⟩) | (refine ⟨1,by simp only[zan,zad,zk,zf,Nat.reduceAdd],rfl⟩)
theorem zdw (S:CS) (r:Int):CCalls (σ:=Unit) 127 [.agg [.ptr 0 0,.v (.int .i64 r)]] (S) (fun s=>s.1=S) (fun s=>.v (.int .i64 r)):=by
  refine ACalls.clean (C:=fun zr zo=>∃s:CS×Unit,(s.1=S)/\zr=(fun s:Unit=>.v (.int .i64 r)) s.2/\zo=zad 0 (zan s.1)) ?_;refine aIn Tryz.func127 fun hm=>?_;simp only[Tryz.ntmps127,Tryz.results127,go_sem,seval];simp only[zan,zad,Nat.reduceAdd];refine sqR fun _ q=>?_;refine chS 1 ?_;simp only[↓bO,go_sem,seval];apply q;refine z6 fun _ q=>?_;refine sqR fun _ y=>?_;(iterate 2 (refine chS 1 ?_));simp only[↓bO,go_sem,seval];apply y;apply z8 rfl <;> intro hb5
  ·
   cases hb5
  apply zaa;apply q;refine sqR fun _ q=>?_;(iterate 2 (refine chS 1 ?_));simp only[↓bO,go_sem,seval];apply q;apply zab;(try simp only[go_sem]);refine ⟨_,zad 0 (zan (S)),⟨(S,()),?_,rfl,rfl⟩,.v _ _,zcg tz1 _,?_,?_,by omega⟩;· exact rfl
  ·
   exact Le.refl _
  first | (refine ⟨1,rfl,rfl⟩) | (refine ⟨0,rfl,rfl⟩) | (refine ⟨1,by simp only[zan,zad,zk,zf,Nat.reduceAdd],rfl⟩) | (refine ⟨0,by simp only[zan,zad,zk,zf,Nat.reduceAdd],rfl⟩)
theorem zhx (S:CS) (hw:∀w∈S.W,w=-1\/(0<=w/\w<(S.G.N.length:Int))) (r:Nat) (x:Int) (hx:S.W[r]?=some x):CCalls (σ:=Int) 95 [.agg [.ptr 0 0,.v (.int .i64 (r:Int))]] S (fun s=>s.1=S/\((x<0/\s.2=0)\/(0<=x/\∃g,S.G.N[x.toNat]?=some g/\s.2=g.k))) (fun s=>.v (.int .i64 s)):=PKind_c S hw r x hx
def pOs (S:CS) (r:Nat):Os:=(8,.cells 138 [.ptr 0 0,.v (.int .i64 (r:Int))])::zad 0 (zan S)
theorem pUnd {n:Nat} (h:9<=n) (S:CS) (r:Nat):UndOs n (pOs S r):=⟨by omega,⟨.ptr tz1,.v _ _,trivial⟩,zcg tz1 S⟩
def PCalls {σ:Type} (f:Nat) (args:List AV) (S:CS) (r:Nat) (C:FS×σ->Prop) (R:σ->AV):Prop :=
 ACalls Tryz.prog f args (pOs S r) 9 fun z os n=>(∃s:FS×σ,C s/\z=R s.2/\os=pOs {S with F:=s.1} r)/\n=9
theorem tz14 {p:Prop} (h:p:=by exact ⟨⟨_,_,rfl,by simp,rfl,trivial,trivial⟩,⟨_,_,rfl,by simp,rfl,trivial,trivial⟩,trivial⟩):p:=h
theorem VarF_c (S:CS) (r:Nat) (hF:FInv S.F) (hv:∀n k,zaw S.G.V n=some k->0<=k/\k<(S.F.up.length:Int)) (v i0:Int) (hi:zaw S.G.V v=some i0):PCalls (σ:=Unit) 132 [.v (.int .i64 v),.ptr 8 0] S r (fun s=>FSame S.F s.1) (fun s=>.v (.bool (rtB S r v))):=by
  refine ACalls.clean (C:=fun z os=>∃s:FS×Unit,(FSame S.F s.1)/\z=(fun s:Unit=>.v (.bool (rtB S r v))) s.2/\os=pOs {S with F:=s.1} r) ?_;refine aIn Tryz.func132 fun hm=>?_;simp only[Tryz.ntmps132,Tryz.results132,go_sem,seval];simp only[pOs,zan,zad,Nat.reduceAdd];have hib:=hv _ _ hi;obtain ⟨i,rfl⟩:∃i:Nat,i0=(i:Int):=⟨i0.toNat,by omega⟩;refine sqD ?_;refine sqR fun _ y=>?_;(iterate 6 (refine chS 1 ?_));refine zZ 1 fun _ q=>?_;simp only[↓bO,go_sem,seval];refine GCalls.at (zhe S.G v) (.cons (.v _) .nil) (.tup (.cons (.v _) (.cons (.v _) .nil))) (i:=1) (j:=2) (k:=3) rfl rfl rfl tz3 tz3 tz3 tz2 tz2 tz2 ?_;simp only[zam,Nat.reduceEqDiff,↓reduceIte];rw[show zaw S.G.V v=some (i:Int) from hi];(iterate 4 (apply q;clear q;refine zZ 1 fun _ q=>?_;simp only[↓bO,go_sem,seval,Option.getD_some,Option.isSome_some]));apply q;clear q;simp only[↓bO,go_sem,seval];apply y;refine z6 fun _ y=>?_;refine zax [(8,0,[.ptr 0 0]),(8,1,[.v (.int .i64 (r:Int))])] 8 rfl mixed (tz14) rfl ?_;dsimp only;refine tkS 0 ?_;refine tkM 1 0 ?_;refine tkS 2 ?_;refine tkS 4 ?_;refine tkM 5 1 ?_;refine al1 (i:=3) ?_;refine opT fun _ q=>?_;simp only[↓bO,go_sem,seval];refine CCalls.at (ze4 S hF i tz1) (.cons (.v _) .nil) (fun _=>.v _) (i0:=0) (i1:=1) (i2:=2) (i3:=3) (i4:=4) (i5:=5) (i6:=6) (i7:=7) tz3 tz4 zbc (fun S1 r1 hS1=>?_);(try dsimp only at hS1);simp only[zat,zl,zp,zm,zah,zam,Nat.reduceEqDiff,↓reduceIte];obtain ⟨hfs,hrt,hS1e⟩:=hS1;obtain ⟨F1,rfl⟩:∃F1,S1={S with F:=F1}:=⟨S1.F,hS1e⟩;dsimp only at hfs hrt;have hres:=rtB_at (r:=r) hi hrt;(try simp only[go_sem]);refine q _ ⟨tz14,?_⟩;clear q;refine alS 6 ?_ (hH:=by exact tz14);refine tkS 7 ?_;refine dnA ?_;apply y;apply zab;(try simp only[go_sem]);refine ⟨_,pOs {S with F:=F1} r,⟨(F1,()),?_,rfl,rfl⟩,.v _ _,pUnd tz1 _ _,?_,?_,by omega⟩;· exact hfs
  ·
   rw[hres];exact Le.refl _
  first | (refine ⟨0,rfl,rfl⟩)
theorem IdxV_c (S:CS) (r:Nat) (hF:FInv S.F) (hv:∀n k,zaw S.G.V n=some k->0<=k/\k<(S.F.up.length:Int)) (L:List Int) (hl:L.length<=1048576) (hL:∀v∈L,∃i,zaw S.G.V v=some i):PCalls (σ:=Unit) 104 [.sl 1 (L.map intC),.clo 132 [.ptr 8 0]] S r (fun s=>FSame S.F s.1) (fun s=>.v (.int .i64 (zbE (rtB S r) L))):=by
  refine ACalls.clean (C:=fun z os=>∃s:FS×Unit,(FSame S.F s.1)/\z=(fun s:Unit=>.v (.int .i64 (zbE (rtB S r) L))) s.2/\os=pOs {S with F:=s.1} r) ?_;refine aIn Tryz.func104 fun hm=>?_;simp only[Tryz.ntmps104,Tryz.results104,go_sem,seval];simp only[pOs,zan,zad,Nat.reduceAdd];refine sqD ?_;refine z6 fun _ y=>?_;refine sqR fun _ u=>?_;(iterate 2 (refine chS 1 ?_));simp only[↓bO,go_sem,seval];apply u;apply zac;refine zai (σ:=FS×Nat) (mB 19 387) (fun s=>FSame S.F s.1/\s.2<=L.length/\∀j q,j<s.2->L[j]?=some q->rtB S r q=false) (fun s=>[(8,.v (.int .i64 (s.2:Int)))]) (fun s=>[(4,.cells 184 [.own 5 s.1.up.length,.own 6 s.1.rank.length,.v (.int .i64 s.1.sets),.v (.int .i64 s.1.steps)]),(5,.row 3 1 (s.1.up.map nC)),(6,.row 3 1 (s.1.rank.map intC))]) (fun s=>L.length-s.2) (S.F,0) (⟨FSame.refl hF,Nat.zero_le _,fun j q hj=>by omega⟩) ?_ (fun s hs=>?_)
  ·
   simp only[go_sem,seval];exact zaL
  simp only[go_sem,seval];refine sqD ?_;refine z6 fun _ u=>?_;apply z8 rfl <;> intro hb9
  ·
   (have hk:s.2<L.length:=by simpa using hb9);obtain ⟨w,he⟩:∃w,L[s.2]?=some w:=⟨_,za hk⟩;obtain ⟨i0,hi⟩:=hL w (zc he);have hw:IntKind.i64.wrap ((s.2:Int)+1)=(s.2:Int)+1:=zal tz1 tz1;have hrb:=zf8 (S:=S) (S1:={S with F:=s.1}) hs.1 rfl r w;apply zaa;apply u;refine z6 fun _ u=>?_;apply zac;refine sqR fun _ x=>?_;refine chS 1 ?_ (by intro _ q;simp only[↓bO,go_sem,seval,hk];exact q);simp only[↓bO,go_sem,seval];apply x;refine sqR fun _ x=>?_;(iterate 5 (refine chS 1 ?_ (by intro _ q;simp only[↓bO,go_sem,seval,hk,gM he,intC];exact q)));simp only[↓bO,go_sem,seval];refine ACalls.mono (show ACalls Tryz.prog 132 _ (pOs {S with F:=s.1} r) 9 _ from VarF_c {S with F:=s.1} r hs.1.inv (by dsimp only;rw[hs.1.len];exact hv) w i0 hi) ?_;rintro z os' nx' ⟨⟨⟨F1,_⟩,hF0,rfl,rfl⟩,rfl⟩;dsimp only at hF0;have hF1:=hs.1.trans hF0;rw[hrb];simp only[pOs,zan,zad,Nat.reduceAdd];apply x;apply z8 rfl <;> intro hb16
   ·
    (have hyes:rtB S r w=true:=by simpa using hb16);have hres:=zbl (g:=rtB S r) he hyes hs.2.2;refine sqR fun _ x=>?_;refine chS 1 ?_;simp only[↓bO,go_sem,seval];apply x;apply zab;(try simp only[go_sem]);refine ⟨_,pOs {S with F:=F1} r,⟨(F1,()),?_,rfl,rfl⟩,.v _ _,pUnd tz1 _ _,?_,?_,by omega⟩;· exact hF1
    ·
     rw[hres];exact Le.refl _
    first | (refine ⟨0,rfl,rfl⟩)
   (have hno:rtB S r w=false:=by simpa using hb16);apply zaa;apply u;apply z7;refine chS 1 ?_ (by intro _ q;simp only[↓bO,go_sem,seval,hw];exact q);simp only[↓bO,go_sem,seval];refine ⟨(F1,s.2+1),⟨hF1,by simp only;omega,no_stepq hs.2.2 he hno⟩,tz5,?_⟩;simp only[zar,zas,zah,zam,mB,seval,zj,zh,zn];exact zaL
  (have hk:s.2=L.length:=by (have h9:=hb9;simp at h9;have:=hs.2.1;omega));have hres:=zbT (g:=rtB S r) (l:=L) (fun j q hj hq=>hs.2.2 j q (by have:=(zb.1 hq).1;omega) hq);apply zak;simp only[zao,zaj,zaf,bA,Nat.reduceEqDiff,↓reduceIte];apply y;refine sqD ?_;apply zab;(try simp only[go_sem]);refine ⟨_,pOs {S with F:=s.1} r,⟨(s.1,()),?_,rfl,rfl⟩,.v _ _,pUnd tz1 _ _,?_,?_,by omega⟩;· exact hs.1
  ·
   rw[hres];exact Le.refl _
  first | (refine ⟨0,rfl,rfl⟩)
theorem PVar_c (S:CS) (r:Nat) (hF:FInv S.F) (hv:∀n k,zaw S.G.V n=some k->0<=k/\k<(S.F.up.length:Int)) (h64:∀q∈S.G.V,is64 q.1) (hl:S.G.V.length<=1048576):CCalls (σ:=Unit) 98 [.agg [.ptr 0 0,.v (.int .i64 (r:Int))]] (S) (fun s=>FSame S.F s.1.F/\s.1={S with F:=s.1.F}) (fun s=>.v (.int .i64 (za9 S r (zcf (S.G.V.map Prod.fst))))):=by
  refine ACalls.clean (C:=fun zr zo=>∃s:CS×Unit,(FSame S.F s.1.F/\s.1={S with F:=s.1.F})/\zr=(fun s:Unit=>.v (.int .i64 (za9 S r (zcf (S.G.V.map Prod.fst))))) s.2/\zo=zad 0 (zan s.1)) ?_;refine aIn Tryz.func98 fun hm=>?_;simp only[Tryz.ntmps98,Tryz.results98,go_sem,seval];simp only[zan,zad,Nat.reduceAdd];obtain ⟨L,hL⟩:∃L,L=zcf (S.G.V.map Prod.fst):=⟨_,rfl⟩;rw[<- hL];(have hLl:L.length<=1048576:=by (rw[hL,List.length_mergeSort,zx];exact hl));have hLv:=zeL (V:=S.G.V);rw[<- hL] at hLv;refine sqR fun _ u=>?_;refine chS 1 ?_;simp only[↓bO,go_sem,seval];apply u;refine z6 fun _ u=>?_;refine sqR fun _ w=>?_;(iterate 2 (refine chS 1 ?_));simp only[↓bO,go_sem,seval];apply w;apply z8 rfl <;> intro hb7
  ·
   cases hb7
  apply zaa;apply u;refine sqR fun _ u=>?_;(iterate 5 (refine chS 1 ?_));refine zZ 1 fun _ y=>?_;simp only[↓bO,go_sem,seval];refine GCalls.at (zfZ S.G h64 tz1) (.nil) (zap _) (i:=1) (j:=2) (k:=3) rfl rfl rfl tz3 tz3 tz3 tz2 tz2 tz2 ?_;simp only[zam,Nat.reduceEqDiff,↓reduceIte];rw[<- hL];apply y;clear y;simp only[↓bO,go_sem,seval];apply u;refine sqR fun _ u=>?_;(iterate 2 (refine chS 1 ?_));refine zZ 1 fun _ y=>?_;simp only[↓bO,go_sem,seval];refine ACalls.mono (show ACalls Tryz.prog 104 _ (pOs S r) 9 _ from IdxV_c S r hF hv L hLl hLv) ?_;rintro z os' nx' ⟨⟨⟨F1,_⟩,hF1,rfl,rfl⟩,rfl⟩;dsimp only at hF1;simp only[pOs,zan,zad,Nat.reduceAdd];apply y;clear y;simp only[↓bO,go_sem,seval];apply u;refine z6 fun _ u=>?_;refine sqR fun _ w=>?_;refine chS 1 ?_;simp only[↓bO,go_sem,seval];apply w;apply z8 rfl <;> intro hb18
  ·
   (have hneg:zbE (rtB S r) L<0:=by simpa using hb18);have hres:=least_neg hneg;refine sqD ?_;apply zab;(try simp only[go_sem]);refine ⟨_,zad 0 (zan ({S with F:=F1})),⟨({S with F:=F1},()),?_,rfl,rfl⟩,.v _ _,zcg tz1 _,?_,?_,by omega⟩;· exact ⟨hF1,rfl⟩
   ·
    rw[hres];exact Le.refl _
   first | (refine ⟨1,rfl,rfl⟩) | (refine ⟨1,by simp only[zan,zad,zk,zf,Nat.reduceAdd],rfl⟩)
  (have hpos:0<=zbE (rtB S r) L:=by simpa using hb18);obtain ⟨q,hq,hres⟩:=least_pos (S:=S) (r:=r) (L:=L) hpos;have hql:=(zb.1 hq).1;(have hq2:zbE (rtB S r) L<(L.length:Int):=by omega);apply zaa;apply u;refine sqR fun _ u=>?_;(iterate 4 (refine chS 1 ?_ (by intro _ q;simp only[↓bO,go_sem,seval,hpos,hq2,gM hq,intC];exact q)));simp only[↓bO,go_sem,seval];apply u;apply zab;(try simp only[go_sem]);refine ⟨_,zad 0 (zan ({S with F:=F1})),⟨({S with F:=F1},()),?_,rfl,rfl⟩,.v _ _,zcg tz1 _,?_,?_,by omega⟩;· exact ⟨hF1,rfl⟩
  ·
   rw[hres];exact Le.refl _
  first | (refine ⟨1,rfl,rfl⟩) | (refine ⟨1,by simp only[zan,zad,zk,zf,Nat.reduceAdd],rfl⟩)
theorem tz6 {p:Prop} (h:p:=by exact ⟨.agg ⟨.ptr rfl,.v _,trivial⟩,trivial⟩):p:=h
theorem tz15 {p:Prop} (h:p:=by exact ⟨⟨_,_,rfl,by simp,rfl,trivial,trivial⟩,⟨_,_,rfl,by simp,rfl,trivial,trivial⟩,⟨_,_,rfl,by simp,rfl,trivial,trivial⟩,⟨_,_,rfl,by simp,rfl,by simp[CurL,CurOk,zav]⟩,trivial⟩):p:=h
theorem zkW (S:CS) (hF:FInv S.F) (hpl:∀z∈S.G.N,z.parts.length<=8) (hw:∀w∈S.W,w=-1\/(0<=w/\w<(S.G.N.length:Int))) (r:Nat) (x:Int) (hx:S.W[r]?=some x) (hg0:0<=x->∃g,S.G.N[x.toNat]?=some g/\1<=g.k/\g.parts.length<=8/\∀p∈g.parts,0<=p/\p<(S.F.up.length:Int)):CCalls (σ:=List Nat) 135 [.agg [.ptr 0 0,.v (.int .i64 (r:Int))]] (S) (fun s=>FSame S.F s.1.F/\s.1={S with F:=s.1.F}/\((x<0/\s.2=[])\/(0<=x/\∃g,S.G.N[x.toNat]?=some g/\s.2.length=g.parts.length/\∀(j:Nat) (p:Int) (q:Nat),g.parts[j]?=some p->s.2[j]?=some q->Rt S.F.up p.toNat q))) (fun s=>.sl 2 (s.map (zbQ 0))):=by
  refine ACalls.clean (C:=fun zr zo=>∃s:CS×List Nat,(FSame S.F s.1.F/\s.1={S with F:=s.1.F}/\((x<0/\s.2=[])\/(0<=x/\∃g,S.G.N[x.toNat]?=some g/\s.2.length=g.parts.length/\∀(j:Nat) (p:Int) (q:Nat),g.parts[j]?=some p->s.2[j]?=some q->Rt S.F.up p.toNat q)))/\zr=(fun s:List Nat=>.sl 2 (s.map (zbQ 0))) s.2/\zo=zad 0 (zan s.1)) ?_;refine aIn Tryz.func135 fun hm=>?_;simp only[Tryz.ntmps135,Tryz.results135,go_sem,seval];simp only[zan,zad,Nat.reduceAdd];have hrl:=(zb.1 hx).1;have hwx:=hw x (zc hx);refine sqR fun _ u=>?_;refine chS 1 ?_;simp only[↓bO,go_sem,seval];apply u;refine z6 fun _ u=>?_;refine sqR fun _ d=>?_;refine chS 1 ?_;refine zZ 1 fun _ y=>?_;simp only[↓bO,go_sem,seval];refine CCalls.atP (zhx S hw r x hx) (i0:=0) (i1:=1) (i2:=2) (i3:=3) (i4:=4) (i5:=5) (i6:=6) (i7:=7) tz6 (fun _=>by exact .v _) tz3 tz4 zbc (fun Z1 k1 hZ1=>?_);(try dsimp only at hZ1);simp only[zat,zl,zp,zm,zah,zam,Nat.reduceEqDiff,↓reduceIte];obtain ⟨hZ1,hk1⟩:=hZ1;obtain rfl:S=Z1:=hZ1.symm;apply y;clear y;simp only[↓bO,go_sem,seval];apply d;apply z8 rfl <;> intro hb8
  ·
   have hneg:x<0:=(pk_zero hk1 hg0).1 (by simpa using hb8);refine sqD ?_;apply zab;(try simp only[go_sem]);refine ⟨_,zad 0 (zan (S)),⟨(S,([]:List Nat)),?_,rfl,rfl⟩,Und.parts tz1 [],zcg tz1 _,?_,?_,by omega⟩;· exact ⟨FSame.refl hF,rfl,.inl ⟨hneg,rfl⟩⟩
   ·
    exact Le.slNil 2
   first | (refine ⟨1,rfl,rfl⟩) | (refine ⟨0,rfl,rfl⟩) | (refine ⟨1,by simp only[zan,zad,zk,zf,Nat.reduceAdd],rfl⟩) | (refine ⟨0,by simp only[zan,zad,zk,zf,Nat.reduceAdd],rfl⟩)
  (have hpos:0<=x:=Int.not_lt.1 fun h9=>absurd ((pk_zero hk1 hg0).2 h9) (by simpa using hb8));obtain ⟨g,hg,hgk,hgl,hgp⟩:=hg0 hpos;have hPx:=zd6 S.G x (fun z hz=>by have:=hpl z hz;omega);rw[GS.parts_in hpos hg] at hPx;apply zaa;apply u;refine sqD ?_;refine z6 fun _ u=>?_;refine z6 fun _ d=>?_;refine zax [(8,0,[.ptr 0 0]),(8,1,[.v (.int .i64 (r:Int))]),(0,1,[.ptr 1 0]),(0,3,[.own 7 S.W.length])] 17 rfl mixed (tz15) rfl ?_;dsimp only;refine tkS 0 ?_;refine tkM 1 0 ?_;refine tkS 2 ?_;refine tkS 3 ?_;refine tkM 4 2 ?_;refine tkS 5 ?_;refine tkM 6 0 ?_;refine tkS 7 ?_;refine tkS 8 ?_;refine tkM 9 3 ?_;refine tkS 10 ?_;refine tkM 11 1 ?_;refine tkS 16 ?_;refine al1 (i:=12) ?_;refine opT fun _ y=>?_;simp only[↓bO,go_sem,seval,hrl];refine y _ ⟨tz15,?_⟩;clear y;refine al1 (i:=13) ?_;refine opT fun _ y=>?_;simp only[↓bO,go_sem,seval,hrl,gM hx,intC];refine y _ ⟨tz15,?_⟩;clear y;refine al1 (i:=14) ?_;refine opT fun _ y=>?_;simp only[↓bO,go_sem,seval];refine GCalls.at (hPx) (.cons (.v _) .nil) (zap _) (i:=1) (j:=2) (k:=3) rfl rfl rfl tz3 tz3 tz3 tz2 tz2 tz2 ?_;simp only[zam,Nat.reduceEqDiff,↓reduceIte];(try simp only[go_sem]);refine y _ ⟨tz15,?_⟩;clear y;refine tkS 15 ?_;refine dnA ?_;apply d;apply zac;refine zaH (Weak.tokSlot 3 138 2 rfl) ?_;simp only[go_sem];refine zai (σ:=FS×List Nat) (mB 41 58720266) (fun s=>FSame S.F s.1/\s.2.length<=g.parts.length/\∀(j:Nat) (p:Int) (q:Nat),g.parts[j]?=some p->s.2[j]?=some q->Rt S.F.up p.toNat q) (fun s=>[(3,.osl 9 2 (s.2.map (zbQ 0))),(25,.v (.int .i64 (s.2.length:Int)))]) (fun s=>[(4,.cells 184 [.own 5 s.1.up.length,.own 6 s.1.rank.length,.v (.int .i64 s.1.sets),.v (.int .i64 s.1.steps)]),(5,.row 3 1 (s.1.up.map nC)),(6,.row 3 1 (s.1.rank.map intC)),(9,.tok 138 2 s.2.length)]) (fun s=>g.parts.length-s.2.length) (S.F,[]) (⟨FSame.refl hF,Nat.zero_le _,fun j p q _ h=>by simp at h⟩) ?_ (fun s hs=>?_)
  ·
   simp only[go_sem,seval,bL];exact zaL
  simp only[go_sem,seval];refine sqD ?_;refine z6 fun _ d=>?_;apply z8 rfl <;> intro hb26
  ·
   (have hk:s.2.length<g.parts.length:=by simpa using hb26);obtain ⟨p0,he⟩:∃w,g.parts[s.2.length]?=some w:=⟨_,za hk⟩;have hpb:=hgp p0 (zc he);obtain ⟨p,rfl⟩:∃p:Nat,p0=(p:Int):=⟨p0.toNat,by omega⟩;have hw1:IntKind.i64.wrap ((s.2.length:Int)+1)=(s.2.length:Int)+1:=zal tz1 tz1;(have hb1:(s.2.length+1) * 16<=140737488355328:=by omega);(have hb2:s.2.length+1<=maxLen:=by simp only[maxLen];omega);apply zaa;apply d;refine z6 fun _ d=>?_;apply zac;refine sqR fun _ c=>?_;(iterate 2 (refine chS 1 ?_ (by intro _ q;simp only[↓bO,go_sem,seval,hk,gM he,intC];exact q)));simp only[↓bO,go_sem,seval];apply c;refine zax [(8,0,[.ptr 0 0])] 11 rfl mixed (zeg) rfl ?_;dsimp only;refine tkS 0 ?_;refine tkS 1 ?_;refine tkM 2 0 ?_;refine tkS 3 ?_;refine tkM 4 0 ?_;refine tkS 5 ?_;refine al1 (i:=6) ?_;refine opT fun _ y=>?_;simp only[↓bO,go_sem,seval];refine CCalls.at (ze4 {S with F:=s.1} hs.1.inv p (by dsimp only;rw[hs.1.len];omega)) (.cons (.v _) .nil) (fun _=>.v _) (i0:=0) (i1:=1) (i2:=2) (i3:=3) (i4:=4) (i5:=5) (i6:=6) (i7:=7) tz3 tz4 zbc (fun S1 r1 hS1=>?_);(try dsimp only at hS1);simp only[zat,zl,zp,zm,zah,zam,Nat.reduceEqDiff,↓reduceIte];obtain ⟨F1,rfl⟩:∃F1,S1={S with F:=F1}:=⟨S1.F,hS1.2.2⟩;dsimp only at hS1;have hF1:=hs.1.trans hS1.1;have hrt:=(hs.1.rt _ _).1 hS1.2.1;(have hmap:s.2.map (zbQ 0)++[[.ptr 0 0,.v (.int .i64 (r1:Int))]]=(s.2++[r1]).map (zbQ 0):=by simp[zbQ]);(try simp only[go_sem]);refine y _ ⟨zeg,?_⟩;clear y;refine alS 7 ?_ (hH:=by exact zeg);refine al1 (i:=8) ?_;refine opT fun _ y=>?_;simp only[↓bO,go_sem,seval,↓zlZ];refine y _ ⟨zeg,?_⟩;clear y;refine al1 (i:=9) ?_;refine opT fun _ y=>?_;simp only[↓bO,go_sem,seval,hb1,hb2,hmap];refine y _ ⟨zeg,?_⟩;clear y;refine tkS 10 ?_;refine dnA ?_;apply d;apply z7;refine chS 1 ?_ (by intro _ q;simp only[↓bO,go_sem,seval,hw1];exact q);simp only[↓bO,go_sem,seval];refine ⟨(F1,s.2++[r1]),⟨hF1,by simp only[zi,zz,zJ];omega,zmf hs.2.2 he hrt⟩,(by simp only[zi,zz,zJ];omega),?_⟩;simp only[zar,zas,zah,zam,mB,seval,zj,zh,zn,zi,Int.ofNat_lt];exact zaL
  (have hk:s.2.length=g.parts.length:=by (have h9:=hb26;simp at h9;have:=hs.2.1;omega));apply zak;simp only[zao,zaj,zaf,bA,Nat.reduceEqDiff,↓reduceIte];apply u;refine sqR fun _ u=>?_;refine chS 1 ?_;simp only[↓bO,go_sem,seval];apply u;apply zab;(try simp only[go_sem]);refine ⟨_,zad 0 (zan ({S with F:=s.1})),⟨({S with F:=s.1},s.2),?_,rfl,rfl⟩,Und.parts tz1 _,zcg tz1 _,?_,?_,by omega⟩;· exact ⟨hs.1,rfl,.inr ⟨hpos,g,hg,hk,hs.2.2⟩⟩
  ·
   exact Le.oslL
  first | (refine ⟨2,rfl,rfl⟩) | (refine ⟨1,rfl,rfl⟩) | (refine ⟨2,by simp only[zan,zad,zk,zf,Nat.reduceAdd],rfl⟩) | (refine ⟨1,by simp only[zan,zad,zk,zf,Nat.reduceAdd],rfl⟩)
theorem zj3 (S:CS) (hF:FInv S.F) (hv:∀n k,zaw S.G.V n=some k->0<=k/\k<(S.F.up.length:Int)) (hc:S.clash=false) (v i0:Int) (hi:zaw S.G.V v=some i0):CCalls (σ:=Nat) 97 [.ptr 0 0,.v (.int .i64 v)] (S) (fun s=>FSame S.F s.1.F/\s.1={S with F:=s.1.F}/\Rt S.F.up i0.toNat s.2) (fun s=>.tup [.agg (zbQ 0 s),.v (.bool true)]):=by
  refine ACalls.clean (C:=fun zr zo=>∃s:CS×Nat,(FSame S.F s.1.F/\s.1={S with F:=s.1.F}/\Rt S.F.up i0.toNat s.2)/\zr=(fun s:Nat=>.tup [.agg (zbQ 0 s),.v (.bool true)]) s.2/\zo=zad 0 (zan s.1)) ?_;refine aIn Tryz.func97 fun hm=>?_;simp only[Tryz.ntmps97,Tryz.results97,go_sem,seval];simp only[zan,zad,Nat.reduceAdd];have hib:=hv _ _ hi;obtain ⟨i,rfl⟩:∃i:Nat,i0=(i:Int):=⟨i0.toNat,by omega⟩;refine sqR fun _ y=>?_;refine chS 1 ?_;simp only[↓bO,go_sem,seval];apply y;refine sqR fun _ y=>?_;(iterate 2 (refine chS 1 ?_));refine zZ 1 fun _ q=>?_;simp only[↓bO,go_sem,seval];refine CCalls.at (zih S v) (.cons (.v _) .nil) (fun _=>.tup (.cons (.v _) (.cons (.v _) .nil))) (i0:=0) (i1:=1) (i2:=2) (i3:=3) (i4:=4) (i5:=5) (i6:=6) (i7:=7) tz3 tz4 zbc (fun Z9 u9 hZ9=>?_);(try dsimp only at hZ9);simp only[zat,zl,zp,zm,zah,zam,Nat.reduceEqDiff,↓reduceIte];obtain ⟨hZ,rfl⟩:=hZ9;obtain rfl:S=Z9:=hZ.symm;rw[nodeG_of hc hi];(iterate 4 (apply q;clear q;refine zZ 1 fun _ q=>?_;simp only[↓bO,go_sem,seval]));apply q;clear q;simp only[↓bO,go_sem,seval];apply y;refine z6 fun _ y=>?_;refine sqR fun _ u=>?_;refine chS 1 ?_;simp only[↓bO,go_sem,seval];apply u;apply z8 rfl <;> intro hb15
  ·
   exact absurd hb15 tz4
  apply zaa;apply y;refine sqR fun _ y=>?_;(iterate 3 (refine chS 1 ?_));refine zZ 1 fun _ q=>?_;simp only[↓bO,go_sem,seval];refine CCalls.at (ze4 S hF i tz1) (.cons (.v _) .nil) (fun _=>.v _) (i0:=0) (i1:=1) (i2:=2) (i3:=3) (i4:=4) (i5:=5) (i6:=6) (i7:=7) tz3 tz4 zbc (fun S1 r1 hS1=>?_);(try dsimp only at hS1);simp only[zat,zl,zp,zm,zah,zam,Nat.reduceEqDiff,↓reduceIte];obtain ⟨F1,rfl⟩:∃F,S1={S with F:=F}:=⟨S1.F,hS1.2.2⟩;dsimp only at hS1;(iterate 2 (apply q;clear q;refine zZ 1 fun _ q=>?_;simp only[↓bO,go_sem,seval]));apply q;clear q;simp only[↓bO,go_sem,seval];apply y;apply zab;(try simp only[zao,zaj,zaf,zdg,zcC,za0,bS,bA,zaS,zav,zbP,bL,Nat.reduceAdd,Nat.reduceLeDiff,Nat.reduceEqDiff,↓reduceIte,ti138,zx,zH,Int.natCast_nonneg]);refine ⟨_,zad 0 (zan ({S with F:=F1})),⟨({S with F:=F1},r1),?_,rfl,rfl⟩,.tup ⟨.agg ⟨.ptr tz1,.v _ _,trivial⟩,.v _ _,trivial⟩,zcg tz1 _,?_,?_,by omega⟩;· exact ⟨hS1.1,rfl,hS1.2.1⟩
  ·
   exact Le.refl _
  first | (refine ⟨1,rfl,rfl⟩) | (refine ⟨0,rfl,rfl⟩) | (refine ⟨1,by simp only[zan,zad,zk,zf,Nat.reduceAdd],rfl⟩) | (refine ⟨0,by simp only[zan,zad,zk,zf,Nat.reduceAdd],rfl⟩)
open Classical in
noncomputable def ziL (c:List Int) (a b:Int):Bool:=decide ((0<=a/\a<(c.length:Int))/\(0<=b/\b<(c.length:Int))/\c[a.toNat]?=c[b.toNat]?)
theorem zkU (c:List Int) (i:Int):APure Tryz.prog 113 [.sl 1 (c.map intC),.v (.int .i64 i)] (.v (.bool (decide (0<=i/\i<(c.length:Int))))):=by
  refine APure.mkL (.cons (zap _) (.cons (.v _) .nil)) (.v _) ?_;refine aIn Tryz.func113 fun hm=>?_;simp only[Tryz.ntmps113,Tryz.results113,go_sem,seval];refine sqD ?_;refine sqR fun _ q=>?_;refine chS 3 ?_;simp only[go_sem];refine zag 7 rfl (fun hc7=>?_) (fun hc7=>?_)
  ·
   refine chS 4 ?_;simp only[↓bO,go_sem,seval];apply q;apply zab;(try simp only[go_sem]);refine Le.of_eq (congrArg (fun b=>AV.v (.bool b)) ?_);rw[zF];simp only[zd,ze,zL,false_iff,ge_iff_le] at *;try omega
  refine chS 4 ?_;simp only[↓bO,go_sem,seval];apply q;apply zab;(try simp only[go_sem]);refine Le.of_eq (congrArg (fun b=>AV.v (.bool b)) ?_);rw[zF];simp only[zd,ze,zL,false_iff,ge_iff_le] at *;try omega
theorem zl7 (c:List Int) (a b:Int):APure Tryz.prog 80 [.sl 1 (c.map intC),.v (.int .i64 a),.v (.int .i64 b)] (.v (.bool (ziL c a b))):=by
  refine APure.mkL (.cons (zap _) (.cons (.v _) (.cons (.v _) .nil))) (.v _) ?_;refine aIn Tryz.func80 fun hm=>?_;simp only[Tryz.ntmps80,Tryz.results80,go_sem,seval];refine sqD ?_;refine z6 fun _ u=>?_;refine zay 19 mixed tz0 fun J0 j0=>?_;simp only[go_sem];refine zae 2 fun _ q=>?_;simp only[↓zaA,↓dOp,↓bO,go_sem,seval];apply q;clear q;refine zae 1 fun _ q=>?_;simp only[↓zaA,↓dOp,↓bO,go_sem,seval];refine ⟨_,zkU c a,?_⟩;apply q;clear q;refine zae 1 fun _ q=>?_;simp only[↓zaA,↓dOp,↓bO,go_sem,seval];apply q;clear q;refine za5 10 rfl (fun hc10=>?_) (fun hc10=>?_)
  ·
   simp only[go_sem];(have ha:0<=a/\a<(c.length:Int):=by simpa using hc10);obtain ⟨x,hx⟩:∃x,c[a.toNat]?=some x:=⟨_,za tz1⟩;refine zae 2 fun _ q=>?_;simp only[↓zaA,↓dOp,↓bO,go_sem,seval,ha.1,ha.2];apply q;clear q;refine zae 1 fun _ q=>?_;simp only[↓zaA,↓dOp,↓bO,go_sem,seval];refine ⟨_,zkU c b,?_⟩;apply q;clear q;refine zae 2 fun _ q=>?_;simp only[↓zaA,↓dOp,↓bO,go_sem,seval];apply q;clear q;refine za5 15 rfl (fun hc15=>?_) (fun hc15=>?_)
   ·
    simp only[go_sem];(have hb:0<=b/\b<(c.length:Int):=by simpa using hc15);obtain ⟨y,hy⟩:∃y,c[b.toNat]?=some y:=⟨_,za tz1⟩;(iterate 2 (refine zae 4 fun _ q=>?_;simp only[↓zaA,↓dOp,↓bO,go_sem,seval,intC,gM hx,ha.1,ha.2,gM hy,hb.1,hb.2];apply q;clear q));simp only[↓zaA,↓dOp,↓bO,go_sem,seval];refine j0 _ ?_;clear j0 J0;simp only[go_sem];simp only[↓bO,go_sem,seval];apply u;apply zab;(try simp only[go_sem]);refine Le.of_eq (congrArg (fun b=>AV.v (.bool b)) ?_);rw[ziL,hx,hy,zF];simp[ha,hb]
   simp only[go_sem];(have hb:¬(0<=b/\b<(c.length:Int)):=by simpa using hc15);(iterate 2 (refine zae 4 fun _ q=>?_;simp only[↓zaA,↓dOp,↓bO,go_sem,seval];apply q;clear q));simp only[↓zaA,↓dOp,↓bO,go_sem,seval];refine j0 _ ?_;clear j0 J0;simp only[go_sem];simp only[↓bO,go_sem,seval];apply u;apply zab;(try simp only[go_sem]);refine Le.of_eq (congrArg (fun b=>AV.v (.bool b)) ?_);rw[ziL,decide_eq_false (fun h=>hb h.2.1)]
  simp only[go_sem];(have ha:¬(0<=a/\a<(c.length:Int)):=by simpa using hc10);(iterate 3 (refine zae 4 fun _ q=>?_;simp only[↓zaA,↓dOp,↓bO,go_sem,seval];apply q;clear q));simp only[↓zaA,↓dOp,↓bO,go_sem,seval];refine j0 _ ?_;clear j0 J0;simp only[go_sem];simp only[↓bO,go_sem,seval];apply u;apply zab;(try simp only[go_sem]);refine Le.of_eq (congrArg (fun b=>AV.v (.bool b)) ?_);rw[ziL,decide_eq_false (fun h=>ha h.1)]
theorem SNew_pure (n:Nat) (hn:n<=1048576):APure Tryz.prog 78 [.v (.int .i64 (n:Int))] (.sl 1 ((zds n).map intC)):=by
  refine APure.mkL (.cons (.v _) .nil) (zap _) ?_;refine aIn Tryz.func78 fun hm=>?_;simp only[Tryz.ntmps78,Tryz.results78,go_sem,seval];(iterate 2 (refine z6 fun _ y=>?_;apply z7;simp only[↓bO,go_sem,seval];apply y));refine z6 fun _ y=>?_;refine sqD ?_;apply zac;refine zaH (Weak.tokSlot 3 3 1 rfl) ?_;simp only[go_sem];refine zai (σ:=Nat) (mB 15 25) (fun s=>s<=n) (fun s=>[(3,.osl 0 1 (((zds n).take s).map intC)),(4,.v (.int .i64 (s:Int)))]) (fun s=>[(0,.tok 3 1 s)]) (fun s=>n-s) 0 tz1 ?_ (fun s hs=>?_)
  ·
   simp only[go_sem,seval,bL];exact zaL
  simp only[go_sem,seval];refine z6 fun _ u=>?_;refine sqR fun _ w=>?_;refine chS 2 ?_;simp only[↓bO,go_sem,seval];apply w;apply z8 rfl <;> intro hb7
  ·
   (have hk:s<n:=by simpa using hb7);have hr:=zfN hk;have hw:IntKind.i64.wrap ((s:Int)+1)=(s:Int)+1:=zal tz1 tz1;(have hln:(((zds n).take s).map intC).length=s:=by simp[zds];omega);(have hb1:(s+1) * 8<=140737488355328:=by omega);(have hb2:s+1<=maxLen:=by simp only[maxLen];omega);apply zaa;apply u;refine z6 fun _ u=>?_;apply zac;apply z7;refine chS 2 ?_ (by intro _ q;simp only[↓bO,go_sem,seval,hk];exact q);refine chS 2 ?_ (by intro _ q;simp only[↓bO,go_sem,seval,↓zcQ,hln,hb1,hb2];exact q);simp only[↓bO,go_sem,seval];apply u;apply z7;refine chS 2 ?_ (by intro _ q;simp only[↓bO,go_sem,seval,hw];exact q);simp only[↓bO,go_sem,seval];refine ⟨(s+1),tz1,by omega,?_⟩;simp only[zar,zas,zah,zam,mB,seval,intC,zj,zh,zaM intC hr];exact zaL
  (have hk:s=n:=by simp at hb7;omega);apply zak;simp only[zao,zaj,zaf,bA,Nat.reduceEqDiff,↓reduceIte];apply y;refine sqD ?_;apply zab;(try simp only[go_sem]);rw[hk,List.take_of_length_le (by simp[zds])];exact Le.oslL
theorem joinC_ex {c:List Int} {a b:Nat} (ha:a<c.length) (hb:b<c.length):∃(z y:Int) (J:List Int),c[a]?=some z/\c[b]?=some y/\zcN c a b=J/\J.length=c.length/\∀(s:Nat) (x:Int),c[s]?=some x->J[s]?=some (if x=y then z else x) :=
 ⟨_,_,_,za ha,za hb,rfl,zf4 _ _ _,fun _ _ hx=>zes hx (za hb) (za ha)⟩
theorem zgS (c:List Int) (a b:Nat) (hac:a<c.length) (hbc:b<c.length) (hlc:c.length<=1048576):APure Tryz.prog 79 [.sl 1 (c.map intC),.v (.int .i64 (a:Int)),.v (.int .i64 (b:Int))] (.sl 1 ((zcN c a b).map intC)):=by
  refine APure.mkL (.cons (zap _) (.cons (.v _) (.cons (.v _) .nil))) (zap _) ?_;refine aIn Tryz.func79 fun hm=>?_;simp only[Tryz.ntmps79,Tryz.results79,go_sem,seval];obtain ⟨z,y,J,hz,hy,hJ,hJl,hJx⟩:=joinC_ex hac hbc;rw[hJ];clear hJ;(iterate 2 (refine z6 fun _ u=>?_;apply z7;simp only[↓bO,go_sem,seval];apply u));refine z6 fun _ u=>?_;refine sqD ?_;apply zac;refine zaH (Weak.tokSlot 7 3 1 rfl) ?_;simp only[go_sem];refine zai (σ:=Nat) (mB 35 391) (fun s=>s<=c.length) (fun s=>[(7,.osl 0 1 ((J.take s).map intC)),(8,.v (.int .i64 (s:Int)))]) (fun s=>[(0,.tok 3 1 s)]) (fun s=>c.length-s) 0 tz1 ?_ (fun s hs=>?_)
  ·
   simp only[go_sem,seval,bL];exact zaL
  simp only[go_sem,seval];refine z6 fun _ w=>?_;refine sqR fun _ k=>?_;refine chS 2 ?_;simp only[↓bO,go_sem,seval];apply k;apply z8 rfl <;> intro hb13
  ·
   (have hk:s<c.length:=by simpa using hb13);obtain ⟨x,hx⟩:∃x,c[s]?=some x:=⟨_,za hk⟩;have hr:=hJx s x hx;have hw:IntKind.i64.wrap ((s:Int)+1)=(s:Int)+1:=zal tz1 tz1;(have hln:(J.take s).length=s:=by simp;omega);(have hb1:(s+1) * 8<=140737488355328:=by omega);(have hb2:s+1<=maxLen:=by simp only[maxLen];omega);apply zaa;apply w;refine z6 fun _ w=>?_;apply zac;refine sqR fun _ k=>?_;(iterate 2 (refine chS 2 ?_ (by intro _ q;simp only[↓bO,go_sem,seval,hk,intC,gM hx];exact q)));simp only[↓bO,go_sem,seval];apply k;refine z6 fun _ k=>?_;refine sqR fun _ j=>?_;(iterate 2 (refine chS 2 ?_ (by intro _ q;simp only[↓bO,go_sem,seval,intC,gM hy,hbc];exact q)));simp only[↓bO,go_sem,seval];apply j;apply z8 rfl <;> intro hb25
   ·
    (have he:x=y:=by simpa using hb25);rw[if_pos he] at hr;apply z7;(iterate 2 (refine chS 2 ?_ (by intro _ q;simp only[↓bO,go_sem,seval,intC,gM hz,hac];exact q)));simp only[↓bO,go_sem,seval];apply k;apply z7;refine chS 2 ?_;refine chS 2 ?_ (by intro _ q;simp only[↓bO,go_sem,seval,↓zcQ,hln,hb1,hb2];exact q);simp only[↓bO,go_sem,seval];apply w;apply z7;refine chS 2 ?_ (by intro _ q;simp only[↓bO,go_sem,seval,hw];exact q);simp only[↓bO,go_sem,seval];refine ⟨(s+1),tz1,by omega,?_⟩;simp only[zar,zas,zah,zam,mB,seval,intC,zj,zh,zaM intC hr];exact zaL
   (have he:¬x=y:=by simpa using hb25);rw[if_neg he] at hr;apply zaa;apply k;apply z7;refine chS 2 ?_;refine chS 2 ?_ (by intro _ q;simp only[↓bO,go_sem,seval,↓zcQ,hln,hb1,hb2];exact q);simp only[↓bO,go_sem,seval];apply w;apply z7;refine chS 2 ?_ (by intro _ q;simp only[↓bO,go_sem,seval,hw];exact q);simp only[↓bO,go_sem,seval];refine ⟨(s+1),tz1,by omega,?_⟩;simp only[zar,zas,zah,zam,mB,seval,intC,zj,zh,zaM intC hr];exact zaL
  (have hk:s=c.length:=by simp at hb13;omega);apply zak;simp only[zao,zaj,zaf,bA,Nat.reduceEqDiff,↓reduceIte];apply u;refine sqD ?_;apply zab;(try simp only[go_sem]);rw[hk,List.take_of_length_le tz1];exact Le.oslL
theorem eqF_len:∀(l:List (Ty×Ty)) ,(eqF l).2.length=l.length:=by
 suffices h:∀(n:Nat) (l:List (Ty×Ty)),l.length=n->(eqF l).2.length=l.length from fun l=>h l.length l rfl
 intro n
 induction n with
 | zero =>
  intro l hl;have:l=[]:=List.length_eq_zero_iff.1 hl
  subst this;rfl
 | succ n ih =>
  intro l hl;(have hne:l≠[]:=fun e=>by rw[e] at hl;simp at hl);obtain ⟨d,e,rfl⟩:∃d e,l=d++[e]:=⟨l.dropLast,l.getLast hne,(List.dropLast_concat_getLast hne).symm⟩;rw[za1];simp only[zdS,zi,zz,zJ];rw[ih d (by simp at hl;omega)]
theorem zfm:∀(l:List (Ty×Ty)) ,(eqF l).1.length<=zbD l:=by
 suffices h:∀(n:Nat) (l:List (Ty×Ty)),l.length=n->(eqF l).1.length<=zbD l from fun l=>h l.length l rfl
 intro n
 induction n with
 | zero =>
  intro l hl;have:l=[]:=List.length_eq_zero_iff.1 hl
  subst this;simp[eqF]
 | succ n ih =>
  intro l hl;(have hne:l≠[]:=fun e=>by rw[e] at hl;simp at hl);obtain ⟨d,e,rfl⟩:∃d e,l=d++[e]:=⟨l.dropLast,l.getLast hne,(List.dropLast_concat_getLast hne).symm⟩;rw[za1,zcV];simp only[zdS];have h1:=ih d (by simp at hl;omega);have h2:=e.1.radd_len (eqF d).1;have h3:=e.2.radd_len (e.1.radd (eqF d).1).1;omega
theorem eqF_take {l:List (Ty×Ty)} {s:Nat} {e:Ty×Ty} (h:l[s]?=some e):eqF (l.take (s+1))=((e.2.radd (e.1.radd (eqF (l.take s)).1).1).1,(eqF (l.take s)).2++[((e.1.radd (eqF (l.take s)).1).2,(e.2.radd (e.1.radd (eqF (l.take s)).1).1).2)]):=by
 rw[zM,h];exact za1 _ _
theorem nat2_at {l:List (Int×Int)} {s a b:Nat} (h:l[s]?=some ((a:Int),(b:Int))):(zcn l)[s]?=some (a,b):=by
 simp[zcn,zN,h]
theorem HeldC.next {E:List (Nat×Nat)} {c:List Int} {s a b:Nat} (h:HeldC (E.take s) c) (he:E[s]?=some (a,b)) (ha:a<c.length) (hb:b<c.length):HeldC (E.take (s+1)) (zcN c a b):=by
 rw[zM,he];intro e hm;(rcases zD.1 hm with hm | hm);(·exact h.join a b e hm);simp at hm;subst hm;exact zgW ha hb
theorem sameC_in {c:List Int} {a b:Nat} (ha:a<c.length) (hb:b<c.length):(ziL c (a:Int) (b:Int)=true↔c[a]?=c[b]?):=by
 classical
 unfold ziL;rw[zd,zH,zH];constructor;(·exact fun h=>h.2.2);exact fun h=>⟨⟨by omega,by omega⟩,⟨by omega,by omega⟩,h⟩
structure CLoop (M:List RNode) (E:List (Nat×Nat)) (c0:List Int) (p:List Int×Bool):Prop where
 col:Col M E p.1
 held:HeldC E p.1
 eq:p.2=false->p.1=c0
 lt:p.2=true->ndC p.1<ndC c0
theorem CLoop.le {M:List RNode} {E:List (Nat×Nat)} {c0:List Int} {p:List Int×Bool} (h:CLoop M E c0 p):ndC p.1<=ndC c0:=by
 cases hp:p.2 with
 | false=>rw[h.eq hp];exact zQ _
 | true=>exact Nat.le_of_lt (h.lt hp)
theorem CLoop.join {M:List RNode} {E:List (Nat×Nat)} {c0:List Int} {p:List Int×Bool} (h:CLoop M E c0 p) {a b:Nat} (ha:a<M.length) (hb:b<M.length) (hc:Cl (shR M) E a b) (hne:¬p.1[a]?=p.1[b]?):CLoop M E c0 (zcN p.1 a b,true):=by
 have hl:=h.col.len;refine ⟨h.col.join ha hb hc,h.held.join a b,fun e=>(by cases e),fun _=>?_⟩;exact Nat.lt_of_lt_of_le (ndC_join tz1 tz1 hne) h.le
theorem CLoop.end' {M:List RNode} {E:List (Nat×Nat)} {c0:List Int} {p:List Int×Bool} (h:CLoop M E c0 p):2 * ndC p.1+p.2.toNat<2 * ndC c0+1:=by
 cases hp:p.2 with
 | false=>rw[h.eq hp];simp
 | true=>have:=h.lt hp;simp only[Bool.toNat_true];omega
theorem RNode.oneData (g:List RNode) (c:List Int):Data (.agg [.sl 4 (g.map RNode.cells),.sl 1 (c.map intC)]):=.agg (.cons (RNode.dataSl g) (.cons (zap c) .nil))
theorem clz6 {p:Prop} (h:p:=by exact Weak.mk (by simp only[go_sem,Le.refl,Le.any,Le.slNil,zn,zh]) (fun _ _ h=>h) rfl rfl):p:=h
theorem Close_c (es:List EqT) (M:List RNode) (P:List (Int×Int)) (hF:eqF (es.map EqT.p)=(M,P)) (hsum:zbD (es.map EqT.p)<=160) (hMok:MOk M) (hP:∀p∈P,(0<=p.1/\p.1<(M.length:Int))/\0<=p.2/\p.2<(M.length:Int)) (h8:∀x∈M,x.parts.length<=8) :
    ACalls Tryz.prog 37 [.sl 8 (es.map EqT.cells)] [] 0 fun r os n=>(∃c,ColF M (zcn P) c/\r=.agg [.sl 4 (M.map RNode.cells),.sl 1 (c.map intC)]/\os=[])/\n=0:=by
  refine ACalls.clean (C:=fun r os=>∃c,ColF M (zcn P) c/\r=.agg [.sl 4 (M.map RNode.cells),.sl 1 (c.map intC)]/\os=[]) ?_;refine aIn Tryz.func37 fun hm=>?_;simp only[Tryz.ntmps37,Tryz.results37,go_sem,seval];have hm1:=zc2 (es.map EqT.p);rw[zx] at hm1;have hMl:=zfm (es.map EqT.p);rw[hF] at hMl;have hPl:=eqF_len (es.map EqT.p);rw[hF,zx] at hPl;dsimp only at hMl hPl;(iterate 3 (refine z6 fun _ j=>?_;apply z7;simp only[↓bO,go_sem,seval];apply j));refine z6 fun _ j=>?_;refine sqD ?_;apply zac;refine zaH (Weak.tokSlot 4 108 2 rfl) ?_;simp only[go_sem];refine zai (σ:=Nat) (mB 179 61) (fun s=>s<=es.length) (fun s=>[(3,.sl 4 ((eqF ((es.map EqT.p).take s)).1.map RNode.cells)),(4,.osl 1 2 ((eqF ((es.map EqT.p).take s)).2.map pC)),(5,.v (.int .i64 (s:Int)))]) (fun s=>[(1,.tok 108 2 s)]) (fun s=>es.length-s) 0 tz1 ?_ (fun s hs=>?_)
  ·
   simp only[go_sem,seval,bL,eqF,List.foldl_nil];exact clz6
  simp only[go_sem,seval];refine z6 fun _ g=>?_;refine sqR fun _ d=>?_;refine chS 2 ?_;simp only[↓bO,go_sem,seval];apply d;apply z8 rfl <;> intro hb18
  ·
   (have hk:s<es.length:=by simpa using hb18);obtain ⟨e,he⟩:∃e,es[s]?=some e:=⟨_,za hk⟩;(have hep:(es.map EqT.p)[s]?=some e.p:=by rw[zN,he];rfl);have hEs:=eqF_take hep;have hst:=zcR (es.map EqT.p) (s+1);rw[zM,hep] at hst;rw[show (some e.p).toList=[e.p] from rfl,zcV] at hst;simp only[EqT.p] at hst hEs;have hml:=zfm ((es.map EqT.p).take s);have hrl:=e.l.radd_len (eqF ((es.map EqT.p).take s)).1;have hw:IntKind.i64.wrap ((s:Int)+1)=(s:Int)+1:=zal tz1 tz1;(have hln:(eqF ((es.map EqT.p).take s)).2.length=s:=by rw[eqF_len];simp;omega);(have hb1:(s+1) * 16<=140737488355328:=by omega);(have hb2:s+1<=maxLen:=by simp only[maxLen];omega);apply zaa;apply g;refine z6 fun _ g=>?_;apply zac;refine sqR fun _ d=>?_;(iterate 3 (refine chS 2 ?_ (by intro _ q;simp only[↓bO,go_sem,seval,hk,gM he,EqT.cells,Ty.refold];exact q)));refine zZ 1 fun _ w=>?_;simp only[↓bO,go_sem,seval];refine APure.call (zik e.l (eqF ((es.map EqT.p).take s)).1 tz1) ?_;(iterate 2 (apply w;clear w;refine zZ 2 fun _ w=>?_;simp only[↓bO,go_sem,seval]));apply w;clear w;simp only[↓bO,go_sem,seval];apply d;refine sqR fun _ d=>?_;(iterate 3 (refine chS 2 ?_ (by intro _ q;simp only[↓bO,go_sem,seval,hk,gM he,EqT.cells,Ty.refold];exact q)));refine zZ 1 fun _ w=>?_;simp only[↓bO,go_sem,seval];refine APure.call (zik e.r (e.l.radd (eqF ((es.map EqT.p).take s)).1).1 tz1) ?_;(iterate 2 (apply w;clear w;refine zZ 2 fun _ w=>?_;simp only[↓bO,go_sem,seval]));apply w;clear w;simp only[↓bO,go_sem,seval];apply d;refine sqD ?_;apply z7;(iterate 2 (refine chS 2 ?_));refine chS 2 ?_ (by intro _ q;simp only[↓bO,go_sem,seval,↓zlZ,hln,hb1,hb2];exact q);simp only[↓bO,go_sem,seval];apply g;apply z7;refine chS 2 ?_ (by intro _ q;simp only[↓bO,go_sem,seval,hw];exact q);simp only[↓bO,go_sem,seval];refine ⟨(s+1),tz1,by omega,?_⟩;simp only[zar,zas,zah,zam,mB,seval,zj,zh,zn];refine Weak.sub ?_ ⟨rfl,rfl,trivial⟩ tz2 tz2 ?_ ?_
   ·
    simp only[EqT.p] at hEs ⊢;simp only[go_sem,Le.refl,Le.any,hEs,zu,zt,zW,pC]
   (· repeat' first | exact trivial | exact .any _ | exact .ptr tz1 | exact .v _ _ | exact Und.oslP tz1 | exact Und.data (EqT.dataSl _) | exact Und.data (RNode.dataSl _) | exact Und.data (zap _) | (refine ⟨?_,?_⟩));exact ⟨by omega,trivial,by omega,⟨.v _ _,.v _ _,trivial⟩,trivial⟩
  (have hk:s=es.length:=by simp at hb18;omega);subst hk;rw[List.take_of_length_le tz4,hF];dsimp only;apply zak;simp only[zao,zaj,zaf,bA,Nat.reduceEqDiff,↓reduceIte];apply j;refine sqR fun _ j=>?_;refine chS 2 ?_;refine zZ 1 fun _ w=>?_;simp only[↓bO,go_sem,seval];refine APure.call (SNew_pure M.length tz1) ?_;apply w;clear w;simp only[↓bO,go_sem,seval];apply j;refine z6 fun _ j=>?_;refine sqD ?_;apply zac;refine zai (σ:=List Int×Nat) (mB 179 1564) (fun s=>Col M (zcn P) s.1/\HeldC ((zcn P).take s.2) s.1/\s.2<=P.length) (fun s=>[(9,.sl 1 (s.1.map intC)),(10,.v (.int .i64 (s.2:Int)))]) (fun s=>[]) (fun s=>P.length-s.2) (zds M.length,0) (⟨Col.range _ _,fun _ h=>(by simp at h),by simp only;omega⟩) ?_ (fun s hs=>?_)
  ·
   simp only[go_sem,seval];exact zaL
  simp only[go_sem,seval];refine z6 fun _ g=>?_;refine sqR fun _ d=>?_;refine chS 2 ?_;simp only[↓bO,go_sem,seval];apply d;apply z8 rfl <;> intro hb54
  ·
   (have hk:s.2<P.length:=by simpa using hb54);obtain ⟨p,hp⟩:∃p,P[s.2]?=some p:=⟨_,za hk⟩;have hpb:=hP p (zc hp);obtain ⟨a,b,rfl⟩:∃a b:Nat,p=((a:Int),(b:Int)):=⟨p.1.toNat,p.2.toNat,by ext <;> simp only <;> omega⟩;(have hab:a<M.length/\b<M.length:=by dsimp only at hpb;omega);have hcl:=hs.1.len;have hw:IntKind.i64.wrap ((s.2:Int)+1)=(s.2:Int)+1:=zal tz1 tz1;apply zaa;apply g;refine z6 fun _ g=>?_;apply zac;refine zay 12 mixed tz0 fun J0 j0=>?_;(iterate 5 (simp only[go_sem];refine zae 2 fun _ w=>?_;simp only[↓zaA,↓dOp,↓bO,go_sem,seval,hk,gM hp,pC];apply w;clear w));simp only[go_sem];refine zae 1 fun _ w=>?_;simp only[↓zaA,↓dOp,↓bO,go_sem,seval];apply w;clear w;simp only[↓zaA,↓dOp,↓bO,go_sem,seval];refine ⟨_,zgS s.1 a b tz1 tz1 tz1,?_⟩;(try simp only[go_sem]);refine j0 _ ?_;clear j0 J0;simp only[go_sem];simp only[↓bO,go_sem,seval];apply g;apply z7;refine chS 2 ?_ (by intro _ q;simp only[↓bO,go_sem,seval,hw];exact q);simp only[↓bO,go_sem,seval];refine ⟨(zcN s.1 a b,s.2+1),⟨hs.1.join hab.1 hab.2 (.base (zc (nat2_at hp))),hs.2.1.next (nat2_at hp) tz1 tz1,by simp only;omega⟩,tz5,?_⟩;simp only[zar,zas,zah,zam,mB,seval,zj,zh,zn];exact zaL
  (have hk:s.2=P.length:=by have h9:=hb54;simp at h9;have:=hs.2.2;omega);(have hheld:HeldC (zcn P) s.1:=by have h9:=hs.2.1;rw[hk,List.take_of_length_le (by simp[zcn])] at h9;exact h9);apply zak;simp only[zao,zaj,zaf,bA,Nat.reduceEqDiff,↓reduceIte];apply j;refine z6 fun _ j=>?_;refine sqD ?_;apply zac;refine zai (σ:=List Int×Bool) (mB 179 2572) (fun t=>Col M (zcn P) t.1/\HeldC (zcn P) t.1/\(t.2=false->PAll M t.1 M.length 0)) (fun t=>[(9,.sl 1 (t.1.map intC)),(11,.v (.bool t.2))]) (fun t=>[]) (fun t=>2 * ndC t.1+t.2.toNat) (s.1,true) (⟨hs.1,hheld,fun e=>(by cases e)⟩) ?_ (fun t ht=>?_)
  ·
   simp only[go_sem,seval];exact zaL
  simp only[go_sem,seval];refine z6 fun _ g=>?_;refine sqD ?_;apply z8 rfl <;> intro hb69
  ·
   have htt:t.2=true:=hb69;apply zaa;apply g;apply zac;(iterate 2 (refine z6 fun _ g=>?_;apply z7;simp only[↓bO,go_sem,seval];apply g));apply zac;refine zai (σ:=Nat×List Int×Bool) (mB 179 6668) (fun u=>u.1<=M.length/\CLoop M (zcn P) t.1 u.2/\(u.2.2=false->PAll M u.2.1 u.1 0)) (fun u=>[(9,.sl 1 (u.2.1.map intC)),(11,.v (.bool u.2.2)),(12,.v (.int .i64 (u.1:Int)))]) (fun u=>[]) (fun u=>M.length-u.1) (0,t.1,false) (⟨Nat.zero_le _,⟨ht.1,ht.2.1,fun _=>rfl,fun e=>(by cases e)⟩,fun _=>PAll.zero _ _⟩) ?_ (fun u hu=>?_)
   ·
    simp only[go_sem,seval];exact zaL
   simp only[go_sem,seval];refine z6 fun _ g=>?_;refine sqR fun _ d=>?_;refine chS 2 ?_;simp only[↓bO,go_sem,seval];apply d;apply z8 rfl <;> intro hb73
   ·
    (have hki:u.1<M.length:=by simpa using hb73);obtain ⟨x,hxm⟩:∃x,M[u.1]?=some x:=⟨_,za hki⟩;have hw1:IntKind.i64.wrap ((u.1:Int)+1)=(u.1:Int)+1:=zal tz1 tz1;apply zaa;apply g;refine z6 fun _ g=>?_;apply zac;refine sqR fun _ d=>?_;simp only[↓bO,go_sem,seval,hki];apply d;apply zac;refine zai (σ:=Nat×List Int×Bool) (mB 179 14860) (fun v=>v.1<=u.1/\CLoop M (zcn P) t.1 v.2/\(v.2.2=false->PAll M v.2.1 u.1 v.1)) (fun v=>[(9,.sl 1 (v.2.1.map intC)),(11,.v (.bool v.2.2)),(13,.v (.int .i64 (v.1:Int)))]) (fun v=>[]) (fun v=>u.1-v.1) (0,u.2) (⟨Nat.zero_le _,hu.2.1,hu.2.2⟩) ?_ (fun v hv=>?_)
    ·
     simp only[go_sem,seval];exact zaL
    simp only[go_sem,seval];refine z6 fun _ d=>?_;refine sqR fun _ f=>?_;refine chS 2 ?_;simp only[↓bO,go_sem,seval];apply f;apply z8 rfl <;> intro hb78
    ·
     (have hkk:v.1<u.1:=by simpa using hb78);(have hkM:v.1<M.length:=by omega);obtain ⟨y,hym⟩:∃y,M[v.1]?=some y:=⟨_,za hkM⟩;have hcl:=hv.2.1.col.len;obtain ⟨ci,hci⟩:∃z,v.2.1[u.1]?=some z:=⟨_,za tz1⟩;obtain ⟨ck,hck⟩:∃z,v.2.1[v.1]?=some z:=⟨_,za tz1⟩;have hw2:IntKind.i64.wrap ((v.1:Int)+1)=(v.1:Int)+1:=zal tz1 tz1;apply zaa;apply d;refine z6 fun _ d=>?_;apply zac;refine z6 fun _ f=>?_;refine z6 fun _ y4=>?_;refine zay 48 mixed tz0 fun J0 j0=>?_;(iterate 5 (simp only[go_sem];refine zae 2 fun _ w=>?_;simp only[↓zaA,↓dOp,↓bO,go_sem,seval,intC,hki,hkk,hkM,gM hci,gM hck,hcl];apply w;clear w));simp only[go_sem];refine za5 90 rfl (fun hc90=>?_) (fun hc90=>?_)
     ·
      simp only[go_sem];(have hnc:¬ci=ck:=by simpa using hc90);have hsk:POk M v.2.1 u.1 v.1:=POk.skip hxm hym (by rw[hci,hck];simp[hnc]);(iterate 18 (refine zae 2 fun _ w=>?_;simp only[↓zaA,↓dOp,↓bO,go_sem,seval];apply w;clear w));simp only[↓zaA,↓dOp,↓bO,go_sem,seval];refine j0 _ ?_;clear j0 J0;simp only[bL,aops,zao,zaj,zaf];apply y4;refine z8 (b:=true) (by first | exact rfl | exact congrArg (fun b=>AV.v (.bool b)) hb128) (fun _=>?_) (fun h=>(by cases h));apply zak;simp only[zao,zaj,zaf,bA,Nat.reduceEqDiff,↓reduceIte];apply d;apply z7;refine chS 2 ?_ (by intro _ q;simp only[↓bO,go_sem,seval,hw2];exact q);simp only[↓bO,go_sem,seval];refine ⟨(v.1+1,v.2),⟨by simp only;omega,hv.2.1,fun e=>(hv.2.2 e).next hsk⟩,tz5,?_⟩;simp only[zar,zas,zah,zam,mB,seval,zj,zh,zn];exact zaL
     simp only[go_sem];(have hcc:ci=ck:=by simpa using hc90);(iterate 4 (refine zae 2 fun _ w=>?_;simp only[↓zaA,↓dOp,↓bO,go_sem,seval,hki,gM hxm,RNode.cells];apply w;clear w));refine zae 1 fun _ w=>?_;simp only[↓zaA,↓dOp,↓bO,go_sem,seval];apply w;clear w;refine za5 99 rfl (fun hc99=>?_) (fun hc99=>?_)
     ·
      simp only[go_sem];(have hk1:x.t.k=1:=by simpa using hc99);have hsk:POk M v.2.1 u.1 v.1:=POk.skip hxm hym (by simp[hk1]);(iterate 14 (refine zae 2 fun _ w=>?_;simp only[↓zaA,↓dOp,↓bO,go_sem,seval];apply w;clear w));simp only[↓zaA,↓dOp,↓bO,go_sem,seval];refine j0 _ ?_;clear j0 J0;simp only[bL,aops,zao,zaj,zaf];apply y4;refine z8 (b:=true) (by first | exact rfl | exact congrArg (fun b=>AV.v (.bool b)) hb128) (fun _=>?_) (fun h=>(by cases h));apply zak;simp only[zao,zaj,zaf,bA,Nat.reduceEqDiff,↓reduceIte];apply d;apply z7;refine chS 2 ?_ (by intro _ q;simp only[↓bO,go_sem,seval,hw2];exact q);simp only[↓bO,go_sem,seval];refine ⟨(v.1+1,v.2),⟨by simp only;omega,hv.2.1,fun e=>(hv.2.2 e).next hsk⟩,tz5,?_⟩;simp only[zar,zas,zah,zam,mB,seval,zj,zh,zn];exact zaL
     simp only[go_sem];(have hk1:x.t.k≠1:=by simpa using hc99);(iterate 7 (refine zae 2 fun _ w=>?_;simp only[↓zaA,↓dOp,↓bO,go_sem,seval,hki,gM hxm,hkM,gM hym,RNode.cells];apply w;clear w));refine zae 1 fun _ w=>?_;simp only[↓zaA,↓dOp,↓bO,go_sem,seval];apply w;clear w;refine za5 114 rfl (fun hc114=>?_) (fun hc114=>?_)
     ·
      simp only[go_sem];(have hkn:¬x.t.k=y.t.k:=by simpa using hc114);have hsk:POk M v.2.1 u.1 v.1:=POk.skip hxm hym (by simp[hkn]);(iterate 6 (refine zae 2 fun _ w=>?_;simp only[↓zaA,↓dOp,↓bO,go_sem,seval];apply w;clear w));simp only[↓zaA,↓dOp,↓bO,go_sem,seval];refine j0 _ ?_;clear j0 J0;simp only[bL,aops,zao,zaj,zaf];apply y4;refine z8 (b:=true) (by first | exact rfl | exact congrArg (fun b=>AV.v (.bool b)) hb128) (fun _=>?_) (fun h=>(by cases h));apply zak;simp only[zao,zaj,zaf,bA,Nat.reduceEqDiff,↓reduceIte];apply d;apply z7;refine chS 2 ?_ (by intro _ q;simp only[↓bO,go_sem,seval,hw2];exact q);simp only[↓bO,go_sem,seval];refine ⟨(v.1+1,v.2),⟨by simp only;omega,hv.2.1,fun e=>(hv.2.2 e).next hsk⟩,tz5,?_⟩;simp only[zar,zas,zah,zam,mB,seval,zj,zh,zn];exact zaL
     simp only[go_sem];(have hke:x.t.k=y.t.k:=by simpa using hc114);(iterate 6 (refine zae 2 fun _ w=>?_;simp only[↓zaA,↓dOp,↓bO,go_sem,seval,hki,gM hxm,hkM,gM hym,RNode.cells];apply w;clear w));simp only[↓zaA,↓dOp,↓bO,go_sem,seval];refine j0 _ ?_;clear j0 J0;simp only[bL,aops,zao,zaj,zaf];apply y4;apply z8 rfl <;> intro hb128
     ·
      (have hlt2:¬x.parts.length=y.parts.length:=by (have h9:=hb128;simp at h9;omega));have hsk:POk M v.2.1 u.1 v.1:=POk.skip hxm hym (by simp[hlt2]);apply zak;simp only[zao,zaj,zaf,bA,Nat.reduceEqDiff,↓reduceIte];apply d;apply z7;refine chS 2 ?_ (by intro _ q;simp only[↓bO,go_sem,seval,hw2];exact q);simp only[↓bO,go_sem,seval];refine ⟨(v.1+1,v.2),⟨by simp only;omega,hv.2.1,fun e=>(hv.2.2 e).next hsk⟩,tz5,?_⟩;simp only[zar,zas,zah,zam,mB,seval,zj,zh,zn];exact zaL
     (have hln2:x.parts.length=y.parts.length:=by (have h9:=hb128;simp at h9;omega));have hclx:=hv.2.1.col.sub u.1 v.1 hki hkM (by rw[hci,hck,hcc]);have h8x:=h8 x (zc hxm);apply zaa;apply f;refine sqD ?_;apply zac;refine zai (σ:=Nat×List Int×Bool) (mB 179 31244) (fun q=>q.1<=x.parts.length/\CLoop M (zcn P) t.1 q.2/\(q.2.2=false->PAll M q.2.1 u.1 v.1/\PUp M q.2.1 u.1 v.1 q.1)) (fun q=>[(9,.sl 1 (q.2.1.map intC)),(11,.v (.bool q.2.2)),(14,.v (.int .i64 (q.1:Int)))]) (fun q=>[]) (fun q=>x.parts.length-q.1) (0,v.2) (⟨Nat.zero_le _,hv.2.1,fun e=>⟨hv.2.2 e,PUp.zero _ _ _ _⟩⟩) ?_ (fun q hq=>?_)
     ·
      simp only[go_sem,seval];exact zaL
     simp only[go_sem,seval];refine z6 fun _ f=>?_;refine sqR fun _ y4=>?_;(iterate 3 (refine chS 2 ?_ (by intro _ q;simp only[↓bO,go_sem,seval,hki,gM hxm,RNode.cells];exact q)));simp only[↓bO,go_sem,seval];apply y4;apply z8 rfl <;> intro hb136
     ·
      (have hkj:q.1<x.parts.length:=by simpa using hb136);(have hkj2:q.1<y.parts.length:=by omega);obtain ⟨p,hpa⟩:∃p,x.parts[q.1]?=some p:=⟨_,za hkj⟩;obtain ⟨r,hpb⟩:∃r,y.parts[q.1]?=some r:=⟨_,za hkj2⟩;have hpm:=hMok x (zc hxm) p (zc hpa);have hrm:=hMok y (zc hym) r (zc hpb);obtain ⟨a,rfl⟩:∃a:Nat,p=(a:Int):=⟨p.toNat,by omega⟩;obtain ⟨b,rfl⟩:∃b:Nat,r=(b:Int):=⟨r.toNat,by omega⟩;(have haM:a<M.length:=by omega);(have hbM:b<M.length:=by omega);have hcab:Cl (shR M) (zcn P) a b:=Cl.part hclx (zdp hxm) (by rw[zdp hym,hke]) hk1 hln2 hpa hpb;have hcq:=hq.2.1.col.len;have hsa:=sameC_in (c:=q.2.1) (a:=a) (b:=b) tz1 tz1;have hw3:IntKind.i64.wrap ((q.1:Int)+1)=(q.1:Int)+1:=zal tz1 tz1;apply zaa;apply f;refine z6 fun _ f=>?_;apply zac;refine z6 fun _ y4=>?_;refine zay 19 mixed tz0 fun J0 j0=>?_;(iterate 8 (simp only[go_sem];refine zae 2 fun _ w=>?_;simp only[↓zaA,↓dOp,↓bO,go_sem,seval,intC,hki,gM hxm,hkM,gM hym,RNode.cells,hkj,hkj2,gM hpa,gM hpb];apply w;clear w));simp only[go_sem];refine zae 1 fun _ w=>?_;simp only[↓zaA,↓dOp,↓bO,go_sem,seval];apply w;clear w;refine zae 1 fun _ w=>?_;simp only[↓zaA,↓dOp,↓bO,go_sem,seval];refine ⟨_,zl7 q.2.1 (a:Int) (b:Int),?_⟩;apply w;clear w;simp only[↓zaA,↓dOp,↓bO,go_sem,seval];refine j0 _ ?_;clear j0 J0;simp only[bL,aops,zao,zaj,zaf];apply y4;apply z8 rfl <;> intro hb157
      ·
       (have hne:¬q.2.1[a]?=q.2.1[b]?:=by (have h9:ziL q.2.1 (a:Int) (b:Int)=false:=by simpa using hb157);exact fun e=>by rw[hsa.2 e] at h9;cases h9);refine z6 fun _ y4=>?_;refine zay 18 mixed tz0 fun J0 j0=>?_;(iterate 8 (simp only[go_sem];refine zae 2 fun _ w=>?_;simp only[↓zaA,↓dOp,↓bO,go_sem,seval,intC,hki,gM hxm,hkM,gM hym,RNode.cells,hkj,hkj2,gM hpa,gM hpb];apply w;clear w));simp only[go_sem];refine zae 1 fun _ w=>?_;simp only[↓zaA,↓dOp,↓bO,go_sem,seval];apply w;clear w;simp only[↓zaA,↓dOp,↓bO,go_sem,seval];refine ⟨_,zgS q.2.1 a b tz1 tz1 tz1,?_⟩;(try simp only[go_sem]);refine j0 _ ?_;clear j0 J0;simp only[go_sem];simp only[↓bO,go_sem,seval];apply y4;apply z7;simp only[↓bO,go_sem,seval];apply f;apply z7;refine chS 2 ?_ (by intro _ q;simp only[↓bO,go_sem,seval,hw3];exact q);simp only[↓bO,go_sem,seval];refine ⟨(q.1+1,zcN q.2.1 a b,true),⟨by simp only;omega,hq.2.1.join haM hbM hcab hne,fun e=>(by cases e)⟩,tz5,?_⟩;simp only[zar,zas,zah,zam,mB,seval,zj,zh,zn];exact zaL
      (have hsm:q.2.1[a]?=q.2.1[b]?:=by (have h9:ziL q.2.1 (a:Int) (b:Int)=true:=by simpa using hb157);exact hsa.1 h9);apply zaa;apply f;apply z7;refine chS 2 ?_ (by intro _ q;simp only[↓bO,go_sem,seval,hw3];exact q);simp only[↓bO,go_sem,seval];refine ⟨(q.1+1,q.2),⟨by simp only;omega,hq.2.1,fun e=>⟨(hq.2.2 e).1,(hq.2.2 e).2.next hxm hym hpa hpb (by simpa using hsm)⟩⟩,tz5,?_⟩;simp only[zar,zas,zah,zam,mB,seval,zj,zh,zn];exact zaL
     (have hkq:q.1=x.parts.length:=by have h9:=hb136;simp at h9;have:=hq.1;omega);apply zak;simp only[zao,zaj,zaf,bA,Nat.reduceEqDiff,↓reduceIte];apply d;apply z7;refine chS 2 ?_ (by intro _ q;simp only[↓bO,go_sem,seval,hw2];exact q);simp only[↓bO,go_sem,seval];refine ⟨(v.1+1,q.2),⟨by simp only;omega,hq.2.1,fun e=>(hq.2.2 e).1.next (POk.all hxm (hkq▸(hq.2.2 e).2))⟩,tz5,?_⟩;simp only[zar,zas,zah,zam,mB,seval,zj,zh,zn];exact zaL
    (have hkv:v.1=u.1:=by have h9:=hb78;simp at h9;have:=hv.1;omega);apply zak;simp only[zao,zaj,zaf,bA,Nat.reduceEqDiff,↓reduceIte];apply g;apply z7;refine chS 2 ?_ (by intro _ q;simp only[↓bO,go_sem,seval,hw1];exact q);simp only[↓bO,go_sem,seval];refine ⟨(u.1+1,v.2),⟨by simp only;omega,hv.2.1,fun e=>(hkv▸hv.2.2 e).row⟩,tz5,?_⟩;simp only[zar,zas,zah,zam,mB,seval,zj,zh,zn];exact zaL
   (have hku:u.1=M.length:=by have h9:=hb73;simp at h9;have:=hu.1;omega);apply zak;simp only[zao,zaj,zaf,bA,Nat.reduceEqDiff,↓reduceIte];refine ⟨u.2,⟨hu.2.1.col,hu.2.1.held,fun e=>hku▸hu.2.2 e⟩,(by have h9:=hu.2.1.end';have h8:t.2.toNat=1:=(by rw[htt];rfl);omega),?_⟩;exact zh9
  have htt:t.2=false:=hb69;apply zak;simp only[zao,zaj,zaf,bA,Nat.reduceEqDiff,↓reduceIte];apply j;refine sqR fun _ j=>?_;refine chS 2 ?_;simp only[↓bO,go_sem,seval];apply j;apply zab;(try simp only[zao,zaj,zaf,zdg,zcC,za0,bS,bA,zaS,zav,zbP,bL,Nat.reduceAdd,Nat.reduceLeDiff,Nat.reduceEqDiff,↓reduceIte,ti70,tyX,zx]);refine ⟨.agg [.sl 4 (M.map RNode.cells),.sl 1 (t.1.map intC)],[],⟨t.1,⟨ht.1,ht.2.1,(ht.2.2 htt).1⟩,rfl,rfl⟩,Und.data (RNode.oneData _ _),trivial,Le.refl _,⟨2,rfl,rfl⟩,by omega⟩
theorem zfo:∀{l:List (Ty×Ty)} {e:Ty×Ty},e∈l->e.1.cnt+e.2.cnt<=zbD l
 | x::l,e,h=>by
  simp only[zbD];(rcases zE.1 h with rfl | h);(·omega);have:=zfo h;omega
theorem zkv (es:List EqT) (hsum:zbD (es.map EqT.p)<=160) (hr:∀e∈(es.map EqT.p),(e.1.right&&e.2.right)=true) {os:Os} {nx:Nat} {Q:AV->Os->Nat->Prop}
  (hq:∀c,ColF (eqF (es.map EqT.p)).1 (zcn (eqF (es.map EqT.p)).2) c->(clB (eqF (es.map EqT.p)).1 c=true↔Clashes (es.map EqT.p))->Q (.agg [.sl 4 ((eqF (es.map EqT.p)).1.map RNode.cells),.sl 1 (c.map intC)]) os nx):ACalls Tryz.prog 37 [.sl 8 (es.map EqT.cells)] os nx Q:=by
 obtain ⟨⟨G,hG⟩,hP⟩:=zdl (es.map EqT.p) fun e he=>by
  have h1:=hr e he;have h2:=zfo he;simp only[zy] at h1;exact ⟨h1.1,h1.2,by omega,by omega⟩
 (have h:=Close_c es _ _ rfl hsum hG.mok hP fun x hx=>hG.parts8 hx);refine ACalls.atE (σ:=List Int) (C:=fun c=>ColF (eqF (es.map EqT.p)).1 (zcn (eqF (es.map EqT.p)).2) c) (R:=fun c=>.agg [.sl 4 ((eqF (es.map EqT.p)).1.map RNode.cells),.sl 1 (c.map intC)]) (R':=fun c=>.agg [.sl 4 ((eqF (es.map EqT.p)).1.map RNode.cells),.sl 1 (c.map intC)]) (obs:=[]) (obs':=[]) (obs1:=fun _=>[]) (obs1':=fun _=>[]) [] h rfl (fun _=>rfl) tz4 tz4 ⟨.data (EqT.dataSl es),trivial⟩ (fun c=>.data (RNode.oneData _ _)) trivial trivial (fun _=>trivial) (fun c hc=>hq c hc (hc.clash (fun e he=>?_) hG.mok));simp only[zcn,zq] at he;obtain ⟨p,hp,rfl⟩:=he;have:=hP p hp;(simp only);omega
theorem zjz {p:Prop} (h:p:=by repeat' first | trivial | exact .inr ⟨_,_,_,rfl,rfl,rfl,rfl⟩ | exact .inl (.refl _) | exact .inl (.any _) | (refine ⟨?_,?_⟩)):p:=h
theorem clz8 {p:Prop} (h:p:=by repeat' first | exact trivial | exact .any _ | exact .ptr tz1 | exact .v _ _ | exact Und.data (RNode.dataSl _) | exact Und.data (zap _) | exact Und.data (.eptr (RNode.data _)) | (refine ⟨?_,?_⟩)):p:=h
theorem zg4 (M:List RNode) (c:List Int) (hcl:c.length=M.length) (hMl:M.length<=1048576):APure Tryz.prog 38 [.agg [.sl 4 (M.map RNode.cells),.sl 1 (c.map intC)]] (.v (.bool (clB M c))):=by
  refine APure.mkL (.cons (RNode.oneData M c) .nil) (.v _) ?_;refine aIn Tryz.func38 fun hm=>?_;simp only[Tryz.ntmps38,Tryz.results38,go_sem,seval];refine sqR fun _ w=>?_;refine chS 1 ?_;simp only[↓bO,go_sem,seval];apply w;refine z6 fun _ w=>?_;refine sqD ?_;apply zac;refine zai (σ:=Nat) (mB 70 10) (fun s=>s<=M.length/\NoCl M c s 0) (fun s=>[(3,.v (.int .i64 (s:Int)))]) (fun s=>[]) (fun s=>M.length-s) 0 (⟨Nat.zero_le _,NoCl.zero _ _⟩) ?_ (fun s hs=>?_)
  ·
   simp only[go_sem,seval];exact zaL
  simp only[go_sem,seval];refine z6 fun _ g=>?_;refine sqR fun _ d=>?_;(iterate 4 (refine chS 1 ?_));simp only[↓bO,go_sem,seval];apply d;apply z8 rfl <;> intro hb11
  ·
   (have hki:s<M.length:=by simpa using hb11);obtain ⟨x,hxm⟩:∃x,M[s]?=some x:=⟨_,za hki⟩;obtain ⟨ci,hci⟩:∃z,c[s]?=some z:=⟨_,za tz1⟩;have hw1:IntKind.i64.wrap ((s:Int)+1)=(s:Int)+1:=zal tz1 tz1;apply zaa;apply g;refine z6 fun _ g=>?_;apply zac;refine sqR fun _ d=>?_;simp only[↓bO,go_sem,seval,hki];apply d;apply zac;refine zai (σ:=Nat) (mB 70 26) (fun v=>v<=s/\NoCl M c s v) (fun v=>[(4,.v (.int .i64 (v:Int)))]) (fun v=>[]) (fun v=>s-v) 0 (⟨Nat.zero_le _,hs.2⟩) ?_ (fun v hv=>?_)
   ·
    simp only[go_sem,seval];exact zaL
   simp only[go_sem,seval];refine z6 fun _ d=>?_;refine sqR fun _ a=>?_;(iterate 2 (refine chS 1 ?_));simp only[↓bO,go_sem,seval];apply a;apply z8 rfl <;> intro hb16
   ·
    (have hkk:v<s:=by simpa using hb16);(have hkM:v<M.length:=by omega);obtain ⟨y,hym⟩:∃y,M[v]?=some y:=⟨_,za hkM⟩;obtain ⟨ck,hck⟩:∃z,c[v]?=some z:=⟨_,za tz1⟩;have hw2:IntKind.i64.wrap ((v:Int)+1)=(v:Int)+1:=zal tz1 tz1;apply zaa;apply d;refine z6 fun _ d=>?_;apply zac;refine zaQ (mB 70 122) ([(5,.eptr x.cells),(6,.eptr y.cells)]) [(0,.cells 70 [.sl 4 (M.map RNode.cells),.sl 1 (c.map intC)])] 1 (True) ?_ (fun hC=>?_)
    ·
     refine zha 14 rfl mixed ?_;dsimp only;refine tkH 0 rfl fun _ u=>?_;simp only[↓bO,go_sem,seval,zcJ,zia,hkk];apply u;clear u;refine tkH 1 rfl fun _ u=>?_;simp only[↓bO,go_sem,seval,zcJ,zia];apply u;clear u;refine tkH 2 rfl fun _ u=>?_;simp only[↓bO,go_sem,seval,zcJ];apply u;clear u;refine tkH 3 rfl fun _ u=>?_;simp only[↓bO,go_sem,seval,zcJ,zkR,hki,gM hxm,RNode.cells];apply u;clear u;refine tkH 4 rfl fun _ u=>?_;simp only[↓bO,go_sem,seval,zcJ,zia];apply u;clear u;refine tkH 5 rfl fun _ u=>?_;simp only[↓bO,go_sem,seval,zcJ,zia];apply u;clear u;refine tkH 6 rfl fun _ u=>?_;simp only[↓bO,go_sem,seval,zcJ,zia];apply u;clear u;refine tkH 7 rfl fun _ u=>?_;simp only[↓bO,go_sem,seval,zcJ];apply u;clear u;refine tkH 8 rfl fun _ u=>?_;simp only[↓bO,go_sem,seval,zcJ,zkR,RNode.cells,hkM,gM hym];apply u;clear u;refine tkH 9 rfl fun _ u=>?_;simp only[↓bO,go_sem,seval,zcJ,zia];apply u;clear u;refine ziW ?_;refine ziB (i:=10) (j:=11) tz0 ?_ ?_
     ·
      refine zb8 rfl rfl rfl rfl tz4 tz3 fun _ u=>?_;simp only[↓bO,go_sem,seval];apply u;clear u;refine zbn (i:=11) tz0 ?_;refine zb8 rfl rfl rfl rfl tz4 tz3 fun _ u=>?_;simp only[↓bO,go_sem,seval];apply u;clear u;refine zbn (i:=12) tz0 ?_;refine zca rfl rfl rfl rfl tz3 rfl fun _ u=>?_;simp only[↓bO,go_sem,seval];apply u;clear u;refine zbn (i:=13) tz0 ?_;refine zca rfl rfl rfl rfl tz3 rfl fun _ u=>?_;simp only[↓bO,go_sem,seval];apply u;clear u;refine zep tz0 ?_;simp only[go_sem];(try simp only[go_sem,seval]);(first | refine ⟨trivial,?_⟩ | skip);refine Weak.freeze ?_ ⟨rfl,trivial⟩ tz2 tz2 ?_ ⟨by omega,⟨Und.data (RNode.dataSl _),Und.data (zap _),trivial⟩,trivial⟩;(· exact zjz);exact clz8
     refine zb8 rfl rfl rfl rfl tz4 tz3 fun _ u=>?_;simp only[↓bO,go_sem,seval];apply u;clear u;refine zbn (i:=10) tz0 ?_;refine zb8 rfl rfl rfl rfl tz4 tz3 fun _ u=>?_;simp only[↓bO,go_sem,seval];apply u;clear u;refine zbn (i:=12) tz0 ?_;refine zca rfl rfl rfl rfl tz3 rfl fun _ u=>?_;simp only[↓bO,go_sem,seval];apply u;clear u;refine zbn (i:=13) tz0 ?_;refine zca rfl rfl rfl rfl tz3 rfl fun _ u=>?_;simp only[↓bO,go_sem,seval];apply u;clear u;refine zep tz0 ?_;simp only[go_sem];(try simp only[go_sem,seval]);(first | refine ⟨trivial,?_⟩ | skip);refine Weak.freeze ?_ ⟨rfl,trivial⟩ tz2 tz2 ?_ ⟨by omega,⟨Und.data (RNode.dataSl _),Und.data (zap _),trivial⟩,trivial⟩;(· exact zjz);exact clz8
    simp only[go_sem,seval];refine z6 fun _ a=>?_;refine zay 41 mixed tz0 fun J0 j0=>?_;(iterate 12 (simp only[go_sem];refine zae 1 fun _ u=>?_;simp only[↓zaA,↓dOp,↓bO,go_sem,seval,hki,hcl,gM hci,RNode.cells,intC,hkM,gM hck];apply u;clear u));simp only[go_sem];refine za5 40 rfl (fun hc40=>?_) (fun hc40=>?_)
    ·
     simp only[go_sem];(have hcc:ci=ck:=by simpa using hc40);(iterate 6 (refine zae 1 fun _ u=>?_;simp only[↓zaA,↓dOp,↓bO,go_sem,seval];apply u;clear u));refine za5 46 rfl (fun hc46=>?_) (fun hc46=>?_)
     ·
      simp only[go_sem];(have hk1:x.t.k≠1:=by simpa using hc46);(iterate 6 (refine zae 1 fun _ u=>?_;simp only[↓zaA,↓dOp,↓bO,go_sem,seval];apply u;clear u));refine za5 52 rfl (fun hc52=>?_) (fun hc52=>?_)
      ·
       simp only[go_sem];(have hk2:y.t.k≠1:=by simpa using hc52);(iterate 8 (refine zae 1 fun _ u=>?_;simp only[↓zaA,↓dOp,↓bO,go_sem,seval];apply u;clear u));refine za5 60 rfl (fun hc60=>?_) (fun hc60=>?_)
       ·
        simp only[go_sem];(have hkn:¬x.t.k=y.t.k:=by simpa using hc60);have hca:ClashAt (shR M) s v:=(zcy hxm hym).2 ⟨hk1,hk2,.inl hkn⟩;refine zbN 7 tz0 ?_;simp only[uN,bL,bS,bA];refine zae 1 fun _ u=>?_;simp only[↓zaA,↓dOp,↓bO,go_sem,seval];apply u;clear u;simp only[↓zaA,↓dOp,↓bO,go_sem,seval];refine j0 _ ?_;clear j0 J0;simp only[bL,aops,zao,zaj,zaf];apply a;refine z8 (b:=true) (by first | exact rfl | exact congrArg (fun b=>AV.v (.bool b)) hb69) (fun _=>?_) (fun h=>(by cases h));refine sqD ?_;apply zab;(try simp only[go_sem]);rw[clB_of hki hkk (by rw[hci,hck,hcc]) hca];exact Le.refl _
       simp only[go_sem];(have hke:x.t.k=y.t.k:=by simpa using hc60);(iterate 8 (refine zae 1 fun _ u=>?_;simp only[↓zaA,↓dOp,↓bO,go_sem,seval];apply u;clear u));simp only[↓zaA,↓dOp,↓bO,go_sem,seval];refine j0 _ ?_;clear j0 J0;simp only[bL,aops,zao,zaj,zaf];apply a;apply z8 rfl <;> intro hb69
       ·
        (have hln2:¬x.parts.length=y.parts.length:=by (have h9:=hb69;simp at h9;omega));have hca:ClashAt (shR M) s v:=(zcy hxm hym).2 ⟨hk1,hk2,.inr hln2⟩;refine sqD ?_;apply zab;(try simp only[go_sem]);rw[clB_of hki hkk (by rw[hci,hck,hcc]) hca];exact Le.refl _
       (have hln2:x.parts.length=y.parts.length:=by (have h9:=hb69;simp at h9;omega));(have hno:c[s]?=c[v]?->¬ClashAt (shR M) s v:=by rw[zcy hxm hym];exact fun _ h=>h.2.2.elim (fun e=>e hke) (fun e=>e hln2));apply zaa;apply d;apply z7;(iterate 2 (refine chS 1 ?_ (by intro _ q;simp only[↓bO,go_sem,seval,hw2];exact q)));simp only[↓bO,go_sem,seval];refine ⟨(v+1),⟨by omega,hv.2.next hno⟩,by omega,?_⟩;simp only[zar,zas,zah,zam,mB,seval,zj,zh,zn];refine Weak.sub ?_ ⟨rfl,trivial⟩ tz2 tz2 ?_ ?_;(· simp only[go_sem,Le.refl,Le.any]);(· exact clz8);exact ⟨by omega,⟨Und.data (RNode.dataSl _),Und.data (zap _),trivial⟩,trivial⟩
      simp only[go_sem];(have hk2:y.t.k=1:=by simpa using hc52);(have hno:c[s]?=c[v]?->¬ClashAt (shR M) s v:=by rw[zcy hxm hym];exact fun _ h=>h.2.1 hk2);refine zbN 16 tz0 ?_;simp only[uN,bL,bS,bA];simp only[↓zaA,↓dOp,↓bO,go_sem,seval];refine j0 _ ?_;clear j0 J0;simp only[bL,aops,zao,zaj,zaf];apply a;refine z8 (b:=false) (by first | exact rfl | exact congrArg (fun b=>AV.v (.bool b)) hb69) (fun h=>(by cases h)) (fun _=>?_);apply zaa;apply d;apply z7;(iterate 2 (refine chS 1 ?_ (by intro _ q;simp only[↓bO,go_sem,seval,hw2];exact q)));simp only[↓bO,go_sem,seval];refine ⟨(v+1),⟨by omega,hv.2.next hno⟩,by omega,?_⟩;simp only[zar,zas,zah,zam,mB,seval,zj,zh,zn];refine Weak.sub ?_ ⟨rfl,trivial⟩ tz2 tz2 ?_ ?_;(· simp only[go_sem,Le.refl,Le.any]);(· exact clz8);exact ⟨by omega,⟨Und.data (RNode.dataSl _),Und.data (zap _),trivial⟩,trivial⟩
     simp only[go_sem];(have hk1:x.t.k=1:=by simpa using hc46);(have hno:c[s]?=c[v]?->¬ClashAt (shR M) s v:=by rw[zcy hxm hym];exact fun _ h=>h.1 hk1);refine zbN 4 tz0 ?_;simp only[uN,bL,bS,bA];(iterate 2 (refine zae 1 fun _ u=>?_;simp only[↓zaA,↓dOp,↓bO,go_sem,seval];apply u;clear u));refine zbN 16 tz0 ?_;simp only[uN,bL,bS,bA];simp only[↓zaA,↓dOp,↓bO,go_sem,seval];refine j0 _ ?_;clear j0 J0;simp only[bL,aops,zao,zaj,zaf];apply a;refine z8 (b:=false) (by first | exact rfl | exact congrArg (fun b=>AV.v (.bool b)) hb69) (fun h=>(by cases h)) (fun _=>?_);apply zaa;apply d;apply z7;(iterate 2 (refine chS 1 ?_ (by intro _ q;simp only[↓bO,go_sem,seval,hw2];exact q)));simp only[↓bO,go_sem,seval];refine ⟨(v+1),⟨by omega,hv.2.next hno⟩,by omega,?_⟩;simp only[zar,zas,zah,zam,mB,seval,zj,zh,zn];refine Weak.sub ?_ ⟨rfl,trivial⟩ tz2 tz2 ?_ ?_;(· simp only[go_sem,Le.refl,Le.any]);(· exact clz8);exact ⟨by omega,⟨Und.data (RNode.dataSl _),Und.data (zap _),trivial⟩,trivial⟩
    simp only[go_sem];(have hnc:¬ci=ck:=by simpa using hc40);(have hno:c[s]?=c[v]?->¬ClashAt (shR M) s v:=by rw[hci,hck];exact fun e=>absurd (Option.some.inj e) hnc);refine zbN 4 tz0 ?_;simp only[uN,bL,bS,bA];(iterate 2 (refine zae 1 fun _ u=>?_;simp only[↓zaA,↓dOp,↓bO,go_sem,seval];apply u;clear u));refine zbN 4 tz0 ?_;simp only[uN,bL,bS,bA];(iterate 2 (refine zae 1 fun _ u=>?_;simp only[↓zaA,↓dOp,↓bO,go_sem,seval];apply u;clear u));refine zbN 16 tz0 ?_;simp only[uN,bL,bS,bA];simp only[↓zaA,↓dOp,↓bO,go_sem,seval];refine j0 _ ?_;clear j0 J0;simp only[bL,aops,zao,zaj,zaf];apply a;refine z8 (b:=false) (by first | exact rfl | exact congrArg (fun b=>AV.v (.bool b)) hb69) (fun h=>(by cases h)) (fun _=>?_);apply zaa;apply d;apply z7;(iterate 2 (refine chS 1 ?_ (by intro _ q;simp only[↓bO,go_sem,seval,hw2];exact q)));simp only[↓bO,go_sem,seval];refine ⟨(v+1),⟨by omega,hv.2.next hno⟩,by omega,?_⟩;simp only[zar,zas,zah,zam,mB,seval,zj,zh,zn];refine Weak.sub ?_ ⟨rfl,trivial⟩ tz2 tz2 ?_ ?_;(· simp only[go_sem,Le.refl,Le.any]);(· exact clz8);exact ⟨by omega,⟨Und.data (RNode.dataSl _),Und.data (zap _),trivial⟩,trivial⟩
   (have hkv:v=s:=by have h9:=hb16;simp at h9;have:=hv.1;omega);apply zak;simp only[zao,zaj,zaf,bA,Nat.reduceEqDiff,↓reduceIte];apply g;apply z7;(iterate 2 (refine chS 1 ?_ (by intro _ q;simp only[↓bO,go_sem,seval,hw1];exact q)));simp only[↓bO,go_sem,seval];refine ⟨(s+1),⟨by omega,(hkv▸hv.2).row⟩,by omega,?_⟩;simp only[zar,zas,zah,zam,mB,seval,zj,zh,zn];exact zaL
  (have hks:s=M.length:=by have h9:=hb11;simp at h9;have:=hs.1;omega);apply zak;simp only[zao,zaj,zaf,bA,Nat.reduceEqDiff,↓reduceIte];apply w;refine sqD ?_;apply zab;(try simp only[go_sem]);rw[(hks▸hs.2:NoCl M c M.length 0).all];exact Le.refl _
theorem zj8 {P:Nat->Bool} {s:Nat} (h:∀j,j<s->P j=false) (hs:P s=false):∀j,j<s+1->P j=false:=fun j hj=>by
 (rcases zG j s with h1 | h1);(·exact h j h1);(have:j=s:=by omega);exact this▸hs
theorem zl6 (M:List RNode) (c:List Int) (i:Nat) (hi:i<M.length) (hcl:c.length=M.length) (hMl:M.length<=1048576):APure Tryz.prog 115 [.agg [.sl 4 (M.map RNode.cells),.sl 1 (c.map intC)],.v (.int .i64 (i:Int))] (.v (.int .i64 (zbh M c i))):=by
  refine APure.mkL (.cons (RNode.oneData M c) (.cons (.v _) .nil)) (.v _) ?_;refine aIn Tryz.func115 fun hm=>?_;simp only[Tryz.ntmps115,Tryz.results115,go_sem,seval];obtain ⟨z,hzc⟩:∃z,c[i]?=some z:=⟨_,za tz1⟩;refine sqR fun _ w=>?_;refine chS 1 ?_;simp only[↓bO,go_sem,seval];apply w;refine z6 fun _ w=>?_;refine sqD ?_;apply zac;refine zai (σ:=Nat) (mB 35 38) (fun s=>s<=M.length/\∀j,j<s->zaX M c i j=false) (fun s=>[(5,.v (.int .i64 (s:Int)))]) (fun s=>[]) (fun s=>M.length-s) 0 (⟨Nat.zero_le _,fun j hj=>by omega⟩) ?_ (fun s hs=>?_)
  ·
   simp only[go_sem,seval];exact zaL
  simp only[go_sem,seval];refine z6 fun _ g=>?_;refine sqR fun _ d=>?_;(iterate 4 (refine chS 1 ?_));simp only[↓bO,go_sem,seval];apply d;apply z8 rfl <;> intro hb10
  ·
   (have hki:s<M.length:=by simpa using hb10);obtain ⟨x,hxm⟩:∃x,M[s]?=some x:=⟨_,za hki⟩;obtain ⟨y,hyc⟩:∃z,c[s]?=some z:=⟨_,za tz1⟩;have hw1:IntKind.i64.wrap ((s:Int)+1)=(s:Int)+1:=zal tz1 tz1;have hwat:=zlh hxm hyc hzc;apply zaa;apply g;refine z6 fun _ g=>?_;apply zac;refine z6 fun _ d=>?_;refine zay 21 mixed tz0 fun J0 j0=>?_;(iterate 12 (simp only[go_sem];refine zae 1 fun _ u=>?_;simp only[↓zaA,↓dOp,↓bO,go_sem,seval,hki,hi,hcl,gM hyc,gM hzc,intC];apply u;clear u));simp only[go_sem];refine za5 24 rfl (fun hc24=>?_) (fun hc24=>?_)
   ·
    simp only[go_sem];(have hcc:y=z:=by simpa using hc24);(iterate 8 (refine zae 1 fun _ u=>?_;simp only[↓zaA,↓dOp,↓bO,go_sem,seval,hki,gM hxm,RNode.cells];apply u;clear u));simp only[↓zaA,↓dOp,↓bO,go_sem,seval];refine j0 _ ?_;clear j0 J0;simp only[bL,aops,zao,zaj,zaf];apply d;apply z8 rfl <;> intro hb33
    ·
     (have hk1:¬x.t.k=1:=by simpa using hb33);(have hyes:zaX M c i s=true:=by rw[hwat,decide_eq_true hcc,show decide (x.t.k≠1)=true from decide_eq_true hk1];rfl);have hres:=zjc hki hyes hs.2;refine sqR fun _ d=>?_;refine chS 1 ?_;simp only[↓bO,go_sem,seval];apply d;apply zab;(try simp only[go_sem]);rw[hres];exact Le.refl _
    (have hk1:x.t.k=1:=by simpa using hb33);(have hno:zaX M c i s=false:=by rw[hwat,show decide (x.t.k≠1)=false from decide_eq_false (fun h=>h hk1),Bool.and_false]);apply zaa;apply g;apply z7;(iterate 2 (refine chS 1 ?_ (by intro _ q;simp only[↓bO,go_sem,seval,hw1];exact q)));simp only[↓bO,go_sem,seval];refine ⟨(s+1),⟨by omega,zj8 hs.2 hno⟩,by omega,?_⟩;simp only[zar,zas,zah,zam,mB,seval,zj,zh,zn];exact zaL
   simp only[go_sem];(have hnc:¬y=z:=by simpa using hc24);(have hno:zaX M c i s=false:=by rw[hwat,decide_eq_false hnc,Bool.false_and]);(iterate 8 (refine zae 1 fun _ u=>?_;simp only[↓zaA,↓dOp,↓bO,go_sem,seval];apply u;clear u));simp only[↓zaA,↓dOp,↓bO,go_sem,seval];refine j0 _ ?_;clear j0 J0;simp only[bL,aops,zao,zaj,zaf];apply d;refine z8 (b:=false) (by first | exact rfl | exact congrArg (fun b=>AV.v (.bool b)) hb33) (fun h=>(by cases h)) (fun _=>?_);apply zaa;apply g;apply z7;(iterate 2 (refine chS 1 ?_ (by intro _ q;simp only[↓bO,go_sem,seval,hw1];exact q)));simp only[↓bO,go_sem,seval];refine ⟨(s+1),⟨by omega,zj8 hs.2 hno⟩,by omega,?_⟩;simp only[zar,zas,zah,zam,mB,seval,zj,zh,zn];exact zaL
  (have hks:s=M.length:=by have h9:=hb10;simp at h9;have:=hs.1;omega);have hres:=wholeI_no (m:=M) (c:=c) (i:=i) (hks▸hs.2);apply zak;simp only[zao,zaj,zaf,bA,Nat.reduceEqDiff,↓reduceIte];apply w;refine sqD ?_;apply zab;(try simp only[go_sem]);rw[hres];exact Le.refl _
end Go.Proofs.YtpfiliamceimmaaGreatDoor
