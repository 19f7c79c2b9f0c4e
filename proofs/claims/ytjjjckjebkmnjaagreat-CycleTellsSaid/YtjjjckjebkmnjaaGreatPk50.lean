/- Texts of the abstract walk, of the contracts and of the plain laws, packed (part 50 of 50): CyR UcS CyQ Ctells. Conditions: none. -/
import Derived.Test.YtjjjckjebkmnjaaGreatPk49
import Derived.Test.YtjjjckjebkmnjaaGreatRows
import Derived.OpenShut
import Derived.ChangeOld
import Derived.Below
namespace Go.Proofs.YtjjjckjebkmnjaaGreat
open Go Go.RowKit
set_option maxRecDepth 100000
set_option maxHeartbeats 4000000
set_option linter.unusedSimpArgs false
set_option linter.unusedVariables false
attribute [local irreducible] aops zaT
theorem zfU {L:List Int} {k:Nat} {x y:Int} (hy:L[k]?=some y):decide (x∈L.take (k+1))=(decide (x∈L.take k)||(y==x)):=by
  rw[List.take_add_one,hy,zM,Bool.or_eq_true,zn,zn,beq_iff_eq];simp only[Option.toList_some,zQ,List.mem_singleton];exact ⟨fun h=>h.imp id Eq.symm,fun h=>h.imp id Eq.symm⟩
theorem Tl.bounds {K:Nat→List Nat} {u:Nat} {a:Int×Int} (h:Tl K u a):1≤a.1∧1≤a.2∧a.2≤za5:=by
  induction h with
  | mk u f _ ih =>
    have key:∀(ch:List Nat) (b:Int×Int),0≤b.1→1≤b.2→b.2≤za5→(∀v∈ch,1≤(f v).2)→0≤(ch.foldl (fun a p=>(max a.1 (f p).1,min za5 (a.2+(f p).2))) b).1∧1≤(ch.foldl (fun a p=>(max a.1 (f p).1,min za5 (a.2+(f p).2))) b).2∧(ch.foldl (fun a p=>(max a.1 (f p).1,min za5 (a.2+(f p).2))) b).2≤za5:=by
      intro ch
      induction ch with
      | nil=>exact fun b h1 h2 h3 _=>⟨h1,h2,h3⟩
      | cons p ch ihc =>
        intro b h1 h2 h3 h4;have:=h4 p (by simp);(refine ihc _ ?_ ?_ ?_ fun v hv=>h4 v (by simp[hv]));(· simp only;omega);(· simp only[za5] at *;omega);· simp only[za5] at *;omega
    (have:=key (K u) (0,1) (by simp) (by simp) (by simp[za5]) fun v hv=>(ih v hv).2.1);unfold zep;(simp only at this ⊢);omega
theorem zf4 (f:Nat→Int×Int):∀(ch:List Nat) (b:Int×Int),b.1≤(ch.foldl (fun a p=>(max a.1 (f p).1,min za5 (a.2+(f p).2))) b).1∧∀v∈ch,(f v).1≤(ch.foldl (fun a p=>(max a.1 (f p).1,min za5 (a.2+(f p).2))) b).1
  | [],b=>⟨Int.le_refl _,fun v hv=>by cases hv⟩
  | p::ch,b=>by
    obtain ⟨h1,h2⟩:=zf4 f ch (max b.1 (f p).1,min za5 (b.2+(f p).2));(simp only at h1);refine ⟨?_,fun v hv=>?_⟩;· rw[List.foldl_cons];exact Int.le_trans (by omega) h1
    · rw[List.foldl_cons]
      (rcases zV.1 hv with rfl | hv);(· exact Int.le_trans (by omega) h1);· exact h2 v hv
theorem tell_lt {f:Nat→Int×Int} {ch:List Nat} {v:Nat} (hv:v∈ch):(f v).1<(zep f ch).1:=by
  have:=(zf4 f ch (0,1)).2 v hv;unfold zep;simp only;omega
def zcj (f:Nat→Int×Int) (ch:List Nat):Int×Int:=ch.foldl (fun a p=>(max a.1 (f p).1,min za5 (a.2+(f p).2))) ((0,1):Int×Int)
theorem zik {f:Nat→Int×Int} {ch:List Nat} {s v:Nat} (h:ch[s]?=some v):zcj f (ch.take (s+1))=(max (zcj f (ch.take s)).1 (f v).1,min za5 ((zcj f (ch.take s)).2+(f v).2)):=by
  rw[List.take_add_one,h,zcj,List.foldl_append];rfl
theorem zeh {f:Nat→Int×Int}:∀{ch:List Nat} {B:Int},0≤B→(∀v∈ch,(f v).1≤B∧1≤(f v).2)→0≤(zcj f ch).1∧(zcj f ch).1≤B∧1≤(zcj f ch).2∧(zcj f ch).2≤za5:=by
  intro ch B hB h
  have key:∀(ch:List Nat) (b:Int×Int),0≤b.1→b.1≤B→1≤b.2→b.2≤za5→(∀v∈ch,(f v).1≤B∧1≤(f v).2)→0≤(ch.foldl (fun a p=>(max a.1 (f p).1,min za5 (a.2+(f p).2))) b).1∧(ch.foldl (fun a p=>(max a.1 (f p).1,min za5 (a.2+(f p).2))) b).1≤B∧1≤(ch.foldl (fun a p=>(max a.1 (f p).1,min za5 (a.2+(f p).2))) b).2∧(ch.foldl (fun a p=>(max a.1 (f p).1,min za5 (a.2+(f p).2))) b).2≤za5:=by
    intro ch
    induction ch with
    | nil=>exact fun b h1 h2 h3 h4 _=>⟨h1,h2,h3,h4⟩
    | cons p ch ihc =>
      intro b h1 h2 h3 h4 h5;have:=h5 p (by simp);(refine ihc _ ?_ ?_ ?_ ?_ fun v hv=>h5 v (by simp[hv]));(· simp only;omega);(· simp only;omega);(· simp only[za5] at *;omega);· simp only[za5] at *;omega
  exact key ch (0,1) (by simp) (by simpa using hB) (by simp) (by simp[za5]) h
theorem Tl.deepA {K:Nat→List Nat} {N:Nat} (hlt:∀i,i<N→∀j∈K i,j<N) (hno:∀y,y<N→¬Pls K y y) {i:Nat} {a:Int×Int} (h:Tl K i a):∀anc:List Nat,anc.Nodup→(∀x∈anc,x<N)→i<N→(∀x∈anc,Pls K x i)→a.1+(anc.length:Int)≤(N:Int):=by
  induction h with
  | mk u f hf ih =>
    intro anc hd ha hi hp;(have hia:u∉anc:=fun hm=>hno u hi (hp u hm));have hd':(u::anc).Nodup:=List.nodup_cons.2 ⟨hia,hd⟩
    have ha':∀x∈u::anc,x<N:=fun x hx=>by
      (rcases zV.1 hx with rfl | hx);(· exact hi);· exact ha x hx
    have hle:=zcR hd' ha';rw[zh] at hle
    have hb:=zeh (f:=f) (ch:=K u) (B:=(N:Int)-anc.length-1) (by omega) fun v hv=>by
      have h1:=ih v hv (u::anc) hd' ha' (hlt u hi v hv) fun x hx=>by
        (rcases zV.1 hx with rfl | hx);(· exact ⟨v,hv,.refl _⟩);· exact (hp x hx).next hv
      rw[zh] at h1;exact ⟨by omega,(hf v hv).bounds.2.1⟩
    have e:zep f (K u)=((zcj f (K u)).1+1,(zcj f (K u)).2):=rfl;rw[e];(simp only);omega
theorem Tl.deep {K:Nat→List Nat} {N:Nat} (hlt:∀i,i<N→∀j∈K i,j<N) (hno:∀y,y<N→¬Pls K y y) {i:Nat} {a:Int×Int} (h:Tl K i a) (hi:i<N):a.1≤(N:Int):=by
  have:=h.deepA hlt hno [] (by simp) (by simp) hi (by simp);simpa using this
theorem zdC (M:List RNode) (c:List Int) (i:Nat) (hi:i<M.length) (hN:zhv M c) (hMl:M.length≤1048576):APure Tryz.prog 40 [.agg [.sl 4 (M.map RNode.cells),.sl 1 (c.map intC)],.v (.int .i64 (i:Int))] (.sl 1 ((zbL M c i).map intC)):=by
  refine APure.mkL (.cons (RNode.oneData M c) (.cons (.v _) .nil)) (zaM _) ?_;refine zai Tryz.func40 (by kernel_rfl) rfl (by rw[Tryz.ntmps40];simp) (fun hm=>?_);simp only[Tryz.ntmps40,Tryz.results40,zh,zk,Nat.reduceAdd,Nat.reduceSub,zw,zu,zi,zj];refine zab fun Y0 y0=>?_;refine zaa ?_;refine z8 1 fun Q0 q0=>?_;simp only[↓bO,go_sem,seval];refine q0 _ ?_;clear q0 Q0;simp only[go_sem];simp only[↓bO,go_sem,seval];refine y0 _ ?_;(try clear y0 Y0);refine zab fun Y0 y0=>?_;refine zaa ?_;(iterate 2 (refine z8 1 fun Q0 q0=>?_;simp only[↓bO,go_sem,seval];refine q0 _ ?_;clear q0 Q0;simp only[go_sem]));refine z8 1 fun Q0 q0=>?_;simp only[↓bO,go_sem,seval];refine APure.call (zii M c i hi hN.1 hMl) ?_;(try simp only[bS,bA,zaf,zad,zac]);refine q0 _ ?_;clear q0 Q0;simp only[go_sem];simp only[↓bO,go_sem,seval];refine y0 _ ?_;(try clear y0 Y0);refine zab fun Y0 y0=>?_;refine zab fun Y1 y1=>?_;refine zaa ?_;refine z8 1 fun Q0 q0=>?_;simp only[↓bO,go_sem,seval];refine q0 _ ?_;clear q0 Q0;simp only[go_sem];simp only[↓bO,go_sem,seval];refine y1 _ ?_;(try clear y1 Y1);refine zak rfl (fun hb10=>?_) (fun hb10=>?_)
  ·
   (have hw0:zbq M c i<0:=by simpa using hb10);have hres:=zfy hw0;refine zab fun Y1 y1=>?_;refine zaa ?_;simp only[↓bO,go_sem,seval];refine y1 _ ?_;(try clear y1 Y1);refine zan ?_;(try simp only[zaf,zad,zac,zaY,zaX,zaC,bS,bA]);rw[hres];exact Le.slNil 1
  ·
   (have hw0:¬zbq M c i<0:=by simpa using hb10);(obtain ⟨k,hk1,hk2,hk3⟩:∃k:Nat,zbq M c i=(k:Int)∧k<M.length∧zbh M c i k=true:=by (rcases zcm M c i with h9 | h9;exact absurd h9.1 (by omega);exact h9));obtain ⟨x,hxm⟩:∃x,M[k]?=some x:=⟨_,ze hk2⟩;have hres:zbL M c i=x.parts:=zfJ hk1 hxm;refine zar ?_;(try simp only[zaf,zad,zac]);refine y0 _ ?_;(try clear y0 Y0);refine zab fun Y0 y0=>?_;refine zaa ?_;(iterate 6 (refine z8 1 fun Q0 q0=>?_;simp only[↓bO,go_sem,seval,hk1,hk2,gM hxm,RNode.cells];refine q0 _ ?_;clear q0 Q0;simp only[go_sem]));simp only[↓bO,go_sem,seval,hk1,hk2,gM hxm,RNode.cells];refine y0 _ ?_;(try clear y0 Y0);refine zan ?_;(try simp only[zaf,zad,zac,zaY,zaX,zaC,bS,bA]);rw[hres];exact Le.refl _
theorem Comes_c (M:List RNode) (c:List Int) (i:Nat) (hi:i<M.length) (hN:zhv M c) (hMl:M.length≤1048576):ACalls Tryz.prog 17 [.agg [.sl 4 (M.map RNode.cells),.sl 1 (c.map intC)],.v (.int .i64 (i:Int))] [] 0 fun r os n=>(∃L,ComesR M c i L∧r=.sl 1 (L.map intC)∧os=[])∧n=0:=by
  refine ACalls.clean (C:=fun r os=>∃L,ComesR M c i L∧r=.sl 1 (L.map intC)∧os=[]) ?_;refine zai Tryz.func17 (by kernel_rfl) rfl (by rw[Tryz.ntmps17];simp) (fun hm=>?_);simp only[Tryz.ntmps17,Tryz.results17,zh,zk,Nat.reduceAdd,Nat.reduceSub,zw,zu,zi,zj];refine zdv (mB 65 6) ([(2,.eptr [.sl 4 (M.map RNode.cells),.sl 1 (c.map intC)])]) [] 1 (True) ?_ (fun hC9=>?_)
  ·
   refine zaa ?_;refine z8 1 fun Q0 q0=>?_;simp only[↓bO,go_sem,seval];refine q0 _ ?_;clear q0 Q0;simp only[go_sem];simp only[↓bO,go_sem,seval];(try simp only[zau,zav,zam,zay,mB,zc,zb,seval]);(first | refine ⟨trivial,?_⟩ | skip);refine Weak.freeze ?_ trivial (by first | omega | (simp only;omega)) (by first | omega | (simp only;omega)) ?_ ?_;(· exact clz5);(· repeat' first | exact trivial | exact .any _ | exact .ptr (by omega) | exact .v _ _ | exact Und.data (RNode.dataSl _) | exact Und.data (zaM _) | exact Und.data (.eptr (.cons (RNode.dataSl _) (.cons (zaM _) .nil))) | (refine ⟨?_,?_⟩));· exact trivial
  simp only[zau,zav,zam,zay,mB,zc,zb,seval];refine zab fun Y0 y0=>?_;refine zaa ?_;simp only[↓bO,go_sem,seval];refine y0 _ ?_;(try clear y0 Y0);refine zab fun Y0 y0=>?_;refine zaa ?_;(iterate 2 (refine z8 1 fun Q0 q0=>?_;simp only[↓bO,go_sem,seval];refine q0 _ ?_;clear q0 Q0;simp only[go_sem]));refine z8 1 fun Q0 q0=>?_;simp only[↓bO,go_sem,seval];refine APure.call (zdC M c i hi hN hMl) ?_;(try simp only[bS,bA,zaf,zad,zac]);refine q0 _ ?_;clear q0 Q0;simp only[go_sem];simp only[↓bO,go_sem,seval];refine y0 _ ?_;(try clear y0 Y0);refine zab fun Y0 y0=>?_;refine zab fun Y1 y1=>?_;refine zaa ?_;simp only[↓bO,go_sem,seval];refine y1 _ ?_;(try clear y1 Y1);refine zao ?_;refine zbd (Weak.tokSlot 5 3 1 rfl) ?_;simp only[zc,zb];refine zaH (σ:=List Int×List Int×Nat) (mB 65 228) (fun s=>CoI M c i s.1 s.2.1 s.2.2) (fun s=>[(5,.osl 1 1 (s.1.map intC)),(6,.sl 1 (s.2.1.map intC)),(7,.v (.int .i64 (s.2.2:Int)))]) (fun s=>[(1,.tok 3 1 s.1.length)]) (fun s=>8 * (M.length+1)-s.2.2) ([],zbL M c i,0) (CoI.start hN i) ?_ (fun s hs=>?_)
  ·
   simp only[zau,zav,zam,zay,mB,zc,zb,seval,bL];exact zbi
  simp only[zau,zav,zam,zay,mB,zc,zb,seval];refine zab fun Y1 y1=>?_;refine zab fun Y2 y2=>?_;refine zaa ?_;(iterate 3 (refine z8 1 fun Q0 q0=>?_;simp only[↓bO,go_sem,seval];refine q0 _ ?_;clear q0 Q0;simp only[go_sem]));simp only[↓bO,go_sem,seval];refine y2 _ ?_;(try clear y2 Y2);refine zak rfl (fun hb16=>?_) (fun hb16=>?_)
  ·
   (have hk:s.2.2<s.2.1.length:=by simpa using hb16);obtain ⟨q0,hq0⟩:∃q,s.2.1[s.2.2]?=some q:=⟨_,ze hk⟩;have hqm:=hs.nxt q0 (zp hq0);obtain ⟨q,rfl⟩:∃q:Nat,q0=(q:Int):=⟨q0.toNat,by omega⟩;have hq:=hq0;(have hqM:q<M.length:=by omega);have hcl:=hN.1;obtain ⟨x,hcx0⟩:∃x,c[q]?=some x:=⟨_,ze (by omega)⟩;(have hcx:c[(q:Int).toNat]?=some x:=by rw[Int.toNat_natCast];exact hcx0);have hbd:=hs.bound hN;have hou:=hs.outs hN;have hnl:=(hN.2 q).1;have hw1:IntKind.i64.wrap ((s.2.2:Int)+1)=(s.2.2:Int)+1:=zaN (by omega) (by omega);(have hqc:q<c.length:=by omega);refine zar ?_;(try simp only[zaf,zad,zac]);refine y1 _ ?_;(try clear y1 Y1);refine zab fun Y1 y1=>?_;refine zao ?_;refine zab fun Y2 y2=>?_;refine zaa ?_;simp only[↓bO,go_sem,seval,hk,hqc,gM hq,gM hcx0,hw1,RNode.cells,za,intC];refine y2 _ ?_;(try clear y2 Y2);refine zab fun Y2 y2=>?_;refine zab fun Y3 y3=>?_;refine zaa ?_;simp only[↓bO,go_sem,seval,hk,hqc,gM hq,gM hcx0,hw1,RNode.cells,za,intC];refine y3 _ ?_;(try clear y3 Y3);refine zao ?_;refine zaH (σ:=Nat) (mB 65 996) (fun k=>k≤s.1.length) (fun k=>[(8,.v (.bool (decide (x∈s.1.take k)))),(9,.v (.int .i64 (k:Int)))]) (fun k=>[(1,.tok 3 1 s.1.length)]) (fun k=>s.1.length-k) 0 (Nat.zero_le _) ?_ (fun k hk2=>?_)
   ·
    simp only[zau,zav,zam,zay,mB,zc,zb,seval,bL,List.not_mem_nil,decide_false];exact zbi
   simp only[zau,zav,zam,zay,mB,zc,zb,seval];refine zab fun Y3 y3=>?_;refine zab fun Y4 y4=>?_;refine zaa ?_;(iterate 3 (refine z8 1 fun Q0 q0=>?_;simp only[↓bO,go_sem,seval,hk,hqc,gM hq,gM hcx0,hw1,RNode.cells,za,intC];refine q0 _ ?_;clear q0 Q0;simp only[go_sem]));simp only[↓bO,go_sem,seval,hk,hqc,gM hq,gM hcx0,hw1,RNode.cells,za,intC];refine y4 _ ?_;(try clear y4 Y4);refine zak rfl (fun hb22=>?_) (fun hb22=>?_)
   ·
    (have hk1:k<s.1.length:=by simpa using hb22);obtain ⟨y,hy⟩:∃y,s.1[k]?=some y:=⟨_,ze hk1⟩;have hw2:IntKind.i64.wrap ((k:Int)+1)=(k:Int)+1:=zaN (by omega) (by omega);have htk:=zfU (x:=x) hy;refine zar ?_;(try simp only[zaf,zad,zac]);refine y3 _ ?_;(try clear y3 Y3);refine zab fun Y3 y3=>?_;refine zao ?_;refine zaV 16 mixed (by kernel_rfl) fun J0 j0=>?_;(iterate 2 (simp only[go_sem];refine zaw 1 fun Q0 q0=>?_;simp only[↓zaT,↓dOp,↓bO,go_sem,seval,hk,hqc,gM hq,gM hcx0,hw1,RNode.cells,za,intC,hk1,gM hy,hw2,htk];refine q0 _ ?_;clear q0 Q0));simp only[go_sem];refine zbo 26 rfl (fun hc26=>?_) (fun hc26=>?_)
    ·
     simp only[zc,zb];have hin:decide (x∈s.1.take k)=true:=hc26;(iterate 13 (refine zaw 1 fun Q0 q0=>?_;simp only[↓zaT,↓dOp,↓bO,go_sem,seval,hk,hqc,gM hq,gM hcx0,hw1,RNode.cells,za,intC,hk1,gM hy,hw2,htk,hin,Bool.true_or];refine q0 _ ?_;clear q0 Q0;simp only[go_sem]));simp only[↓zaT,↓dOp,↓bO,go_sem,seval,hk,hqc,gM hq,gM hcx0,hw1,RNode.cells,za,intC,hk1,gM hy,hw2,htk,hin,Bool.true_or];refine j0 _ ?_;clear j0 J0;simp only[go_sem];simp only[↓bO,go_sem,seval,hk,hqc,gM hq,gM hcx0,hw1,RNode.cells,za,intC,hk1,gM hy,hw2,htk,hin,Bool.true_or];refine y3 _ ?_;(try clear y3 Y3);refine zaa ?_;(iterate 2 (refine z8 1 fun Q0 q0=>?_;simp only[↓bO,go_sem,seval,hk,hqc,gM hq,gM hcx0,hw1,RNode.cells,za,intC,hk1,gM hy,hw2,htk,hin,Bool.true_or];refine q0 _ ?_;clear q0 Q0;simp only[go_sem]));simp only[↓bO,go_sem,seval,hk,hqc,gM hq,gM hcx0,hw1,RNode.cells,za,intC,hk1,gM hy,hw2,htk,hin,Bool.true_or];refine ⟨(k+1),(by omega),by omega,?_⟩;simp only[zau,zav,zam,zay,mB,zc,zb,seval,hk1,gM hy,hw2,htk,hin,Bool.true_or];exact zbi
    ·
     simp only[zc,zb];have hin:decide (x∈s.1.take k)=false:=hc26;(iterate 13 (refine zaw 1 fun Q0 q0=>?_;simp only[↓zaT,↓dOp,↓bO,go_sem,seval,hk,hqc,gM hq,gM hcx0,hw1,RNode.cells,za,intC,hk1,gM hy,hw2,htk,hin,Bool.false_or];refine q0 _ ?_;clear q0 Q0;simp only[go_sem]));simp only[↓zaT,↓dOp,↓bO,go_sem,seval,hk,hqc,gM hq,gM hcx0,hw1,RNode.cells,za,intC,hk1,gM hy,hw2,htk,hin,Bool.false_or];refine j0 _ ?_;clear j0 J0;simp only[go_sem];simp only[↓bO,go_sem,seval,hk,hqc,gM hq,gM hcx0,hw1,RNode.cells,za,intC,hk1,gM hy,hw2,htk,hin,Bool.false_or];refine y3 _ ?_;(try clear y3 Y3);refine zaa ?_;(iterate 2 (refine z8 1 fun Q0 q0=>?_;simp only[↓bO,go_sem,seval,hk,hqc,gM hq,gM hcx0,hw1,RNode.cells,za,intC,hk1,gM hy,hw2,htk,hin,Bool.false_or];refine q0 _ ?_;clear q0 Q0;simp only[go_sem]));simp only[↓bO,go_sem,seval,hk,hqc,gM hq,gM hcx0,hw1,RNode.cells,za,intC,hk1,gM hy,hw2,htk,hin,Bool.false_or];refine ⟨(k+1),(by omega),by omega,?_⟩;simp only[zau,zav,zam,zay,mB,zc,zb,seval,hk1,gM hy,hw2,htk,hin,Bool.false_or];exact zbi
   ·
    (have hk1:k=s.1.length:=by (have h9:=hb22;simp at h9;omega));subst hk1;refine zaJ ?_;simp only[zaf,zad,zac,bA,Nat.reduceEqDiff,↓reduceIte];refine y2 _ ?_;(try clear y2 Y2);refine zab fun Y2 y2=>?_;refine zaa ?_;refine z8 1 fun Q0 q0=>?_;simp only[↓bO,go_sem,seval,hk,hqc,gM hq,gM hcx0,hw1,RNode.cells,za,intC];refine q0 _ ?_;clear q0 Q0;simp only[go_sem];simp only[↓bO,go_sem,seval,hk,hqc,gM hq,gM hcx0,hw1,RNode.cells,za,intC];refine y2 _ ?_;(try clear y2 Y2);refine zak rfl (fun hb42=>?_) (fun hb42=>?_)
    ·
     (have hnm:x∉s.1:=by simpa using hb42);(have hb1:(s.1.length+1) * 8≤140737488355328:=by omega);(have hb2:s.1.length+1≤maxLen:=by simp only[maxLen];omega);(have hb3:s.2.1.length * 8≤140737488355328:=by omega);(have hb4:s.2.1.length≤maxLen:=by simp only[maxLen];omega);(have hb5:(s.2.1.length+(zbL M c q).length) * 8≤140737488355328:=by omega);(have hb6:s.2.1.length+(zbL M c q).length≤maxLen:=by simp only[maxLen];omega);have ha1:=zeq s.2.1;have ha2:=zeq (zbL M c q);(have hout:(s.1++[x]).map intC=s.1.map intC++[[.v (.int .i64 x)]]:=by simp[intC]);have hcat:(s.2.1++zbL M c q).map intC=s.2.1.map intC++(zbL M c q).map intC:=zt;refine zab fun Y2 y2=>?_;refine zaV 10 mixed (by kernel_rfl) fun J0 j0=>?_;(iterate 9 (simp only[go_sem];refine zaw 1 fun Q0 q0=>?_;simp only[↓zaT,↓dOp,↓bO,go_sem,seval,hk,hqc,gM hq,gM hcx0,hw1,RNode.cells,za,intC,hb1,hb2,hb3,hb4,hb5,hb6,ha1,ha2,zt,zd];refine q0 _ ?_;clear q0 Q0));simp only[go_sem];simp only[↓zaT,↓dOp,↓bO,go_sem,seval,↓zbH,↓zbC,↓zbJ,↓zbB,↓zbD,↓zbI,↓zbG,↓zbF,↓zbE,↓zba,↓zbb,↓za9,hk,hqc,gM hq,gM hcx0,hw1,RNode.cells,za,intC,hb1,hb2,hb3,hb4,hb5,hb6,ha1,ha2,zt,zd];refine j0 _ ?_;clear j0 J0;simp only[go_sem];refine z8 1 fun Q0 q0=>?_;simp only[↓bO,go_sem,seval,hk,hqc,gM hq,gM hcx0,hw1,RNode.cells,za,intC,hb1,hb2,hb3,hb4,hb5,hb6,ha1,ha2,zt,zd];refine q0 _ ?_;clear q0 Q0;simp only[go_sem];simp only[↓bO,go_sem,seval,hk,hqc,gM hq,gM hcx0,hw1,RNode.cells,za,intC,hb1,hb2,hb3,hb4,hb5,hb6,ha1,ha2,zt,zd];refine y2 _ ?_;(try clear y2 Y2);refine zin 11 [2,6] rfl mixed ?_;dsimp only;refine zch 1 rfl (by kernel_rfl) (by kernel_rfl) (by kernel_rfl) (fun _ _ h=>h) (by kernel_rfl) (fun d h=>by cases h;rfl) (by kernel_rfl) (G':=[55,2,6]) (by kernel_rfl) fun Q0 q0=>?_;simp only[↓bO,go_sem,seval,zfL,isE,zdh,isV,hk,hqc,gM hq,gM hcx0,hw1,RNode.cells,za,intC,hb1,hb2,hb3,hb4,hb5,hb6,ha1,ha2,zt,zd];refine q0 _ ?_;clear q0 Q0;refine zch 3 rfl (by kernel_rfl) (by kernel_rfl) (by kernel_rfl) (fun _ _ h=>h) (by kernel_rfl) (fun d h=>by cases h;rfl) (by kernel_rfl) (G':=[57,55,2,6]) (by kernel_rfl) fun Q0 q0=>?_;simp only[↓bO,go_sem,seval,zfL,isE,zdh,isV,hk,hqc,gM hq,gM hcx0,hw1,RNode.cells,za,intC,hb1,hb2,hb3,hb4,hb5,hb6,ha1,ha2,zt,zd];refine q0 _ ?_;clear q0 Q0;refine zch 4 rfl (by kernel_rfl) (by kernel_rfl) (by kernel_rfl) (fun _ _ h=>h) (by kernel_rfl) (fun d h=>by cases h;rfl) (by kernel_rfl) (G':=[58,57,55,2,6]) (by kernel_rfl) fun Q0 q0=>?_;simp only[↓bO,go_sem,seval,zfL,isE,zdh,isV,hk,hqc,gM hq,gM hcx0,hw1,RNode.cells,za,intC,hb1,hb2,hb3,hb4,hb5,hb6,ha1,ha2,zt,zd];refine q0 _ ?_;clear q0 Q0;refine zch 5 rfl (by kernel_rfl) (by kernel_rfl) (by kernel_rfl) (fun _ _ h=>h) (by kernel_rfl) (fun d h=>by cases h;rfl) (by kernel_rfl) (G':=[58,57,55,2,6]) (by kernel_rfl) fun Q0 q0=>?_;simp only[↓bO,go_sem,seval,zfL,isE,zdh,isV,hk,hqc,gM hq,gM hcx0,hw1,RNode.cells,za,intC,hb1,hb2,hb3,hb4,hb5,hb6,ha1,ha2,zt,zd];refine q0 _ ?_;clear q0 Q0;refine zch 6 rfl (by kernel_rfl) (by kernel_rfl) (by kernel_rfl) (fun _ _ h=>h) (by kernel_rfl) (fun d h=>by cases h;rfl) (by kernel_rfl) (G':=[60,58,57,55,2,6]) (by kernel_rfl) fun Q0 q0=>?_;simp only[↓bO,go_sem,seval,zfL,isE,zdh,isV,hk,hqc,gM hq,gM hcx0,hw1,RNode.cells,za,intC,hb1,hb2,hb3,hb4,hb5,hb6,ha1,ha2,zt,zd];refine q0 _ ?_;clear q0 Q0;refine zch 7 rfl (by kernel_rfl) (by kernel_rfl) (by kernel_rfl) (fun _ _ h=>h) (by kernel_rfl) (fun d h=>by cases h;rfl) (by kernel_rfl) (G':=[61,60,58,57,55,2,6]) (by kernel_rfl) fun Q0 q0=>?_;simp only[↓bO,go_sem,seval,zfL,isE,zdh,isV,hk,hqc,gM hq,gM hcx0,hw1,RNode.cells,za,intC,hb1,hb2,hb3,hb4,hb5,hb6,ha1,ha2,zt,zd];refine q0 _ ?_;clear q0 Q0;refine zc6 (i:=0) (by kernel_rfl) rfl (fun d h=>by cases h;rfl) ?_;refine zas rfl rfl fun Q0 q0=>?_;simp only[↓bO,go_sem,seval,↓zis,↓zir,↓ziB,↓zie,↓zig,↓zit,↓ziE,↓ziI,↓ziF,↓zfp,↓zfc,↓ze5,hk,hqc,gM hq,gM hcx0,hw1,RNode.cells,za,intC,hb1,hb2,hb3,hb4,hb5,hb6,ha1,ha2,zt,zd];refine q0 _ ⟨⟨rfl,rfl,rfl,rfl,rfl,rfl,rfl,trivial⟩,?_⟩;clear q0 Q0;refine zc6 (i:=2) (by kernel_rfl) rfl (fun d h=>by cases h;rfl) ?_;refine zas rfl rfl fun Q0 q0=>?_;simp only[↓bO,go_sem,seval,hk,hqc,gM hq,gM hcx0,hw1,RNode.cells,za,intC,hb1,hb2,hb3,hb4,hb5,hb6,ha1,ha2,zt,zd];refine q0 _ ⟨⟨rfl,rfl,rfl,rfl,rfl,rfl,rfl,trivial⟩,?_⟩;clear q0 Q0;refine zc6 (i:=8) (by kernel_rfl) rfl (fun d h=>by cases h;rfl) ?_;refine zas rfl rfl fun Q0 q0=>?_;simp only[↓bO,go_sem,seval,hk,hqc,gM hq,gM hcx0,hw1,RNode.cells,za,intC,hb1,hb2,hb3,hb4,hb5,hb6,ha1,ha2,zt,zd];refine APure.call (zdC M c q hqM hN hMl) ?_;(try simp only[bS,bA]);refine q0 _ ⟨⟨rfl,rfl,rfl,rfl,rfl,rfl,rfl,trivial⟩,?_⟩;clear q0 Q0;refine zc6 (i:=9) (by kernel_rfl) rfl (fun d h=>by cases h;rfl) ?_;refine zas rfl rfl fun Q0 q0=>?_;simp only[↓bO,go_sem,seval,hk,hqc,gM hq,gM hcx0,hw1,RNode.cells,za,intC,hb1,hb2,hb3,hb4,hb5,hb6,ha1,ha2,zt,zd]
     refine q0 _ ⟨⟨rfl,rfl,rfl,rfl,rfl,rfl,rfl,trivial⟩,?_⟩;clear q0 Q0;refine NAny_drop [61,60,58,57,55,2] (by kernel_rfl) ?_;refine zc6 (i:=10) (by kernel_rfl) rfl (fun d h=>by cases h;rfl) ?_;refine zas rfl rfl fun Q0 q0=>?_;simp only[↓bO,go_sem,seval,hk,hqc,gM hq,gM hcx0,hw1,RNode.cells,za,intC,hb1,hb2,hb3,hb4,hb5,hb6,ha1,ha2,zt,zd];refine q0 _ ⟨⟨rfl,rfl,rfl,rfl,rfl,rfl,trivial⟩,?_⟩;clear q0 Q0;refine NAny_done (by kernel_rfl) ?_;simp only[zaf,zad,zac];refine y1 _ ?_;(try clear y1 Y1);refine zaa ?_;(iterate 2 (refine z8 1 fun Q0 q0=>?_;simp only[↓bO,go_sem,seval,hk,hqc,gM hq,gM hcx0,hw1,RNode.cells,za,intC,hb1,hb2,hb3,hb4,hb5,hb6,ha1,ha2,zt,zd];refine q0 _ ?_;clear q0 Q0;simp only[go_sem]));simp only[↓bO,go_sem,seval,hk,hqc,gM hq,gM hcx0,hw1,RNode.cells,za,intC,hb1,hb2,hb3,hb4,hb5,hb6,ha1,ha2,zt,zd];refine ⟨(s.1++[x],s.2.1++zbL M c q,s.2.2+1),(by have h9:=hs.new hN hq hcx hnm;rw[Int.toNat_natCast] at h9;exact h9),(by simp only;omega),?_⟩;simp only[zau,zav,zam,zay,mB,zc,zb,seval,za,zD,zI,zd,zh,zk,zO];refine Weak.sub ?_ ⟨rfl,trivial⟩ (by first | omega | (simp only;omega)) (by first | omega | (simp only;omega)) ?_ ?_
     ·
      simp only[go_sem,Le.refl,Le.any];all_goals (first | done | (rw[hcat,hout];exact ⟨.refl _,Le.oslL⟩))
     (· repeat' first | exact trivial | exact .any _ | exact .ptr (by omega) | exact .v _ _ | exact Und.oslI (by omega) | exact Und.oslG (by omega) | exact Und.data (RNode.dataSl _) | exact Und.data (zaM _) | exact Und.data (.eptr (.cons (RNode.dataSl _) (.cons (zaM _) .nil))) | (refine ⟨?_,?_⟩));· exact ⟨by omega,trivial,trivial⟩
    ·
     (have hmem:x∈s.1:=by simpa using hb42);refine zar ?_;(try simp only[zaf,zad,zac]);refine y1 _ ?_;(try clear y1 Y1);refine zaa ?_;(iterate 2 (refine z8 1 fun Q0 q0=>?_;simp only[↓bO,go_sem,seval,hk,hqc,gM hq,gM hcx0,hw1,RNode.cells,za,intC];refine q0 _ ?_;clear q0 Q0;simp only[go_sem]));simp only[↓bO,go_sem,seval,hk,hqc,gM hq,gM hcx0,hw1,RNode.cells,za,intC];refine ⟨(s.1,s.2.1,s.2.2+1),hs.known hq hcx hmem,(by simp only;omega),?_⟩;simp only[zau,zav,zam,zay,mB,zc,zb,seval,za,zD,zI,zd,zh,zk,zO];refine Weak.sub ?_ ⟨rfl,trivial⟩ (by first | omega | (simp only;omega)) (by first | omega | (simp only;omega)) ?_ ?_
     ·
      simp only[go_sem,Le.refl,Le.any];all_goals (first | done | (rw[hcat,hout];exact ⟨.refl _,Le.oslL⟩))
     (· repeat' first | exact trivial | exact .any _ | exact .ptr (by omega) | exact .v _ _ | exact Und.oslI (by omega) | exact Und.oslG (by omega) | exact Und.data (RNode.dataSl _) | exact Und.data (zaM _) | exact Und.data (.eptr (.cons (RNode.dataSl _) (.cons (zaM _) .nil))) | (refine ⟨?_,?_⟩));· exact ⟨by omega,trivial,trivial⟩
  ·
   (have hk:s.2.1.length≤s.2.2:=by (have h9:=hb16;simp at h9;omega));have hfin:=hs.fin hN hk;refine zaJ ?_;simp only[zaf,zad,zac,bA,Nat.reduceEqDiff,↓reduceIte];refine y0 _ ?_;(try clear y0 Y0);refine zab fun Y0 y0=>?_;refine zaa ?_;refine z8 1 fun Q0 q0=>?_;simp only[↓bO,go_sem,seval];refine q0 _ ?_;clear q0 Q0;simp only[go_sem];simp only[↓bO,go_sem,seval];refine y0 _ ?_;(try clear y0 Y0);refine zan ?_;(try simp only[zaf,zad,zac,zaY,zaX,zaC,bS,bA]);refine ⟨_,[],⟨s.1,hfin,rfl,rfl⟩,Und.data (zaM _),trivial,Le.oslL,⟨1,rfl,rfl⟩,by omega⟩
theorem Comes_at (M:List RNode) (c:List Int) (i:Nat) (hi:i<M.length) (hN:zhv M c) (hMl:M.length≤1048576) {os:Os} {nx:Nat} {Q:AV→Os→Nat→Prop} (hq:∀L,ComesR M c i L→Q (.sl 1 (L.map intC)) os nx):ACalls Tryz.prog 17 [.agg [.sl 4 (M.map RNode.cells),.sl 1 (c.map intC)],.v (.int .i64 (i:Int))] os nx Q :=
  ACalls.atE (σ:=List Int) (C:=fun L=>ComesR M c i L) (R:=fun L=>.sl 1 (L.map intC)) (R':=fun L=>.sl 1 (L.map intC)) (obs:=[]) (obs':=[]) (obs1:=fun _=>[]) (obs1':=fun _=>[]) [] (Comes_c M c i hi hN hMl) rfl (fun _=>rfl) (by simp) (by simp) ⟨.data (RNode.oneData M c),.v _,trivial⟩ (fun L=>.data (zaM L)) trivial trivial (fun _=>trivial) hq
theorem Loop_pure (M:List RNode) (c:List Int) (i:Nat) (hi:i<M.length) (hN:zhv M c) (hMl:M.length≤1048576):APure Tryz.prog 16 [.agg [.sl 4 (M.map RNode.cells),.sl 1 (c.map intC)],.v (.int .i64 (i:Int))] (.v (.bool (zfH M c i))):=by
  refine APure.mkL (.cons (RNode.oneData M c) (.cons (.v _) .nil)) (.v _) ?_;refine zai Tryz.func16 (by kernel_rfl) rfl (by rw[Tryz.ntmps16];simp) (fun hm=>?_);simp only[Tryz.ntmps16,Tryz.results16,zh,zk,Nat.reduceAdd,Nat.reduceSub,zw,zu,zi,zj];have hcl:=hN.1;obtain ⟨z,hzc⟩:∃z,c[i]?=some z:=⟨_,ze (by omega)⟩;(have hic:i<c.length:=by omega);refine zab fun Y0 y0=>?_;refine zaa ?_;refine z8 1 fun Q0 q0=>?_;simp only[↓bO,go_sem,seval];refine q0 _ ?_;clear q0 Q0;simp only[go_sem];simp only[↓bO,go_sem,seval];refine y0 _ ?_;(try clear y0 Y0);refine zab fun Y0 y0=>?_;refine zaa ?_;(iterate 2 (refine z8 1 fun Q0 q0=>?_;simp only[↓bO,go_sem,seval];refine q0 _ ?_;clear q0 Q0;simp only[go_sem]));refine z8 1 fun Q0 q0=>?_;simp only[↓bO,go_sem,seval];refine Comes_at M c i hi hN hMl (fun L hL=>?_);have hLl:=hL.1;(try simp only[bS,bA,zaf,zad,zac]);refine q0 _ ?_;clear q0 Q0;simp only[go_sem];simp only[↓bO,go_sem,seval];refine y0 _ ?_;(try clear y0 Y0);refine zab fun Y0 y0=>?_;refine zab fun Y1 y1=>?_;refine zaa ?_;simp only[↓bO,go_sem,seval];refine y1 _ ?_;(try clear y1 Y1);refine zao ?_;refine zaH (σ:=Nat) (mB 26 102) (fun s=>s≤L.length∧∀(j:Nat) (x:Int),j<s→L[j]?=some x→x≠z) (fun s=>[(6,.v (.int .i64 (s:Int)))]) (fun s=>[]) (fun s=>L.length-s) 0 (⟨Nat.zero_le _,fun j x hj=>by omega⟩) ?_ (fun s hs=>?_)
  ·
   simp only[zau,zav,zam,zay,mB,zc,zb,seval];exact zbi
  simp only[zau,zav,zam,zay,mB,zc,zb,seval];refine zab fun Y1 y1=>?_;refine zab fun Y2 y2=>?_;refine zaa ?_;(iterate 3 (refine z8 1 fun Q0 q0=>?_;simp only[↓bO,go_sem,seval];refine q0 _ ?_;clear q0 Q0;simp only[go_sem]));simp only[↓bO,go_sem,seval];refine y2 _ ?_;(try clear y2 Y2);refine zak rfl (fun hb13=>?_) (fun hb13=>?_)
  ·
   (have hk:s<L.length:=by simpa using hb13);obtain ⟨y,he⟩:∃y,L[s]?=some y:=⟨_,ze hk⟩;have hw1:IntKind.i64.wrap ((s:Int)+1)=(s:Int)+1:=zaN (by omega) (by omega);refine zar ?_;(try simp only[zaf,zad,zac]);refine y1 _ ?_;(try clear y1 Y1);refine zab fun Y1 y1=>?_;refine zao ?_;refine zab fun Y2 y2=>?_;refine zaV 10 mixed (by kernel_rfl) fun J0 j0=>?_;(iterate 9 (simp only[go_sem];refine zaw 1 fun Q0 q0=>?_;simp only[↓zaT,↓dOp,↓bO,go_sem,seval,hk,hic,gM he,gM hzc,hw1,za,intC];refine q0 _ ?_;clear q0 Q0));simp only[go_sem];simp only[↓zaT,↓dOp,↓bO,go_sem,seval,hk,hic,gM he,gM hzc,hw1,za,intC];refine j0 _ ?_;clear j0 J0;simp only[bL,aops,zaf,zad,zac];refine y2 _ ?_;(try clear y2 Y2);refine zak rfl (fun hb25=>?_) (fun hb25=>?_)
   ·
    (have hyz:y=z:=by simpa using hb25);have hres:zfH M c i=true:=zdR.2 ((hL.loop hzc).1 (hyz▸zp he));refine zab fun Y2 y2=>?_;refine zaa ?_;simp only[↓bO,go_sem,seval,hk,hic,gM he,gM hzc,hw1,za,intC];refine y2 _ ?_;(try clear y2 Y2);refine zan ?_;(try simp only[zaf,zad,zac,zaY,zaX,zaC,bS,bA]);rw[hres];exact Le.refl _
   ·
    (have hne:y≠z:=by simpa using hb25);refine zar ?_;(try simp only[zaf,zad,zac]);refine y1 _ ?_;(try clear y1 Y1);refine zaa ?_;(iterate 2 (refine z8 1 fun Q0 q0=>?_;simp only[↓bO,go_sem,seval,hk,hic,gM he,gM hzc,hw1,za,intC];refine q0 _ ?_;clear q0 Q0;simp only[go_sem]));simp only[↓bO,go_sem,seval,hk,hic,gM he,gM hzc,hw1,za,intC];refine ⟨(s+1),⟨by omega,fun j x hj hx=>(by rcases zL j s with h9 | h9;exact hs.2 j x h9 hx;obtain rfl:j=s:=(by omega);rw[he] at hx;cases hx;exact hne)⟩,by omega,?_⟩;simp only[zau,zav,zam,zay,mB,zc,zb,seval,hk,hic,gM he,gM hzc,hw1,za,zD,zI,intC];exact zbi
  ·
   (have hk:s=L.length:=by (have h9:=hb13;simp at h9;have:=hs.1;omega));(have hres:zfH M c i=false:=by (cases h9:zfH M c i;rfl;exfalso;have h8:=(hL.loop hzc).2 (zdR.1 h9);obtain ⟨j,hj,e⟩:=zX.1 h8;exact hs.2 j z (by omega) (by rw[ze hj,e]) rfl));refine zaJ ?_;simp only[zaf,zad,zac,bA,Nat.reduceEqDiff,↓reduceIte];refine y0 _ ?_;(try clear y0 Y0);refine zab fun Y0 y0=>?_;refine zaa ?_;simp only[↓bO,go_sem,seval];refine y0 _ ?_;(try clear y0 Y0);refine zan ?_;(try simp only[zaf,zad,zac,zaY,zaX,zaC,bS,bA]);rw[hres];exact Le.refl _
theorem FinR_pure (M:List RNode) (c:List Int) (hN:zhv M c) (hMl:M.length≤1048576):APure Tryz.prog 20 [.agg [.sl 4 (M.map RNode.cells),.sl 1 (c.map intC)]] (.v (.bool (zgO M c))):=by
  refine APure.mkL (.cons (RNode.oneData M c) .nil) (.v _) ?_;refine zai Tryz.func20 (by kernel_rfl) rfl (by rw[Tryz.ntmps20];simp) (fun hm=>?_);simp only[Tryz.ntmps20,Tryz.results20,zh,zk,Nat.reduceAdd,Nat.reduceSub,zw,zu,zi,zj];refine zab fun Y0 y0=>?_;refine zaa ?_;refine z8 1 fun Q0 q0=>?_;simp only[↓bO,go_sem,seval];refine q0 _ ?_;clear q0 Q0;simp only[go_sem];simp only[↓bO,go_sem,seval];refine y0 _ ?_;(try clear y0 Y0);refine zab fun Y0 y0=>?_;refine zab fun Y1 y1=>?_;refine zaa ?_;simp only[↓bO,go_sem,seval];refine y1 _ ?_;(try clear y1 Y1);refine zao ?_;refine zaH (σ:=Nat) (mB 14 10) (fun s=>s≤M.length∧∀j,j<s→zfH M c j=false) (fun s=>[(3,.v (.int .i64 (s:Int)))]) (fun s=>[]) (fun s=>M.length-s) 0 (⟨Nat.zero_le _,fun j hj=>by omega⟩) ?_ (fun s hs=>?_)
  ·
   simp only[zau,zav,zam,zay,mB,zc,zb,seval];exact zbi
  simp only[zau,zav,zam,zay,mB,zc,zb,seval];refine zab fun Y1 y1=>?_;refine zab fun Y2 y2=>?_;refine zaa ?_;(iterate 4 (refine z8 1 fun Q0 q0=>?_;simp only[↓bO,go_sem,seval];refine q0 _ ?_;clear q0 Q0;simp only[go_sem]));simp only[↓bO,go_sem,seval];refine y2 _ ?_;(try clear y2 Y2);refine zak rfl (fun hb8=>?_) (fun hb8=>?_)
  ·
   (have hk:s<M.length:=by simpa using hb8);have hw1:IntKind.i64.wrap ((s:Int)+1)=(s:Int)+1:=zaN (by omega) (by omega);refine zar ?_;(try simp only[zaf,zad,zac]);refine y1 _ ?_;(try clear y1 Y1);refine zab fun Y1 y1=>?_;refine zao ?_;refine zab fun Y2 y2=>?_;refine zaa ?_;(iterate 2 (refine z8 1 fun Q0 q0=>?_;simp only[↓bO,go_sem,seval,hk,hw1,za,intC];refine q0 _ ?_;clear q0 Q0;simp only[go_sem]));simp only[↓bO,go_sem,seval,hk,hw1,za,intC];refine APure.call (Loop_pure M c s hk hN hMl) ?_;(try simp only[bS,bA,zaf,zad,zac]);refine y2 _ ?_;(try clear y2 Y2);refine zak rfl (fun hb13=>?_) (fun hb13=>?_)
   ·
    have hyes:zfH M c s=true:=hb13;(have hres:zgO M c=false:=by (cases h9:zgO M c;rfl;exact absurd (zdR.1 hyes) (zfx.1 h9 s hk)));refine zab fun Y2 y2=>?_;refine zaa ?_;simp only[↓bO,go_sem,seval,hk,hw1,za,intC];refine y2 _ ?_;(try clear y2 Y2);refine zan ?_;(try simp only[zaf,zad,zac,zaY,zaX,zaC,bS,bA]);rw[hres];exact Le.refl _
   ·
    have hno:zfH M c s=false:=hb13;refine zar ?_;(try simp only[zaf,zad,zac]);refine y1 _ ?_;(try clear y1 Y1);refine zaa ?_;(iterate 2 (refine z8 1 fun Q0 q0=>?_;simp only[↓bO,go_sem,seval,hk,hw1,za,intC];refine q0 _ ?_;clear q0 Q0;simp only[go_sem]));simp only[↓bO,go_sem,seval,hk,hw1,za,intC];refine ⟨(s+1),⟨by omega,zg4 hs.2 hno⟩,by omega,?_⟩;simp only[zau,zav,zam,zay,mB,zc,zb,seval,hk,hw1,za,zD,zI,intC];exact zbi
  ·
   (have hk:s=M.length:=by (have h9:=hb8;simp at h9;have:=hs.1;omega));(have hres:zgO M c=true:=zfx.2 fun j hj hl=>(by have h8:=hs.2 j (by omega);rw[zdR.2 hl] at h8;cases h8));refine zaJ ?_;simp only[zaf,zad,zac,bA,Nat.reduceEqDiff,↓reduceIte];refine y0 _ ?_;(try clear y0 Y0);refine zab fun Y0 y0=>?_;refine zaa ?_;simp only[↓bO,go_sem,seval];refine y0 _ ?_;(try clear y0 Y0);refine zan ?_;(try simp only[zaf,zad,zac,zaY,zaX,zaC,bS,bA]);rw[hres];exact Le.refl _
theorem Told_pure {M:List RNode} {c:List Int} (hN:zhv M c) (hMl:M.length≤1048576) {i:Nat} {a:Int×Int} (h:Tl (zbv M c) i a):i<M.length→a.1≤1048577→APure Tryz.prog 25 [.agg [.sl 4 (M.map RNode.cells),.sl 1 (c.map intC)],.v (.int .i64 (i:Int))] (.tup [.v (.int .i64 a.1),.v (.int .i64 a.2)]):=by
  induction h with
  | mk i f hf ih =>
  intro hi ha;(have hpart:∀v∈zbv M c i,(f v).1<(zep f (zbv M c i)).1:=fun v hv=>tell_lt hv);(have hfb:∀v∈zbv M c i,1≤(f v).1∧1≤(f v).2∧(f v).2≤za5:=fun v hv=>(hf v hv).bounds);have hnl:=hN.2 i;have hte:zep f (zbv M c i)=((zcj f (zbv M c i)).1+1,(zcj f (zbv M c i)).2):=rfl
  have hbn:∀s,0≤(zcj f ((zbv M c i).take s)).1∧(zcj f ((zbv M c i).take s)).1≤1048576∧1≤(zcj f ((zbv M c i).take s)).2∧(zcj f ((zbv M c i).take s)).2≤za5:=fun s=>zeh (by omega) fun v hv=>by
    have h1:=hpart v (List.mem_of_mem_take hv);have h2:=hfb v (List.mem_of_mem_take hv);omega
  (have hll:(zbv M c i).length=(zbL M c i).length:=by simp[zbv]);refine APure.mkL (.cons (RNode.oneData M c) (.cons (.v _) .nil)) (.tup (.cons (.v _) (.cons (.v _) .nil))) ?_;refine zai Tryz.func25 (by kernel_rfl) rfl (by rw[Tryz.ntmps25];simp) (fun hm=>?_);simp only[Tryz.ntmps25,Tryz.results25,zh,zk,Nat.reduceAdd,Nat.reduceSub,zw,zu,zi,zj];refine zab fun Y0 y0=>?_;refine zaa ?_;(iterate 2 (refine z8 1 fun Q0 q0=>?_;simp only[↓bO,go_sem,seval];refine q0 _ ?_;clear q0 Q0;simp only[go_sem]));simp only[↓bO,go_sem,seval];refine y0 _ ?_;(try clear y0 Y0);refine zab fun Y0 y0=>?_;refine zaa ?_;refine z8 1 fun Q0 q0=>?_;simp only[↓bO,go_sem,seval];refine q0 _ ?_;clear q0 Q0;simp only[go_sem];simp only[↓bO,go_sem,seval];refine y0 _ ?_;(try clear y0 Y0);refine zab fun Y0 y0=>?_;refine zaa ?_;(iterate 2 (refine z8 1 fun Q0 q0=>?_;simp only[↓bO,go_sem,seval];refine q0 _ ?_;clear q0 Q0;simp only[go_sem]));refine z8 1 fun Q0 q0=>?_;simp only[↓bO,go_sem,seval];refine APure.call (zdC M c i hi hN hMl) ?_;(try simp only[bS,bA,zaf,zad,zac]);refine q0 _ ?_;clear q0 Q0;simp only[go_sem];simp only[↓bO,go_sem,seval];refine y0 _ ?_;(try clear y0 Y0);refine zab fun Y0 y0=>?_;refine zab fun Y1 y1=>?_;refine zaa ?_;simp only[↓bO,go_sem,seval];refine y1 _ ?_;(try clear y1 Y1);refine zao ?_;refine zaH (σ:=Nat) (mB 40 964) (fun s=>s≤(zbL M c i).length) (fun s=>[(6,.v (.int .i64 (zcj f ((zbv M c i).take s)).1)),(7,.v (.int .i64 (zcj f ((zbv M c i).take s)).2)),(9,.v (.int .i64 (s:Int)))]) (fun s=>[]) (fun s=>(zbL M c i).length-s) 0 (Nat.zero_le _) ?_ (fun s hs=>?_)
  ·
   simp only[zau,zav,zam,zay,mB,zc,zb,seval,bL,zcj,List.foldl_nil];exact zbi
  simp only[zau,zav,zam,zay,mB,zc,zb,seval];refine zab fun Y1 y1=>?_;refine zab fun Y2 y2=>?_;refine zaa ?_;(iterate 3 (refine z8 1 fun Q0 q0=>?_;simp only[↓bO,go_sem,seval];refine q0 _ ?_;clear q0 Q0;simp only[go_sem]));simp only[↓bO,go_sem,seval];refine y2 _ ?_;(try clear y2 Y2);refine zak rfl (fun hb18=>?_) (fun hb18=>?_)
  ·
   (have hk:s<(zbL M c i).length:=by simpa using hb18);obtain ⟨p0,hp0⟩:∃q,(zbL M c i)[s]?=some q:=⟨_,ze hk⟩;have hpb:=hnl.2 p0 (zp hp0);obtain ⟨p,rfl⟩:∃q:Nat,p0=(q:Int):=⟨p0.toNat,by omega⟩;(have hpM:p<M.length:=by omega);(have hpn:(zbv M c i)[s]?=some p:=by (rw[zbv,zW,hp0];rfl));have hpm:=zp hpn;have hst:=zik (f:=f) hpn;have hb1:=hbn s;have hb2:=hfb p hpm;have hb3:=hpart p hpm;simp only[za5] at hb1 hb2 hst;have hw1:IntKind.i64.wrap ((s:Int)+1)=(s:Int)+1:=zaN (by omega) (by omega);have hw2:IntKind.i64.wrap ((zcj f ((zbv M c i).take s)).2+(f p).2)=(zcj f ((zbv M c i).take s)).2+(f p).2:=zaN (by omega) (by omega);refine zar ?_;(try simp only[zaf,zad,zac]);refine y1 _ ?_;(try clear y1 Y1);refine zab fun Y1 y1=>?_;refine zao ?_;refine zab fun Y2 y2=>?_;refine zh1 9 [8] mixed (by kernel_rfl) (fun _ _ h=>h) fun J0 j0=>?_;(iterate 5 (simp only[go_sem];refine zaw 1 fun Q0 q0=>?_;simp only[↓zaT,↓dOp,↓bO,go_sem,seval,hk,gM hp0,hw1,hw2,hst,za,intC];refine q0 _ ?_;clear q0 Q0));simp only[go_sem];refine zaw 1 fun Q0 q0=>?_;simp only[↓zaT,↓dOp,↓bO,go_sem,seval,hk,gM hp0,hw1,hw2,hst,za,intC];refine ⟨_,ih p hpm hpM (by have h9:=hpart p hpm;omega),?_⟩;(try simp only[bS,bA,zaf,zad,zac]);(iterate 2 (refine q0 _ ?_;clear q0 Q0;simp only[go_sem];refine zaw 1 fun Q0 q0=>?_;simp only[↓zaT,↓dOp,↓bO,go_sem,seval,hk,gM hp0,hw1,hw2,hst,za,intC]));refine q0 _ ?_;clear q0 Q0;simp only[go_sem];simp only[↓zaT,↓dOp,↓bO,go_sem,seval,hk,gM hp0,hw1,hw2,hst,za,intC];refine j0 _ ?_;clear j0 J0;simp only[go_sem];refine z8 1 fun Q0 q0=>?_;simp only[↓bO,go_sem,seval,hk,gM hp0,hw1,hw2,hst,za,intC];refine q0 _ ?_;clear q0 Q0;simp only[go_sem];simp only[↓bO,go_sem,seval,hk,gM hp0,hw1,hw2,hst,za,intC];refine y2 _ ?_;(try clear y2 Y2);refine zaa ?_;(iterate 8 (refine z8 1 fun Q0 q0=>?_;simp only[↓bO,go_sem,seval,hk,gM hp0,hw1,hw2,hst,za,intC];refine q0 _ ?_;clear q0 Q0;simp only[go_sem]));simp only[↓bO,go_sem,seval,hk,gM hp0,hw1,hw2,hst,za,intC];refine y1 _ ?_;(try clear y1 Y1);refine zaa ?_;(iterate 2 (refine z8 1 fun Q0 q0=>?_;simp only[↓bO,go_sem,seval,hk,gM hp0,hw1,hw2,hst,za,intC];refine q0 _ ?_;clear q0 Q0;simp only[go_sem]));simp only[↓bO,go_sem,seval,hk,gM hp0,hw1,hw2,hst,za,intC];refine ⟨(s+1),(by omega),by omega,?_⟩;simp only[zau,zav,zam,zay,mB,zc,zb,seval,hk,gM hp0,hw1,hw2,hst,za,zD,zI,intC];exact zbi
  ·
   (have hk:s=(zbL M c i).length:=by (have h9:=hb18;simp at h9;omega));have hb1:=hbn s;have hta:(zbv M c i).take s=zbv M c i:=List.take_of_length_le (by omega);rw[hta] at hb1;have hw3:IntKind.i64.wrap ((zcj f (zbv M c i)).1+1)=(zcj f (zbv M c i)).1+1:=zaN (by omega) (by omega);refine zaJ ?_;simp only[zaf,zad,zac,bA,Nat.reduceEqDiff,↓reduceIte];refine y0 _ ?_;(try clear y0 Y0);refine zab fun Y0 y0=>?_;refine zaa ?_;(iterate 4 (refine z8 1 fun Q0 q0=>?_;simp only[↓bO,go_sem,seval,hta,hw3];refine q0 _ ?_;clear q0 Q0;simp only[go_sem]));simp only[↓bO,go_sem,seval,hta,hw3];refine y0 _ ?_;(try clear y0 Y0);refine zan ?_;(try simp only[zaf,zad,zac,zaY,zaX,zaC,bS,bA]);rw[hte];exact Le.refl _
theorem Heavy_c (M:List RNode) (c:List Int) (hN:zhv M c) (hMl:M.length≤1048576):∀(m:Nat),1≤m→m≤5000→∀i,i<M.length→ACalls Tryz.prog 24 [.agg [.sl 4 (M.map RNode.cells),.sl 1 (c.map intC)],.v (.int .i64 (i:Int)),.v (.int .i64 (m:Int))] [] 0 fun r os n=>(∃k:Nat,k<m∧r=.v (.int .i64 (k:Int))∧os=[])∧n=0:=by
  intro m
  induction m using Nat.strongRecOn with
  | ind m ih =>
  intro hm1 hm5 i hi;have hnl:=hN.2 i
  have hat:∀(m':Nat),m'<m→1≤m'→∀j,j<M.length→∀{os:Os} {nx:Nat} {Q:AV→Os→Nat→Prop},(∀k:Nat,k<m'→Q (.v (.int .i64 (k:Int))) os nx)→ACalls Tryz.prog 24 [.agg [.sl 4 (M.map RNode.cells),.sl 1 (c.map intC)],.v (.int .i64 (j:Int)),.v (.int .i64 (m':Int))] os nx Q:=fun m' h1 h2 j hj {os nx Q} hq =>
    ACalls.atE (σ:=Nat) (C:=fun k=>k<m') (R:=fun k=>.v (.int .i64 (k:Int))) (R':=fun k=>.v (.int .i64 (k:Int))) (obs:=[]) (obs':=[]) (obs1:=fun _=>[]) (obs1':=fun _=>[]) [] (ih m' h1 h2 (by omega) j hj) rfl (fun _=>rfl) (by simp) (by simp) ⟨.data (RNode.oneData M c),.v _,.v _,trivial⟩ (fun k=>.v _) trivial trivial (fun _=>trivial) hq
  refine ACalls.clean (C:=fun r os=>∃k:Nat,k<m∧r=.v (.int .i64 (k:Int))∧os=[]) ?_;refine zai Tryz.func24 (by kernel_rfl) rfl (by rw[Tryz.ntmps24];simp) (fun hm=>?_);simp only[Tryz.ntmps24,Tryz.results24,zh,zk,Nat.reduceAdd,Nat.reduceSub,zw,zu,zi,zj];(have hwm:IntKind.i64.wrap ((m:Int)-1)=((m-1:Nat):Int):=by rw[show ((m:Int)-1)=((m-1:Nat):Int) from by omega];exact zaN (by omega) (by omega));refine zab fun Y0 y0=>?_;refine zaa ?_;refine z8 1 fun Q0 q0=>?_;simp only[↓bO,go_sem,seval,hwm];refine q0 _ ?_;clear q0 Q0;simp only[go_sem];simp only[↓bO,go_sem,seval,hwm];refine y0 _ ?_;(try clear y0 Y0);refine zab fun Y0 y0=>?_;refine zaa ?_;(iterate 2 (refine z8 1 fun Q0 q0=>?_;simp only[↓bO,go_sem,seval,hwm];refine q0 _ ?_;clear q0 Q0;simp only[go_sem]));simp only[↓bO,go_sem,seval,hwm];refine y0 _ ?_;(try clear y0 Y0);refine zab fun Y0 y0=>?_;refine zaa ?_;(iterate 2 (refine z8 1 fun Q0 q0=>?_;simp only[↓bO,go_sem,seval,hwm];refine q0 _ ?_;clear q0 Q0;simp only[go_sem]));refine z8 1 fun Q0 q0=>?_;simp only[↓bO,go_sem,seval,hwm];refine APure.call (zdC M c i hi hN hMl) ?_;(try simp only[bS,bA,zaf,zad,zac]);refine q0 _ ?_;clear q0 Q0;simp only[go_sem];simp only[↓bO,go_sem,seval,hwm];refine y0 _ ?_;(try clear y0 Y0);refine zab fun Y0 y0=>?_;refine zab fun Y1 y1=>?_;refine zaa ?_;simp only[↓bO,go_sem,seval,hwm];refine y1 _ ?_;(try clear y1 Y1);refine zao ?_;refine zaH (σ:=Nat×Nat) (mB 32 396) (fun s=>s.1<m∧s.2≤(zbL M c i).length) (fun s=>[(2,.v (.int .i64 (s.1:Int))),(8,.v (.int .i64 (s.2:Int)))]) (fun s=>[]) (fun s=>(zbL M c i).length-s.2) (m-1,0) (⟨by simp only;omega,Nat.zero_le _⟩) ?_ (fun s hs=>?_)
  ·
   simp only[zau,zav,zam,zay,mB,zc,zb,seval];exact zbi
  simp only[zau,zav,zam,zay,mB,zc,zb,seval];have hs2:=hs.2;have hw1:IntKind.i64.wrap ((s.2:Int)+1)=(s.2:Int)+1:=zaN (by omega) (by omega);refine zab fun Y1 y1=>?_;refine zab fun Y2 y2=>?_;refine zaa ?_;(iterate 5 (refine z8 1 fun Q0 q0=>?_;simp only[↓bO,go_sem,seval,hwm];refine q0 _ ?_;clear q0 Q0;simp only[go_sem]));refine zaA 18 rfl (fun hc18=>?_) (fun hc18=>?_)
  ·
   simp only[zc,zb];(have hk:s.2<(zbL M c i).length:=by simpa using hc18);obtain ⟨p0,hp0⟩:∃q,(zbL M c i)[s.2]?=some q:=⟨_,ze hk⟩;have hpb:=hnl.2 p0 (zp hp0);obtain ⟨p,rfl⟩:∃q:Nat,p0=(q:Int):=⟨p0.toNat,by omega⟩;(have hpM:p<M.length:=by omega);have hlt:=hs.1;(iterate 2 (refine z8 1 fun Q0 q0=>?_;simp only[↓bO,go_sem,seval,hwm,hk,gM hp0];refine q0 _ ?_;clear q0 Q0;simp only[go_sem]));simp only[↓bO,go_sem,seval,hwm,hk,gM hp0];refine y2 _ ?_;(try clear y2 Y2);refine zak rfl (fun hb21=>?_) (fun hb21=>?_)
   ·
    (have hpos:1≤s.1:=by (have h9:=hb21;simp at h9;omega));refine zar ?_;(try simp only[zaf,zad,zac]);refine y1 _ ?_;(try clear y1 Y1);refine zab fun Y1 y1=>?_;refine zao ?_;refine zaV 6 mixed (by kernel_rfl) fun J0 j0=>?_;(iterate 5 (simp only[go_sem];refine zaw 1 fun Q0 q0=>?_;simp only[↓zaT,↓dOp,↓bO,go_sem,seval,hwm,hw1,za,intC,hk,gM hp0];refine q0 _ ?_;clear q0 Q0));simp only[go_sem];simp only[↓zaT,↓dOp,↓bO,go_sem,seval,hwm,hw1,za,intC,hk,gM hp0];refine j0 _ ?_;clear j0 J0;simp only[go_sem];refine z8 1 fun Q0 q0=>?_;simp only[↓bO,go_sem,seval,hwm,hw1,za,intC,hk,gM hp0];refine hat s.1 hlt hpos p hpM (fun k5 hk5=>?_);(try simp only[bS,bA,zaf,zad,zac]);refine q0 _ ?_;clear q0 Q0;simp only[go_sem];simp only[↓bO,go_sem,seval,hwm,hw1,za,intC,hk,gM hp0];refine y1 _ ?_;(try clear y1 Y1);refine zaa ?_;(iterate 2 (refine z8 1 fun Q0 q0=>?_;simp only[↓bO,go_sem,seval,hwm,hw1,za,intC,hk,gM hp0];refine q0 _ ?_;clear q0 Q0;simp only[go_sem]));simp only[↓bO,go_sem,seval,hwm,hw1,za,intC,hk,gM hp0];refine ⟨(k5,s.2+1),⟨by simp only;omega,by simp only;omega⟩,(by simp only;omega),?_⟩;simp only[zau,zav,zam,zay,mB,zc,zb,seval,hw1,za,zD,zI,intC,hk,gM hp0];exact zbi
   ·
    refine zaJ ?_;simp only[zaf,zad,zac,bA,Nat.reduceEqDiff,↓reduceIte];refine y0 _ ?_;(try clear y0 Y0);refine zab fun Y0 y0=>?_;refine zaa ?_;refine z8 1 fun Q0 q0=>?_;simp only[↓bO,go_sem,seval,hwm,hk,gM hp0];refine q0 _ ?_;clear q0 Q0;simp only[go_sem];simp only[↓bO,go_sem,seval,hwm,hk,gM hp0];refine y0 _ ?_;(try clear y0 Y0);refine zan ?_;(try simp only[zaf,zad,zac,zaY,zaX,zaC,bS,bA]);refine ⟨_,[],⟨s.1,hs.1,rfl,rfl⟩,.v _ _,trivial,Le.refl _,⟨1,rfl,rfl⟩,by omega⟩
  ·
   simp only[zc,zb];(iterate 2 (refine z8 1 fun Q0 q0=>?_;simp only[↓bO,go_sem,seval,hwm];refine q0 _ ?_;clear q0 Q0;simp only[go_sem]));simp only[↓bO,go_sem,seval,hwm];refine y2 _ ?_;(try clear y2 Y2);refine zak (b:=false) (by first | exact rfl | exact congrArg (fun b=>AV.v (.bool b)) hb21) (fun h=>(by cases h)) (fun _=>?_);refine zaJ ?_;simp only[zaf,zad,zac,bA,Nat.reduceEqDiff,↓reduceIte];refine y0 _ ?_;(try clear y0 Y0);refine zab fun Y0 y0=>?_;refine zaa ?_;refine z8 1 fun Q0 q0=>?_;simp only[↓bO,go_sem,seval,hwm];refine q0 _ ?_;clear q0 Q0;simp only[go_sem];simp only[↓bO,go_sem,seval,hwm];refine y0 _ ?_;(try clear y0 Y0);refine zan ?_;(try simp only[zaf,zad,zac,zaY,zaX,zaC,bS,bA]);refine ⟨_,[],⟨s.1,hs.1,rfl,rfl⟩,.v _ _,trivial,Le.refl _,⟨1,rfl,rfl⟩,by omega⟩
theorem Heavy_at (M:List RNode) (c:List Int) (hN:zhv M c) (hMl:M.length≤1048576) (m:Nat) (h1:1≤m) (h2:m≤5000) (i:Nat) (hi:i<M.length) {os:Os} {nx:Nat} {Q:AV→Os→Nat→Prop} (hq:∀k:Nat,k<m→Q (.v (.int .i64 (k:Int))) os nx):ACalls Tryz.prog 24 [.agg [.sl 4 (M.map RNode.cells),.sl 1 (c.map intC)],.v (.int .i64 (i:Int)),.v (.int .i64 (m:Int))] os nx Q :=
  ACalls.atE (σ:=Nat) (C:=fun k=>k<m) (R:=fun k=>.v (.int .i64 (k:Int))) (R':=fun k=>.v (.int .i64 (k:Int))) (obs:=[]) (obs':=[]) (obs1:=fun _=>[]) (obs1':=fun _=>[]) [] (Heavy_c M c hN hMl m h1 h2 i hi) rfl (fun _=>rfl) (by simp) (by simp) ⟨.data (RNode.oneData M c),.v _,.v _,trivial⟩ (fun k=>.v _) trivial trivial (fun _=>trivial) hq
end Go.Proofs.YtjjjckjebkmnjaaGreat
namespace Go.Proofs.YtjjjckjebkmnjaaGreat
open Go Go.RowKit
abbrev plE (es:List EqT) (k:Nat):List (Ty×Ty):=(za3 (es.take k)).map EqT.p
structure ClI (es:List EqT) (k:Nat) (S:CS) (sum was:Int):Prop where
  st:CSt (plE es k) S
  num:S.clash=false→sum=1+(zb8 (plE es k):Int)∧was=S.steps
  low:S.clash=false→0≤S.steps∧S.steps+9 * (zby S.F.up:Int)≤10 * (S.G.N.length:Int)+(k:Int)
theorem ClI.start (es:List EqT):ClI es 0 CS0 1 0:=⟨CSt.none,fun _=>⟨by simp[plE,za3,zb8],rfl⟩,fun _=>by simp[CS0,zby]⟩
theorem plE_no {es:List EqT} {k:Nat} {e:EqT} (he:es[k]?=some e) (h:e.ok=false):plE es (k+1)=plE es k:=by
  unfold plE;rw[zd8 he h]
theorem plE_yes {es:List EqT} {k:Nat} {e:EqT} (he:es[k]?=some e) (h:e.ok=true):plE es (k+1)=plE es k++[e.p]:=by
  unfold plE;rw[zeE he h,zt];rfl
theorem plE_sum {es:List EqT} (h:zb8 (es.map EqT.p)≤160) (k:Nat):zb8 (plE es k)≤160∧OkE (plE es k):=by
  have h1:=zdP (es.map EqT.p) k;exact zfk (es.take k) (by rw[List.map_take];omega)
theorem eok_of {e:EqT} (h:e.ok=true):e.l.right=true∧e.r.right=true:=by
  simpa [EqT.ok] using h
theorem ClI.step {es:List EqT} {k:Nat} {S:CS} {sum was:Int} {e:EqT} {s:CS×Int} (h:ClI es k S sum was) (hs:zb8 (es.map EqT.p)≤160) (he:es[k]?=some e)
    (hE:EqR S (zb4 (eqF (plE es k)).2) (eqF (plE es k)).1 e.l e.r s):CSt (plE es (k+1)) s.1:=by
  have hm:e.p∈es.map EqT.p:=zP.2 ⟨e,zp he,rfl⟩;have h1:=zen hm;simp only[EqT.p] at h1
  cases hok:e.ok with
  | true =>
    obtain ⟨h2,h3⟩:=eok_of hok;rw[plE_yes he hok]
    exact h.st.step (e:=e.p) ⟨h2,h3,by simp only[EqT.p];omega,by simp only[EqT.p];omega⟩ hE
  | false =>
    rw[plE_no he hok];(rcases hE with ⟨_,rfl⟩ | ⟨_,_,rfl⟩ | ⟨_,h2,h3,_⟩);(· exact h.st);(· exact h.st);· rw[EqT.ok,h2,h3] at hok;cases hok
theorem ClI.bad {es:List EqT} {k:Nat} {S:CS} {sum was:Int} {e:EqT} {s:CS×Int} (h:ClI es k S sum was) (hs:zb8 (es.map EqT.p)≤160) (he:es[k]?=some e)
    (hE:EqR S (zb4 (eqF (plE es k)).2) (eqF (plE es k)).1 e.l e.r s) (hc:S.clash=true):s=(S,7)∧ClI es (k+1) S sum was:=by
  have h1:=h.step hs he hE;(rcases hE with ⟨_,rfl⟩ | ⟨h2,_⟩ | ⟨h2,_⟩);(· exact ⟨rfl,h1,fun h2=>(by rw[hc] at h2;cases h2),fun h2=>(by rw[hc] at h2;cases h2)⟩);(· rw[hc] at h2;cases h2);· rw[hc] at h2;cases h2
theorem ClI.good {es:List EqT} {k:Nat} {S:CS} {sum was:Int} {e:EqT} {s:CS×Int} (h:ClI es k S sum was) (hs:zb8 (es.map EqT.p)≤160) (hk:k<1000) (he:es[k]?=some e)
    (hE:EqR S (zb4 (eqF (plE es k)).2) (eqF (plE es k)).1 e.l e.r s) (hR:StepR S s.1) (hc:S.clash=false) (hok:e.ok=true) :
    ClI es (k+1) s.1 (sum+(e.l.cnt:Int)+(e.r.cnt:Int)) s.1.steps∧s.2=(if s.1.clash=true then 7 else 0)∧S.steps≤s.1.steps∧s.1.steps≤10 * (zb8 (plE es (k+1)):Int)+(k:Int)+1 ∧
      sum+(e.l.cnt:Int)+(e.r.cnt:Int)=1+(zb8 (plE es (k+1)):Int):=by
  have h1:=h.step hs he hE;obtain ⟨h3,h3'⟩:=h.num hc;obtain ⟨h4,h5⟩:=h.low hc;have hN:=h.st.len;have hP:=(plE_sum hs k).1;have hN1:=h1.len
  have hsum:zb8 (plE es (k+1))=zb8 (plE es k)+(e.l.cnt+e.r.cnt):=by
    rw[plE_yes he hok,zco];rfl
  have hst:S.steps≤s.1.steps∧s.1.steps+9 * (zby s.1.F.up:Int)≤10 * (s.1.G.N.length:Int)+(k:Int)+1:=by
    (rcases hR with e1 | hR);· rw[e1];omega
    · obtain ⟨a1,a2,a3⟩:=hR h4 (by omega)
      omega
  have hr:s.2=(if s.1.clash=true then 7 else 0):=by
    obtain ⟨g1,g2⟩:=eok_of hok;(rcases hE with ⟨h2,_⟩ | ⟨_,h2,_⟩ | ⟨_,_,_,_,⟨a1,a2,_⟩ | ⟨a1,a2,_⟩⟩);(· rw[hc] at h2;cases h2);(· rw[g1,g2] at h2;cases h2);(· rw[a1,a2];rfl);· rw[a1,a2];rfl
  refine ⟨⟨h1,fun _=>⟨by omega,rfl⟩,fun _=>⟨by omega,?_⟩⟩,hr,hst.1,by omega,by omega⟩;have:=hst.2;omega
end Go.Proofs.YtjjjckjebkmnjaaGreat
namespace Go.Proofs.YtjjjckjebkmnjaaGreat
open Go Go.RowKit
set_option maxRecDepth 100000
set_option maxHeartbeats 4000000
set_option linter.unusedSimpArgs false
set_option linter.unusedVariables false
attribute [local irreducible] aops zaT
theorem CountR.clash {S:CS} {s:Bool×Int} (h:CountR S s) (hc:S.clash=true):s=(false,0):=by
  (rcases h with ⟨_,h⟩ | ⟨h,_⟩);(· exact h);· rw[hc] at h;cases h
theorem PSt.told {l:List (Ty×Ty)} {M:List RNode} {c:List Int} {S:CS} (h:PSt l M c S) (hf:zgO M c=true) {q:Nat} (hq:q<M.length):∃a:Int×Int,Tl (za8 S) (zbN S q) a∧Tl (zbv M c) q a∧a.1≤1048577:=by
  have hno:=h.fin_iff.1 hf;obtain ⟨a,h1,h2⟩:=h.tl hno hq;refine ⟨a,h1,h2,?_⟩;have h3:a.1≤(S.F.up.length:Int):=Tl.deep (fun _ _ _ hj=>kids_lt hj) (fun y _=>hno y) h1 (h.rt hq).lt;have:=h.nl;have:=h.len;omega
def DepR (S:CS) (v:Int) (f:Int×Int→Int) (s:Int×Bool):Prop:=((S.clash=true∨zaQ S.G.V v=none)∧s=(0,false))∨(S.clash=false∧∃i,zaQ S.G.V v=some i∧((s=(0,false)∧∃y,y<S.F.up.length∧Pls (za8 S) y y)∨∃(q:Nat) (a:Int×Int),Rt S.F.up i.toNat q∧Tl (za8 S) q a∧s=(f a,true)∧∀(v i:Int) (q:Nat),zaQ S.G.V v=some i→Rt S.F.up i.toNat q→¬Lp (za8 S) q))
theorem CSt.fsameC {l:List (Ty×Ty)} {S:CS} {F1:FS} (h:CSt l S) (k:S.clash=false→FSame S.F F1):CSt l {S with F:=F1}:=by
  (rcases Bool.eq_false_or_eq_true S.clash with hc | hc);(· exact ⟨.inr ⟨hc,h.bad hc⟩,h.len,h.ok⟩);· exact h.fsame (S1:={S with F:=F1}) (k hc) rfl
theorem zhx {l:List (Ty×Ty)} (S:CS) (h:CSt l S) (hl:S.G.N.length≤1048576) (v:Int):CCalls (σ:=Int×Bool) 22 [.ptr 0 0,.v (.int .i64 v)] S (fun s=>s.1={S with F:=s.1.F}∧(S.clash=false→FSame S.F s.1.F)∧DepR S v Prod.fst s.2) (fun s=>.tup [.v (.int .i64 s.1),.v (.bool s.2)]):=by
  by_cases hc:S.clash=false
  · cases hv:zaQ S.G.V v with
    | none=>exact CCalls.mono (zhj S (h.cyG hl) v (.inr hv)) fun s hs=>⟨hs.1,hs.2.1,.inl ⟨.inr hv,hs.2.2⟩⟩
    | some i=>exact CCalls.mono (DepthK_c S (h.cyG hl hc) hc v i hv) fun s hs=>⟨hs.1,fun _=>hs.2.1,.inr ⟨hc,i,hv,hs.2.2⟩⟩
  · have hc:S.clash=true:=by simpa using hc
    exact CCalls.mono (zhj S (h.cyG hl) v (.inl hc)) fun s hs=>⟨hs.1,hs.2.1,.inl ⟨.inl hc,hs.2.2⟩⟩
theorem SizeA_c {l:List (Ty×Ty)} (S:CS) (h:CSt l S) (hl:S.G.N.length≤1048576) (v:Int):CCalls (σ:=Int×Bool) 23 [.ptr 0 0,.v (.int .i64 v)] S (fun s=>s.1={S with F:=s.1.F}∧(S.clash=false→FSame S.F s.1.F)∧DepR S v Prod.snd s.2) (fun s=>.tup [.v (.int .i64 s.1),.v (.bool s.2)]):=by
  by_cases hc:S.clash=false
  · cases hv:zaQ S.G.V v with
    | none=>exact CCalls.mono (SizeN_c S (h.cyG hl) v (.inr hv)) fun s hs=>⟨hs.1,hs.2.1,.inl ⟨.inr hv,hs.2.2⟩⟩
    | some i=>exact CCalls.mono (SizeK_c S (h.cyG hl hc) hc v i hv) fun s hs=>⟨hs.1,fun _=>hs.2.1,.inr ⟨hc,i,hv,hs.2.2⟩⟩
  · have hc:S.clash=true:=by simpa using hc
    exact CCalls.mono (SizeN_c S (h.cyG hl) v (.inl hc)) fun s hs=>⟨hs.1,hs.2.1,.inl ⟨.inl hc,hs.2.2⟩⟩
theorem PSt.dep_no {l:List (Ty×Ty)} {M:List RNode} {c:List Int} {S:CS} (h:PSt l M c S) {v:Int} {f:Int×Int→Int} {s:Int×Bool} (hs:DepR S v f s) (hf:zgO M c=false∨zaQ S.G.V v=none):s=(0,false):=by
  (rcases hs with ⟨_,h1⟩ | ⟨_,i,hi,⟨h1,_⟩ | ⟨_,_,_,_,_,hn⟩⟩);(· exact h1);· exact h1
  · rcases hf with hf | hf
    (· rw[h.fin_iff.2 fun y=>h.no_loop hn y] at hf;cases hf);· rw[hf] at hi;cases hi
theorem PSt.tl_of {l:List (Ty×Ty)} {M:List RNode} {c:List Int} {S:CS} (h:PSt l M c S) (hf:zgO M c=true) {q:Nat} (hq:q<M.length) {a:Int×Int} (ha:Tl (zbv M c) q a):Tl (za8 S) (zbN S q) a:=by
  obtain ⟨b,h1,h2⟩:=h.tl (h.fin_iff.1 hf) hq;rw[ha.det h2];exact h1
theorem PSt.var_none {l:List (Ty×Ty)} {M:List RNode} {c:List Int} {S:CS} (h:PSt l M c S) {v:Int} (hn:zbY (RNode.isVar v) M<0):zaQ S.G.V v=none:=by
  have hm:=h.m;subst hm;(rcases h.h.vf v with ⟨h1,_⟩ | ⟨i,_,h2,_⟩);(· exact h1);· omega
theorem PSt.var_some {l:List (Ty×Ty)} {M:List RNode} {c:List Int} {S:CS} (h:PSt l M c S) {v:Int} (hn:¬zbY (RNode.isVar v) M<0):∃q:Nat,zaQ S.G.V v=some (q:Int)∧q<M.length:=by
  have hm:=h.m;subst hm;(rcases h.h.vf v with ⟨_,h2⟩ | ⟨i,h1,_,h3⟩);(· omega);· exact ⟨i,h1,h3⟩
theorem DepR.no {S:CS} {v:Int} {f:Int×Int→Int} {s:Int×Bool} (hs:DepR S v f s) (hc:S.clash=true):s=(0,false):=by
  (rcases hs with ⟨_,h1⟩ | ⟨h1,_⟩);(· exact h1);· rw[hc] at h1;cases h1
theorem PSt.dep {l:List (Ty×Ty)} {M:List RNode} {c:List Int} {S:CS} (h:PSt l M c S) (hf:zgO M c=true) {v:Int} {q:Nat} (hv:zaQ S.G.V v=some (q:Int)) {a:Int×Int} (ha:Tl (za8 S) (zbN S q) a) {f:Int×Int→Int} {s:Int×Bool} (hs:DepR S v f s):s=(f a,true):=by
  (rcases hs with ⟨h1 | h1,_⟩ | ⟨_,i,hi,⟨_,y,_,hy⟩ | ⟨r,b,hr,hb,rfl,_⟩⟩);(· rw[h.h.1] at h1;cases h1);(· rw[hv] at h1;cases h1);· exact absurd hy (h.fin_iff.1 hf y)
  · rw[hv] at hi;cases hi
    rw[Int.toNat_natCast] at hr;rw[zdE hr] at ha;rw[hb.det ha]
theorem PSt.dep_yes {l:List (Ty×Ty)} {M:List RNode} {c:List Int} {S:CS} (h:PSt l M c S) (hf:zgO M c=true) {v:Int} {q:Nat} (hv:zaQ S.G.V v=some (q:Int)) (hq:q<M.length) {f:Int×Int→Int} {s:Int×Bool} (hs:DepR S v f s):s.2=true:=by
  obtain ⟨a,ha,_⟩:=h.tl (h.fin_iff.1 hf) hq;rw[h.dep hf hv ha hs]
theorem clz10 {p:Prop} (h:p:=by repeat' first | exact trivial | exact .any _ | exact .ptr (by omega) | exact .own (by omega) | exact .v _ _ | exact Und.data (EqT.dataSl _) | exact Und.data (zaM _) | exact Und.data (RNode.dataSl _) | exact Und.data (.eptr (.cons (RNode.dataSl _) (.cons (zaM _) .nil))) | exact Und.oslI (by omega) | exact Und.oslI1 (by omega) | exact Und.oslG (by omega) | exact Und.osl (by omega) (.data (.sl (by intro x hx;cases hx))) | (refine ⟨?_,?_⟩)):p:=h
theorem zeJ (es:List EqT) (ask:Int):APure Tryz.prog 4 [.sl 8 (es.map EqT.cells),.v (.int .i64 ask)] (.v (.bool true)):=by
  refine APure.mkL (.cons (EqT.dataSl es) (.cons (.v _) .nil)) (.v _) ?_;refine zai Tryz.func4 (by kernel_rfl) rfl (by rw[Tryz.ntmps4];simp) (fun hm=>?_);simp only[Tryz.ntmps4,Tryz.results4,zh,zk,Nat.reduceAdd,Nat.reduceSub,zw,zu,zi,zj];refine zab fun Y0 y0=>?_;refine zaa ?_;simp only[↓bO,go_sem,seval];refine y0 _ ?_;(try clear y0 Y0);refine zab fun Y0 y0=>?_;refine zab fun Y1 y1=>?_;refine zaa ?_;refine z8 1 fun Q0 q0=>?_;simp only[↓bO,go_sem,seval];refine q0 _ ?_;clear q0 Q0;simp only[go_sem];simp only[↓bO,go_sem,seval];refine APure.call (zgp es) ?_;(try simp only[bS,bA,zaf,zad,zac]);refine y1 _ ?_;(try clear y1 Y1);refine zak rfl (fun hb21=>?_) (fun hb21=>?_)
  ·
   refine zab fun Y1 y1=>?_;refine zaa ?_;refine z8 1 fun Q0 q0=>?_;simp only[↓bO,go_sem,seval];refine APure.call (zb7) ?_;(try simp only[bS,bA,zaf,zad,zac]);refine q0 _ ?_;clear q0 Q0;simp only[go_sem];simp only[↓bO,go_sem,seval];refine y1 _ ?_;(try clear y1 Y1);refine zan ?_;(try simp only[zaf,zad,zac,zaY,zaX,zaC,bS,bA]);exact Le.refl _
  ·
   have hgl:=zgZ hb21;rw[z6] at hgl;obtain ⟨hsP,hol⟩:=zfk es hgl.2;have hll:=zex es;(have hrP:∀e∈((za3 es).map EqT.p),(e.1.right&&e.2.right)=true:=fun e he=>(by obtain ⟨x,hx,rfl⟩:=zP.1 he;exact (List.mem_filter.1 hx).2));refine zar ?_;(try simp only[zaf,zad,zac]);refine y0 _ ?_;(try clear y0 Y0);refine zab fun Y0 y0=>?_;refine zaa ?_;refine z8 1 fun Q0 q0=>?_;simp only[↓bO,go_sem,seval];refine q0 _ ?_;clear q0 Q0;simp only[go_sem];refine z8 1 fun Q0 q0=>?_;simp only[↓bO,go_sem,seval];refine APure.call (zfB es (by omega)) ?_;(try simp only[bS,bA,zaf,zad,zac]);refine q0 _ ?_;clear q0 Q0;simp only[go_sem];simp only[↓bO,go_sem,seval];refine y0 _ ?_;(try clear y0 Y0);refine zab fun Y0 y0=>?_;refine zaa ?_;refine z8 1 fun Q0 q0=>?_;simp only[↓bO,go_sem,seval];refine q0 _ ?_;clear q0 Q0;simp only[go_sem];refine z8 1 fun Q0 q0=>?_;simp only[↓bO,go_sem,seval];refine zfG (made_c (za3 es) hol (by omega)) (.cons (EqT.dataSl _) .nil) (fun S hCS=>?_);have hNS:=hCS.len;simp only[zf1,zi,zj,Nat.reduceAdd];obtain ⟨M,hM⟩:∃M,M=(eqF ((za3 es).map EqT.p)).1:=⟨_,rfl⟩;have hmlM:=zfT ((za3 es).map EqT.p);rw[← hM] at hmlM;(have hML:M.length≤1048576:=by omega);(try simp only[bS,bA,zaf,zad,zac]);refine q0 _ ?_;clear q0 Q0;simp only[go_sem];simp only[↓bO,go_sem,seval];refine y0 _ ?_;(try clear y0 Y0);refine zcV (σ:=List Int) (mB 139 98) (fun c=>[(6,.eptr [.sl 4 (M.map RNode.cells),.sl 1 (c.map intC)])]) (fun c=>[(7,.tok 133 4 S.G.N.length),(6,.row 3 1 (S.W.map intC)),(5,.row 3 1 (S.F.rank.map intC)),(4,.row 3 1 (S.F.up.map nC)),(3,.cells 98 [.v (.int .i64 S.steps),.ptr 2 0,.ptr 0 0,.own 6 S.W.length,.v (.bool S.clash)]),(2,.cells 114 [.osl 7 4 (S.G.N.map GNode.cells),.map 1]),(1,.map (S.G.V.map vC)),(0,.cells 111 [.own 4 S.F.up.length,.own 5 S.F.rank.length,.v (.int .i64 S.F.sets),.v (.int .i64 S.F.steps)])]) 8 (fun c=>ColE ((za3 es).map EqT.p) c∧clB M c=S.clash) ?_ (fun c hcj=>?_)
   ·
    refine zaa ?_;refine z8 1 fun Q0 q0=>?_;simp only[↓bO,go_sem,seval];refine q0 _ ?_;clear q0 Q0;simp only[go_sem];refine z8 1 fun Q0 q0=>?_;simp only[↓bO,go_sem,seval];refine Close_at (za3 es) hsP hrP (fun c hc hcb=>?_);rw[← hM] at hcb ⊢;(try simp only[bS,bA,zaf,zad,zac]);refine q0 _ ?_;clear q0 Q0;simp only[go_sem];refine z8 1 fun Q0 q0=>?_;simp only[↓bO,go_sem,seval];refine q0 _ ?_;clear q0 Q0;simp only[go_sem];simp only[↓bO,go_sem,seval];(try simp only[zau,zav,zam,zay,mB,zc,zb,seval]);refine ⟨c,⟨hc.colE hol,by rw[zM,hCS.clash_iff];exact hcb⟩,?_⟩;refine Weak.freeze ?_ ⟨rfl,rfl,rfl,rfl,rfl,rfl,rfl,rfl,trivial⟩ (by first | omega | (simp only;omega)) (by first | omega | (simp only;omega)) ?_ ?_;(· exact clz5);(· exact clz10);· exact clz9
   simp only[zau,zav,zam,zay,mB,zc,zb,seval];obtain ⟨hce,hclx⟩:=hcj;have hcl:=hce.len;rw[← hM] at hcl;refine zab fun Y0 y0=>?_;refine zaa ?_;(iterate 2 (refine z8 1 fun Q0 q0=>?_;simp only[↓bO,go_sem,seval];refine q0 _ ?_;clear q0 Q0;simp only[go_sem]));refine z8 1 fun Q0 q0=>?_;simp only[↓bO,go_sem,seval];refine CCalls.at (zhx S hCS (by first | omega | (dsimp only;omega)) ask) (.cons (.v _) .nil) (fun _=>.tup (.cons (.v _) (.cons (.v _) .nil))) (i0:=3) (i1:=2) (i2:=7) (i3:=1) (i4:=0) (i5:=4) (i6:=5) (i7:=6) (by decide) (by simp) ⟨rfl,rfl,rfl,rfl,rfl,rfl,rfl,rfl,trivial⟩ (fun Z2 k2 hX2=>?_);(try dsimp only at hX2);simp only[zaP,zz,zB,zA,zam,zay,Nat.reduceEqDiff,↓reduceIte];obtain ⟨F1,rfl⟩:∃F,Z2={S with F:=F}:=⟨Z2.F,hX2.1⟩;have hT2:=hX2.2.2;have hfs2:=hX2.2.1;obtain ⟨d2,ok2⟩:=k2;have hCS1:CSt ((za3 es).map EqT.p) {S with F:=F1}:=hCS.fsameC hfs2;(try simp only[bS,bA,zaf,zad,zac]);(iterate 4 (refine q0 _ ?_;clear q0 Q0;simp only[go_sem];refine z8 1 fun Q0 q0=>?_;simp only[↓bO,go_sem,seval]));refine q0 _ ?_;clear q0 Q0;simp only[go_sem];simp only[↓bO,go_sem,seval];refine y0 _ ?_;(try clear y0 Y0);refine zab fun Y0 y0=>?_;refine zaa ?_;(iterate 2 (refine z8 1 fun Q0 q0=>?_;simp only[↓bO,go_sem,seval];refine q0 _ ?_;clear q0 Q0;simp only[go_sem]));refine z8 1 fun Q0 q0=>?_;simp only[↓bO,go_sem,seval];refine CCalls.at (SizeA_c {S with F:=F1} hCS1 (by first | omega | (dsimp only;omega)) ask) (.cons (.v _) .nil) (fun _=>.tup (.cons (.v _) (.cons (.v _) .nil))) (i0:=3) (i1:=2) (i2:=7) (i3:=1) (i4:=0) (i5:=4) (i6:=5) (i7:=6) (by decide) (by simp) ⟨rfl,rfl,rfl,rfl,rfl,rfl,rfl,rfl,trivial⟩ (fun Z3 k3 hX3=>?_);(try dsimp only at hX3);simp only[zaP,zz,zB,zA,zam,zay,Nat.reduceEqDiff,↓reduceIte];obtain ⟨F2,rfl⟩:∃F,Z3={S with F:=F}:=⟨Z3.F,hX3.1⟩;have hT3:=hX3.2.2;have hfs3:=hX3.2.1;obtain ⟨d3,ok3⟩:=k3;(try simp only[bS,bA,zaf,zad,zac]);(iterate 4 (refine q0 _ ?_;clear q0 Q0;simp only[go_sem];refine z8 1 fun Q0 q0=>?_;simp only[↓bO,go_sem,seval]));refine q0 _ ?_;clear q0 Q0;simp only[go_sem];simp only[↓bO,go_sem,seval];refine y0 _ ?_;(try clear y0 Y0);refine zab fun Y0 y0=>?_;refine zab fun Y1 y1=>?_;refine zaa ?_;refine z8 1 fun Q0 q0=>?_;simp only[↓bO,go_sem,seval];refine q0 _ ?_;clear q0 Q0;simp only[go_sem];refine z8 1 fun Q0 q0=>?_;simp only[↓bO,go_sem,seval];refine APure.call (zib M c hcl hML) ?_;(try simp only[bS,bA,zaf,zad,zac]);refine q0 _ ?_;clear q0 Q0;simp only[go_sem];refine z8 1 fun Q0 q0=>?_;simp only[↓bO,go_sem,seval];refine q0 _ ?_;clear q0 Q0;simp only[go_sem];refine zaA 43 rfl (fun hc43=>?_) (fun hc43=>?_)
   ·
    simp only[zc,zb];(have hcS:S.clash=true:=by rw[← hclx];exact hc43);obtain ⟨rfl,rfl⟩:=Prod.mk.inj (hT2.no hcS);obtain ⟨rfl,rfl⟩:=Prod.mk.inj (hT3.no hcS);(iterate 10 (refine z8 1 fun Q0 q0=>?_;simp only[↓bO,go_sem,seval];refine q0 _ ?_;clear q0 Q0;simp only[go_sem]));simp only[↓bO,go_sem,seval];refine y1 _ ?_;(try clear y1 Y1);refine zak (b:=true) (by first | exact rfl | exact congrArg (fun b=>AV.v (.bool b)) hb54) (fun _=>?_) (fun h=>(by cases h));refine zab fun Y1 y1=>?_;refine zaa ?_;(iterate 3 (refine z8 1 fun Q0 q0=>?_;simp only[↓bO,go_sem,seval];refine q0 _ ?_;clear q0 Q0;simp only[go_sem]));refine zaA 57 rfl (fun hc57=>?_) (fun hc57=>?_)
    ·
     simp only[zc,zb];(iterate 4 (refine z8 1 fun Q0 q0=>?_;simp only[↓bO,go_sem,seval];refine q0 _ ?_;clear q0 Q0;simp only[go_sem]));refine zaA 61 rfl (fun hc61=>?_) (fun hc61=>?_)
     ·
      simp only[zc,zb];(iterate 4 (refine z8 1 fun Q0 q0=>?_;simp only[↓bO,go_sem,seval];refine q0 _ ?_;clear q0 Q0;simp only[go_sem]));refine zaA 65 rfl (fun hc65=>?_) (fun hc65=>?_)
      ·
       simp only[zc,zb];(iterate 4 (refine z8 1 fun Q0 q0=>?_;simp only[↓bO,go_sem,seval];refine q0 _ ?_;clear q0 Q0;simp only[go_sem]));refine zaA 69 rfl (fun hc69=>?_) (fun hc69=>?_)
       ·
        simp only[zc,zb];refine z8 1 fun Q0 q0=>?_;simp only[↓bO,go_sem,seval];refine APure.call (zb7) ?_;(try simp only[bS,bA,zaf,zad,zac]);refine q0 _ ?_;clear q0 Q0;simp only[go_sem];refine z8 1 fun Q0 q0=>?_;simp only[↓bO,go_sem,seval];refine q0 _ ?_;clear q0 Q0;simp only[go_sem];simp only[↓bO,go_sem,seval];refine y1 _ ?_;(try clear y1 Y1);refine zan ?_;(try simp only[zaf,zad,zac,zaY,zaX,zaC,bS,bA]);exact Le.refl _
       ·
        simp only[zc,zb];exact absurd hc69 (by simp)
      ·
       simp only[zc,zb];exact absurd hc65 (by simp)
     ·
      simp only[zc,zb];exact absurd hc61 (by simp)
    ·
     simp only[zc,zb];exact absurd hc57 (by simp)
   ·
    simp only[zc,zb];(have hcS:S.clash=false:=by rw[← hclx];exact hc43);obtain ⟨hHS,hKS⟩:=hCS.good hcS;have hPS:PSt ((za3 es).map EqT.p) M c S:=⟨hHS,hce,hM,hML,by rw[hKS,hM]⟩;have hNx:=hPS.nxOk;have hP1:=hPS.fsame (hfs2 hcS);have hF2:=(hfs2 hcS).trans (hfs3 hcS);refine z8 1 fun Q0 q0=>?_;simp only[↓bO,go_sem,seval];refine q0 _ ?_;clear q0 Q0;simp only[go_sem];refine z8 1 fun Q0 q0=>?_;simp only[↓bO,go_sem,seval];refine APure.call (FinR_pure M c hNx hML) ?_;(try simp only[bS,bA,zaf,zad,zac]);(iterate 3 (refine q0 _ ?_;clear q0 Q0;simp only[go_sem];refine z8 1 fun Q0 q0=>?_;simp only[↓bO,go_sem,seval]));refine q0 _ ?_;clear q0 Q0;simp only[go_sem];refine zaA 48 rfl (fun hc48=>?_) (fun hc48=>?_)
    ·
     simp only[zc,zb];(have hnf:zgO M c=false:=by simpa using hc48);obtain ⟨rfl,rfl⟩:=Prod.mk.inj (hPS.dep_no hT2 (.inl hnf));obtain ⟨rfl,rfl⟩:=Prod.mk.inj (hP1.dep_no hT3 (.inl hnf));(iterate 5 (refine z8 1 fun Q0 q0=>?_;simp only[↓bO,go_sem,seval];refine q0 _ ?_;clear q0 Q0;simp only[go_sem]));simp only[↓bO,go_sem,seval];refine y1 _ ?_;(try clear y1 Y1);refine zak (b:=true) (by first | exact rfl | exact congrArg (fun b=>AV.v (.bool b)) hb54) (fun _=>?_) (fun h=>(by cases h));refine zab fun Y1 y1=>?_;refine zaa ?_;(iterate 3 (refine z8 1 fun Q0 q0=>?_;simp only[↓bO,go_sem,seval];refine q0 _ ?_;clear q0 Q0;simp only[go_sem]));refine zaA 57 rfl (fun hc57=>?_) (fun hc57=>?_)
     ·
      simp only[zc,zb];(iterate 4 (refine z8 1 fun Q0 q0=>?_;simp only[↓bO,go_sem,seval];refine q0 _ ?_;clear q0 Q0;simp only[go_sem]));refine zaA 61 rfl (fun hc61=>?_) (fun hc61=>?_)
      ·
       simp only[zc,zb];(iterate 4 (refine z8 1 fun Q0 q0=>?_;simp only[↓bO,go_sem,seval];refine q0 _ ?_;clear q0 Q0;simp only[go_sem]));refine zaA 65 rfl (fun hc65=>?_) (fun hc65=>?_)
       ·
        simp only[zc,zb];(iterate 4 (refine z8 1 fun Q0 q0=>?_;simp only[↓bO,go_sem,seval];refine q0 _ ?_;clear q0 Q0;simp only[go_sem]));refine zaA 69 rfl (fun hc69=>?_) (fun hc69=>?_)
        ·
         simp only[zc,zb];refine z8 1 fun Q0 q0=>?_;simp only[↓bO,go_sem,seval];refine APure.call (zb7) ?_;(try simp only[bS,bA,zaf,zad,zac]);refine q0 _ ?_;clear q0 Q0;simp only[go_sem];refine z8 1 fun Q0 q0=>?_;simp only[↓bO,go_sem,seval];refine q0 _ ?_;clear q0 Q0;simp only[go_sem];simp only[↓bO,go_sem,seval];refine y1 _ ?_;(try clear y1 Y1);refine zan ?_;(try simp only[zaf,zad,zac,zaY,zaX,zaC,bS,bA]);exact Le.refl _
        ·
         simp only[zc,zb];exact absurd hc69 (by simp)
       ·
        simp only[zc,zb];exact absurd hc65 (by simp)
      ·
       simp only[zc,zb];exact absurd hc61 (by simp)
     ·
      simp only[zc,zb];exact absurd hc57 (by simp)
    ·
     simp only[zc,zb];(have hfin:zgO M c=true:=by simpa using hc48);(iterate 3 (refine z8 1 fun Q0 q0=>?_;simp only[↓bO,go_sem,seval];refine q0 _ ?_;clear q0 Q0;simp only[go_sem]));refine z8 1 fun Q0 q0=>?_;simp only[↓bO,go_sem,seval];refine APure.call (zeS M ask) ?_;(try simp only[bS,bA,zaf,zad,zac]);refine q0 _ ?_;clear q0 Q0;simp only[go_sem];refine z8 1 fun Q0 q0=>?_;simp only[↓bO,go_sem,seval];refine q0 _ ?_;clear q0 Q0;simp only[go_sem];simp only[↓bO,go_sem,seval];refine y1 _ ?_;(try clear y1 Y1);refine zak rfl (fun hb54=>?_) (fun hb54=>?_)
     ·
      (have hneg:zbY (RNode.isVar ask) M<0:=by simpa using hb54);have hvn:zaQ S.G.V ask=none:=hPS.var_none hneg;obtain ⟨rfl,rfl⟩:=Prod.mk.inj (hPS.dep_no hT2 (.inr hvn));obtain ⟨rfl,rfl⟩:=Prod.mk.inj (hP1.dep_no hT3 (.inr hvn));refine zab fun Y1 y1=>?_;refine zaa ?_;(iterate 3 (refine z8 1 fun Q0 q0=>?_;simp only[↓bO,go_sem,seval];refine q0 _ ?_;clear q0 Q0;simp only[go_sem]));refine zaA 57 rfl (fun hc57=>?_) (fun hc57=>?_)
      ·
       simp only[zc,zb];(iterate 4 (refine z8 1 fun Q0 q0=>?_;simp only[↓bO,go_sem,seval];refine q0 _ ?_;clear q0 Q0;simp only[go_sem]));refine zaA 61 rfl (fun hc61=>?_) (fun hc61=>?_)
       ·
        simp only[zc,zb];(iterate 4 (refine z8 1 fun Q0 q0=>?_;simp only[↓bO,go_sem,seval];refine q0 _ ?_;clear q0 Q0;simp only[go_sem]));refine zaA 65 rfl (fun hc65=>?_) (fun hc65=>?_)
        ·
         simp only[zc,zb];(iterate 4 (refine z8 1 fun Q0 q0=>?_;simp only[↓bO,go_sem,seval];refine q0 _ ?_;clear q0 Q0;simp only[go_sem]));refine zaA 69 rfl (fun hc69=>?_) (fun hc69=>?_)
         ·
          simp only[zc,zb];refine z8 1 fun Q0 q0=>?_;simp only[↓bO,go_sem,seval];refine APure.call (zb7) ?_;(try simp only[bS,bA,zaf,zad,zac]);refine q0 _ ?_;clear q0 Q0;simp only[go_sem];refine z8 1 fun Q0 q0=>?_;simp only[↓bO,go_sem,seval];refine q0 _ ?_;clear q0 Q0;simp only[go_sem];simp only[↓bO,go_sem,seval];refine y1 _ ?_;(try clear y1 Y1);refine zan ?_;(try simp only[zaf,zad,zac,zaY,zaX,zaC,bS,bA]);exact Le.refl _
         ·
          simp only[zc,zb];exact absurd hc69 (by simp)
        ·
         simp only[zc,zb];exact absurd hc65 (by simp)
       ·
        simp only[zc,zb];exact absurd hc61 (by simp)
      ·
       simp only[zc,zb];exact absurd hc57 (by simp)
     ·
      (have hge:¬zbY (RNode.isVar ask) M<0:=by simpa using hb54);obtain ⟨p9,hp9,hp9M⟩:=hPS.var_some hge;have hk2:ok2=true:=hPS.dep_yes hfin hp9 hp9M hT2;have hk3:ok3=true:=hP1.dep_yes hfin hp9 hp9M hT3;subst hk2;subst hk3;refine zar ?_;(try simp only[zaf,zad,zac]);refine y0 _ ?_;(try clear y0 Y0);refine zab fun Y0 y0=>?_;refine zaa ?_;(iterate 2 (refine z8 1 fun Q0 q0=>?_;simp only[↓bO,go_sem,seval];refine q0 _ ?_;clear q0 Q0;simp only[go_sem]));refine z8 1 fun Q0 q0=>?_;simp only[↓bO,go_sem,seval];refine APure.call (zg9 M hML) ?_;(try simp only[bS,bA,zaf,zad,zac]);refine q0 _ ?_;clear q0 Q0;simp only[go_sem];simp only[↓bO,go_sem,seval];refine y0 _ ?_;(try clear y0 Y0);refine zab fun Y0 y0=>?_;obtain ⟨L,hL⟩:∃L,L=zbc M:=⟨_,rfl⟩;(have hLl:L.length≤1048576:=by rw[hL,← hPS.sort,List.length_mergeSort,z6];exact hPS.vl);rw[← hL];refine zab fun Y1 y1=>?_;refine zaa ?_;simp only[↓bO,go_sem,seval];refine y1 _ ?_;(try clear y1 Y1);refine zao ?_;refine zaH (σ:=FS×Nat) (mB 139 7520) (fun x=>FSame S.F x.1∧x.2≤L.length) (fun x=>[(12,.v (.int .i64 (x.2:Int)))]) (fun x=>[(7,.tok 133 4 S.G.N.length),(6,.row 3 1 (S.W.map intC)),(5,.row 3 1 (x.1.rank.map intC)),(4,.row 3 1 (x.1.up.map nC)),(3,.cells 98 [.v (.int .i64 S.steps),.ptr 2 0,.ptr 0 0,.own 6 S.W.length,.v (.bool S.clash)]),(2,.cells 114 [.osl 7 4 (S.G.N.map GNode.cells),.map 1]),(1,.map (S.G.V.map vC)),(0,.cells 111 [.own 4 x.1.up.length,.own 5 x.1.rank.length,.v (.int .i64 x.1.sets),.v (.int .i64 x.1.steps)])]) (fun x=>L.length-x.2) (F2,0) (⟨hF2,Nat.zero_le _⟩) ?_ (fun x hx=>?_)
      ·
       simp only[zau,zav,zam,zay,mB,zc,zb,seval,za,zD,zI];refine Weak.sub ?_ ⟨rfl,rfl,rfl,rfl,rfl,rfl,rfl,rfl,trivial⟩ (by first | omega | (simp only;omega)) (by first | omega | (simp only;omega)) ?_ ?_;(· simp only[go_sem,Le.refl,Le.any]);(· exact clz10);· exact clz9
      simp only[zau,zav,zam,zay,mB,zc,zb,seval];refine zab fun Y1 y1=>?_;refine zab fun Y2 y2=>?_;refine zaa ?_;(iterate 3 (refine z8 1 fun Q0 q0=>?_;simp only[↓bO,go_sem,seval];refine q0 _ ?_;clear q0 Q0;simp only[go_sem]));simp only[↓bO,go_sem,seval];refine y2 _ ?_;(try clear y2 Y2);refine zak rfl (fun hb78=>?_) (fun hb78=>?_)
      ·
       (have hk:x.2<L.length:=by simpa using hb78);obtain ⟨a,ha⟩:∃a,L[x.2]?=some a:=⟨_,ze hk⟩;obtain ⟨q,hq1,hq2⟩:=zgW (m:=M) (n:=a) (by rw[← hL];exact zp ha);have hva:=var_at hPS hq1;have hwa:IntKind.i64.wrap ((x.2:Int)+1)=(x.2:Int)+1:=zaN (by omega) (by omega);have hPx:=hPS.fsame hx.1;have hCx:CSt ((za3 es).map EqT.p) {S with F:=x.1}:=hCS.fsame hx.1 rfl;obtain ⟨tv,htK,htD,htb⟩:=hPS.told hfin hq2;(have hqn:¬(q:Int)<0:=by omega);refine zar ?_;(try simp only[zaf,zad,zac]);refine y1 _ ?_;(try clear y1 Y1);refine zab fun Y1 y1=>?_;refine zao ?_;refine zab fun Y2 y2=>?_;refine zaV 7 mixed (by kernel_rfl) fun J0 j0=>?_;(iterate 6 (simp only[go_sem];refine zaw 1 fun Q0 q0=>?_;simp only[↓zaT,↓dOp,↓bO,go_sem,seval,hk,hq1,hqn,gM ha,hwa,intC,za];refine q0 _ ?_;clear q0 Q0));simp only[go_sem];simp only[↓zaT,↓dOp,↓bO,go_sem,seval,hk,hq1,hqn,gM ha,hwa,intC,za];refine ⟨_,zeS M a,?_⟩;(try simp only[bS,bA,zaf,zad,zac]);refine j0 _ ?_;clear j0 J0;simp only[go_sem];simp only[↓bO,go_sem,seval,hk,hq1,hqn,gM ha,hwa,intC,za];refine y2 _ ?_;(try clear y2 Y2);refine zab fun Y2 y2=>?_;refine zab fun Y3 y3=>?_;refine zaa ?_;(iterate 2 (refine z8 1 fun Q0 q0=>?_;simp only[↓bO,go_sem,seval,hk,hq1,hqn,gM ha,hwa,intC,za];refine q0 _ ?_;clear q0 Q0;simp only[go_sem]));refine z8 1 fun Q0 q0=>?_;simp only[↓bO,go_sem,seval,hk,hq1,hqn,gM ha,hwa,intC,za];refine Heavy_at M c hNx hML 5000 (by omega) (by omega) q hq2 (fun k9 hk9=>?_);(try simp only[bS,bA,zaf,zad,zac]);refine q0 _ ?_;clear q0 Q0;simp only[go_sem];simp only[↓bO,go_sem,seval,hk,hq1,hqn,gM ha,hwa,intC,za];refine y3 _ ?_;(try clear y3 Y3);refine zak rfl (fun hb91=>?_) (fun hb91=>?_)
       ·
        refine zaJ ?_;simp only[zaf,zad,zac,bA,Nat.reduceEqDiff,↓reduceIte];refine y1 _ ?_;(try clear y1 Y1);refine zaa ?_;(iterate 2 (refine z8 1 fun Q0 q0=>?_;simp only[↓bO,go_sem,seval,hk,hq1,hqn,gM ha,hwa,intC,za];refine q0 _ ?_;clear q0 Q0;simp only[go_sem]));simp only[↓bO,go_sem,seval,hk,hq1,hqn,gM ha,hwa,intC,za];refine ⟨(x.1,x.2+1),⟨hx.1,by simp only;omega⟩,(by simp only;omega),?_⟩;simp only[zau,zav,zam,zay,mB,zc,zb,seval,za,zD,zI];refine Weak.sub ?_ ⟨rfl,rfl,rfl,rfl,rfl,rfl,rfl,rfl,trivial⟩ (by first | omega | (simp only;omega)) (by first | omega | (simp only;omega)) ?_ ?_;(· simp only[go_sem,Le.refl,Le.any]);(· exact clz10);· exact clz9
       ·
        refine zar ?_;(try simp only[zaf,zad,zac]);refine y2 _ ?_;(try clear y2 Y2);refine zab fun Y2 y2=>?_;refine zaa ?_;(iterate 2 (refine z8 1 fun Q0 q0=>?_;simp only[↓bO,go_sem,seval,hk,hq1,hqn,gM ha,hwa,intC,za];refine q0 _ ?_;clear q0 Q0;simp only[go_sem]));refine z8 1 fun Q0 q0=>?_;simp only[↓bO,go_sem,seval,hk,hq1,hqn,gM ha,hwa,intC,za];refine APure.call (Told_pure hNx hML htD hq2 htb) ?_;(try simp only[bS,bA,zaf,zad,zac]);(iterate 4 (refine q0 _ ?_;clear q0 Q0;simp only[go_sem];refine z8 1 fun Q0 q0=>?_;simp only[↓bO,go_sem,seval,hk,hq1,hqn,gM ha,hwa,intC,za]));refine q0 _ ?_;clear q0 Q0;simp only[go_sem];simp only[↓bO,go_sem,seval,hk,hq1,hqn,gM ha,hwa,intC,za];refine y2 _ ?_;(try clear y2 Y2);refine zab fun Y2 y2=>?_;refine zaa ?_;(iterate 5 (refine z8 1 fun Q0 q0=>?_;simp only[↓bO,go_sem,seval,hk,hq1,hqn,gM ha,hwa,intC,za];refine q0 _ ?_;clear q0 Q0;simp only[go_sem]));refine z8 1 fun Q0 q0=>?_;simp only[↓bO,go_sem,seval,hk,hq1,hqn,gM ha,hwa,intC,za];refine CCalls.at (zhx {S with F:=x.1} hCx (by first | omega | (dsimp only;omega)) a) (.cons (.v _) .nil) (fun _=>.tup (.cons (.v _) (.cons (.v _) .nil))) (i0:=3) (i1:=2) (i2:=7) (i3:=1) (i4:=0) (i5:=4) (i6:=5) (i7:=6) (by decide) (by simp) ⟨rfl,rfl,rfl,rfl,rfl,rfl,rfl,rfl,trivial⟩ (fun Z4 k4 hX4=>?_);(try dsimp only at hX4);simp only[zaP,zz,zB,zA,zam,zay,Nat.reduceEqDiff,↓reduceIte];obtain ⟨F4,rfl⟩:∃F,Z4={S with F:=F}:=⟨Z4.F,hX4.1⟩;have hT4:=hX4.2.2;have hfs4:=hX4.2.1;obtain ⟨d4,ok4⟩:=k4;have hF4:=hx.1.trans (hfs4 hcS);have hP4:=hPS.fsame hF4;have hC4:CSt ((za3 es).map EqT.p) {S with F:=F4}:=hCx.fsameC hfs4;obtain ⟨rfl,rfl⟩:=Prod.mk.inj (hPx.dep hfin hva (hPx.tl_of hfin hq2 htD) hT4);(try simp only[bS,bA,zaf,zad,zac]);(iterate 4 (refine q0 _ ?_;clear q0 Q0;simp only[go_sem];refine z8 1 fun Q0 q0=>?_;simp only[↓bO,go_sem,seval,hk,hq1,hqn,gM ha,hwa,intC,za]));refine q0 _ ?_;clear q0 Q0;simp only[go_sem];simp only[↓bO,go_sem,seval,hk,hq1,hqn,gM ha,hwa,intC,za];refine y2 _ ?_;(try clear y2 Y2);refine zab fun Y2 y2=>?_;refine zaa ?_;(iterate 5 (refine z8 1 fun Q0 q0=>?_;simp only[↓bO,go_sem,seval,hk,hq1,hqn,gM ha,hwa,intC,za];refine q0 _ ?_;clear q0 Q0;simp only[go_sem]));refine z8 1 fun Q0 q0=>?_;simp only[↓bO,go_sem,seval,hk,hq1,hqn,gM ha,hwa,intC,za];refine CCalls.at (SizeA_c {S with F:=F4} hC4 (by first | omega | (dsimp only;omega)) a) (.cons (.v _) .nil) (fun _=>.tup (.cons (.v _) (.cons (.v _) .nil))) (i0:=3) (i1:=2) (i2:=7) (i3:=1) (i4:=0) (i5:=4) (i6:=5) (i7:=6) (by decide) (by simp) ⟨rfl,rfl,rfl,rfl,rfl,rfl,rfl,rfl,trivial⟩ (fun Z5 k5 hX5=>?_);(try dsimp only at hX5);simp only[zaP,zz,zB,zA,zam,zay,Nat.reduceEqDiff,↓reduceIte];obtain ⟨F5,rfl⟩:∃F,Z5={S with F:=F}:=⟨Z5.F,hX5.1⟩;have hT5:=hX5.2.2;have hfs5:=hX5.2.1;obtain ⟨d5,ok5⟩:=k5;have hF5:=hF4.trans (hfs5 hcS);obtain ⟨rfl,rfl⟩:=Prod.mk.inj (hP4.dep hfin hva (hP4.tl_of hfin hq2 htD) hT5);(try simp only[bS,bA,zaf,zad,zac]);(iterate 4 (refine q0 _ ?_;clear q0 Q0;simp only[go_sem];refine z8 1 fun Q0 q0=>?_;simp only[↓bO,go_sem,seval,hk,hq1,hqn,gM ha,hwa,intC,za]));refine q0 _ ?_;clear q0 Q0;simp only[go_sem];simp only[↓bO,go_sem,seval,hk,hq1,hqn,gM ha,hwa,intC,za];refine y2 _ ?_;(try clear y2 Y2);refine zab fun Y2 y2=>?_;refine zaa ?_;(iterate 3 (refine z8 1 fun Q0 q0=>?_;simp only[↓bO,go_sem,seval,hk,hq1,hqn,gM ha,hwa,intC,za];refine q0 _ ?_;clear q0 Q0;simp only[go_sem]));refine zaA 118 rfl (fun hc118=>?_) (fun hc118=>?_)
        ·
         simp only[zc,zb];exact absurd hc118 (by simp)
        ·
         simp only[zc,zb];(iterate 4 (refine z8 1 fun Q0 q0=>?_;simp only[↓bO,go_sem,seval,hk,hq1,hqn,gM ha,hwa,intC,za];refine q0 _ ?_;clear q0 Q0;simp only[go_sem]));refine zaA 122 rfl (fun hc122=>?_) (fun hc122=>?_)
         ·
          simp only[zc,zb];exact absurd hc122 (by simp)
         ·
          simp only[zc,zb];(iterate 5 (refine z8 1 fun Q0 q0=>?_;simp only[↓bO,go_sem,seval,hk,hq1,hqn,gM ha,hwa,intC,za];refine q0 _ ?_;clear q0 Q0;simp only[go_sem]));refine zaA 127 rfl (fun hc127=>?_) (fun hc127=>?_)
          ·
           simp only[zc,zb];exact absurd hc127 (by simp)
          ·
           simp only[zc,zb];(iterate 3 (refine z8 1 fun Q0 q0=>?_;simp only[↓bO,go_sem,seval,hk,hq1,hqn,gM ha,hwa,intC,za];refine q0 _ ?_;clear q0 Q0;simp only[go_sem]));simp only[↓bO,go_sem,seval,hk,hq1,hqn,gM ha,hwa,intC,za];refine y2 _ ?_;(try clear y2 Y2);refine zak rfl (fun hb131=>?_) (fun hb131=>?_)
           ·
            exact absurd hb131 (by simp)
           ·
            refine zar ?_;(try simp only[zaf,zad,zac]);refine y1 _ ?_;(try clear y1 Y1);refine zaa ?_;(iterate 2 (refine z8 1 fun Q0 q0=>?_;simp only[↓bO,go_sem,seval,hk,hq1,hqn,gM ha,hwa,intC,za];refine q0 _ ?_;clear q0 Q0;simp only[go_sem]));simp only[↓bO,go_sem,seval,hk,hq1,hqn,gM ha,hwa,intC,za];refine ⟨(F5,x.2+1),⟨hF5,by simp only;omega⟩,(by simp only;omega),?_⟩;simp only[zau,zav,zam,zay,mB,zc,zb,seval,za,zD,zI];refine Weak.sub ?_ ⟨rfl,rfl,rfl,rfl,rfl,rfl,rfl,rfl,trivial⟩ (by first | omega | (simp only;omega)) (by first | omega | (simp only;omega)) ?_ ?_;(· simp only[go_sem,Le.refl,Le.any]);(· exact clz10);· exact clz9
      ·
       refine zaJ ?_;simp only[zaf,zad,zac,bA,Nat.reduceEqDiff,↓reduceIte];refine y0 _ ?_;(try clear y0 Y0);refine zab fun Y0 y0=>?_;refine zaa ?_;(iterate 2 (refine z8 1 fun Q0 q0=>?_;simp only[↓bO,go_sem,seval];refine q0 _ ?_;clear q0 Q0;simp only[go_sem]));refine zaA 133 rfl (fun hc133=>?_) (fun hc133=>?_)
       ·
        simp only[zc,zb];(iterate 3 (refine z8 1 fun Q0 q0=>?_;simp only[↓bO,go_sem,seval];refine q0 _ ?_;clear q0 Q0;simp only[go_sem]));refine zaA 136 rfl (fun hc136=>?_) (fun hc136=>?_)
        ·
         simp only[zc,zb];refine z8 1 fun Q0 q0=>?_;simp only[↓bO,go_sem,seval];refine APure.call (zb7) ?_;(try simp only[bS,bA,zaf,zad,zac]);refine q0 _ ?_;clear q0 Q0;simp only[go_sem];refine z8 1 fun Q0 q0=>?_;simp only[↓bO,go_sem,seval];refine q0 _ ?_;clear q0 Q0;simp only[go_sem];simp only[↓bO,go_sem,seval];refine y0 _ ?_;(try clear y0 Y0);refine zan ?_;(try simp only[zaf,zad,zac,zaY,zaX,zaC,bS,bA]);exact Le.refl _
        ·
         simp only[zc,zb];exact absurd hc136 (by simp)
       ·
        simp only[zc,zb];exact absurd hc133 (by simp)
end Go.Proofs.YtjjjckjebkmnjaaGreat
namespace Go.Proofs.YtjjjckjebkmnjaaGreat.cycleTells
open Go Go.ChangeShapes Go.WideShapes Go.ChangeAt Go.RowKit
set_option linter.unusedVariables false
theorem own:ownKnob Tryz.prog.godebug=none:=by kernel_rfl
theorem laidOut:laidOutB Tryz.prog=true:=by kernel_rfl
theorem cT:Tryz.prog.cellsOf 47=3:=by kernel_rfl
theorem cI:Tryz.prog.cellsOf 3=1:=by kernel_rfl
theorem cS:Tryz.prog.cellsOf 45=1:=by kernel_rfl
section
variable {H:Type} {enc:TypeId×Value→H} {w:World} {base:Nat} {spare:Nat→Bool} {held:Bool}
theorem rdT (fuel:Nat):Rd enc Tryz.prog w base spare held Env.none fuel 47 Ty.cells :=
  rd_ty Tryz.underlying47 cT rfl rfl rfl rfl rfl rfl Tryz.underlying3 cI Tryz.underlying45 cS fuel
theorem rdS (fuel:Nat):Rd enc Tryz.prog w base spare held Env.none fuel 45 (fun xs:List Ty=>[.sl 3 (xs.map Ty.cells)]) :=
  zfN Tryz.underlying45 cT (by omega) Ty.cells_len fun n _=>rdT n
theorem cP:Tryz.prog.cellsOf 49=2:=by kernel_rfl
theorem cE:Tryz.prog.cellsOf 51=8:=by kernel_rfl
theorem rdE (fuel:Nat):Rd enc Tryz.prog w base spare held Env.none fuel 51 EqT.cells :=
  rd_eq Tryz.underlying51 cE cT cP rfl rfl rfl rfl rfl rfl rdT (fun n=>rd_two Tryz.underlying49 cP rfl rfl rfl rfl Tryz.underlying3 cI n) fuel
theorem rdEs (fuel:Nat):Rd enc Tryz.prog w base spare held Env.none fuel 22 (fun xs:List EqT=>[.sl 8 (xs.map EqT.cells)]) :=
  zfN Tryz.underlying22 cE (by omega) (fun _=>rfl) fun n _=>rdE n
end
set_option maxRecDepth 100000 in
theorem lifted (os:Go.Os) (started:os.Started) (H:Type) (enc:TypeId×Value→H) :
    ReturnsInHanded {} Tryz.checked os 4 .any (Rows.cycleTellsSpec.pre6 enc Tryz.prog Tryz.f4 Rows.cycleTellsRow.domain false) (Rows.cycleTellsSpec.post enc Tryz.prog Tryz.f4 false true false false):=by
  refine returnsInHanded_of_change (C:=Tryz.checked) own started (by kernel_rfl) Tryz.func4
    (ChangeSpec.witness6 (enc:=enc) (C:=Tryz.checked) false ⟨#[],#[.slice none 0 0,.int .i64 0],[]⟩ 8 (by kernel_rfl) (by kernel_rfl) (by kernel_rfl) (by kernel_rfl)) ?_
  intro W base args ds gs before hval0 hW hcnd _;have hval:∀(j:Nat) t v,Tryz.f4.params[j]?=some t→args[j]?=some v→Value.okWide Tryz.prog W .any base t v:=hval0;have hW':=hW;obtain ⟨p,q,hA0,hV,rfl,hfz,hnd⟩:=hW;have hA:DataW.TrodAll enc Tryz.prog W 0 (fun _=>true) true Tryz.f4.params.toList args.toList ds p:=hA0;rw[Tryz.params4] at hA hval;obtain ⟨v0,vs0,d0,ds0,p0,q0,hargs,rfl,rfl,h0,r0⟩:=trodAll_cons hA;obtain ⟨v1,vs1,d1,ds1,p1,q1,rfl,rfl,rfl,h1,r1⟩:=trodAll_cons r0;obtain ⟨rfl,rfl,rfl⟩:=trodAll_nil r1;(obtain rfl:args=#[v0,v1]:=by cases args;simp_all);obtain ⟨rfl,rfl⟩:=trodVars_none hV;have k0:=h0;(have lt0:∀x∈p0,x.block<W.heap.size:=by obtain ⟨m,hm⟩:=k0;exact DataW.trod_lt m _ _ _ hm);obtain ⟨b0,len0,cap0,rfl⟩:=okWide_slice Tryz.underlying22 (hval 0 22 v0 rfl rfl)
  obtain ⟨P0,hr0⟩:∃P:List EqT,Rp Env.none (fun _ _=>False) W (.sl 8 (P.map EqT.cells)) (.slice b0 len0 cap0):=by
    obtain ⟨m,hm⟩:=h0;obtain ⟨P,_,hr⟩:=rdEs m _ _ hm;exact ⟨P,hr 0 _ _ rfl rfl⟩
  obtain ⟨a1,rfl,rfl,rfl,w1⟩:=open_int Tryz.underlying3 (hval 1 3 v1 rfl rfl) h1;clear hA0 hval0;refine ((zeJ P0 a1).calls (w:=W) rfl ?_).mono fun e W' ⟨he,bel⟩=>?_
  · intro i c u hc hu
    match i with
    | 0=>simp at hc hu;subst hc;subst hu;exact hr0
    | 1=>simp at hc hu;subst hc;subst hu;exact .v _
    | i+2=>simp at hc
  subst he;exact ⟨_,rfl,_,_,_,[],_,[],hW',trodAll_mk1 (shut_bool Tryz.underlying4 _),(trodAll_cons_mk (Below.trod laidOut (by kernel_rfl) (of_decide_eq_true (by kernel_rfl)) k0 bel lt0) (trodAll_cons_mk (shut_int Tryz.underlying3 w1) trodAll_mk0)),rfl,bel.frame _,fun h=>by cases h⟩
theorem over:Rows.cycleTellsRow.holds Tryz.pinned (OpenSpec.ofChange Rows.cycleTellsSpec) :=
  OpenClaim.holds_of_wide 4 Tryz.f4 rfl rfl rfl rfl rfl rfl rfl ⟨rfl,rfl,rfl,rfl,rfl⟩ rfl rfl rfl rfl rfl (by kernel_rfl) Tryz.func4 (by kernel_rfl)
    (of_decide_eq_true (by kernel_rfl)) (by unfold Func.isWrapper;first | (rw[if_pos (by decide +kernel)];kernel_rfl) | (rw[if_neg (by decide +kernel)];exact ⟨rfl,rfl⟩))
    (fun os started H enc _=>lifted os started H enc)
end Go.Proofs.YtjjjckjebkmnjaaGreat.cycleTells
namespace Go.Proofs.YtjjjckjebkmnjaaGreat
theorem cycleTells_proved : Rows.CycleTellsSaid := cycleTells.over
#print axioms cycleTells_proved
end Go.Proofs.YtjjjckjebkmnjaaGreat
