/- packed, part 45 of 47. Conditions: none. -/
import Derived.Test.YtpfiliamceimmaaGreatDoorPk44
set_option linter.unusedVariables false
set_option linter.unusedSimpArgs false
set_option maxRecDepth 100000
set_option maxHeartbeats 4000000
namespace Go.Proofs.YtpfiliamceimmaaGreatDoor
open Go Go.RowKit
attribute [local irreducible] aops zaA
def ze4 (l:List Bd):Bool:=(l.take 30).any (fun b=>b.t.great)||decide (24<l.length)||decide (400<Ty.cntL ((l.take 30).map Bd.t))
theorem zdX {l:List Bd} {s:Nat} {b:Bd} (hp:l[s]?=some b) (hs:s<30) (h:b.t.great=true):ze4 l=true:=by
 have h1:(l.take 30).any (fun b=>b.t.great)=true:=zce (i:=s) (p:=b) (by rw[List.getElem?_take,if_pos hs];exact hp) h;simp only[ze4,h1,Bool.true_or]
theorem zk4 {l:List Bd} {s:Nat} (hs:¬(s<l.length/\s<30)) (h1:s<=l.length) (h2:s<=30) (h:∀(i:Nat) (b:Bd),i<s->l[i]?=some b->b.t.great=false):ze4 l=(decide (24<l.length)||decide (400<Ty.cntL ((l.take s).map Bd.t))):=by
 have e:l.take 30=l.take s:=by
  rcases zD s 30 with h3 | h3
  ·have h4:s=l.length:=by omega
   subst h4;rw[zM,List.take_of_length_le tz1]
  rw[show s=30 by omega]
 have h0:(l.take s).any (fun b=>b.t.great)=false:=zbZ fun i p hi hp=>by
  rw[List.getElem?_take] at hp;(split at hp);(·exact h i p (by assumption) hp);cases hp
 simp only[ze4,e,h0,Bool.false_or]
theorem zjm {l:List Bd} (h:ze4 l=false):l.length<=24/\Ty.cntL (l.map Bd.t)<=400/\∀b∈l,b.t.cnt<=400:=by
 simp only[ze4,Bool.or_eq_false_iff,ze] at h;obtain ⟨⟨h1,h2⟩,h3⟩:=h;rw[List.take_of_length_le tz1] at h3
 exact ⟨by omega,by omega,fun b hb=>by
  have:=Ty.cnt_mem (zq.2 ⟨b,hb,rfl⟩:b.t∈l.map Bd.t)
  omega⟩
theorem ziN (l:List Bd):APure Tryz.prog 15 [.sl 4 (l.map Bd.cells)] (.v (.bool (ze4 l))):=by
  refine APure.mkL (.cons (Bd.dataSl l) .nil) (.v _) ?_;refine aIn Tryz.func15 fun hm=>?_;simp only[Tryz.ntmps15,Tryz.results15,go_sem,seval];(iterate 2 (refine zZ fun _ u=>?_;apply z7;simp only[↓bO,go_sem,seval];apply u));refine zZ fun _ u=>?_;refine sqD ?_;apply zab;refine zah (σ:=Nat) (mB 36 25) (fun s=>s<=l.length/\s<=30/\Ty.cntL ((l.take s).map Bd.t)<=300 * s/\∀(i:Nat) (b:Bd),i<s->l[i]?=some b->b.t.great=false) (fun s=>[(3,.v (.int .i64 (Ty.cntL ((l.take s).map Bd.t):Nat))),(4,.v (.int .i64 (s:Int)))]) (fun s=>[]) (fun s=>30-s) 0 (⟨by omega,by omega,by simp[Ty.cntL],fun i p hi=>by omega⟩) ?_ (fun s hs=>?_)
  ·
   simp only[go_sem,seval,bL,Ty.cntL,zn];exact zaK
  simp only[go_sem,seval];refine zZ fun _ w=>?_;refine zaU (mB 36 4121) ([(12,.v (.bool (decide (s<l.length/\s<30))))]) ([]) ?_ ?_
  ·
   apply z7;(iterate 5 (refine chS 1 ?_));refine zai 9 rfl (fun hc9=>?_) (fun hc9=>?_)
   ·
    (iterate 2 (refine chS 1 ?_));simp only[↓bO,go_sem,seval];(try simp only[go_sem,seval]);refine Weak.mk ?_ (fun _ _ h=>h) rfl rfl;simp only[go_sem,Le.refl,Le.any];all_goals (refine Le.of_eq (congrArg (fun b=>AV.v (.bool b)) ?_);rw[zF];simp only[zd,ze,zH,false_iff,Int.ofNat_lt] at *;omega)
   (iterate 2 (refine chS 1 ?_));simp only[↓bO,go_sem,seval];(try simp only[go_sem,seval]);refine Weak.mk ?_ (fun _ _ h=>h) rfl rfl;simp only[go_sem,Le.refl,Le.any];all_goals (refine Le.of_eq (congrArg (fun b=>AV.v (.bool b)) ?_);rw[zF];simp only[zd,ze,zH,false_iff,Int.ofNat_lt] at *;omega)
  simp only[go_sem,seval];apply z8 rfl <;> intro hb12
  ·
   (have hk0:s<l.length/\s<30:=by simpa using hb12);have hk:s<l.length:=hk0.1;obtain ⟨b,hb⟩:∃b,l[s]?=some b:=⟨_,za hk⟩;(have hss:Ty.cntL ((l.take (s+1)).map Bd.t)=Ty.cntL ((l.take s).map Bd.t)+b.t.cnt:=by (rw[zaN Bd.t hb,Ty.cntL_append];simp[Ty.cntL]));have hw:IntKind.i64.wrap ((s:Int)+1)=(s:Int)+1:=zal tz1 tz1;apply zac;apply w;refine zZ fun _ w=>?_;apply zab;refine zZ fun _ z=>?_;refine sqR fun _ x=>?_;(iterate 5 (refine chS 1 ?_ (by intro _ q;simp only[↓bO,go_sem,seval,Bd.drop1,hk,gM hb];exact q)));simp only[↓bO,go_sem,seval];refine APure.call (zi6 b.t) ?_;apply x;apply z8 rfl <;> intro hb20
   ·
    (have hyb:b.t.great=true:=by simpa using hb20);refine sqD ?_;apply zaa;(try simp only[go_sem]);refine Le.of_eq (congrArg (fun b=>AV.v (.bool b)) ?_);(first | (rw[zdX hb tz1 hyb];done) | skip);all_goals (rw[hg1,zF];simp only[Bool.or_eq_true,zd,ze,true_iff,zH,false_iff] at *;omega)
   (have hb1:b.t.great=false:=by simpa using hb20);have hpc1:=Ty.great_cnt hb1;have hsz1:=Ty.sizeW_cnt b.t tz1;(have hw2:IntKind.i64.wrap ((Ty.cntL ((l.take s).map Bd.t):Int)+b.t.sizeW)=(Ty.cntL ((l.take (s+1)).map Bd.t):Int):=by rw[hsz1,zal tz1 tz1];omega);apply zac;apply z;apply z7;(iterate 6 (refine chS 1 ?_ (by intro _ q;simp only[↓bO,go_sem,seval,Bd.drop1,hk,gM hb];exact q)));refine z6 1 fun _ y=>?_;simp only[↓bO,go_sem,seval];refine APure.call (zd9 b.t) ?_;apply y;clear y;refine chS 1 ?_ (by intro _ q;simp only[↓bO,go_sem,seval,hw2];exact q);simp only[↓bO,go_sem,seval];apply w;apply z7;(iterate 2 (refine chS 1 ?_ (by intro _ q;simp only[↓bO,go_sem,seval,hw];exact q)));simp only[↓bO,go_sem,seval];refine ⟨(s+1),⟨by omega,by omega,by omega,fun i p' hi h1=>(by rcases zD i s with h3 | h3 <;> first | exact hs.2.2.2 i p' h3 h1 | (obtain rfl:i=s:=tz1;rw[hb] at h1;cases h1;exact hb1))⟩,by omega,?_⟩;simp only[zas,zat,zag,zam,mB,seval,zj,zi];exact zaK
  (have hk0:¬(s<l.length/\s<30):=by simpa using hb12);have hg1:=zk4 hk0 hs.1 hs.2.1 hs.2.2.2;apply zaj;simp only[zaq,zak,zaf,bA,Nat.reduceEqDiff,↓reduceIte];apply u;refine sqR fun _ u=>?_;(iterate 4 (refine chS 1 ?_));refine zai 32 rfl (fun hc32=>?_) (fun hc32=>?_)
  ·
   (iterate 3 (refine chS 1 ?_));simp only[↓bO,go_sem,seval];apply u;apply zaa;(try simp only[go_sem]);refine Le.of_eq (congrArg (fun b=>AV.v (.bool b)) ?_);(first | (rw[zdX hb tz1 hyb];done) | skip);all_goals (rw[hg1,zF];simp only[Bool.or_eq_true,zd,ze,true_iff,zH,false_iff] at *;omega)
  (iterate 3 (refine chS 1 ?_));simp only[↓bO,go_sem,seval];apply u;apply zaa;(try simp only[go_sem]);refine Le.of_eq (congrArg (fun b=>AV.v (.bool b)) ?_);(first | (rw[zdX hb tz1 hyb];done) | skip);all_goals (rw[hg1,zF];simp only[Bool.or_eq_true,zd,ze,true_iff,zH,false_iff] at *;omega)
theorem zj8 (l:List Bd) (i:Nat) (b:Bd) (hb:l[i]?=some b):APure Tryz.prog 53 [.sl 4 (l.map Bd.cells),.v (.int .i64 (i:Int))] (.v (.bool (zbI l b.v==(i:Int)))):=by
 refine APure.mkL (.cons (Bd.dataSl l) (.cons (.v _) .nil)) (.v _) ?_;refine aIn Tryz.func53 fun hm=>?_;simp only[Tryz.ntmps53,Tryz.results53,go_sem,seval];have hk:i<l.length:=(zb.1 hb).1;refine sqD ?_;refine sqR fun _ u=>?_;(iterate 6 (refine chS 1 ?_ (by intro _ q;simp only[↓bO,go_sem,seval,Bd.take1,Bd.cells_len,hk,gM hb];exact q)));refine z6 1 fun _ y=>?_;simp only[↓bO,go_sem,seval];refine APure.call (Find_pure l b.v) ?_;(iterate 2 (apply y;clear y;refine z6 1 fun _ y=>?_;simp only[↓bO,go_sem,seval]));apply y;clear y;simp only[↓bO,go_sem,seval];apply u;apply zaa;exact Le.refl _
theorem zjM (l:List Bd):APure Tryz.prog 23 [.sl 4 (l.map Bd.cells)] (.v (.bool (zfV l))):=by
  refine APure.mkL (.cons (Bd.dataSl l) .nil) (.v _) ?_;refine aIn Tryz.func23 fun hm=>?_;simp only[Tryz.ntmps23,Tryz.results23,go_sem,seval];have hm1:=hm.len (sz:=4) (xs:=l.map Bd.cells) tz4;rw[zC] at hm1;refine sqD ?_;refine zZ fun _ u=>?_;refine sqD ?_;apply zab;refine zah (σ:=Nat) (mB 39 9) (fun s=>s<=l.length/\∀i,i<s->zh4 l i=true) (fun s=>[(3,.v (.int .i64 (s:Int)))]) (fun s=>[]) (fun s=>l.length-s) 0 (⟨by omega,fun i hi=>by omega⟩) ?_ (fun s hs=>?_)
  ·
   simp only[go_sem,seval];exact zaK
  simp only[go_sem,seval];refine zZ fun _ w=>?_;refine sqR fun _ z=>?_;(iterate 3 (refine chS 1 ?_));simp only[↓bO,go_sem,seval];apply z;apply z8 rfl <;> intro hb7
  ·
   (have hk:s<l.length:=by simpa using hb7);obtain ⟨b,hb⟩:∃b,l[s]?=some b:=⟨_,za hk⟩;have hw:IntKind.i64.wrap ((s:Int)+1)=(s:Int)+1:=zal tz1 (by simp only[maxLen] at hm1;omega);apply zac;apply w;refine zZ fun _ w=>?_;apply zab;refine sqR fun _ z=>?_;(iterate 2 (refine chS 1 ?_ (by intro _ q;simp only[↓bO,go_sem,seval,hk];exact q)));refine z6 1 fun _ y=>?_;simp only[↓bO,go_sem,seval];refine APure.call (zj8 l s b hb) ?_;(iterate 2 (apply y;clear y;refine z6 1 fun _ y=>?_;simp only[↓bO,go_sem,seval]));apply y;clear y;refine zai 14 rfl (fun hc14=>?_) (fun hc14=>?_)
   ·
    simp only[go_sem];(have h14:(zbI l b.v==(s:Int))=false:=by simpa using hc14);(have hno:zh4 l s=false:=by (simp only[zh4,hb,h14,Bool.false_and]));(iterate 23 (refine chS 1 ?_));simp only[↓bO,go_sem,seval];apply z;refine z8 (b:=true) (by first | exact rfl | exact congrArg (fun b=>AV.v (.bool b)) hb38) (fun _=>?_) (fun h=>(by cases h));refine sqD ?_;apply zaa;(try simp only[go_sem]);refine Le.of_eq (congrArg (fun b=>AV.v (.bool b)) ?_);first | (rw[zbK hno];done) | (rw[zbE fun i hi=>hs.2 i tz1];done)
   simp only[go_sem];(have h14:(zbI l b.v==(s:Int))=true:=by simpa using hc14);(iterate 8 (refine chS 1 ?_ (by intro _ q;simp only[↓bO,go_sem,seval,Bd.take1,Bd.cells_len,hk,gM hb];exact q)));refine zai 22 rfl (fun hc22=>?_) (fun hc22=>?_)
   ·
    simp only[go_sem];(have h22:¬0<=b.v:=by (have h9:=hc22;simp at h9;omega));(have hno:zh4 l s=false:=by (simp only[zh4,hb,decide_eq_false h22,Bool.false_and,Bool.and_false]));(iterate 15 (refine chS 1 ?_));simp only[↓bO,go_sem,seval];apply z;refine z8 (b:=true) (by first | exact rfl | exact congrArg (fun b=>AV.v (.bool b)) hb38) (fun _=>?_) (fun h=>(by cases h));refine sqD ?_;apply zaa;(try simp only[go_sem]);refine Le.of_eq (congrArg (fun b=>AV.v (.bool b)) ?_);first | (rw[zbK hno];done) | (rw[zbE fun i hi=>hs.2 i tz1];done)
   simp only[go_sem];(have h22:0<=b.v:=by (have h9:=hc22;simp at h9;omega));(iterate 8 (refine chS 1 ?_ (by intro _ q;simp only[↓bO,go_sem,seval,Bd.take1,Bd.cells_len,hk,gM hb];exact q)));refine zai 30 rfl (fun hc30=>?_) (fun hc30=>?_)
   ·
    simp only[go_sem];(have h30:¬b.v<1073741824:=by (have h9:=hc30;simp at h9;omega));(have hno:zh4 l s=false:=by (simp only[zh4,hb,decide_eq_false h30,Bool.false_and,Bool.and_false]));(iterate 7 (refine chS 1 ?_));simp only[↓bO,go_sem,seval];apply z;refine z8 (b:=true) (by first | exact rfl | exact congrArg (fun b=>AV.v (.bool b)) hb38) (fun _=>?_) (fun h=>(by cases h));refine sqD ?_;apply zaa;(try simp only[go_sem]);refine Le.of_eq (congrArg (fun b=>AV.v (.bool b)) ?_);first | (rw[zbK hno];done) | (rw[zbE fun i hi=>hs.2 i tz1];done)
   simp only[go_sem];(have h30:b.v<1073741824:=by (have h9:=hc30;simp at h9;omega));(iterate 5 (refine chS 1 ?_ (by intro _ q;simp only[↓bO,go_sem,seval,Bd.drop1,hk,gM hb];exact q)));refine z6 1 fun _ y=>?_;simp only[↓bO,go_sem,seval];refine APure.call (zcT b.t) ?_;apply y;clear y;refine chS 1 ?_;simp only[↓bO,go_sem,seval];apply z;apply z8 rfl <;> intro hb38
   ·
    (have h38:b.t.right=false:=by simpa using hb38);(have hno:zh4 l s=false:=by (simp only[zh4,hb,h38,Bool.and_false]));refine sqD ?_;apply zaa;(try simp only[go_sem]);refine Le.of_eq (congrArg (fun b=>AV.v (.bool b)) ?_);first | (rw[zbK hno];done) | (rw[zbE fun i hi=>hs.2 i tz1];done)
   (have h38:b.t.right=true:=by simpa using hb38);(have hyes:zh4 l s=true:=by (simp only[zh4,hb,h14,h38,decide_eq_true h22,decide_eq_true h30,Bool.and_self]));apply zac;apply w;apply z7;(iterate 2 (refine chS 1 ?_ (by intro _ q;simp only[↓bO,go_sem,seval,hw];exact q)));simp only[↓bO,go_sem,seval];refine ⟨(s+1),⟨by omega,fun i hi=>(by rcases zD i s with h3 | h3 <;> first | exact hs.2 i h3 | (obtain rfl:i=s:=tz1;exact hyes))⟩,by omega,?_⟩;simp only[zas,zat,zag,zam,mB,seval,zj,zi];exact zaK
  (have hk:s=l.length:=by have:=hs.1;simp at hb7;omega);apply zaj;simp only[zaq,zak,zaf,bA,Nat.reduceEqDiff,↓reduceIte];apply u;refine sqD ?_;apply zaa;(try simp only[go_sem]);refine Le.of_eq (congrArg (fun b=>AV.v (.bool b)) ?_);first | (rw[zbK hno];done) | (rw[zbE fun i hi=>hs.2 i tz1];done)
theorem ziJ (l:List Int):((l.map intC).all fun y=>y.all AV.one)=true:=by
 induction l with
 | nil=>rfl
 | cons x l ih=>rw[zy,List.all_cons,ih];rfl
theorem zjL {l:List (Ty×Ty)} {s:Nat} {e:Ty×Ty} (h:l[s]?=some e):zaP (l.take (s+1))=e.2.rvars (e.1.rvars (zaP (l.take s))):=by
 rw[zR,h];exact zdK _ _
theorem zdL (l:List (Ty×Ty)):(zaP l).length<=zbw l:=by
 have h:=zgQ l
 have e:∀k:List (Ty×Ty),(k.map fun e=>e.1.cnt+e.2.cnt).sum=zbw k:=by
  intro k
  induction k with
  | nil=>rfl
  | cons x k ih=>simp only[zy,List.sum_cons,ih,zbw]
 rw[e] at h;exact h
end Go.Proofs.YtpfiliamceimmaaGreatDoor
