/- packed, part 32 of 48. Conditions: none. -/
import Derived.Test.YtpfiliamceimmaaGreatDoorPk31
set_option linter.unusedVariables false
set_option linter.unusedSimpArgs false
namespace Go.Proofs.YtpfiliamceimmaaGreatDoor
open Go Go.RowKit
set_option maxRecDepth 100000
set_option maxHeartbeats 1000000
attribute [local irreducible] aops zaA
theorem Ty.ind {C:Ty->Prop} (h:∀T,(∀p∈T.ps,C p)->C T):∀T,C T:=by
 have key:∀n,∀T:Ty,SizeOf.sizeOf T<=n->C T:=by
  intro n
  induction n with
  | zero=>intro T hT;cases T;simp at hT
  | succ n ih =>
   intro T hT;refine h T (fun p hp=>ih p ?_)
   cases T with
   | mk k m ps =>
    have:=List.sizeOf_lt_of_mem (show p∈ps from hp);(simp at hT);omega
 exact fun T=>key _ T (zQ _)
mutual
def Ty.same:Ty->Ty->Bool
 | .mk k n ps,.mk k' n' ps'=>k==k'&&n==n'&&Ty.sameL ps ps'
def Ty.sameL:List Ty->List Ty->Bool
 | [],[]=>true
 | p::ps,q::qs=>Ty.same p q&&Ty.sameL ps qs
 | _,_=>false
end
theorem Ty.same_eq (a b:Ty):a.same b=(a.k==b.k&&a.n==b.n&&Ty.sameL a.ps b.ps):=by cases a;cases b;simp[Ty.same,Ty.k,Ty.n,Ty.ps]
theorem Ty.sameL_len:∀{ps qs:List Ty},ps.length≠qs.length->Ty.sameL ps qs=false
 | [],[],h=>absurd rfl h
 | [],_::_,_=>by simp[Ty.sameL]
 | _::_,[],_=>by simp[Ty.sameL]
 | p::ps,q::qs,h=>by simp[Ty.sameL,Ty.sameL_len (ps:=ps) (qs:=qs) (by simpa using h)]
theorem Ty.sameL_false:∀{ps qs:List Ty} {k:Nat} {p q:Ty},ps[k]?=some p->qs[k]?=some q->p.same q=false->Ty.sameL ps qs=false
 | p::ps,q::qs,0,_,_,h1,h2,h=>by simp at h1 h2;subst h1;subst h2;simp[Ty.sameL,h]
 | p::ps,q::qs,k+1,_,_,h1,h2,h=>by simp[Ty.sameL,Ty.sameL_false (k:=k) (by simpa using h1) (by simpa using h2) h]
 | [],_,_,_,_,h1,_,_=>by simp at h1
 | _::_,[],_,_,_,_,h2,_=>by simp at h2
theorem Ty.sameL_true:∀{ps qs:List Ty},ps.length=qs.length->(∀(k:Nat) (p q:Ty),ps[k]?=some p->qs[k]?=some q->p.same q=true)->Ty.sameL ps qs=true
 | [],[],_,_=>by simp[Ty.sameL]
 | p::ps,q::qs,hl,h=>by
  have h1:=h 0 p q rfl rfl;have h2:=Ty.sameL_true (ps:=ps) (qs:=qs) (by simpa using hl) (fun k p q hp hq=>h (k+1) p q (by simpa using hp) (by simpa using hq));simp[Ty.sameL,h1,h2]
theorem zaL {p:Prop} (h:p:=by exact Weak.mk (by simp only[go_sem,Le.refl,Le.any,zn,zh]) (fun _ _ h=>h) rfl rfl):p:=h
theorem zbb:∀(T1 T2:Ty),APure Tryz.prog 17 [.agg T1.cells,.agg T2.cells] (.v (.bool (T1.same T2))):=by
  refine Ty.ind fun T1 ih=>?_;intro T2;refine APure.mk (.cons T1.dataAgg (.cons T2.dataAgg .nil)) (.v _) ?_;refine aIn Tryz.func17 fun hm=>?_;simp only[Tryz.ntmps17,Tryz.results17,go_sem,seval];have hm1:=hm.wide (t:=T1) tz4;refine sqD ?_;refine z6 fun _ u=>?_;refine sqR fun _ w=>?_;(iterate 2 (refine chS 3 ?_));refine zag 11 rfl (fun hc11=>?_) (fun hc11=>?_)
  ·
   (iterate 4 (refine chS 3 ?_));simp only[↓bO,go_sem,seval];apply w;refine z8 (b:=true) (by first | exact rfl | exact congrArg (fun b=>AV.v (.bool b)) hb26) (fun _=>?_) (fun h=>(by cases h));refine sqD ?_;apply zab;(try simp only[go_sem]);first | (rw[Ty.same_eq];simp_all;done) | (rw[Ty.same_eq];simp at hb45;rw[Ty.sameL_false hp hq hb45];simp;done) | (rw[Ty.same_eq];simp at hb26;rw[Ty.sameL_len tz1];simp;done) | (rw[Ty.same_eq,Ty.sameL_true e3 (fun i p q h1 h2=>hs.2 i p q (by have:=(zb.1 h1).1;omega) h1 h2)];simp_all;done) | skip
  (iterate 2 (refine chS 3 ?_));refine chS 1 ?_;simp only[go_sem];refine zag 18 rfl (fun hc18=>?_) (fun hc18=>?_)
  ·
   (iterate 2 (refine chS 3 ?_));simp only[↓bO,go_sem,seval];apply w;refine z8 (b:=true) (by first | exact rfl | exact congrArg (fun b=>AV.v (.bool b)) hb26) (fun _=>?_) (fun h=>(by cases h));refine sqD ?_;apply zab;(try simp only[go_sem]);first | (rw[Ty.same_eq];simp_all;done) | (rw[Ty.same_eq];simp at hb45;rw[Ty.sameL_false hp hq hb45];simp;done) | (rw[Ty.same_eq];simp at hb26;rw[Ty.sameL_len tz1];simp;done) | (rw[Ty.same_eq,Ty.sameL_true e3 (fun i p q h1 h2=>hs.2 i p q (by have:=(zb.1 h1).1;omega) h1 h2)];simp_all;done) | skip
  (iterate 2 (refine chS 3 ?_));simp only[↓bO,go_sem,seval];apply w;apply z8 rfl <;> intro hb26
  ·
   refine sqD ?_;apply zab;(try simp only[go_sem]);first | (rw[Ty.same_eq];simp_all;done) | (rw[Ty.same_eq];simp at hb45;rw[Ty.sameL_false hp hq hb45];simp;done) | (rw[Ty.same_eq];simp at hb26;rw[Ty.sameL_len tz1];simp;done) | (rw[Ty.same_eq,Ty.sameL_true e3 (fun i p q h1 h2=>hs.2 i p q (by have:=(zb.1 h1).1;omega) h1 h2)];simp_all;done) | skip
  (have e3:T1.ps.length=T2.ps.length   := by simp at hb26;omega);apply zaa;apply u;refine z6 fun _ u=>?_;refine sqD ?_;apply zac;refine zai (σ:=Nat) (mB 46 44) (fun s=>s<=T1.ps.length/\∀(i:Nat) (p q:Ty),i<s->T1.ps[i]?=some p->T2.ps[i]?=some q->p.same q=true) (fun s=>[(5,.v (.int .i64 (s:Int)))]) (fun s=>[]) (fun s=>T1.ps.length-s) 0 (⟨by omega,fun i p q hi=>by omega⟩) ?_ (fun s hs=>?_)
  ·
   simp only[go_sem,seval];exact zaL
  simp only[go_sem,seval];refine z6 fun _ w=>?_;refine sqR fun _ z=>?_;refine chS 3 ?_;simp only[↓bO,go_sem,seval];apply z;apply z8 rfl <;> intro hb31
  ·
   (have hk:s<T1.ps.length:=by simpa using hb31);(have hk2:s<T2.ps.length:=by omega);obtain ⟨p,hp⟩:∃p,T1.ps[s]?=some p:=⟨_,za hk⟩;obtain ⟨q,hq⟩:∃q,T2.ps[s]?=some q:=⟨_,za hk2⟩;have hw:IntKind.i64.wrap ((s:Int)+1)=(s:Int)+1:=zal tz1 (by have:=hm1.len;simp only[maxLen] at this;omega);apply zaa;apply w;refine z6 fun _ w=>?_;apply zac;refine z6 fun _ z=>?_;refine zay 12 mixed tz0 fun J0 j0=>?_;(iterate 3 (simp only[go_sem];refine zae 3 fun _ y=>?_;simp only[↓zaA,↓dOp,↓bO,go_sem,seval,hk,hk2,gM hp,gM hq];apply y;clear y));simp only[go_sem];refine zae 1 fun _ y=>?_;simp only[↓zaA,↓dOp,↓bO,go_sem,seval];apply y;clear y;refine zae 1 fun _ y=>?_;simp only[↓zaA,↓dOp,↓bO,go_sem,seval];refine ⟨_,ih p (zc hp) q,?_⟩;apply y;clear y;simp only[↓zaA,↓dOp,↓bO,go_sem,seval];refine j0 _ ?_;clear j0 J0;simp only[bL,aops,zao,zaj,zaf];apply z;apply z8 rfl <;> intro hb45
   ·
    refine sqD ?_;apply zab;(try simp only[go_sem]);first | (rw[Ty.same_eq];simp_all;done) | (rw[Ty.same_eq];simp at hb45;rw[Ty.sameL_false hp hq hb45];simp;done) | (rw[Ty.same_eq];simp at hb26;rw[Ty.sameL_len tz1];simp;done) | (rw[Ty.same_eq,Ty.sameL_true e3 (fun i p q h1 h2=>hs.2 i p q (by have:=(zb.1 h1).1;omega) h1 h2)];simp_all;done) | skip
   apply zaa;apply w;apply z7;simp only[↓bO,go_sem,seval,hw];refine ⟨(s+1),⟨by omega,fun i p' q' hi h1 h2=>(by rcases zG i s with h3 | h3 <;> first | exact hs.2 i p' q' h3 h1 h2 | (obtain rfl:i=s:=tz1;rw[hp] at h1;rw[hq] at h2;cases h1;cases h2;simpa using hb45))⟩,by omega,?_⟩;simp only[zar,zas,zah,zam,mB,seval,zj,zh];exact zaL
  (have hk:s=T1.ps.length:=by have:=hs.1;simp at hb31;omega);apply zak;simp only[zao,zaj,zaf,bA,Nat.reduceEqDiff,↓reduceIte];apply u;refine sqD ?_;apply zab;(try simp only[go_sem]);first | (rw[Ty.same_eq];simp_all;done) | (rw[Ty.same_eq];simp at hb45;rw[Ty.sameL_false hp hq hb45];simp;done) | (rw[Ty.same_eq];simp at hb26;rw[Ty.sameL_len tz1];simp;done) | (rw[Ty.same_eq,Ty.sameL_true e3 (fun i p q h1 h2=>hs.2 i p q (by have:=(zb.1 h1).1;omega) h1 h2)];simp_all;done) | skip
end Go.Proofs.YtpfiliamceimmaaGreatDoor
namespace Go.Proofs.YtpfiliamceimmaaGreatDoor
open Go Go.RowKit
set_option maxRecDepth 100000
set_option maxHeartbeats 4000000
attribute [local irreducible] aops zaA
def okN (k n:Int) (len:Nat):Bool :=
 decide ((k=1/\0<=n/\n<1073741824/\len=0)\/(n=0/\(((k=2\/k=3)/\len=0)\/(k=4/\len=2)\/(k=5/\2<=len/\len<=8))))
mutual
def Ty.right:Ty->Bool
 | .mk k n ps=>okN k n ps.length&&Ty.rightL ps
def Ty.rightL:List Ty->Bool
 | []=>true
 | p::ps=>Ty.right p&&Ty.rightL ps
end
theorem Ty.rightL_eq:∀ps,Ty.rightL ps=ps.all Ty.right
 | []=>by simp[Ty.rightL]
 | p::ps=>by simp[Ty.rightL,Ty.rightL_eq ps]
theorem Ty.right_eq (t:Ty):t.right=(okN t.k t.n t.ps.length&&t.ps.all Ty.right):=by cases t;simp[Ty.right,Ty.rightL_eq,Ty.k,Ty.n,Ty.ps]
theorem zbz {α:Type} {f:α->Bool} {ps:List α} (h:∀(i:Nat) (p:α),i<ps.length->ps[i]?=some p->f p=true):ps.all f=true:=by
 rw[zV];intro p hp;obtain ⟨i,hi,e⟩:=zS.1 hp;exact h i p hi (by rw[za hi,e])
theorem zbf {α:Type} {f:α->Bool} {ps:List α} {i:Nat} {p:α} (hp:ps[i]?=some p) (h:f p=false):ps.all f=false:=by
 rw[<- Bool.not_eq_true,zV];intro hh;have:=hh p (zc hp);rw[h] at this;cases this
theorem za2:∀(T:Ty),APure Tryz.prog 31 [.agg T.cells] (.v (.bool T.right)):=by
  refine Ty.ind fun T ih=>?_;refine APure.mkL (.cons T.dataAgg .nil) (.v _) ?_;refine aIn Tryz.func31 fun hm=>?_;simp only[Tryz.ntmps31,Tryz.results31,go_sem,seval];have hm1:=hm.wide (t:=T) tz4;refine sqD ?_;refine sqR fun _ u=>?_;refine chS 2 ?_;simp only[↓bO,go_sem,seval];apply u;refine z6 fun _ u=>?_;apply zac;refine zaP (mB 89 266) ([(8,.v (.bool (decide (T.k=1/\(T.n<0\/1073741824<=T.n\/0<T.ps.length)))))]) ([]) ?_ ?_
  ·
   apply z7;(iterate 2 (refine chS 2 ?_));refine zag 12 rfl (fun hc12=>?_) (fun hc12=>?_)
   ·
    (iterate 2 (refine chS 2 ?_));refine zag 16 rfl (fun hc16=>?_) (fun hc16=>?_)
    ·
     (iterate 4 (refine chS 2 ?_));simp only[↓bO,go_sem,seval];(try simp only[go_sem,seval]);refine Weak.mk ?_ (fun _ _ h=>h) rfl rfl;simp only[go_sem,Le.refl,Le.any];all_goals (refine Le.of_eq (congrArg (fun b=>AV.v (.bool b)) ?_);rw[zF];simp at *;omega)
    (iterate 2 (refine chS 2 ?_));refine chS 1 ?_;simp only[go_sem];refine zag 21 rfl (fun hc21=>?_) (fun hc21=>?_)
    ·
     (iterate 2 (refine chS 2 ?_));simp only[↓bO,go_sem,seval];(try simp only[go_sem,seval]);refine Weak.mk ?_ (fun _ _ h=>h) rfl rfl;simp only[go_sem,Le.refl,Le.any];all_goals (refine Le.of_eq (congrArg (fun b=>AV.v (.bool b)) ?_);rw[zF];simp at *;omega)
    (iterate 2 (refine chS 2 ?_));simp only[↓bO,go_sem,seval];(try simp only[go_sem,seval]);refine Weak.mk ?_ (fun _ _ h=>h) rfl rfl;simp only[go_sem,Le.refl,Le.any];all_goals (refine Le.of_eq (congrArg (fun b=>AV.v (.bool b)) ?_);rw[zF];simp at *;omega)
   refine chS 2 ?_;refine chS 3 ?_;refine chS 2 ?_;refine chS 3 ?_;refine chS 2 ?_;simp only[↓bO,go_sem,seval];(try simp only[go_sem,seval]);refine Weak.mk ?_ (fun _ _ h=>h) rfl rfl;simp only[go_sem,Le.refl,Le.any];all_goals (refine Le.of_eq (congrArg (fun b=>AV.v (.bool b)) ?_);rw[zF];simp at *;omega)
  simp only[go_sem,seval];apply z8 rfl <;> intro hb8
  ·
   refine sqD ?_;apply zab;(try simp only[go_sem]);refine Le.of_eq ?_;rw[Ty.right_eq];(all_goals try simp only[zd,ze] at hb8);(all_goals try simp only[zd,ze] at hb26);(all_goals try simp only[zd,ze] at hb35);(all_goals try simp only[zd,ze] at hb48);(all_goals try simp only[zd,ze] at hb56);(all_goals try simp only[zd,ze] at hb68);first | (have e1:okN T.k T.n T.ps.length=false:=(by simp only[okN,ze];omega);rw[e1];rfl) | (rw[zbf hp (by simpa using hb88)];simp;done) | (have e1:okN T.k T.n T.ps.length=true:=(by simp only[okN,zd];omega);rw[e1,zbz (f:=Ty.right) (fun i p hi h1=>hs.2 i p tz1 h1)];rfl)
  refine zaP (mB 89 67108874) ([(26,.v (.bool (decide (T.k≠1/\T.n≠0))))]) ([]) ?_ ?_
  ·
   apply z7;(iterate 2 (refine chS 2 ?_));refine zag 30 rfl (fun hc30=>?_) (fun hc30=>?_)
   ·
    (iterate 2 (refine chS 2 ?_));simp only[↓bO,go_sem,seval];(try simp only[go_sem,seval]);refine Weak.mk ?_ (fun _ _ h=>h) rfl rfl;simp only[go_sem,Le.refl,Le.any];all_goals (refine Le.of_eq (congrArg (fun b=>AV.v (.bool b)) ?_);rw[zF];simp at *;omega)
   (iterate 2 (refine chS 2 ?_));simp only[↓bO,go_sem,seval];(try simp only[go_sem,seval]);refine Weak.mk ?_ (fun _ _ h=>h) rfl rfl;simp only[go_sem,Le.refl,Le.any];all_goals (refine Le.of_eq (congrArg (fun b=>AV.v (.bool b)) ?_);rw[zF];simp at *;omega)
  simp only[go_sem,seval];apply z8 rfl <;> intro hb26
  ·
   refine sqD ?_;apply zab;(try simp only[go_sem]);refine Le.of_eq ?_;rw[Ty.right_eq];(all_goals try simp only[zd,ze] at hb8);(all_goals try simp only[zd,ze] at hb26);(all_goals try simp only[zd,ze] at hb35);(all_goals try simp only[zd,ze] at hb48);(all_goals try simp only[zd,ze] at hb56);(all_goals try simp only[zd,ze] at hb68);first | (have e1:okN T.k T.n T.ps.length=false:=(by simp only[okN,ze];omega);rw[e1];rfl) | (rw[zbf hp (by simpa using hb88)];simp;done) | (have e1:okN T.k T.n T.ps.length=true:=(by simp only[okN,zd];omega);rw[e1,zbz (f:=Ty.right) (fun i p hi h1=>hs.2 i p tz1 h1)];rfl)
  refine zaP (mB 89 34359738378) ([(35,.v (.bool (decide ((T.k=2\/T.k=3)/\0<T.ps.length))))]) ([]) ?_ ?_
  ·
   apply z7;(iterate 2 (refine chS 2 ?_));refine zag 39 rfl (fun hc39=>?_) (fun hc39=>?_)
   ·
    (iterate 4 (refine chS 2 ?_));simp only[↓bO,go_sem,seval];(try simp only[go_sem,seval]);refine Weak.mk ?_ (fun _ _ h=>h) rfl rfl;simp only[go_sem,Le.refl,Le.any];all_goals (refine Le.of_eq (congrArg (fun b=>AV.v (.bool b)) ?_);rw[zF];simp at *;omega)
   (iterate 2 (refine chS 2 ?_));refine chS 1 ?_;simp only[go_sem];refine zag 44 rfl (fun hc44=>?_) (fun hc44=>?_)
   ·
    refine chS 2 ?_;simp only[↓bO,go_sem,seval];(try simp only[go_sem,seval]);refine Weak.mk ?_ (fun _ _ h=>h) rfl rfl;simp only[go_sem,Le.refl,Le.any];all_goals (refine Le.of_eq (congrArg (fun b=>AV.v (.bool b)) ?_);rw[zF];simp at *;omega)
   refine chS 2 ?_;simp only[↓bO,go_sem,seval];(try simp only[go_sem,seval]);refine Weak.mk ?_ (fun _ _ h=>h) rfl rfl;simp only[go_sem,Le.refl,Le.any];all_goals (refine Le.of_eq (congrArg (fun b=>AV.v (.bool b)) ?_);rw[zF];simp at *;omega)
  simp only[go_sem,seval];apply z8 rfl <;> intro hb35
  ·
   refine sqD ?_;apply zab;(try simp only[go_sem]);refine Le.of_eq ?_;rw[Ty.right_eq];(all_goals try simp only[zd,ze] at hb8);(all_goals try simp only[zd,ze] at hb26);(all_goals try simp only[zd,ze] at hb35);(all_goals try simp only[zd,ze] at hb48);(all_goals try simp only[zd,ze] at hb56);(all_goals try simp only[zd,ze] at hb68);first | (have e1:okN T.k T.n T.ps.length=false:=(by simp only[okN,ze];omega);rw[e1];rfl) | (rw[zbf hp (by simpa using hb88)];simp;done) | (have e1:okN T.k T.n T.ps.length=true:=(by simp only[okN,zd];omega);rw[e1,zbz (f:=Ty.right) (fun i p hi h1=>hs.2 i p tz1 h1)];rfl)
  refine zaP (mB 89 281474976710666) ([(48,.v (.bool (decide (T.k=4/\T.ps.length≠2))))]) ([]) ?_ ?_
  ·
   apply z7;(iterate 2 (refine chS 2 ?_));refine zag 52 rfl (fun hc52=>?_) (fun hc52=>?_)
   ·
    refine chS 2 ?_;simp only[↓bO,go_sem,seval];(try simp only[go_sem,seval]);refine Weak.mk ?_ (fun _ _ h=>h) rfl rfl;simp only[go_sem,Le.refl,Le.any];all_goals (refine Le.of_eq (congrArg (fun b=>AV.v (.bool b)) ?_);rw[zF];simp at *;omega)
   refine chS 2 ?_;simp only[↓bO,go_sem,seval];(try simp only[go_sem,seval]);refine Weak.mk ?_ (fun _ _ h=>h) rfl rfl;simp only[go_sem,Le.refl,Le.any];all_goals (refine Le.of_eq (congrArg (fun b=>AV.v (.bool b)) ?_);rw[zF];simp at *;omega)
  simp only[go_sem,seval];apply z8 rfl <;> intro hb48
  ·
   refine sqD ?_;apply zab;(try simp only[go_sem]);refine Le.of_eq ?_;rw[Ty.right_eq];(all_goals try simp only[zd,ze] at hb8);(all_goals try simp only[zd,ze] at hb26);(all_goals try simp only[zd,ze] at hb35);(all_goals try simp only[zd,ze] at hb48);(all_goals try simp only[zd,ze] at hb56);(all_goals try simp only[zd,ze] at hb68);first | (have e1:okN T.k T.n T.ps.length=false:=(by simp only[okN,ze];omega);rw[e1];rfl) | (rw[zbf hp (by simpa using hb88)];simp;done) | (have e1:okN T.k T.n T.ps.length=true:=(by simp only[okN,zd];omega);rw[e1,zbz (f:=Ty.right) (fun i p hi h1=>hs.2 i p tz1 h1)];rfl)
  refine zaP (mB 89 72057594037927946) ([(56,.v (.bool (decide (T.k=5/\(T.ps.length<2\/8<T.ps.length)))))]) ([]) ?_ ?_
  ·
   apply z7;(iterate 2 (refine chS 2 ?_));refine zag 60 rfl (fun hc60=>?_) (fun hc60=>?_)
   ·
    refine chS 2 ?_;refine chS 1 ?_;simp only[go_sem];refine zag 63 rfl (fun hc63=>?_) (fun hc63=>?_)
    ·
     (iterate 2 (refine chS 2 ?_));simp only[↓bO,go_sem,seval];(try simp only[go_sem,seval]);refine Weak.mk ?_ (fun _ _ h=>h) rfl rfl;simp only[go_sem,Le.refl,Le.any];all_goals (refine Le.of_eq (congrArg (fun b=>AV.v (.bool b)) ?_);rw[zF];simp at *;omega)
    (iterate 2 (refine chS 2 ?_));simp only[↓bO,go_sem,seval];(try simp only[go_sem,seval]);refine Weak.mk ?_ (fun _ _ h=>h) rfl rfl;simp only[go_sem,Le.refl,Le.any];all_goals (refine Le.of_eq (congrArg (fun b=>AV.v (.bool b)) ?_);rw[zF];simp at *;omega)
   (iterate 3 (refine chS 2 ?_));simp only[↓bO,go_sem,seval];(try simp only[go_sem,seval]);refine Weak.mk ?_ (fun _ _ h=>h) rfl rfl;simp only[go_sem,Le.refl,Le.any];all_goals (refine Le.of_eq (congrArg (fun b=>AV.v (.bool b)) ?_);rw[zF];simp at *;omega)
  simp only[go_sem,seval];apply z8 rfl <;> intro hb56
  ·
   refine sqD ?_;apply zab;(try simp only[go_sem]);refine Le.of_eq ?_;rw[Ty.right_eq];(all_goals try simp only[zd,ze] at hb8);(all_goals try simp only[zd,ze] at hb26);(all_goals try simp only[zd,ze] at hb35);(all_goals try simp only[zd,ze] at hb48);(all_goals try simp only[zd,ze] at hb56);(all_goals try simp only[zd,ze] at hb68);first | (have e1:okN T.k T.n T.ps.length=false:=(by simp only[okN,ze];omega);rw[e1];rfl) | (rw[zbf hp (by simpa using hb88)];simp;done) | (have e1:okN T.k T.n T.ps.length=true:=(by simp only[okN,zd];omega);rw[e1,zbz (f:=Ty.right) (fun i p hi h1=>hs.2 i p tz1 h1)];rfl)
  refine zaP (mB 89 295147905179352825866) ([(68,.v (.bool (decide (T.k<1\/5<T.k))))]) ([]) ?_ ?_
  ·
   apply z7;(iterate 2 (refine chS 2 ?_));refine zag 72 rfl (fun hc72=>?_) (fun hc72=>?_)
   ·
    (iterate 2 (refine chS 2 ?_));simp only[↓bO,go_sem,seval];(try simp only[go_sem,seval]);refine Weak.mk ?_ (fun _ _ h=>h) rfl rfl;simp only[go_sem,Le.refl,Le.any];all_goals (refine Le.of_eq (congrArg (fun b=>AV.v (.bool b)) ?_);rw[zF];simp at *;omega)
   (iterate 2 (refine chS 2 ?_));simp only[↓bO,go_sem,seval];(try simp only[go_sem,seval]);refine Weak.mk ?_ (fun _ _ h=>h) rfl rfl;simp only[go_sem,Le.refl,Le.any];all_goals (refine Le.of_eq (congrArg (fun b=>AV.v (.bool b)) ?_);rw[zF];simp at *;omega)
  simp only[go_sem,seval];apply z8 rfl <;> intro hb68
  ·
   refine sqD ?_;apply zab;(try simp only[go_sem]);refine Le.of_eq ?_;rw[Ty.right_eq];(all_goals try simp only[zd,ze] at hb8);(all_goals try simp only[zd,ze] at hb26);(all_goals try simp only[zd,ze] at hb35);(all_goals try simp only[zd,ze] at hb48);(all_goals try simp only[zd,ze] at hb56);(all_goals try simp only[zd,ze] at hb68);first | (have e1:okN T.k T.n T.ps.length=false:=(by simp only[okN,ze];omega);rw[e1];rfl) | (rw[zbf hp (by simpa using hb88)];simp;done) | (have e1:okN T.k T.n T.ps.length=true:=(by simp only[okN,zd];omega);rw[e1,zbz (f:=Ty.right) (fun i p hi h1=>hs.2 i p tz1 h1)];rfl)
  apply zaa;apply u;refine z6 fun _ u=>?_;refine sqD ?_;apply zac;refine zai (σ:=Nat) (mB 89 26) (fun s=>s<=T.ps.length/\∀(i:Nat) (p:Ty),i<s->T.ps[i]?=some p->p.right=true) (fun s=>[(4,.v (.int .i64 (s:Int)))]) (fun s=>[]) (fun s=>T.ps.length-s) 0 (⟨by omega,fun i p hi=>by omega⟩) ?_ (fun s hs=>?_)
  ·
   simp only[go_sem,seval];exact zaL
  simp only[go_sem,seval];refine z6 fun _ w=>?_;refine sqR fun _ z=>?_;refine chS 2 ?_;simp only[↓bO,go_sem,seval];apply z;apply z8 rfl <;> intro hb79
  ·
   (have hk:s<T.ps.length:=by simpa using hb79);obtain ⟨p,hp⟩:∃p,T.ps[s]?=some p:=⟨_,za hk⟩;have hw:IntKind.i64.wrap ((s:Int)+1)=(s:Int)+1:=zal tz1 (by have:=hm1.len;simp only[maxLen] at this;omega);apply zaa;apply w;refine z6 fun _ w=>?_;apply zac;refine sqR fun _ z=>?_;(iterate 2 (refine chS 2 ?_ (by intro _ q;simp only[↓bO,go_sem,seval,hk,gM hp];exact q)));refine chS 1 ?_;refine zZ 1 fun _ y=>?_;simp only[↓bO,go_sem,seval];refine APure.call (ih p (zc hp)) ?_;apply y;clear y;simp only[↓bO,go_sem,seval];apply z;apply z8 rfl <;> intro hb88
   ·
    refine sqD ?_;apply zab;(try simp only[go_sem]);refine Le.of_eq ?_;rw[Ty.right_eq];(all_goals try simp only[zd,ze] at hb8);(all_goals try simp only[zd,ze] at hb26);(all_goals try simp only[zd,ze] at hb35);(all_goals try simp only[zd,ze] at hb48);(all_goals try simp only[zd,ze] at hb56);(all_goals try simp only[zd,ze] at hb68);first | (have e1:okN T.k T.n T.ps.length=false:=(by simp only[okN,ze];omega);rw[e1];rfl) | (rw[zbf hp (by simpa using hb88)];simp;done) | (have e1:okN T.k T.n T.ps.length=true:=(by simp only[okN,zd];omega);rw[e1,zbz (f:=Ty.right) (fun i p hi h1=>hs.2 i p tz1 h1)];rfl)
   apply zaa;apply w;apply z7;refine chS 2 ?_ (by intro _ q;simp only[↓bO,go_sem,seval,hw];exact q);simp only[↓bO,go_sem,seval];refine ⟨(s+1),⟨by omega,fun i p' hi h1=>(by rcases zG i s with h3 | h3 <;> first | exact hs.2 i p' h3 h1 | (obtain rfl:i=s:=tz1;rw[hp] at h1;cases h1;simpa using hb88))⟩,by omega,?_⟩;simp only[zar,zas,zah,zam,mB,seval,zj,zh];exact zaL
  (have hk:s=T.ps.length:=by have:=hs.1;simp at hb79;omega);apply zak;simp only[zao,zaj,zaf,bA,Nat.reduceEqDiff,↓reduceIte];apply u;refine sqD ?_;apply zab;(try simp only[go_sem]);refine Le.of_eq ?_;rw[Ty.right_eq];(all_goals try simp only[zd,ze] at hb8);(all_goals try simp only[zd,ze] at hb26);(all_goals try simp only[zd,ze] at hb35);(all_goals try simp only[zd,ze] at hb48);(all_goals try simp only[zd,ze] at hb56);(all_goals try simp only[zd,ze] at hb68);first | (have e1:okN T.k T.n T.ps.length=false:=(by simp only[okN,ze];omega);rw[e1];rfl) | (rw[zbf hp (by simpa using hb88)];simp;done) | (have e1:okN T.k T.n T.ps.length=true:=(by simp only[okN,zd];omega);rw[e1,zbz (f:=Ty.right) (fun i p hi h1=>hs.2 i p tz1 h1)];rfl)
theorem zlp (n:Int):APure Tryz.prog 136 [.v (.int .i64 n)] (.v (.bool (decide (0<=n/\n<1073741824)))):=by
  refine APure.mkL (.cons (.v _) .nil) (.v _) ?_;refine aIn Tryz.func136 fun hm=>?_;simp only[Tryz.ntmps136,Tryz.results136,go_sem,seval];refine sqD ?_;refine sqR fun _ q=>?_;refine chS 3 ?_;simp only[go_sem];refine zag 5 rfl (fun hc5=>?_) (fun hc5=>?_)
  ·
   simp only[go_sem];simp only[↓bO,go_sem,seval];apply q;apply zab;(try simp only[go_sem]);refine Le.of_eq (congrArg (fun b=>AV.v (.bool b)) ?_);simp at *;omega
  simp only[go_sem];simp only[↓bO,go_sem,seval];apply q;apply zab;(try simp only[go_sem]);refine Le.of_eq (congrArg (fun b=>AV.v (.bool b)) ?_);simp at *;omega
theorem zmb (T:Ty):APure Tryz.prog 105 [.agg T.cells] (.v (.bool (okN T.k T.n T.ps.length))):=by
  refine APure.mkL (.cons T.dataAgg .nil) (.v _) ?_;refine aIn Tryz.func105 fun hm=>?_;simp only[Tryz.ntmps105,Tryz.results105,go_sem,seval];refine sqD ?_;refine sqR fun _ y=>?_;refine chS 3 ?_;simp only[↓bO,go_sem,seval];apply y;refine z6 fun _ y=>?_;refine sqD ?_;apply zac;refine sqD ?_;apply z8 rfl <;> intro hb9
  ·
   refine sqR fun _ u=>?_;refine chS 2 ?_;refine zZ 1 fun _ q=>?_;simp only[↓bO,go_sem,seval];refine APure.call (zlp T.n) ?_;apply q;clear q;refine chS 1 ?_;simp only[go_sem];refine zag 14 rfl (fun hc14=>?_) (fun hc14=>?_)
   ·
    refine chS 3 ?_;simp only[↓bO,go_sem,seval];apply u;apply zab;(try simp only[go_sem]);refine Le.of_eq (congrArg (fun b=>AV.v (.bool b)) ?_);rw[zF];simp only[okN,zd,beq_iff_eq,zL,beq_eq_false_iff_ne,ne_eq,ze,false_iff,true_iff,and_true,true_and] at *;try omega
   refine chS 3 ?_;simp only[↓bO,go_sem,seval];apply u;apply zab;(try simp only[go_sem]);refine Le.of_eq (congrArg (fun b=>AV.v (.bool b)) ?_);rw[zF];simp only[okN,zd,beq_iff_eq,zL,beq_eq_false_iff_ne,ne_eq,ze,false_iff,true_iff,and_true,true_and] at *;try omega
  refine z6 fun _ u=>?_;refine sqD ?_;apply z8 rfl <;> intro hb18
  ·
   apply zaa;apply u;refine z8 (b:=true) (by first | exact rfl | exact congrArg (fun b=>AV.v (.bool b)) hb18) (fun _=>?_) (fun h=>(by cases h));refine sqR fun _ u=>?_;refine chS 3 ?_;refine chS 1 ?_;simp only[go_sem];refine zag 24 rfl (fun hc24=>?_) (fun hc24=>?_)
   ·
    refine chS 3 ?_;simp only[↓bO,go_sem,seval];apply u;apply zab;(try simp only[go_sem]);refine Le.of_eq (congrArg (fun b=>AV.v (.bool b)) ?_);rw[zF];simp only[okN,zd,beq_iff_eq,zL,beq_eq_false_iff_ne,ne_eq,ze,false_iff,true_iff,and_true,true_and] at *;try omega
   refine chS 3 ?_;simp only[↓bO,go_sem,seval];apply u;apply zab;(try simp only[go_sem]);refine Le.of_eq (congrArg (fun b=>AV.v (.bool b)) ?_);rw[zF];simp only[okN,zd,beq_iff_eq,zL,beq_eq_false_iff_ne,ne_eq,ze,false_iff,true_iff,and_true,true_and] at *;try omega
  apply z7;simp only[↓bO,go_sem,seval];apply u;apply z8 rfl <;> intro hb18
  ·
   refine sqR fun _ u=>?_;refine chS 3 ?_;refine chS 1 ?_;simp only[go_sem];refine zag 24 rfl (fun hc24=>?_) (fun hc24=>?_)
   ·
    refine chS 3 ?_;simp only[↓bO,go_sem,seval];apply u;apply zab;(try simp only[go_sem]);refine Le.of_eq (congrArg (fun b=>AV.v (.bool b)) ?_);rw[zF];simp only[okN,zd,beq_iff_eq,zL,beq_eq_false_iff_ne,ne_eq,ze,false_iff,true_iff,and_true,true_and] at *;try omega
   refine chS 3 ?_;simp only[↓bO,go_sem,seval];apply u;apply zab;(try simp only[go_sem]);refine Le.of_eq (congrArg (fun b=>AV.v (.bool b)) ?_);rw[zF];simp only[okN,zd,beq_iff_eq,zL,beq_eq_false_iff_ne,ne_eq,ze,false_iff,true_iff,and_true,true_and] at *;try omega
  refine sqD ?_;apply z8 rfl <;> intro hb28
  ·
   refine sqR fun _ u=>?_;refine chS 3 ?_;refine chS 1 ?_;simp only[go_sem];refine zag 33 rfl (fun hc33=>?_) (fun hc33=>?_)
   ·
    refine chS 3 ?_;simp only[↓bO,go_sem,seval];apply u;apply zab;(try simp only[go_sem]);refine Le.of_eq (congrArg (fun b=>AV.v (.bool b)) ?_);rw[zF];simp only[okN,zd,beq_iff_eq,zL,beq_eq_false_iff_ne,ne_eq,ze,false_iff,true_iff,and_true,true_and] at *;try omega
   refine chS 3 ?_;simp only[↓bO,go_sem,seval];apply u;apply zab;(try simp only[go_sem]);refine Le.of_eq (congrArg (fun b=>AV.v (.bool b)) ?_);rw[zF];simp only[okN,zd,beq_iff_eq,zL,beq_eq_false_iff_ne,ne_eq,ze,false_iff,true_iff,and_true,true_and] at *;try omega
  refine sqD ?_;apply z8 rfl <;> intro hb37
  ·
   refine sqR fun _ u=>?_;refine chS 3 ?_;refine chS 1 ?_;simp only[go_sem];refine zag 42 rfl (fun hc42=>?_) (fun hc42=>?_)
   ·
    refine chS 3 ?_;refine chS 1 ?_;simp only[go_sem];refine zag 46 rfl (fun hc46=>?_) (fun hc46=>?_)
    ·
     refine chS 3 ?_;simp only[↓bO,go_sem,seval];apply u;apply zab;(try simp only[go_sem]);refine Le.of_eq (congrArg (fun b=>AV.v (.bool b)) ?_);rw[zF];simp only[okN,zd,beq_iff_eq,zL,beq_eq_false_iff_ne,ne_eq,ze,false_iff,true_iff,and_true,true_and] at *;try omega
    refine chS 3 ?_;simp only[↓bO,go_sem,seval];apply u;apply zab;(try simp only[go_sem]);refine Le.of_eq (congrArg (fun b=>AV.v (.bool b)) ?_);rw[zF];simp only[okN,zd,beq_iff_eq,zL,beq_eq_false_iff_ne,ne_eq,ze,false_iff,true_iff,and_true,true_and] at *;try omega
   (iterate 2 (refine chS 3 ?_));simp only[↓bO,go_sem,seval];apply u;apply zab;(try simp only[go_sem]);refine Le.of_eq (congrArg (fun b=>AV.v (.bool b)) ?_);rw[zF];simp only[okN,zd,beq_iff_eq,zL,beq_eq_false_iff_ne,ne_eq,ze,false_iff,true_iff,and_true,true_and] at *;try omega
  apply zaa;apply y;refine sqD ?_;apply zab;(try simp only[go_sem]);refine Le.of_eq (congrArg (fun b=>AV.v (.bool b)) ?_);rw[zF];simp only[okN,zd,beq_iff_eq,zL,beq_eq_false_iff_ne,ne_eq,ze,false_iff,true_iff,and_true,true_and] at *;try omega
theorem zcT {α:Type} {f:α->Bool} {ps:List α} {i:Nat} {p:α} (hp:ps[i]?=some p) (h:f p=true):ps.any f=true:=List.any_eq_true.2 ⟨p,zc hp,h⟩
theorem zcH {α:Type} {f:α->Bool} {ps:List α} (h:∀(i:Nat) (p:α),i<ps.length->ps[i]?=some p->f p=false):ps.any f=false:=by
 rw[<- Bool.not_eq_true,List.any_eq_true];rintro ⟨p,hp,hf⟩;obtain ⟨i,hi,e⟩:=zS.1 hp;rw[h i p hi (by rw[za hi,e])] at hf;cases hf
def zbE {α:Type} (g:α->Bool) (l:List α):Int:=if l.any g then (l.findIdx g:Int) else -1
theorem zbl {α:Type} {g:α->Bool} {l:List α} {i:Nat} {p:α} (hp:l[i]?=some p) (h:g p=true) (hb:∀(j:Nat) (q:α),j<i->l[j]?=some q->g q=false):zbE g l=(i:Int):=by
 have hi:i<l.length:=(zb.1 hp).1;have e:l[i]=p:=(zb.1 hp).2;rw[zbE,if_pos (zcT hp h)];(congr 1);refine List.findIdx_eq hi |>.2 ⟨by rw[e];exact h,fun j hj=>?_⟩;exact hb j _ hj (za tz1)
theorem zbT {α:Type} {g:α->Bool} {l:List α} (hb:∀(j:Nat) (q:α),j<l.length->l[j]?=some q->g q=false):zbE g l=-1:=by
 rw[zbE,zcH hb];rfl
theorem idxI_ge {α:Type} {g:α->Bool} {l:List α}:decide (zbE g l>=0)=l.any g:=by
 unfold zbE;split;(·rename_i h;rw[h];simp);rename_i h;simp at h;simp;exact h
theorem zfi (ps:List Ty) (g:Nat) (f:Ty->Bool) (hf:∀p∈ps,APure Tryz.prog g [.agg p.cells] (.v (.bool (f p)))):APure Tryz.prog 137 [.sl 3 (ps.map Ty.cells),.clo g []] (.v (.int .i64 (zbE f ps))):=by
  refine APure.mkL (.cons (Ty.dataSl ps) (.cons (.clo (fun _ h=>by cases h)) .nil)) (.v _) ?_;refine aIn Tryz.func137 fun hm=>?_;simp only[Tryz.ntmps137,Tryz.results137,go_sem,seval];have hm1:=hm.len (sz:=3) (xs:=ps.map Ty.cells) tz4;rw[zx] at hm1;(have hm2:∀i:Nat,i<ps.length->IntKind.i64.wrap ((i:Int)+1)=(i:Int)+1:=fun i hi=>zal tz1 (by simp only[maxLen] at hm1;omega));refine sqD ?_;refine z6 fun _ y=>?_;refine sqD ?_;apply zac;refine zai (σ:=Nat) (mB 19 387) (fun s=>s<=ps.length/\∀(i:Nat) (p:Ty),i<s->ps[i]?=some p->f p=false) (fun s=>[(8,.v (.int .i64 (s:Int)))]) (fun s=>[]) (fun s=>ps.length-s) 0 (⟨by omega,fun i p hi=>by omega⟩) ?_ (fun s hs=>?_)
  ·
   simp only[go_sem,seval];exact zaL
  simp only[go_sem,seval];refine sqD ?_;refine z6 fun _ u=>?_;apply z8 rfl <;> intro hb9
  ·
   (have hk:s<ps.length:=by simpa using hb9);obtain ⟨p,hp⟩:∃p,ps[s]?=some p:=⟨_,za hk⟩;have hw:=hm2 s hk;apply zaa;apply u;refine z6 fun _ u=>?_;apply zac;refine sqR fun _ w=>?_;simp only[↓bO,go_sem,seval,hk];apply w;refine sqR fun _ w=>?_;refine chS 4 ?_ (by intro _ q;simp only[↓bO,go_sem,seval,hk,gM hp];exact q);refine chS 1 ?_;simp only[↓bO,go_sem,seval];refine APure.call (hf p (zc hp)) ?_;apply w;apply z8 rfl <;> intro hb16
   ·
    refine sqD ?_;apply zab;(try simp only[go_sem]);refine Le.of_eq (congrArg (fun n=>AV.v (.int .i64 n)) ?_);first | (rw[zbl hp (by exact hb16) hs.2];done) | (rw[zbT (fun i p hi h1=>hs.2 i p tz1 h1)];done)
   apply zaa;apply u;apply z7;simp only[↓bO,go_sem,seval,hw];refine ⟨(s+1),⟨by omega,fun i p' hi h1=>(by rcases zG i s with h3 | h3 <;> first | exact hs.2 i p' h3 h1 | (obtain rfl:i=s:=tz1;rw[hp] at h1;cases h1;exact hb16))⟩,by omega,?_⟩;simp only[zar,zas,zah,zam,mB,seval,zj,zh];exact zaL
  (have hk:s=ps.length:=by have:=hs.1;simp at hb9;omega);apply zak;simp only[zao,zaj,zaf,bA,Nat.reduceEqDiff,↓reduceIte];apply y;refine sqD ?_;apply zab;(try simp only[go_sem]);refine Le.of_eq (congrArg (fun n=>AV.v (.int .i64 n)) ?_);first | (rw[zbl hp (by exact hb16) hs.2];done) | (rw[zbT (fun i p hi h1=>hs.2 i p tz1 h1)];done)
theorem zed (ps:List Ty) (g:Nat) (f:Ty->Bool) (hf:∀p∈ps,APure Tryz.prog g [.agg p.cells] (.v (.bool (f p)))):APure Tryz.prog 106 [.sl 3 (ps.map Ty.cells),.clo g []] (.v (.bool (ps.any f))):=by
 refine APure.mkL (.cons (Ty.dataSl ps) (.cons (.clo (fun _ h=>by cases h)) .nil)) (.v _) ?_;refine aIn Tryz.func106 fun hm=>?_;simp only[Tryz.ntmps106,Tryz.results106,go_sem,seval];refine sqD ?_;refine sqR fun _ y=>?_;refine chS 2 ?_;refine zZ 1 fun _ q=>?_;simp only[↓bO,go_sem,seval];refine APure.call (zfi ps g f hf) ?_;apply q;clear q;simp only[↓bO,go_sem,seval,idxI_ge];apply y;apply zab;exact Le.refl _
theorem zjT {p:Ty} (h:APure Tryz.prog 64 [.agg p.cells] (.v (.bool p.right))):APure Tryz.prog 107 [.agg p.cells] (.v (.bool (!p.right))):=by
 refine APure.mkL (.cons p.dataAgg .nil) (.v _) ?_;refine aIn Tryz.func107 fun hm=>?_;simp only[Tryz.ntmps107,Tryz.results107,go_sem,seval];refine sqD ?_;refine sqR fun _ y=>?_;refine chS 1 ?_;refine zZ 1 fun _ q=>?_;simp only[↓bO,go_sem,seval];refine APure.call (h) ?_;apply q;clear q;simp only[↓bO,go_sem,seval];apply y;apply zab;exact Le.refl _
theorem zbp:∀(T:Ty),APure Tryz.prog 64 [.agg T.cells] (.v (.bool T.right)):=by
  refine Ty.ind fun T ih=>?_;refine APure.mkL (.cons T.dataAgg .nil) (.v _) ?_;refine aIn Tryz.func64 fun hm=>?_;simp only[Tryz.ntmps64,Tryz.results64,go_sem,seval];refine sqD ?_;refine sqR fun _ y=>?_;refine chS 1 ?_;refine zZ 1 fun _ q=>?_;simp only[↓bO,go_sem,seval];refine APure.call (zmb T) ?_;apply q;clear q;refine chS 1 ?_;simp only[go_sem];refine zag 5 rfl (fun hc5=>?_) (fun hc5=>?_)
  ·
   refine chS 2 ?_;refine zZ 1 fun _ q=>?_;simp only[↓bO,go_sem,seval];refine APure.call (zed T.ps 107 (fun p=>!p.right) (fun p hp=>zjT (ih p hp))) ?_;apply q;clear q;simp only[↓bO,go_sem,seval];apply y;apply zab;(try simp only[go_sem]);refine Le.of_eq (congrArg (fun b=>AV.v (.bool b)) ?_);rw[Ty.right_eq];first | (simp only[hc5];rfl) | (simp only[hc5,Bool.true_and];simp[List.not_any_eq_all_not])
  refine chS 4 ?_;simp only[↓bO,go_sem,seval];apply y;apply zab;(try simp only[go_sem]);refine Le.of_eq (congrArg (fun b=>AV.v (.bool b)) ?_);rw[Ty.right_eq];first | (simp only[hc5];rfl) | (simp only[hc5,Bool.true_and];simp[List.not_any_eq_all_not])
mutual
/-- a type whose variables have other numbers -/
def Ty.mapV (f:Int->Int):Ty->Ty
 | .mk k n ps=>.mk k (if k=1 then f n else n) (Ty.mapVL f ps)
def Ty.mapVL (f:Int->Int):List Ty->List Ty
 | []=>[]
 | p::ps=>Ty.mapV f p::Ty.mapVL f ps
end
theorem Ty.mapVL_eq (f:Int->Int):∀ps,Ty.mapVL f ps=ps.map (Ty.mapV f)
 | []=>by simp[Ty.mapVL]
 | p::ps=>by simp[Ty.mapVL,Ty.mapVL_eq f ps]
theorem Ty.mapV_eq (f:Int->Int) (t:Ty):t.mapV f=.mk t.k (if t.k=1 then f t.n else t.n) (t.ps.map (Ty.mapV f)):=by
 cases t;rw[Ty.mapV,Ty.mapVL_eq];rfl
theorem Ty.eta (t:Ty):Ty.mk t.k t.n t.ps=t:=by cases t;rfl
theorem Ty.mapV_id:∀t:Ty,t.mapV (fun n=>n)=t:=by
 refine Ty.ind fun t ih=>?_;rw[Ty.mapV_eq];have e:t.ps.map (Ty.mapV fun n=>n)=t.ps:=(List.map_congr_left ih).trans (List.map_id t.ps);rw[e];simp[Ty.eta]
mutual
def Ty.cnt:Ty->Nat
 | .mk _ _ ps=>1+Ty.cntL ps
def Ty.cntL:List Ty->Nat
 | []=>0
 | p::ps=>Ty.cnt p+Ty.cntL ps
end
theorem Ty.cnt_eq (t:Ty):t.cnt=1+Ty.cntL t.ps:=by cases t;simp[Ty.cnt,Ty.ps]
theorem Ty.cntL_append:∀(ps qs:List Ty),Ty.cntL (ps++qs)=Ty.cntL ps+Ty.cntL qs
 | [],qs=>by simp[Ty.cntL]
 | p::ps,qs=>by simp[Ty.cntL,Ty.cntL_append ps qs];omega
theorem Ty.cntL_step {ps:List Ty} {s:Nat} {p:Ty} (hp:ps[s]?=some p):Ty.cntL (ps.take s)+p.cnt<=Ty.cntL ps:=by
 (have h1:Ty.cntL (ps.take (s+1))=Ty.cntL (ps.take s)+p.cnt:=by rw[zM,hp,Ty.cntL_append];simp[Ty.cntL]);(have h2:Ty.cntL ps=Ty.cntL (ps.take (s+1))+Ty.cntL (ps.drop (s+1)):=by rw[<- Ty.cntL_append,List.take_append_drop]);omega
theorem Ty.cntL_len:∀ps,ps.length<=Ty.cntL ps
 | []=>by simp
 | p::ps=>by
  have:=Ty.cntL_len ps;(have h2:1<=p.cnt:=by rw[Ty.cnt_eq];omega);simp[Ty.cntL];omega
theorem zaM {α β:Type} (f:α->β) {ps:List α} {s:Nat} {p:α} (hp:ps[s]?=some p):(ps.take (s+1)).map f=(ps.take s).map f++[f p]:=by
 rw[zM,hp];simp
theorem Ty.cnt_mem {p:Ty}:∀{ps:List Ty},p∈ps->p.cnt<=Ty.cntL ps
 | q::ps,h=>by
  simp only[Ty.cntL];(rcases zE.1 h with rfl | h);(·omega);have:=Ty.cnt_mem h;omega
theorem zie (n:Int):APure Tryz.prog 41 [.v (.int .i64 n)] (.agg (Ty.mk 1 n []).cells):=by
 refine APure.mkL (.cons (.v _) .nil) ((Ty.dataAgg _)) ?_;refine aIn Tryz.func41 fun hm=>?_;simp only[Tryz.ntmps41,Tryz.results41,go_sem,seval];(iterate 2 (refine z6 fun _ q=>?_;apply z7;simp only[↓bO,go_sem,seval];apply q));apply zab;(try simp only[zao,zaj,zaf,zdg,zcC,za0,bS,bA,zaS,zav,zbP,bL,Nat.reduceAdd,Nat.reduceLeDiff,Nat.reduceEqDiff,↓reduceIte,zeh,tyX]);refine Le.agg ?_;rw[Ty.cells_eq];exact ⟨.refl _,.refl _,Le.slNil 3,trivial⟩
theorem tz5 {p:Prop} (h:p:=by simp only;omega):p:=h
theorem zh9 {p:Prop} (h:p:=by exact Weak.mk (by simp only[go_sem,Le.refl,Le.any]) (fun _ _ h=>h) rfl rfl):p:=h
theorem zj6:∀(T:Ty) (g:Nat) (caps:List AV) (φ:Int->Int) (hd:DataL caps) (hφ:∀n:Int,APure Tryz.prog g (.v (.int .i64 n)::caps) (.v (.int .i64 (φ n)))) (hT:T.cnt<=1099511627776),APure Tryz.prog 100 [.agg T.cells,.clo g caps] (.agg (T.mapV φ).cells):=by
  refine Ty.ind fun T ih=>?_;intro g caps φ hd hφ hT;refine APure.mkL (.cons T.dataAgg (.cons (.clo hd) .nil)) ((Ty.dataAgg _)) ?_;refine aIn Tryz.func100 fun hm=>?_;simp only[Tryz.ntmps100,Tryz.results100,go_sem,seval];have hm1:=hm.wide (t:=T) tz4;have hcn:=T.cnt_eq;have hcl:=Ty.cntL_len T.ps;simp only[Ty.cells_eq T,zw,zB];refine sqD ?_;refine zaP (mB 33 22) ([]) ([(0,.cells 28 [.v (.int .i64 T.k),.v (.int .i64 (if T.k=1 then φ T.n else T.n)),.sl 3 (T.ps.map Ty.cells)])]) ?_ ?_
  ·
   refine sqD ?_;apply z8 rfl <;> intro hb10
   ·
    apply z7;refine chS 3 ?_;refine zZ 1 fun _ q=>?_;simp only[↓bO,go_sem,seval];refine APure.call ((hφ T.n)) ?_;apply q;clear q;simp only[↓bO,go_sem,seval];(try simp only[go_sem,seval]);(first | rw[if_pos (by simpa using hb10)] | rw[if_neg (by simpa using hb10)]);exact zh9
   apply zaa;(try simp only[go_sem]);(try simp only[zar,zas,zah,zam,mB,seval]);(first | rw[if_pos (by simpa using hb10)] | rw[if_neg (by simpa using hb10)]);exact zh9
  simp only[zar,zas,zah,zam,mB,seval];refine sqD ?_;refine z6 fun _ y=>?_;refine sqD ?_;apply zac;refine zaH (Weak.tokSlot 5 28 3 rfl) ?_;simp only[go_sem];refine zai (σ:=Nat) (mB 33 917558) (fun s=>s<=T.ps.length) (fun s=>[(5,.osl 2 3 (((T.ps.take s).map (Ty.mapV φ)).map Ty.cells)),(19,.v (.int .i64 (s:Int)))]) (fun s=>[(2,.tok 28 3 s)]) (fun s=>T.ps.length-s) 0 tz1 ?_ (fun s hs=>?_)
  ·
   simp only[go_sem,seval,bL];exact zaL
  simp only[go_sem,seval];refine sqD ?_;refine z6 fun _ u=>?_;apply z8 rfl <;> intro hb20
  ·
   (have hk:s<T.ps.length:=by simpa using hb20);obtain ⟨p,hp⟩:∃p,T.ps[s]?=some p:=⟨_,za hk⟩;have hpm:=Ty.cnt_mem (zc hp);have hw:IntKind.i64.wrap ((s:Int)+1)=(s:Int)+1:=zal tz1 tz1;(have hln:(((T.ps.take s).map (Ty.mapV φ)).map Ty.cells).length=s:=by simp;omega);(have hb1:(s+1) * 40<=140737488355328:=by omega);(have hb2:s+1<=maxLen:=by simp only[maxLen];omega);apply zaa;apply u;refine z6 fun _ u=>?_;apply zac;refine sqR fun _ w=>?_;simp only[↓bO,go_sem,seval,hk,gM hp];apply w;apply z7;refine chS 3 ?_;refine zZ 1 fun _ q=>?_;simp only[↓bO,go_sem,seval];refine APure.call (ih p (zc hp) g caps φ hd hφ tz1) ?_;apply q;clear q;simp only[↓bO,go_sem,seval,↓zfk,hln,hb1,hb2];apply u;apply z7;simp only[↓bO,go_sem,seval,hw];refine ⟨(s+1),tz1,by omega,?_⟩;simp only[zar,zas,zah,zam,mB,seval,zj,zh,zu,bL,zaM (Ty.mapV φ) hp];(first | (refine Weak.drops 1 3 rfl rfl tz5 tz5 ?_ ?_ ?_) | (refine Weak.drops 0 3 rfl rfl tz5 tz5 ?_ ?_ ?_));(· simp only[go_sem,Le.refl,Le.any,zn,zh]);(· simp only[UndL,UndOs,Ob.Und,and_true,true_and,and_self,Und.v,Und.any,Und.ptr,Und.map,Nat.reduceLT,zU,Und.tys,Und.tyAgg,Und.oslTys,Und.oslTys1,Und.clo0,Und.ty,Und.data (n:=3) (Data.clo (f:=g) hd)]);simp only[UndL,UndOs,Ob.Und,and_true,true_and,and_self,Und.v,Und.any,Und.ptr,Und.map,Nat.reduceLT,zU,Und.tys,Und.tyAgg,Und.oslTys,Und.oslTys1,Und.clo0,Und.ty,Und.data (n:=3) (Data.clo (f:=g) hd)]
  (have hk:s=T.ps.length:=by simp at hb20;omega);apply zak;simp only[zao,zaj,zaf,bA,Nat.reduceEqDiff,↓reduceIte];(iterate 2 (apply y;refine z6 fun _ y=>?_;apply z7;simp only[↓bO,go_sem,seval]));apply y;apply zab;(try simp only[zao,zaj,zaf,zdg,zcC,za0,bS,bA,zaS,zav,zbP,bL,Nat.reduceAdd,Nat.reduceLeDiff,Nat.reduceEqDiff,↓reduceIte,zeh,tyX]);refine Le.agg ?_;rw[Ty.mapV_eq,Ty.cells_eq,hk,zI];exact ⟨.refl _,.refl _,Le.oslL,trivial⟩
theorem zlG (n:Int):APure Tryz.prog 101 [.v (.int .i64 n)] (.v (.int .i64 n)):=by
 refine APure.mkL (.cons (.v _) .nil) (.v _) ?_;refine aIn Tryz.func101 fun hm=>?_;simp only[Tryz.ntmps101,Tryz.results101,go_sem,seval];(iterate 2 (refine z6 fun _ q=>?_;apply z7;simp only[↓bO,go_sem,seval];apply q));apply zab;exact Le.refl _
theorem zek (T:Ty) (hT:T.cnt<=1099511627776):APure Tryz.prog 52 [.agg T.cells] (.agg T.cells):=by
 refine APure.mkL (.cons T.dataAgg .nil) (T.dataAgg) ?_;refine aIn Tryz.func52 fun hm=>?_;simp only[Tryz.ntmps52,Tryz.results52,go_sem,seval];simp only[Ty.cells_eq T,zw,zB];refine sqD ?_;refine sqR fun _ y=>?_;refine chS 1 ?_;refine zZ 1 fun _ q=>?_;simp only[↓bO,go_sem,seval];refine APure.call (by have h9:=zj6 T 101 [] (fun n=>n) (fun _ h=>by cases h) (fun n=>zlG n) hT;rw[Ty.mapV_id,Ty.cells_eq T] at h9;exact h9) ?_;apply q;clear q;simp only[↓bO,go_sem,seval];apply y;apply zab;(try simp only[zao,zaj,zaf,zdg,zcC,za0,bS,bA,zaS,zav,zbP,bL,Nat.reduceAdd,Nat.reduceLeDiff,Nat.reduceEqDiff,↓reduceIte,zeh]);exact Le.refl _
def zfU:List Ty->Ty
 | []=>.mk 0 0 []
 | [t]=>t
 | t::ts=>.mk 4 0 [t,zfU ts]
theorem zlS {ps:List Ty} (h:ps.length=0):zfU ps=.mk 0 0 []:=by rw[List.length_eq_zero_iff.1 h];rfl
theorem zgQ {ps:List Ty} {p:Ty} (h:ps.length=1) (hp:ps[0]?=some p):zfU ps=p:=by
 match ps,h,hp with
 | [t],_,hp=>simp at hp;rw[<- hp];rfl
theorem zfB {ps:List Ty} {p:Ty} (h:2<=ps.length) (hp:ps[0]?=some p):zfU ps=.mk 4 0 [p,zfU (ps.drop 1)]:=by
 match ps,h,hp with
 | t::u::ts,_,hp=>simp at hp;rw[<- hp];rfl
theorem zlP:∀(n:Nat) (ps:List Ty),ps.length=n->Ty.cntL ps<=1099511627776->APure Tryz.prog 42 [.sl 3 (ps.map Ty.cells)] (.agg (zfU ps).cells):=by
  intro n
  induction n with
  | zero =>
    intro ps hn hc;refine APure.mkL (.cons (Ty.dataSl ps) .nil) (Ty.dataAgg _) ?_;(have h0:((ps.length:Int)==0)=true:=by simp;exact List.length_eq_zero_iff.1 hn);refine aIn Tryz.func42 fun hm=>?_;simp only[Tryz.ntmps42,Tryz.results42,go_sem,seval];refine sqD ?_;refine z6 fun _ u=>?_;refine sqD ?_;apply zac;refine sqR fun _ w=>?_;simp only[↓bO,go_sem,seval,h0];apply w;apply z8 rfl <;> intro hb5
    ·
     refine sqD ?_;apply zab;(try simp only[zao,zaj,zaf,zdg,zcC,za0,bS,bA,zaS,zav,zbP,bL,Nat.reduceAdd,Nat.reduceLeDiff,Nat.reduceEqDiff,↓reduceIte,zeh,h0]);refine Le.agg ?_;rw[zlS hn,Ty.cells_eq];exact ⟨.refl _,.refl _,Le.slNil 3,trivial⟩
    cases hb5
  | succ n ih =>
    intro ps hn hc;refine APure.mkL (.cons (Ty.dataSl ps) .nil) (Ty.dataAgg _) ?_;obtain ⟨p,hp⟩:∃p,ps[0]?=some p:=⟨_,za tz1⟩;have hpc:=Ty.cnt_mem (zc hp);(have hlt:(0:Int)<(ps.length:Int):=by omega);(have hle:(1:Int)<=(ps.length:Int):=by omega);(have hdr:(ps.map Ty.cells).drop 1=(ps.drop 1).map Ty.cells:=by rw[List.map_drop]);(have hdc:Ty.cntL (ps.drop 1)<=Ty.cntL ps:=by have h9:=Ty.cntL_append (ps.take 1) (ps.drop 1);rw[List.take_append_drop] at h9;omega);refine aIn Tryz.func42 fun hm=>?_;simp only[Tryz.ntmps42,Tryz.results42,go_sem,seval];refine sqD ?_;refine z6 fun _ u=>?_;refine sqD ?_;apply zac;refine sqD ?_;apply z8 rfl <;> intro hb5
    ·
     exact absurd hb5 (by simp only[AV.v.injEq,Value.bool.injEq,beq_iff_eq];omega)
    refine sqD ?_;apply z8 rfl <;> intro hb8
    ·
     (have h1:ps.length=1:=by simp at hb8;omega);refine sqR fun _ w=>?_;refine chS 3 ?_ (by intro _ q;simp only[↓bO,go_sem,seval,hlt,gM hp];exact q);refine zZ 1 fun _ y=>?_;simp only[↓bO,go_sem,seval];refine APure.call (zek p tz1) ?_;apply y;clear y;simp only[↓bO,go_sem,seval];apply w;apply zab;(try simp only[zao,zaj,zaf,zdg,zcC,za0,bS,bA,zaS,zav,zbP,bL,Nat.reduceAdd,Nat.reduceLeDiff,Nat.reduceEqDiff,↓reduceIte,zeh,tyX,hlt,hle,hdr,gM hp]);refine Le.agg ?_;first | (rw[zgQ h1 hp];exact LeL.refl _) | (rw[zfB h1 hp,Ty.cells];exact ⟨.refl _,.refl _,Le.of_eq (by simp[Ty.cellsL]),trivial⟩)
    (have h1:2<=ps.length:=by simp at hb8;omega);apply zaa;apply u;refine z6 fun _ u=>?_;refine zay 9 mixed tz0 fun J0 j0=>?_;simp only[go_sem];refine zae 3 fun _ y=>?_;simp only[↓zaA,↓dOp,↓bO,go_sem,seval,hlt,gM hp];apply y;clear y;refine zae 1 fun _ y=>?_;simp only[↓zaA,↓dOp,↓bO,go_sem,seval];refine ⟨_,zek p tz1,?_⟩;apply y;clear y;refine zae 2 fun _ y=>?_;simp only[↓zaA,↓dOp,↓bO,go_sem,seval,hle,hdr];apply y;clear y;refine zae 1 fun _ y=>?_;simp only[↓zaA,↓dOp,↓bO,go_sem,seval];refine ⟨_,ih (ps.drop 1) tz8 tz1,?_⟩;apply y;clear y;simp only[↓zaA,↓dOp,↓bO,go_sem,seval,↓bs2_3];refine j0 _ ?_;clear j0 J0;simp only[go_sem];simp only[↓bO,go_sem,seval];apply u;apply zab;(try simp only[zao,zaj,zaf,zdg,zcC,za0,bS,bA,zaS,zav,zbP,bL,Nat.reduceAdd,Nat.reduceLeDiff,Nat.reduceEqDiff,↓reduceIte,zeh,tyX,hlt,hle,hdr,gM hp]);refine Le.agg ?_;first | (rw[zgQ h1 hp];exact LeL.refl _) | (rw[zfB h1 hp,Ty.cells];exact ⟨.refl _,.refl _,Le.of_eq (by simp[Ty.cellsL]),trivial⟩)
mutual
def Ty.room:Ty->Int->Nat->Int
 | .mk _ _ _,_,0=>-1
 | .mk _ _ ps,n,d+1=>Ty.roomL ps (n-1) d
def Ty.roomL:List Ty->Int->Nat->Int
 | [],n,_=>n
 | p::ps,n,d=>if n<0 then n else Ty.roomL ps (Ty.room p n d) d
end
theorem Ty.room_zero (t:Ty) (n:Int):t.room n 0=-1:=by cases t;simp[Ty.room]
theorem Ty.room_succ (t:Ty) (n:Int) (d:Nat):t.room n (d+1)=Ty.roomL t.ps (n-1) d:=by cases t;simp[Ty.room,Ty.ps]
theorem Ty.roomL_neg:∀(ps:List Ty) {n:Int} {d:Nat},n<0->Ty.roomL ps n d=n
 | [],n,d,h=>by simp[Ty.roomL]
 | p::ps,n,d,h=>by simp[Ty.roomL,h]
theorem Ty.roomL_append:∀(xs bs:List Ty) (n:Int) (d:Nat),Ty.roomL (xs++bs) n d=Ty.roomL bs (Ty.roomL xs n d) d
 | [],bs,n,d=>by simp[Ty.roomL]
 | x::xs,bs,n,d=>by
  simp only[zw,Ty.roomL];split;(·rename_i h;rw[Ty.roomL_neg bs h]);exact Ty.roomL_append xs bs _ d
theorem Ty.room_le:∀(t:Ty) (n:Int) (d:Nat),0<=n->-1<=t.room n d/\t.room n d<=n-1:=by
 refine Ty.ind fun t ih=>?_
 have key:∀(ps:List Ty),(∀p∈ps,∀(n:Int) (d:Nat),0<=n->-1<=p.room n d/\p.room n d<=n-1)->∀(n:Int) (d:Nat),-1<=n->-1<=Ty.roomL ps n d/\Ty.roomL ps n d<=n:=by
  intro ps
  induction ps with
  | nil=>intro _ n d h;simp[Ty.roomL];exact h
  | cons p ps ihp =>
   intro hp n d h;simp only[Ty.roomL];split;(·omega);have h1:=hp p tz4 n d tz1;have h2:=ihp (fun q hq=>hp q (by simp[hq])) (p.room n d) d h1.1;omega
 intro n d h
 cases d with
 | zero=>rw[Ty.room_zero];omega
 | succ d =>
  rw[Ty.room_succ];have:=key t.ps ih (n-1) d tz1;omega
theorem Ty.roomL_le (ps:List Ty) (n:Int) (d:Nat) (h:-1<=n):-1<=Ty.roomL ps n d/\Ty.roomL ps n d<=n:=by
 have:=Ty.room_le (.mk 0 0 ps) (n+1) (d+1) tz1;rw[Ty.room_succ] at this;simp only[Ty.ps] at this;rw[show n+1-1=n by omega] at this;exact this
theorem Ty.roomL_step {ps:List Ty} {s:Nat} {p:Ty} (hp:ps[s]?=some p) (n:Int) (d:Nat) (h:0<=Ty.roomL (ps.take s) n d):Ty.roomL (ps.take (s+1)) n d=p.room (Ty.roomL (ps.take s) n d) d:=by
 rw[zM,hp,Ty.roomL_append];simp only[Option.toList_some,Ty.roomL];rw[if_neg tz1]
theorem Ty.roomL_stop (ps:List Ty) (s:Nat) (n:Int) (d:Nat) (h:Ty.roomL (ps.take s) n d<0):Ty.roomL ps n d=Ty.roomL (ps.take s) n d:=by
 conv=>lhs;rw[<- List.take_append_drop s ps]
 rw[Ty.roomL_append,Ty.roomL_neg _ h]
def addW (a b:Int):Int:=IntKind.i64.wrap (a+b)
mutual
def Ty.sizeW:Ty->Int
 | .mk _ _ ps=>Ty.sizeWL 1 ps
def Ty.sizeWL:Int->List Ty->Int
 | a,[]=>a
 | a,p::ps=>Ty.sizeWL (addW a (Ty.sizeW p)) ps
end
theorem Ty.sizeW_eq (t:Ty):t.sizeW=Ty.sizeWL 1 t.ps:=by cases t;simp[Ty.sizeW,Ty.ps]
theorem Ty.sizeWL_append:∀(a:Int) (ps qs:List Ty),Ty.sizeWL a (ps++qs)=Ty.sizeWL (Ty.sizeWL a ps) qs
 | a,[],qs=>by simp[Ty.sizeWL]
 | a,p::ps,qs=>by simp[Ty.sizeWL,Ty.sizeWL_append _ ps qs]
theorem Ty.sizeWL_step {ps:List Ty} {s:Nat} {p:Ty} (hp:ps[s]?=some p) (a:Int):Ty.sizeWL a (ps.take (s+1))=addW (Ty.sizeWL a (ps.take s)) p.sizeW:=by
 rw[zM,hp,Ty.sizeWL_append];simp[Ty.sizeWL]
theorem zb5:∀(T:Ty),APure Tryz.prog 18 [.agg T.cells] (.v (.int .i64 T.sizeW)):=by
  refine Ty.ind fun T ih=>?_;refine APure.mkL (.cons T.dataAgg .nil) (.v _) ?_;refine aIn Tryz.func18 fun hm=>?_;simp only[Tryz.ntmps18,Tryz.results18,go_sem,seval];have hm1:=hm.wide (t:=T) tz4;(iterate 2 (refine z6 fun _ u=>?_;apply z7;simp only[↓bO,go_sem,seval];apply u));refine z6 fun _ u=>?_;refine sqD ?_;apply zac;refine zai (σ:=Nat) (mB 21 26) (fun s=>s<=T.ps.length) (fun s=>[(3,.v (.int .i64 (Ty.sizeWL 1 (T.ps.take s)))),(4,.v (.int .i64 (s:Int)))]) (fun s=>[]) (fun s=>T.ps.length-s) 0 tz1 ?_ (fun s hs=>?_)
  ·
   simp only[go_sem,seval,bL,Ty.sizeWL];exact zaL
  simp only[go_sem,seval];refine z6 fun _ w=>?_;refine sqR fun _ z=>?_;refine chS 4 ?_;simp only[↓bO,go_sem,seval];apply z;apply z8 rfl <;> intro hb9
  ·
   (have hk:s<T.ps.length:=by simpa using hb9);obtain ⟨p,hp⟩:∃p,T.ps[s]?=some p:=⟨_,za hk⟩;have hw:IntKind.i64.wrap ((s:Int)+1)=(s:Int)+1:=zal tz1 (by have:=hm1.len;simp only[maxLen] at this;omega);apply zaa;apply w;refine z6 fun _ w=>?_;apply zac;apply z7;refine chS 4 ?_ (by intro _ q;simp only[↓bO,go_sem,seval,hk];exact q);refine chS 2 ?_ (by intro _ q;simp only[↓bO,go_sem,seval,hk,gM hp];exact q);refine zZ 1 fun _ y=>?_;simp only[↓bO,go_sem,seval];refine APure.call (ih p (zc hp)) ?_;apply y;clear y;simp only[↓bO,go_sem,seval];apply w;apply z7;simp only[↓bO,go_sem,seval,hw];refine ⟨(s+1),tz1,by omega,?_⟩;simp only[zar,zas,zah,zam,mB,seval,zj,zh,Ty.sizeWL_step hp,addW];exact zaL
  (have hk:s=T.ps.length:=by simp at hb9;omega);apply zak;simp only[zao,zaj,zaf,bA,Nat.reduceEqDiff,↓reduceIte];apply u;refine sqD ?_;apply zab;(try simp only[go_sem]);refine Le.of_eq (congrArg (fun n=>AV.v (.int .i64 n)) ?_);rw[Ty.sizeW_eq,hk,zI]
theorem clz3 {p:Prop} (h:p:=by exact Weak.mk (by simp only[go_sem,Le.refl,Le.any,zj,zn,zh]) (fun _ _ h=>h) rfl rfl):p:=h
theorem room_pure:∀(T:Ty) (n:Int) (d:Nat) (hn:0<=n) (hn2:n<=1099511627776) (hd:d<=1099511627776),APure Tryz.prog 63 [.agg T.cells,.v (.int .i64 n),.v (.int .i64 d)] (.v (.int .i64 (T.room n d))):=by
  refine Ty.ind fun T ih=>?_;intro n d hn hn2 hd;refine APure.mkL (.cons T.dataAgg (.cons (.v _) (.cons (.v _) .nil))) (.v _) ?_;refine aIn Tryz.func63 fun hm=>?_;simp only[Tryz.ntmps63,Tryz.results63,go_sem,seval];have hm1:=hm.wide (t:=T) tz4;have hw1:IntKind.i64.wrap (n-1)=n-1:=zal tz1 tz1;(iterate 2 (refine z6 fun _ u=>?_;apply z7;simp only[↓bO,go_sem,seval,hw1];apply u));refine z6 fun _ u=>?_;refine sqD ?_;apply z8 rfl <;> intro hb11
  ·
   (have hd0:d=0:=by simpa using hb11);refine sqD ?_;apply zab;(try simp only[go_sem]);refine Le.of_eq (congrArg (fun n=>AV.v (.int .i64 n)) ?_);(first | (rw[hd0,Ty.room_zero];done) | skip);all_goals (rw[Ty.room_succ];simp only[ze] at hb20;rcases zG s T.ps.length with h5 | h5 <;> first | (rw[List.take_of_length_le h5];done) | (rw[Ty.roomL_stop T.ps s _ _ tz1];done))
  obtain ⟨e,rfl⟩:∃e,d=e+1:=⟨d-1,by simp at hb11;omega⟩;(have hw2:IntKind.i64.wrap ((e:Int)+1-1)=(e:Int):=by rw[zal tz1 tz1];omega);apply zaa;apply u;refine z6 fun _ u=>?_;refine sqD ?_;apply zac;refine zai (σ:=Nat) (mB 33 142) (fun s=>s<=T.ps.length) (fun s=>[(1,.v (.int .i64 (Ty.roomL (T.ps.take s) (n-1) e))),(7,.v (.int .i64 (s:Int)))]) (fun s=>[]) (fun s=>T.ps.length-s) 0 tz1 ?_ (fun s hs=>?_)
  ·
   simp only[go_sem,seval,bL,Ty.roomL];exact clz3
  simp only[go_sem,seval];refine z6 fun _ w=>?_;refine zaP (mB 33 1048718) ([(20,.v (.bool (decide (s<T.ps.length/\0<=Ty.roomL (T.ps.take s) (n-1) e))))]) ([]) ?_ ?_
  ·
   apply z7;refine chS 4 ?_;refine chS 2 ?_;simp only[go_sem];refine zag 17 rfl (fun hc17=>?_) (fun hc17=>?_)
   ·
    simp only[go_sem];simp only[↓bO,go_sem,seval];(try simp only[go_sem,seval]);refine Weak.mk ?_ (fun _ _ h=>h) rfl rfl;simp only[go_sem,Le.refl,Le.any];all_goals (refine Le.of_eq (congrArg (fun b=>AV.v (.bool b)) ?_);rw[zF];simp only[zd,ze,ge_iff_le,zL,false_iff,Int.ofNat_lt] at *;omega)
   simp only[go_sem];simp only[↓bO,go_sem,seval];(try simp only[go_sem,seval]);refine Weak.mk ?_ (fun _ _ h=>h) rfl rfl;simp only[go_sem,Le.refl,Le.any];all_goals (refine Le.of_eq (congrArg (fun b=>AV.v (.bool b)) ?_);rw[zF];simp only[zd,ze,ge_iff_le,zL,false_iff,Int.ofNat_lt] at *;omega)
  simp only[go_sem,seval];apply z8 rfl <;> intro hb20
  ·
   (have hk:s<T.ps.length:=by simp only[zd] at hb20;exact hb20.1);obtain ⟨p,hp⟩:∃p,T.ps[s]?=some p:=⟨_,za hk⟩;have hw:IntKind.i64.wrap ((s:Int)+1)=(s:Int)+1:=zal tz1 (by have:=hm1.len;simp only[maxLen] at this;omega);(have hrm:0<=Ty.roomL (T.ps.take s) (n-1) e:=by simp only[zd] at hb20;exact hb20.2);have hrl:=Ty.roomL_le (T.ps.take s) (n-1) e tz1;apply zaa;apply w;refine z6 fun _ w=>?_;apply zac;apply z7;(iterate 2 (refine chS 4 ?_ (by intro _ q;simp only[↓bO,go_sem,seval,hk,gM hp,zj,hw2];exact q)));refine zZ 1 fun _ y=>?_;simp only[↓bO,go_sem,seval];refine APure.call (ih p (zc hp) _ e hrm tz1 tz1) ?_;apply y;clear y;simp only[↓bO,go_sem,seval,zj];apply w;apply z7;simp only[↓bO,go_sem,seval,zj,hw];refine ⟨(s+1),tz1,by omega,?_⟩;simp only[zar,zas,zah,zam,mB,seval,zj,zh,Ty.roomL_step hp (n-1) e hrm];exact zaL
  apply zak;simp only[zao,zaj,zaf,bA,Nat.reduceEqDiff,↓reduceIte];apply u;refine sqD ?_;apply zab;(try simp only[go_sem]);refine Le.of_eq (congrArg (fun n=>AV.v (.int .i64 n)) ?_);(first | (rw[hd0,Ty.room_zero];done) | skip);all_goals (rw[Ty.room_succ];simp only[ze] at hb20;rcases zG s T.ps.length with h5 | h5 <;> first | (rw[List.take_of_length_le h5];done) | (rw[Ty.roomL_stop T.ps s _ _ tz1];done))
abbrev intC (x:Int):List AV:=[.v (.int .i64 x)]
theorem zap (l:List Int):Data (.sl 1 (l.map intC)):=.sl fun x hx=>by
 obtain ⟨y,_,rfl⟩:=zq.1 hx;exact .cons (.v _) .nil
theorem zk7 (l:List Int):((l.map intC).all fun y=>y.all AV.one)=true:=by
 rw[zV];intro y hy;obtain ⟨r,_,rfl⟩:=zq.1 hy;rfl
theorem zen {n:Nat} {l:List Int}:Und n (.sl 1 (l.map intC)):=.data (zap l)
structure RNode where
 t:Ty
 parts:List Int
def RNode.cells (r:RNode):List AV:=[.v (.int .i64 r.t.k),.v (.int .i64 r.t.n),.sl 3 (r.t.ps.map Ty.cells),.sl 1 (r.parts.map intC)]
theorem Ty.refold (t:Ty):AV.agg [.v (.int .i64 t.k),.v (.int .i64 t.n),.sl 3 (t.ps.map Ty.cells)]=.agg t.cells:=by rw[t.cells_eq]
theorem RNode.data (r:RNode):DataL r.cells:=.cons (.v _) (.cons (.v _) (.cons (Ty.dataSl _) (.cons (zap _) .nil)))
theorem RNode.dataSl (g:List RNode):Data (.sl 4 (g.map RNode.cells)):=.sl fun x hx=>by
 obtain ⟨y,_,rfl⟩:=zq.1 hx;exact y.data
def RNode.isVar (n:Int) (r:RNode):Bool:=r.t.k==1&&r.t.n==n
mutual
def Ty.radd:Ty->List RNode->List RNode×Int
 | .mk k n ps,g =>
  if k=1/\0<=zbE (RNode.isVar n) g then (g,zbE (RNode.isVar n) g)
  else
   let r:=Ty.raddL ps g []
   (r.1++[⟨.mk k n ps,r.2⟩],(r.1.length:Int))
def Ty.raddL:List Ty->List RNode->List Int->List RNode×List Int
 | [],g,l=>(g,l)
 | p::ps,g,l =>
  let r:=Ty.radd p g
  Ty.raddL ps r.1 (l++[r.2])
end
theorem RVar_pure (g:List RNode) (n:Int):APure Tryz.prog 112 [.sl 4 (g.map RNode.cells),.v (.int .i64 n)] (.v (.int .i64 (zbE (RNode.isVar n) g))):=by
  refine APure.mkL (.cons (RNode.dataSl g) (.cons (.v _) .nil)) (.v _) ?_;refine aIn Tryz.func112 fun hm=>?_;simp only[Tryz.ntmps112,Tryz.results112,go_sem,seval];have hm1:=hm.len (sz:=4) (xs:=g.map RNode.cells) tz4;rw[zx] at hm1;refine sqD ?_;refine z6 fun _ y=>?_;refine sqD ?_;apply zac;refine zai (σ:=Nat) (mB 30 35) (fun s=>s<=g.length/\∀(i:Nat) (p:RNode),i<s->g[i]?=some p->RNode.isVar n p=false) (fun s=>[(5,.v (.int .i64 (s:Int)))]) (fun s=>[]) (fun s=>g.length-s) 0 (⟨by omega,fun i p hi=>by omega⟩) ?_ (fun s hs=>?_)
  ·
   simp only[go_sem,seval];exact zaL
  simp only[go_sem,seval];refine z6 fun _ u=>?_;refine sqD ?_;apply z8 rfl <;> intro hb9
  ·
   (have hk:s<g.length:=by simpa using hb9);obtain ⟨p,hp⟩:∃p,g[s]?=some p:=⟨_,za hk⟩;have hw:IntKind.i64.wrap ((s:Int)+1)=(s:Int)+1:=zal tz1 (by simp only[maxLen] at hm1;omega);apply zaa;apply u;refine z6 fun _ u=>?_;apply zac;refine zaP (mB 30 268435491) ([(28,.v (.bool (RNode.isVar n p)))]) ([]) ?_ ?_
   ·
    apply z7;(iterate 2 (refine chS 4 ?_ (by intro _ q;simp only[↓bO,go_sem,seval,hk,gM hp,RNode.cells];exact q)));refine zag 19 rfl (fun hc19=>?_) (fun hc19=>?_)
    ·
     (iterate 2 (refine chS 4 ?_ (by intro _ q;simp only[↓bO,go_sem,seval,hk,gM hp,RNode.cells];exact q)));simp only[↓bO,go_sem,seval,hk];(try simp only[go_sem,seval]);refine Weak.mk ?_ (fun _ _ h=>h) rfl rfl;simp only[go_sem,Le.refl,Le.any];all_goals (refine Le.of_eq (congrArg (fun b=>AV.v (.bool b)) ?_);simp_all [RNode.isVar])
    (iterate 2 (refine chS 4 ?_));simp only[↓bO,go_sem,seval,hk];(try simp only[go_sem,seval]);refine Weak.mk ?_ (fun _ _ h=>h) rfl rfl;simp only[go_sem,Le.refl,Le.any];all_goals (refine Le.of_eq (congrArg (fun b=>AV.v (.bool b)) ?_);simp_all [RNode.isVar])
   simp only[go_sem,seval];apply z8 rfl <;> intro hb28
   ·
    refine sqD ?_;apply zab;(try simp only[go_sem]);refine Le.of_eq (congrArg (fun n=>AV.v (.int .i64 n)) ?_);first | (rw[zbl hp (by exact hb28) hs.2];done) | (rw[zbT (fun i p hi h1=>hs.2 i p tz1 h1)];done)
   apply zaa;apply u;apply z7;simp only[↓bO,go_sem,seval,hw];refine ⟨(s+1),⟨by omega,fun i p' hi h1=>(by rcases zG i s with h3 | h3 <;> first | exact hs.2 i p' h3 h1 | (obtain rfl:i=s:=tz1;rw[hp] at h1;cases h1;exact hb28))⟩,by omega,?_⟩;simp only[zar,zas,zah,zam,mB,seval,zj,zh,bL];exact zaL
  (have hk:s=g.length:=by have:=hs.1;simp at hb9;omega);apply zak;simp only[zao,zaj,zaf,bA,Nat.reduceEqDiff,↓reduceIte];apply y;refine sqD ?_;apply zab;(try simp only[go_sem]);refine Le.of_eq (congrArg (fun n=>AV.v (.int .i64 n)) ?_);first | (rw[zbl hp (by exact hb28) hs.2];done) | (rw[zbT (fun i p hi h1=>hs.2 i p tz1 h1)];done)
theorem Ty.radd_eq (t:Ty) (g:List RNode):t.radd g=if t.k=1/\0<=zbE (RNode.isVar t.n) g then (g,zbE (RNode.isVar t.n) g) else ((Ty.raddL t.ps g []).1++[⟨t,(Ty.raddL t.ps g []).2⟩],((Ty.raddL t.ps g []).1.length:Int)):=by
 cases t;rw[Ty.radd];rfl
theorem Ty.raddL_append:∀(ps qs:List Ty) (g:List RNode) (l:List Int),Ty.raddL (ps++qs) g l=Ty.raddL qs (Ty.raddL ps g l).1 (Ty.raddL ps g l).2
 | [],qs,g,l=>by simp[Ty.raddL]
 | p::ps,qs,g,l=>by simp[Ty.raddL,Ty.raddL_append ps qs]
theorem Ty.raddL_step {ps:List Ty} {s:Nat} {p:Ty} (hp:ps[s]?=some p) (g:List RNode) (l:List Int) :
  Ty.raddL (ps.take (s+1)) g l=((p.radd (Ty.raddL (ps.take s) g l).1).1,(Ty.raddL (ps.take s) g l).2++[(p.radd (Ty.raddL (ps.take s) g l).1).2]):=by
 rw[zM,hp,Ty.raddL_append];simp[Ty.raddL]
theorem Ty.raddL_len2:∀(ps:List Ty) (g:List RNode) (l:List Int),(Ty.raddL ps g l).2.length=l.length+ps.length
 | [],g,l=>by simp[Ty.raddL]
 | p::ps,g,l=>by simp[Ty.raddL,Ty.raddL_len2 ps];omega
theorem Ty.radd_len:∀(t:Ty) (g:List RNode),(t.radd g).1.length<=g.length+t.cnt:=by
 refine Ty.ind fun t ih=>?_
 have key:∀ps:List Ty,(∀p∈ps,∀g:List RNode,(p.radd g).1.length<=g.length+p.cnt)->∀(g:List RNode) (l:List Int),(Ty.raddL ps g l).1.length<=g.length+Ty.cntL ps:=by
  intro ps
  induction ps with
  | nil=>intro _ g l;simp[Ty.raddL,Ty.cntL]
  | cons p ps ihp =>
   intro hp g l;have h1:=hp p tz4 g;have h2:=ihp (fun q hq=>hp q (by simp[hq])) (p.radd g).1 (l++[(p.radd g).2]);simp only[Ty.raddL,Ty.cntL];omega
 intro g;rw[Ty.radd_eq,Ty.cnt_eq];split;(·simp only;omega);have:=key t.ps ih g [];simp only[zi,zz,zJ];omega
theorem Ty.raddL_len (ps:List Ty) (g:List RNode) (l:List Int):(Ty.raddL ps g l).1.length<=g.length+Ty.cntL ps:=by
 induction ps generalizing g l with
 | nil=>simp[Ty.raddL,Ty.cntL]
 | cons p ps ihp =>
  have h1:=Ty.radd_len p g;have h2:=ihp (p.radd g).1 (l++[(p.radd g).2]);simp only[Ty.raddL,Ty.cntL];omega
theorem RNode.all_one (l:List RNode):((l.map RNode.cells).all fun y=>y.all AV.one)=true:=by
 rw[zV];intro y hy;obtain ⟨r,_,rfl⟩:=zq.1 hy;rfl
end Go.Proofs.YtpfiliamceimmaaGreatDoor
namespace Go.Proofs.YtpfiliamceimmaaGreatDoor
open Go Go.RowKit
inductive Rt (up:List Nat):Nat->Nat->Prop
 | base {i:Nat} (h:up[i]?=some i):Rt up i i
 | step {i j r:Nat} (h:up[i]?=some j) (hn:j≠i) (hr:Rt up j r):Rt up i r
theorem Rt.root {up:List Nat} {i r:Nat} (h:Rt up i r):up[r]?=some r:=by
 induction h with
 | base h=>exact h
 | step _ _ _ ih=>exact ih
theorem Rt.det {up:List Nat} {i r s:Nat} (h:Rt up i r) (k:Rt up i s):r=s:=by
 induction h with
 | base h =>
  cases k with
  | base _=>rfl
  | step h2 hn _=>rw[h] at h2;cases h2;exact absurd rfl hn
 | step h1 hn1 _ ih =>
  cases k with
  | base h=>rw[h1] at h;cases h;exact absurd rfl hn1
  | step h2 hn2 hr2=>rw[h1] at h2;cases h2;exact ih hr2
theorem Rt.self {up:List Nat} {r s:Nat} (h:up[r]?=some r) (k:Rt up r s):s=r:=(Rt.det k (.base h))
theorem Rt.lt {up:List Nat} {i r:Nat} (h:Rt up i r):r<up.length:=(zb.1 h.root).1
theorem Rt.lt' {up:List Nat} {i r:Nat} (h:Rt up i r):i<up.length:=by
 cases h with
 | base h=>exact (zb.1 h).1
 | step h _ _=>exact (zb.1 h).1
theorem Rt.next {up:List Nat} {i r u:Nat} (k:Rt up i r) (h:up[i]?=some u) (hn:u≠i):Rt up u r:=by
 cases k with
 | base h9=>rw[h] at h9;cases h9;exact absurd rfl hn
 | step h9 _ h8=>rw[h] at h9;cases h9;exact h8
theorem Rt.stop {up:List Nat} {i r u:Nat} (k:Rt up i r) (h:up[i]?=some u) (hn:u=i):i=r:=by
 subst hn;exact (Rt.self h k).symm
theorem Rt.far {up:List Nat} {i r u:Nat} (k:Rt up i r) (h:up[i]?=some u) (hn:u≠r):r≠i/\u≠i:=by
 constructor
 ·intro e
  subst e;have h9:=k.root;rw[h] at h9;cases h9;exact hn rfl
 intro e;subst e;exact hn (Rt.self h k).symm
structure UpOk (up:List Nat) (h:Nat->Nat):Prop where
 lt:∀(i u:Nat),up[i]?=some u->u<up.length
 down:∀(i u:Nat),up[i]?=some u->u≠i->h u<h i
theorem UpOk.total {up:List Nat} {h:Nat->Nat} (H:UpOk up h):∀(n i:Nat),h i<=n->i<up.length->∃r,Rt up i r:=by
 intro n
 induction n with
 | zero =>
  intro i hi hl;have hg:=za hl
  by_cases e:up[i]=i
  ·rw[e] at hg;exact ⟨i,.base hg⟩
  have:=H.down i _ hg e;omega
 | succ n ih =>
  intro i hi hl;have hg:=za hl
  by_cases e:up[i]=i
  (·rw[e] at hg;exact ⟨i,.base hg⟩);have h1:=H.down i _ hg e;obtain ⟨r,hr⟩:=ih up[i] tz1 (H.lt i _ hg);exact ⟨r,.step hg e hr⟩
theorem UpOk.ex {up:List Nat} {h:Nat->Nat} (H:UpOk up h) {i:Nat} (hi:i<up.length):∃r,Rt up i r:=H.total (h i) i (zQ _) hi
theorem UpOk.le {up:List Nat} {h:Nat->Nat} (H:UpOk up h) {i r:Nat} (k:Rt up i r):r=i\/h r<h i:=by
 induction k with
 | base _=>exact .inl rfl
 | step h1 hn _ ih =>
  have:=H.down _ _ h1 hn;(rcases ih with ih | ih);(·exact .inr (by rw[ih];exact this));exact .inr tz1
theorem UpOk.short {up:List Nat} {h:Nat->Nat} (H:UpOk up h) {i r:Nat} (k:Rt up i r) (hne:r≠i):UpOk (up.set i r) h/\∀a q,Rt (up.set i r) a q↔Rt up a q:=by
 have hir:h r<h i:=(H.le k).resolve_left hne;have hil:=k.lt'
 have hget:∀j:Nat,(up.set i r)[j]?=if i=j then some r else up[j]?:=fun j=>by
  rw[List.getElem?_set];split;(·simp[*]);rfl
 (have hroot:(up.set i r)[r]?=some r:=by rw[hget,if_neg (Ne.symm hne)];exact k.root);refine ⟨⟨fun j u hj=>?_,fun j u hj hn=>?_⟩,fun a q=>⟨fun ha=>?_,fun ha=>?_⟩⟩
 ·rw[List.length_set]
  rw[hget] at hj;(split at hj);(·cases hj;exact k.lt);exact H.lt j u hj
 ·rw[hget] at hj
  (split at hj);(·rename_i e;cases hj;subst e;exact hir);exact H.down j u hj hn
 ·induction ha with
  | base hb =>
   rw[hget] at hb;(split at hb);·rename_i e;cases hb;exact absurd e.symm hne
   exact .base hb
  | step hb hn hr ih =>
   rw[hget] at hb;split at hb
   ·rename_i e
    (cases hb);subst e;rw[Rt.self k.root ih];exact k
   exact .step hb hn ih
 induction ha with
 | @base j hb =>
  refine .base ?_;rw[hget,if_neg];exact hb;intro e;subst e
  exact hne (Rt.self hb k)
 | @step j u q hb hn hr ih =>
  by_cases e:i=j
  ·subst e
   have:r=q:=k.det (.step hb hn hr);subst this;exact .step (by rw[hget,if_pos rfl]) hne (.base hroot)
  exact .step (by rw[hget,if_neg e];exact hb) hn ih
open Classical in
theorem UpOk.link {up:List Nat} {h:Nat->Nat} (H:UpOk up h) {a b:Nat} (ha:up[a]?=some a) (hb:up[b]?=some b) (hne:a≠b) :
  (∃h',UpOk (up.set b a) h')/\∀k q,Rt (up.set b a) k q↔(q=a/\(Rt up k a\/Rt up k b))\/(q≠a/\q≠b/\Rt up k q):=by
 have hbl:=(zb.1 hb).1;have hal:=(zb.1 ha).1
 have hget:∀j:Nat,(up.set b a)[j]?=if b=j then some a else up[j]?:=fun j=>by
  rw[List.getElem?_set];split;(·simp[*]);rfl
 (have hroot:(up.set b a)[a]?=some a:=by rw[hget,if_neg (Ne.symm hne)];exact ha);refine ⟨⟨fun j=>if Rt up j b then h j+h a+1 else h j,⟨fun j u hj=>?_,fun j u hj hn=>?_⟩⟩,fun k q=>⟨fun hk=>?_,fun hk=>?_⟩⟩
 ·rw[List.length_set]
  rw[hget] at hj;(split at hj);(·cases hj;exact hal);exact H.lt j u hj
 ·rw[hget] at hj
  (have hab:¬Rt up a b:=fun k=>hne (Rt.self ha k).symm);split at hj
  ·rename_i e
   (cases hj);subst e;(show (if Rt up a b then h a+h a+1 else h a)<(if Rt up b b then h b+h a+1 else h b));rw[if_neg hab,if_pos (.base hb)];omega
  (rename_i e);have hd:=H.down j u hj hn;show (if Rt up u b then h u+h a+1 else h u)<(if Rt up j b then h j+h a+1 else h j)
  by_cases hu:Rt up u b
  ·rw[if_pos hu,if_pos (.step hj hn hu)];omega
  have hj2:¬Rt up j b:=fun k=>by
   cases k with
   | base _=>exact e rfl
   | step h2 _ hr=>rw[hj] at h2;cases h2;exact hu hr
  rw[if_neg hu,if_neg hj2];exact hd
 ·induction hk with
  | @base j hb2 =>
   rw[hget] at hb2;(split at hb2);(·rename_i e;cases hb2;exact absurd e.symm hne);rename_i e
   by_cases ea:j=a
   ·subst ea;exact .inl ⟨rfl,.inl (.base ha)⟩
   exact .inr ⟨ea,fun e2=>e e2.symm,.base hb2⟩
  | @step j u q hb2 hn hr ih =>
   rw[hget] at hb2;split at hb2
   ·rename_i e
    (cases hb2);subst e;have:=Rt.self hroot hr;subst this;exact .inl ⟨rfl,.inr (.base hb)⟩
   (rcases ih with ⟨e,ih⟩ | ⟨e1,e2,ih⟩);(·exact .inl ⟨e,ih.imp (.step hb2 hn) (.step hb2 hn)⟩);exact .inr ⟨e1,e2,.step hb2 hn ih⟩
 have key:∀k q,Rt up k q->(q≠b->Rt (up.set b a) k q)/\(q=b->Rt (up.set b a) k a):=by
  intro k q hk
  induction hk with
  | @base j hb2 =>
   refine ⟨fun e=>.base (by rw[hget,if_neg (Ne.symm e)];exact hb2),fun e=>?_⟩;subst e
   exact .step (by rw[hget,if_pos rfl]) hne (.base hroot)
  | @step j u q hb2 hn hr ih =>
   (have hjb:b≠j:=fun e=>by subst e;rw[hb] at hb2;cases hb2;exact hn rfl);exact ⟨fun e=>.step (by rw[hget,if_neg hjb];exact hb2) hn (ih.1 e),fun e=>.step (by rw[hget,if_neg hjb];exact hb2) hn (ih.2 e)⟩
 (rcases hk with ⟨rfl,hk | hk⟩ | ⟨_,e2,hk⟩);(·exact (key k _ hk).1 hne);(·exact (key k _ hk).2 rfl);exact (key k _ hk).1 e2
theorem Rt.push {up:List Nat} {k q:Nat}:Rt (up++[up.length]) k q->(∀(i u:Nat),up[i]?=some u->u<up.length)->(Rt up k q\/(k=up.length/\q=up.length)):=by
 intro h hl
 induction h with
 | @base j hb =>
  (rcases zG j up.length with h1 | h1);(·rw[zA h1] at hb;exact .inl (.base hb));have h2:=(zb.1 hb).1;simp at h2
  exact .inr ⟨by omega,by omega⟩
 | @step j u q hb hn hr ih =>
  rcases zG j up.length with h1 | h1
  ·rw[zA h1] at hb
   (rcases ih with ih | ⟨ih,_⟩);(·exact .inl (.step hb hn ih));have:=hl j u hb;omega
  have h2:=(zb.1 hb).1;(simp at h2);(have e:j=up.length:=by omega);subst e;rw[zK (zQ _)] at hb;(simp at hb);exact absurd hb.symm hn
theorem Rt.mono {up:List Nat} {k q:Nat} (h:Rt up k q):Rt (up++[up.length]) k q:=by
 induction h with
 | base hb=>exact .base (by rw[zA (zb.1 hb).1];exact hb)
 | step hb hn _ ih=>exact .step (by rw[zA (zb.1 hb).1];exact hb) hn ih
theorem UpOk.push {up:List Nat} {h:Nat->Nat} (H:UpOk up h):UpOk (up++[up.length]) h:=by
 refine ⟨fun i u hi=>?_,fun i u hi hn=>?_⟩
 ·rcases zG i up.length with h1 | h1
  (·rw[zA h1] at hi;have:=H.lt i u hi;simp;omega);rw[zK h1] at hi;have h2:=(zb.1 hi).1;(have e:i-up.length=0:=by simp at h2;omega);rw[e] at hi;simp at hi;simp[<- hi]
 (rcases zG i up.length with h1 | h1);(·rw[zA h1] at hi;exact H.down i u hi hn);rw[zK h1] at hi;have h2:=(zb.1 hi).1;(have e:i-up.length=0:=by simp at h2;omega);rw[e] at hi;simp at hi;omega
end Go.Proofs.YtpfiliamceimmaaGreatDoor
namespace Go.Proofs.YtpfiliamceimmaaGreatDoor
open Go Go.RowKit
set_option maxRecDepth 100000
set_option maxHeartbeats 4000000
attribute [local irreducible] aops zaA
structure FS where
 up:List Nat
 rank:List Int
 sets:Int
 steps:Int
def nC (n:Nat):List AV:=[.v (.int .i64 n)]
theorem zaY (l:List Nat):∀x∈l.map nC,DataL x:=fun x hx=>by
 obtain ⟨n,_,rfl⟩:=zq.1 hx;exact .cons (.v _) .nil
theorem zaJ (l:List Int):∀x∈l.map intC,DataL x:=fun x hx=>by
 obtain ⟨n,_,rfl⟩:=zq.1 hx;exact .cons (.v _) .nil
theorem setNC (l:List Nat) (i r:Nat):(l.map nC).set i [.v (.int .i64 (r:Int))]=(l.set i r).map nC:=by rw[List.map_set];rfl
theorem setIC (l:List Int) (i:Nat) (r:Int):(l.map intC).set i [.v (.int .i64 r)]=(l.set i r).map intC:=by rw[List.map_set]
theorem pushNC (l:List Nat) (r:Nat):l.map nC++[[.v (.int .i64 (r:Int))]]=(l++[r]).map nC:=by rw[zu];rfl
theorem pushIC (l:List Int) (r:Int):l.map intC++[[.v (.int .i64 r)]]=(l++[r]).map intC:=by rw[zu];rfl
def zcY (F:FS):List Ob:=[.cells 184 [.own 1 F.up.length,.own 2 F.rank.length,.v (.int .i64 F.sets),.v (.int .i64 F.steps)],.row 3 1 (F.up.map nC),.row 3 1 (F.rank.map intC)]
def fObsAt (i j:Nat) (F:FS):List Ob:=[.cells 184 [.own i F.up.length,.own j F.rank.length,.v (.int .i64 F.sets),.v (.int .i64 F.steps)],.row 3 1 (F.up.map nC),.row 3 1 (F.rank.map intC)]
structure FInv (F:FS):Prop where
 len:F.rank.length=F.up.length
 ok:∃h,UpOk F.up h
structure FSame (F G:FS):Prop where
 inv:FInv G
 len:G.up.length=F.up.length
 rank:G.rank=F.rank
 rt:∀k q,Rt G.up k q↔Rt F.up k q
theorem FSame.refl {F:FS} (h:FInv F):FSame F F:=⟨h,rfl,rfl,fun _ _=>Iff.rfl⟩
theorem FSame.trans {F G H:FS} (h:FSame F G) (k:FSame G H):FSame F H:=⟨k.inv,k.len.trans h.len,k.rank.trans h.rank,fun a q=>(k.rt a q).trans (h.rt a q)⟩
theorem fUnd {n:Nat} (h:3<=n) (F:FS):UndOs n (zad 0 (zcY F)) :=
 ⟨by omega,⟨.own tz1,.own tz1,.v _ _,.v _ _,trivial⟩,by omega,Und.rowI (zaY _),by omega,Und.rowI (zaJ _),trivial⟩
theorem renF (F:FS) (i j k nx:Nat):RenOs (zbu [i,j,k] nx) 0 (zcY F) (fObsAt j k F):=⟨.cells ⟨.own rfl,.own rfl,.v _,.v _,trivial⟩,.row (zaY _),.row (zaJ _),trivial⟩
def FCalls {σ:Type} (f:Nat) (args:List AV) (F:FS) (C:FS×σ->Prop) (R:σ->AV):Prop :=
 ACalls Tryz.prog f args (zad 0 (zcY F)) 3 fun r os n=>(∃s:FS×σ,C s/\r=R s.2/\os=zad 0 (zcY s.1))/\n=3
theorem FCalls.at {σ:Type} {f:Nat} {args:List AV} {F:FS} {C:FS×σ->Prop} {R:σ->AV} (h:FCalls f (.ptr 0 0::args) F C R) (hd:DataL args) (hR:∀s,Data (R s)) {i j k:Nat} {os':Os} {nx':Nat}
  (hi:zav os' i=some (.cells 184 [.own j F.up.length,.own k F.rank.length,.v (.int .i64 F.sets),.v (.int .i64 F.steps)])) (hj:zav os' j=some (.row 3 1 (F.up.map nC))) (hk:zav os' k=some (.row 3 1 (F.rank.map intC)))
  (hij:i≠j) (hik:i≠k) (hjk:j≠k) (li:i<nx') (lj:j<nx') (lk:k<nx') {Q':AV->Os->Nat->Prop}
  (hq:∀(G:FS) (s:σ),C (G,s)->Q' (R s) (zam (zam (zam os' i (.cells 184 [.own j G.up.length,.own k G.rank.length,.v (.int .i64 G.sets),.v (.int .i64 G.steps)])) j (.row 3 1 (G.up.map nC))) k (.row 3 1 (G.rank.map intC))) nx'):ACalls Tryz.prog f (.ptr i 0::args) os' nx' Q':=by
 have same:∀(l:List AV),DataL l->RenL (zbu [i,j,k] nx') l l:=by
  intro l hl
  induction l with
  | nil=>trivial
  | cons x l ih=>exact ⟨.data (hl x tz4),ih fun y hy=>hl y (by simp[hy])⟩
 refine ACalls.atE (σ:=FS×σ) (C:=C) (args:=.ptr 0 0::args) (R:=fun s=>R s.2) (R':=fun s=>R s.2) (obs:=zcY F) (obs1:=fun s=>zcY s.1) (obs':=fObsAt j k F) (obs1':=fun s=>fObsAt j k s.1) [i,j,k] h rfl (fun _=>rfl) (by simp[hij,hik,hjk]) (by simp[li,lj,lk]) ⟨.ptr rfl,same args hd⟩ (fun s=>.data (hR s.2)) (renF F i j k nx') ⟨hi,hj,hk,trivial⟩ (fun s=>renF s.1 i j k nx') (fun s hs=>hq s.1 s.2 hs)
theorem zfM (F:FS) (i:Int):FCalls (σ:=Unit) 153 [.ptr 0 0,.v (.int .i64 i)] (F) (fun s=>s.1=F) (fun s=>.v (.bool (decide (0<=i/\i<F.up.length)))):=by
  refine ACalls.clean (C:=fun r os=>∃s:FS×Unit,(s.1=F)/\r=(fun s:Unit=>.v (.bool (decide (0<=i/\i<F.up.length)))) s.2/\os=zad 0 (zcY s.1)) ?_;refine aIn Tryz.func153 fun hm=>?_;simp only[Tryz.ntmps153,Tryz.results153,go_sem,seval];simp only[zcY,zad,Nat.reduceAdd];refine sqD ?_;refine sqR fun _ q=>?_;refine chS 3 ?_;simp only[go_sem];refine zag 7 rfl (fun hc7=>?_) (fun hc7=>?_)
  ·
   refine chS 4 ?_;simp only[go_sem];refine zag 11 rfl (fun hc11=>?_) (fun hc11=>?_)
   ·
    (iterate 2 (refine chS 4 ?_));simp only[↓bO,go_sem,seval];apply q;apply zab;(try simp only[go_sem]);refine ⟨_,zad 0 (zcY (F)),⟨(F,()),?_,rfl,rfl⟩,.v _ _,fUnd tz1 _,?_,?_,by omega⟩;· rfl
    ·
     refine Le.of_eq (congrArg (fun b=>AV.v (.bool b)) ?_);have h9:=hc11;(simp at h9);(simp[h9]);try omega
    first | (refine ⟨0,rfl,rfl⟩) | (refine ⟨0,by simp only[zcY,zad,zk,zf,Nat.reduceAdd],rfl⟩)
   (iterate 2 (refine chS 4 ?_));simp only[↓bO,go_sem,seval];apply q;apply zab;(try simp only[go_sem]);refine ⟨_,zad 0 (zcY (F)),⟨(F,()),?_,rfl,rfl⟩,.v _ _,fUnd tz1 _,?_,?_,by omega⟩;· rfl
   ·
    refine Le.of_eq (congrArg (fun b=>AV.v (.bool b)) ?_);have h9:=hc11;(simp at h9);(simp[h9]);try omega
   first | (refine ⟨0,rfl,rfl⟩) | (refine ⟨0,by simp only[zcY,zad,zk,zf,Nat.reduceAdd],rfl⟩)
  simp only[go_sem];cases hc7
theorem zjm (F:FS) (hF:FInv F) (i:Nat) (hi:i<F.up.length):FCalls (σ:=Nat) 154 [.ptr 0 0,.v (.int .i64 (i:Int))] (F) (fun s=>FSame F s.1/\Rt F.up i s.2) (fun s=>.v (.int .i64 (s:Int))):=by
  refine ACalls.clean (C:=fun r os=>∃s:FS×Nat,(FSame F s.1/\Rt F.up i s.2)/\r=(fun s:Nat=>.v (.int .i64 (s:Int))) s.2/\os=zad 0 (zcY s.1)) ?_;refine aIn Tryz.func154 fun hm=>?_;simp only[Tryz.ntmps154,Tryz.results154,go_sem,seval];simp only[zcY,zad,Nat.reduceAdd];obtain ⟨hfl,h,hU⟩:=hF;obtain ⟨r,hr⟩:=hU.ex hi;refine sqD ?_;refine zel ?_;refine sqD ?_;refine z6 fun _ w=>?_;refine zex ?_;apply w;refine z6 fun _ w=>?_;apply zac;refine zai (σ:=Nat×Int) (mB 58 35) (fun s=>s.1<F.up.length/\Rt F.up s.1 r) (fun s=>[(5,.v (.int .i64 (s.1:Int)))]) (fun s=>[(0,.cells 184 [.own 1 F.up.length,.own 2 F.rank.length,.v (.int .i64 F.sets),.v (.int .i64 s.2)])]) (fun s=>h s.1) (i,F.steps) (⟨hi,hr⟩) ?_ (fun s hs=>?_)
  ·
   simp only[go_sem,seval];exact zaL
  simp only[go_sem,seval];obtain ⟨u,hu⟩:∃u,F.up[s.1]?=some u:=⟨_,za hs.1⟩;(have hs1:(s.1:Int)<(F.up.length:Int):=by have:=hs.1;omega);have hs2:=hs.1;apply zac;refine sqR fun _ z=>?_;(iterate 2 (refine chS 3 ?_));simp only[↓bO,go_sem,seval];apply z;refine sqR fun _ z=>?_;(iterate 2 (refine chS 3 ?_ (by intro _ q;simp only[↓bO,go_sem,seval,hs1];exact q)));simp only[↓bO,go_sem,seval,gM hu,nC,hs2];apply z;refine sqD ?_;apply zac;refine sqD ?_;apply z8 rfl <;> intro hb24
  ·
   (have h9:u=s.1:=by have h8:=hb24;simp at h8;omega);have hroot:=hs.2.stop hu h9;apply zak;simp only[zao,zaj,zaf,bA,Nat.reduceEqDiff,↓reduceIte];apply w;refine z6 fun _ w=>?_;apply zac;obtain ⟨s1,hs1⟩:∃x:Nat×Int,x=s:=⟨_,rfl⟩;subst hs1;rw[hroot];refine zai (σ:=Nat×List Nat×Int) (mB 58 35) (fun s=>s.1<F.up.length/\s.2.1.length=F.up.length/\UpOk s.2.1 h/\(∀k q,Rt s.2.1 k q↔Rt F.up k q)/\Rt F.up s.1 r) (fun s=>[(1,.v (.int .i64 (s.1:Int)))]) (fun s=>[(0,.cells 184 [.own 1 F.up.length,.own 2 F.rank.length,.v (.int .i64 F.sets),.v (.int .i64 s.2.2)]),(1,.row 3 1 (s.2.1.map nC))]) (fun s=>h s.1) (i,F.up,IntKind.i64.wrap (s1.2+1)) (⟨hi,rfl,hU,fun _ _=>Iff.rfl,hr⟩) ?_ (fun s hs=>?_)
   ·
    simp only[go_sem,seval];exact zaL
   simp only[go_sem,seval];obtain ⟨u,hu⟩:∃u,s.2.1[s.1]?=some u:=⟨_,za (by rw[hs.2.1];exact hs.1)⟩;have hsl:=hs.2.1;(have hs3:(s.1:Int)<(F.up.length:Int):=by have:=hs.1;omega);have hs4:=hs.1;refine z6 fun _ z=>?_;refine sqR fun _ j=>?_;(iterate 2 (refine chS 3 ?_ (by intro _ q;simp only[↓bO,go_sem,seval,hs3,hsl];exact q)));simp only[↓bO,go_sem,seval,gM hu,nC,hs4,hsl];apply j;apply z8 rfl <;> intro hb35
   ·
    (have hne:u≠r:=by have h8:=hb35;simp at h8;omega);have hrt:Rt s.2.1 s.1 r:=(hs.2.2.2.1 _ _).2 hs.2.2.2.2;obtain ⟨hnr,hnu⟩:=hrt.far hu hne;have hdown:=hs.2.2.1.down _ _ hu hnu;obtain ⟨hc1,hc2⟩:=hs.2.2.1.short hrt hnr;have hur:Rt F.up u r:=(hs.2.2.2.1 _ _).1 (hrt.next hu hnu);have hnext:u<F.up.length/\(s.2.1.set s.1 r).length=F.up.length/\UpOk (s.2.1.set s.1 r) h/\(∀k q,Rt (s.2.1.set s.1 r) k q↔Rt F.up k q)/\Rt F.up u r:=⟨by rw[<- hs.2.1];exact hs.2.2.1.lt _ _ hu,by rw[List.length_set];exact hs.2.1,hc1,fun k q=>(hc2 k q).trans (hs.2.2.2.1 k q),hur⟩;apply zaa;apply z;apply zac;refine sqR fun _ z=>?_;(iterate 2 (refine chS 3 ?_));simp only[↓bO,go_sem,seval];apply z;refine zay 14 mixed tz0 fun J0 j0=>?_;(iterate 4 (simp only[go_sem];refine zae 3 fun _ y=>?_;simp only[↓zaA,↓dOp,↓bO,go_sem,seval,hs4,hsl];apply y;clear y));simp only[go_sem];simp only[↓zaA,↓dOp,↓bO,go_sem,seval,gM hu,nC,hs3,hs4,hsl];refine j0 _ ?_;clear j0 J0;simp only[go_sem];simp only[↓bO,go_sem,seval,gM hu,nC,hs4,hsl,setNC];refine ⟨(u,s.2.1.set s.1 r,IntKind.i64.wrap (s.2.2+1)),hnext,hdown,?_⟩;simp only[zar,zas,zah,zam,mB,seval];exact zaL
   apply zak;simp only[zao,zaj,zaf,bA,Nat.reduceEqDiff,↓reduceIte];apply w;refine sqD ?_;apply zab;(try simp only[go_sem]);refine ⟨_,zad 0 (zcY (⟨s.2.1,F.rank,F.sets,s.2.2⟩)),⟨(⟨s.2.1,F.rank,F.sets,s.2.2⟩,r),?_,rfl,rfl⟩,.v _ _,fUnd tz1 _,?_,?_,by omega⟩;· exact ⟨⟨⟨by rw[hfl];exact hs.2.1.symm,h,hs.2.2.1⟩,hs.2.1,rfl,hs.2.2.2.1⟩,hr⟩
   ·
    exact Le.refl _
   first | (refine ⟨0,rfl,rfl⟩) | (refine ⟨0,by simp only[zcY,zad,zk,zf,Nat.reduceAdd,hs.2.1],rfl⟩)
  (have hne:u≠s.1:=by have h8:=hb24;simp at h8;omega);have hnext:=hs.2.next hu hne;apply z7;simp only[↓bO,go_sem,seval];refine ⟨(u,IntKind.i64.wrap (s.2+1)),⟨hU.lt _ _ hu,hnext⟩,hU.down _ _ hu hne,?_⟩;simp only[zar,zas,zah,zam,mB,seval];exact zaL
structure FJoin (F:FS) (a b:Nat) (s:FS×(Nat×Bool)):Prop where
 inv:FInv s.1
 len:s.1.up.length=F.up.length
 ex:∃ra rb,Rt F.up a ra/\Rt F.up b rb/\((ra=rb/\s.2=(ra,false)/\∀k q,Rt s.1.up k q↔Rt F.up k q) \/
  (ra≠rb/\s.2.2=true/\(s.2.1=ra\/s.2.1=rb)/\∀k q,Rt s.1.up k q↔(q=s.2.1/\(Rt F.up k ra\/Rt F.up k rb))\/(q≠ra/\q≠rb/\Rt F.up k q)))
theorem FJoin.same {F G:FS} {a b r q:Nat} (S:FSame F G) (ha:Rt F.up a r) (hb:Rt F.up b q) (e:r=q):FJoin F a b (G,(r,false)) :=
 ⟨S.inv,S.len,r,q,ha,hb,.inl ⟨e,rfl,S.rt⟩⟩
theorem FJoin.two {F G:FS} {a b ra rb p q:Nat} (S:FSame F G) (ha:Rt F.up a ra) (hb:Rt F.up b rb) (hne:ra≠rb) (hpq:(p=ra/\q=rb)\/(p=rb/\q=ra)) (rank:List Int) (sets steps:Int) (hr:rank.length=F.up.length) :
  FJoin F a b (⟨G.up.set q p,rank,sets,steps⟩,(p,true)):=by
 obtain ⟨h,hU⟩:=S.inv.ok;have ha':=((S.rt _ _).2 ha).root;have hb':=((S.rt _ _).2 hb).root
 have hp:G.up[p]?=some p/\G.up[q]?=some q/\p≠q:=by
  (rcases hpq with ⟨rfl,rfl⟩ | ⟨rfl,rfl⟩);(·exact ⟨ha',hb',hne⟩);exact ⟨hb',ha',fun e=>hne e.symm⟩
 obtain ⟨hl,hrt⟩:=hU.link hp.1 hp.2.1 hp.2.2;refine ⟨⟨by simp only[List.length_set];rw[hr,S.len],hl⟩,by simp only[List.length_set];exact S.len,ra,rb,ha,hb,.inr ⟨hne,rfl,?_,fun k u=>?_⟩⟩
 ·rcases hpq with ⟨e,_⟩ | ⟨e,_⟩
  (·exact .inl e);exact .inr e
 refine (hrt k u).trans ?_;simp only[S.rt];(rcases hpq with ⟨rfl,rfl⟩ | ⟨rfl,rfl⟩);(·exact Iff.rfl);constructor
 ·rintro (⟨h1,h2⟩ | ⟨h1,h2,h3⟩)
  (·exact .inl ⟨h1,h2.symm⟩);exact .inr ⟨h2,h1,h3⟩
 rintro (⟨h1,h2⟩ | ⟨h1,h2,h3⟩);(·exact .inl ⟨h1,h2.symm⟩);exact .inr ⟨h2,h1,h3⟩
theorem FInv.push {F:FS} (h:FInv F) (sets steps:Int):FInv ⟨F.up++[F.up.length],F.rank++[0],sets,steps⟩:=by
 obtain ⟨h1,h,h2⟩:=h;exact ⟨by simp[h1],h,h2.push⟩
theorem tz2 {p:Prop} (h:p:=by first | omega | (simp only;omega)):p:=h
theorem Root_f (F:FS) (hF:FInv F) (i:Nat) (hi:i<F.up.length):FCalls (σ:=Nat) 129 [.ptr 0 0,.v (.int .i64 (i:Int))] (F) (fun s=>FSame F s.1/\Rt F.up i s.2) (fun s=>.tup [.v (.int .i64 (s:Int)),.v (.bool true)]):=by
  refine ACalls.clean (C:=fun r os=>∃s:FS×Nat,(FSame F s.1/\Rt F.up i s.2)/\r=(fun s:Nat=>.tup [.v (.int .i64 (s:Int)),.v (.bool true)]) s.2/\os=zad 0 (zcY s.1)) ?_;refine aIn Tryz.func129 fun hm=>?_;simp only[Tryz.ntmps129,Tryz.results129,go_sem,seval];simp only[zcY,zad,Nat.reduceAdd];refine sqD ?_;refine z6 fun _ y=>?_;refine sqR fun _ u=>?_;refine chS 2 ?_;refine zZ 1 fun _ q=>?_;simp only[↓bO,go_sem,seval];refine FCalls.at (zfM F (i:Int)) (.cons (.v _) .nil) (fun _=>.v _) (i:=0) (j:=1) (k:=2) rfl rfl rfl tz3 tz3 tz3 tz2 tz2 tz2 (fun G0 u0 hG0=>?_);(try dsimp only at hG0);simp only[zam,Nat.reduceEqDiff,↓reduceIte];obtain rfl:F=G0:=hG0.symm;apply q;clear q;simp only[↓bO,go_sem,seval];apply u;apply z8 rfl <;> intro hb9
  ·
   exact absurd hb9 tz8
  apply zaa;apply y;refine sqR fun _ y=>?_;refine chS 2 ?_;refine zZ 1 fun _ q=>?_;simp only[↓bO,go_sem,seval];refine FCalls.at (zjm F hF i hi) (.cons (.v _) .nil) (fun _=>.v _) (i:=0) (j:=1) (k:=2) rfl rfl rfl tz3 tz3 tz3 tz2 tz2 tz2 (fun G r hG=>?_);(try dsimp only at hG);simp only[zam,Nat.reduceEqDiff,↓reduceIte];apply q;clear q;simp only[↓bO,go_sem,seval];apply y;apply zab;(try simp only[go_sem]);refine ⟨_,zad 0 (zcY (G)),⟨(G,r),?_,rfl,rfl⟩,.tup ⟨.v _ _,.v _ _,trivial⟩,fUnd tz1 _,?_,?_,by omega⟩;· exact hG
  ·
   exact Le.refl _
  first | (refine ⟨0,rfl,rfl⟩) | (refine ⟨0,by simp only[zcY,zad,zk,zf,Nat.reduceAdd],rfl⟩)
theorem Join_f (F:FS) (hF:FInv F) (a b:Nat) (ha:a<F.up.length) (hb:b<F.up.length):FCalls (σ:=Nat×Bool) 145 [.ptr 0 0,.v (.int .i64 (a:Int)),.v (.int .i64 (b:Int))] (F) (fun s=>FJoin F a b s) (fun s=>.tup [.v (.int .i64 (s.1:Int)),.v (.bool s.2)]):=by
  refine ACalls.clean (C:=fun r os=>∃s:FS×Nat×Bool,(FJoin F a b s)/\r=(fun s:Nat×Bool=>.tup [.v (.int .i64 (s.1:Int)),.v (.bool s.2)]) s.2/\os=zad 0 (zcY s.1)) ?_;refine aIn Tryz.func145 fun hm=>?_;simp only[Tryz.ntmps145,Tryz.results145,go_sem,seval];simp only[zcY,zad,Nat.reduceAdd];refine sqD ?_;refine z6 fun _ u=>?_;refine sqR fun _ w=>?_;refine chS 2 ?_;refine zZ 1 fun _ y=>?_;simp only[↓bO,go_sem,seval];refine FCalls.at (zfM F (a:Int)) (.cons (.v _) .nil) (fun _=>.v _) (i:=0) (j:=1) (k:=2) rfl rfl rfl tz3 tz3 tz3 tz2 tz2 tz2 (fun G0 u0 hG0=>?_);(try dsimp only at hG0);simp only[zam,Nat.reduceEqDiff,↓reduceIte];obtain rfl:F=G0:=hG0.symm;apply y;clear y;refine chS 2 ?_;simp only[go_sem];refine zag 12 rfl (fun hc12=>?_) (fun hc12=>?_)
  ·
   simp only[go_sem];exact absurd hc12 tz8
  refine chS 2 ?_;refine zZ 1 fun _ y=>?_;simp only[↓bO,go_sem,seval];refine FCalls.at (zfM F (b:Int)) (.cons (.v _) .nil) (fun _=>.v _) (i:=0) (j:=1) (k:=2) rfl rfl rfl tz3 tz3 tz3 tz2 tz2 tz2 (fun G0 u0 hG0=>?_);(try dsimp only at hG0);simp only[zam,Nat.reduceEqDiff,↓reduceIte];obtain rfl:F=G0:=hG0.symm;apply y;clear y;simp only[↓bO,go_sem,seval];apply w;apply z8 rfl <;> intro hb17
  ·
   exact absurd hb17 tz8
  apply zaa;apply u;refine sqR fun _ u=>?_;refine chS 2 ?_;refine zZ 1 fun _ y=>?_;simp only[↓bO,go_sem,seval];refine FCalls.at (zjm F hF a ha) (.cons (.v _) .nil) (fun _=>.v _) (i:=0) (j:=1) (k:=2) rfl rfl rfl tz3 tz3 tz3 tz2 tz2 tz2 (fun G1 r1 hG1=>?_);(try dsimp only at hG1);simp only[zam,Nat.reduceEqDiff,↓reduceIte];apply y;clear y;refine chS 2 ?_;refine zZ 1 fun _ y=>?_;simp only[↓bO,go_sem,seval];refine FCalls.at (zjm G1 hG1.1.inv b (by rw[hG1.1.len];exact hb)) (.cons (.v _) .nil) (fun _=>.v _) (i:=0) (j:=1) (k:=2) rfl rfl rfl tz3 tz3 tz3 tz2 tz2 tz2 (fun G2 r2 hG2=>?_);(try dsimp only at hG2);simp only[zam,Nat.reduceEqDiff,↓reduceIte];apply y;clear y;simp only[↓bO,go_sem,seval];apply u;refine z6 fun _ u=>?_;have S:=hG1.1.trans hG2.1;have hb2:Rt F.up b r2:=(hG1.1.rt _ _).1 hG2.2;have hl2:=S.inv.len;have hl3:=S.len;(have hr1:r1<G2.up.length:=by rw[S.len];exact hG1.2.lt);(have hr2:r2<G2.up.length:=by rw[S.len];exact hb2.lt);obtain ⟨ka,hka⟩:∃k,G2.rank[r1]?=some k:=⟨_,za tz1⟩;obtain ⟨kb,hkb⟩:∃k,G2.rank[r2]?=some k:=⟨_,za tz1⟩;have hu1:G2.up[r1]?=some r1:=((S.rt _ _).2 hG1.2).root;have hu2:G2.up[r2]?=some r2:=((S.rt _ _).2 hb2).root;(have hi1:(r1:Int)<(G2.rank.length:Int):=by omega);(have hi2:(r2:Int)<(G2.rank.length:Int):=by omega);(have hi3:r1<G2.rank.length:=by omega);(have hi4:r2<G2.rank.length:=by omega);(have hi5:(r1:Int)<(G2.up.length:Int):=by omega);(have hi6:(r2:Int)<(G2.up.length:Int):=by omega);refine sqR fun _ w=>?_;refine chS 2 ?_;simp only[↓bO,go_sem,seval];apply w;apply z8 rfl <;> intro hb26
  ·
   (have heq:r1=r2:=by have h8:=hb26;simp at h8;omega);refine sqR fun _ w=>?_;refine chS 2 ?_;simp only[↓bO,go_sem,seval];apply w;apply zab;(try simp only[go_sem]);refine ⟨_,zad 0 (zcY (G2)),⟨(G2,(r1,false)),?_,rfl,rfl⟩,.tup ⟨.v _ _,.v _ _,trivial⟩,fUnd tz1 _,?_,?_,by omega⟩;· exact FJoin.same S hG1.2 hb2 heq
   ·
    exact Le.refl _
   first | (refine ⟨0,rfl,rfl⟩) | (refine ⟨0,by simp only[zcY,zad,zk,zf,Nat.reduceAdd],rfl⟩)
  (have hne:r1≠r2:=by have h8:=hb26;simp at h8;omega);apply zaa;apply u;refine z6 fun _ u=>?_;refine z6 fun _ w=>?_;refine zay 15 mixed tz0 fun J0 j0=>?_;(iterate 7 (simp only[go_sem];refine zae 2 fun _ y=>?_;simp only[↓zaA,↓dOp,↓bO,go_sem,seval,gM hka,gM hkb,hi1,hi2,hi3,hi4,intC];apply y;clear y));simp only[go_sem];simp only[↓zaA,↓dOp,↓bO,go_sem,seval];refine j0 _ ?_;clear j0 J0;simp only[bL,aops,zao,zaj,zaf];apply w;apply z8 rfl <;> intro hb42
  ·
   apply z7;refine chS 2 ?_;simp only[↓bO,go_sem,seval];apply u;refine z6 fun _ u=>?_;refine z6 fun _ w=>?_;refine zay 15 mixed tz0 fun J0 j0=>?_;(iterate 7 (simp only[go_sem];refine zae 2 fun _ y=>?_;simp only[↓zaA,↓dOp,↓bO,go_sem,seval,gM hka,gM hkb,hi1,hi2,hi3,hi4,intC];apply y;clear y));simp only[go_sem];simp only[↓zaA,↓dOp,↓bO,go_sem,seval];refine j0 _ ?_;clear j0 J0;simp only[bL,aops,zao,zaj,zaf];apply w;apply z8 rfl <;> intro hb59
   ·
    apply z7;(iterate 4 (refine chS 2 ?_ (by intro _ q;simp only[↓bO,go_sem,seval,gM hkb,hi2,hi4,intC];exact q)));simp only[↓bO,go_sem,seval,gM hkb,hi2,hi4,intC,setIC];apply u;refine sqR fun _ u=>?_;(iterate 3 (refine chS 2 ?_));simp only[↓bO,go_sem,seval,gM hu1,nC,hi5,hr1,setNC];apply u;refine sqR fun _ u=>?_;(iterate 3 (refine chS 2 ?_));simp only[↓bO,go_sem,seval];apply u;refine sqR fun _ u=>?_;refine chS 2 ?_;simp only[↓bO,go_sem,seval];apply u;apply zab;(try simp only[go_sem]);refine ⟨_,zad 0 (zcY (⟨G2.up.set r1 r2,(G2.rank.set r2 (IntKind.i64.wrap (kb+1))),IntKind.i64.wrap (G2.sets-1),G2.steps⟩)),⟨(⟨G2.up.set r1 r2,(G2.rank.set r2 (IntKind.i64.wrap (kb+1))),IntKind.i64.wrap (G2.sets-1),G2.steps⟩,(r2,true)),?_,rfl,rfl⟩,.tup ⟨.v _ _,.v _ _,trivial⟩,fUnd tz1 _,?_,?_,by omega⟩;· exact FJoin.two S hG1.2 hb2 hne (.inr ⟨rfl,rfl⟩) _ _ _ (by first | (simp only[List.length_set];omega) | omega)
    ·
     exact Le.refl _
    first | (refine ⟨0,rfl,rfl⟩) | (refine ⟨0,by simp only[zcY,zad,zk,zf,Nat.reduceAdd,List.length_set],rfl⟩)
   apply zaa;apply u;refine sqR fun _ u=>?_;(iterate 3 (refine chS 2 ?_));simp only[↓bO,go_sem,seval,gM hu1,nC,hi5,hr1,setNC];apply u;refine sqR fun _ u=>?_;(iterate 3 (refine chS 2 ?_));simp only[↓bO,go_sem,seval];apply u;refine sqR fun _ u=>?_;refine chS 2 ?_;simp only[↓bO,go_sem,seval];apply u;apply zab;(try simp only[go_sem]);refine ⟨_,zad 0 (zcY (⟨G2.up.set r1 r2,G2.rank,IntKind.i64.wrap (G2.sets-1),G2.steps⟩)),⟨(⟨G2.up.set r1 r2,G2.rank,IntKind.i64.wrap (G2.sets-1),G2.steps⟩,(r2,true)),?_,rfl,rfl⟩,.tup ⟨.v _ _,.v _ _,trivial⟩,fUnd tz1 _,?_,?_,by omega⟩;· exact FJoin.two S hG1.2 hb2 hne (.inr ⟨rfl,rfl⟩) _ _ _ (by first | (simp only[List.length_set];omega) | omega)
   ·
    exact Le.refl _
   first | (refine ⟨0,rfl,rfl⟩) | (refine ⟨0,by simp only[zcY,zad,zk,zf,Nat.reduceAdd,List.length_set],rfl⟩)
  apply zaa;apply u;refine z6 fun _ u=>?_;refine z6 fun _ w=>?_;refine zay 15 mixed tz0 fun J0 j0=>?_;(iterate 7 (simp only[go_sem];refine zae 2 fun _ y=>?_;simp only[↓zaA,↓dOp,↓bO,go_sem,seval,gM hka,gM hkb,hi1,hi2,hi3,hi4,intC];apply y;clear y));simp only[go_sem];simp only[↓zaA,↓dOp,↓bO,go_sem,seval];refine j0 _ ?_;clear j0 J0;simp only[bL,aops,zao,zaj,zaf];apply w;apply z8 rfl <;> intro hb59
  ·
   apply z7;(iterate 4 (refine chS 2 ?_ (by intro _ q;simp only[↓bO,go_sem,seval,gM hka,hi1,hi3,intC];exact q)));simp only[↓bO,go_sem,seval,gM hka,hi1,hi3,intC,setIC];apply u;refine sqR fun _ u=>?_;(iterate 3 (refine chS 2 ?_));simp only[↓bO,go_sem,seval,gM hu2,nC,hi6,hr2,setNC];apply u;refine sqR fun _ u=>?_;(iterate 3 (refine chS 2 ?_));simp only[↓bO,go_sem,seval];apply u;refine sqR fun _ u=>?_;refine chS 2 ?_;simp only[↓bO,go_sem,seval];apply u;apply zab;(try simp only[go_sem]);refine ⟨_,zad 0 (zcY (⟨G2.up.set r2 r1,(G2.rank.set r1 (IntKind.i64.wrap (ka+1))),IntKind.i64.wrap (G2.sets-1),G2.steps⟩)),⟨(⟨G2.up.set r2 r1,(G2.rank.set r1 (IntKind.i64.wrap (ka+1))),IntKind.i64.wrap (G2.sets-1),G2.steps⟩,(r1,true)),?_,rfl,rfl⟩,.tup ⟨.v _ _,.v _ _,trivial⟩,fUnd tz1 _,?_,?_,by omega⟩;· exact FJoin.two S hG1.2 hb2 hne (.inl ⟨rfl,rfl⟩) _ _ _ (by first | (simp only[List.length_set];omega) | omega)
   ·
    exact Le.refl _
   first | (refine ⟨0,rfl,rfl⟩) | (refine ⟨0,by simp only[zcY,zad,zk,zf,Nat.reduceAdd,List.length_set],rfl⟩)
  apply zaa;apply u;refine sqR fun _ u=>?_;(iterate 3 (refine chS 2 ?_));simp only[↓bO,go_sem,seval,gM hu2,nC,hi6,hr2,setNC];apply u;refine sqR fun _ u=>?_;(iterate 3 (refine chS 2 ?_));simp only[↓bO,go_sem,seval];apply u;refine sqR fun _ u=>?_;refine chS 2 ?_;simp only[↓bO,go_sem,seval];apply u;apply zab;(try simp only[go_sem]);refine ⟨_,zad 0 (zcY (⟨G2.up.set r2 r1,G2.rank,IntKind.i64.wrap (G2.sets-1),G2.steps⟩)),⟨(⟨G2.up.set r2 r1,G2.rank,IntKind.i64.wrap (G2.sets-1),G2.steps⟩,(r1,true)),?_,rfl,rfl⟩,.tup ⟨.v _ _,.v _ _,trivial⟩,fUnd tz1 _,?_,?_,by omega⟩;· exact FJoin.two S hG1.2 hb2 hne (.inl ⟨rfl,rfl⟩) _ _ _ (by first | (simp only[List.length_set];omega) | omega)
  ·
   exact Le.refl _
  first | (refine ⟨0,rfl,rfl⟩) | (refine ⟨0,by simp only[zcY,zad,zk,zf,Nat.reduceAdd,List.length_set],rfl⟩)
theorem zik:∀(T:Ty) (g:List RNode) (hg:g.length+T.cnt<=1099511627776),APure Tryz.prog 77 [.sl 4 (g.map RNode.cells),.agg T.cells] (.tup [.sl 4 ((T.radd g).1.map RNode.cells),.v (.int .i64 (T.radd g).2)]):=by
  refine Ty.ind fun T ih=>?_;intro g hg;refine APure.mkL (.cons (RNode.dataSl g) (.cons T.dataAgg .nil)) (.tup (.cons (RNode.dataSl _) (.cons (.v _) .nil))) ?_;refine aIn Tryz.func77 fun hm=>?_;simp only[Tryz.ntmps77,Tryz.results77,go_sem,seval];have hm1:=hm.wide (t:=T) tz4;have hcn:=T.cnt_eq;have hcl:=Ty.cntL_len T.ps;refine sqD ?_;refine zi4 (mB 56 9) ([(0,.sl 4 (g.map RNode.cells))]) ([]) (¬(T.k=1/\0<=zbE (RNode.isVar T.n) g)) ?_ (fun hno=>?_)
  ·
   refine sqD ?_;apply z8 rfl <;> intro hb13
   ·
    refine sqR fun _ w=>?_;refine chS 3 ?_;refine zZ 1 fun _ u=>?_;simp only[↓bO,go_sem,seval];refine APure.call (RVar_pure g T.n) ?_;apply u;clear u;simp only[↓bO,go_sem,seval];apply w;refine sqD ?_;apply z8 rfl <;> intro hb19
    ·
     refine sqR fun _ w=>?_;refine chS 3 ?_;simp only[↓bO,go_sem,seval];apply w;apply zab;(try simp only[go_sem]);rw[Ty.radd_eq];first | (rw[if_neg hno];exact Le.refl _) | (rw[if_pos (by simp at *;omega)];exact Le.refl _)
    apply zaa;(try simp only[go_sem]);(try simp only[zar,zas,zah,zam,mB,List.set_cons_zero,seval]);refine ⟨(by simp only[beq_iff_eq,beq_eq_false_iff_ne,ze,ne_eq] at *;omega),?_⟩;exact zh9
   apply zaa;(try simp only[go_sem]);(try simp only[zar,zas,zah,zam,mB,List.set_cons_zero,seval]);refine ⟨(by simp only[beq_iff_eq,beq_eq_false_iff_ne,ze,ne_eq] at *;omega),?_⟩;exact zh9
  simp only[zar,zas,zah,zam,mB,List.set_cons_zero,seval];refine sqR fun _ w=>?_;refine chS 3 ?_;simp only[↓bO,go_sem,seval,List.all_append,zi];apply w;refine z6 fun _ w=>?_;simp only[Ty.cells_eq T,zw,zB];refine sqD ?_;apply zac;refine zaH (Weak.tokCell 3 1 (id:=1) (t:=112) [.v (.int .i64 T.k),.v (.int .i64 T.n),.sl 3 (T.ps.map Ty.cells),.osl 2 1 []] rfl ⟨.inl (.refl _),.inl (.refl _),.inl (.refl _),.inr ⟨rfl,rfl⟩,trivial⟩) ?_;simp only[zam,Nat.reduceEqDiff,↓reduceIte];refine zai (σ:=Nat) (mB 56 393) (fun s=>s<=T.ps.length) (fun s=>[(0,.sl 4 ((Ty.raddL (T.ps.take s) g []).1.map RNode.cells)),(8,.v (.int .i64 (s:Int)))]) (fun s=>[(1,.cells 112 [.v (.int .i64 T.k),.v (.int .i64 T.n),.sl 3 (T.ps.map Ty.cells),.osl 2 1 ((Ty.raddL (T.ps.take s) g []).2.map intC)]),(2,.tok 3 1 s)]) (fun s=>T.ps.length-s) 0 tz1 ?_ (fun s hs=>?_)
  ·
   simp only[go_sem,seval,bL,Ty.raddL];exact zaL
  simp only[go_sem,seval];refine z6 fun _ z=>?_;refine sqR fun _ x=>?_;refine chS 3 ?_;simp only[↓bO,go_sem,seval];apply x;apply z8 rfl <;> intro hb28
  ·
   (have hk:s<T.ps.length:=by simpa using hb28);obtain ⟨p,hp⟩:∃p,T.ps[s]?=some p:=⟨_,za hk⟩;have hw:IntKind.i64.wrap ((s:Int)+1)=(s:Int)+1:=zal tz1 (by have:=hm1.len;simp only[maxLen] at this;omega);(have hln:(Ty.raddL (T.ps.take s) g []).2.length=s:=by rw[Ty.raddL_len2];simp;omega);have hl1:=Ty.raddL_len (T.ps.take s) g [];have hl2:=Ty.cntL_step hp;(have hb1:(s+1) * 8<=140737488355328:=by omega);(have hb2:s+1<=maxLen:=by simp only[maxLen];omega);apply zaa;apply z;refine z6 fun _ z=>?_;apply zac;refine sqR fun _ x=>?_;(iterate 2 (refine chS 3 ?_ (by intro _ q;simp only[↓bO,go_sem,seval,hk,gM hp];exact q)));refine zZ 1 fun _ u=>?_;simp only[↓bO,go_sem,seval];refine APure.call (ih p (zc hp) (Ty.raddL (T.ps.take s) g []).1 tz1) ?_;apply u;clear u;refine chS 3 ?_;simp only[↓bO,go_sem,seval];apply x;refine sqD ?_;apply z7;refine chS 3 ?_;refine chS 3 ?_ (by intro _ q;simp only[↓bO,go_sem,seval,↓zcQ,hln,hb1,hb2];exact q);simp only[↓bO,go_sem,seval];apply z;apply z7;simp only[↓bO,go_sem,seval,hw];refine ⟨(s+1),tz1,by omega,?_⟩;simp only[zar,zas,zah,zam,mB,seval,zj,zh,zu,bL,Ty.raddL_step hp g []];exact zaL
  (have hk:s=T.ps.length:=by simp at hb28;omega);apply zak;simp only[zao,zaj,zaf,bA,Nat.reduceEqDiff,↓reduceIte];apply w;subst hk;rw[zI];have hq0:=Ty.raddL_len T.ps g [];have hq1:(((Ty.raddL T.ps g []).1.map RNode.cells).all fun y=>y.all AV.one)=true:=RNode.all_one _;(have hq2:(Ty.raddL T.ps g []).1.length * 64<=140737488355328:=by omega);(have hq3:(Ty.raddL T.ps g []).1.length<=maxLen:=by simp only[maxLen];omega);(have hq4:((Ty.raddL T.ps g []).1.length+1) * 64<=140737488355328:=by omega);(have hq5:(Ty.raddL T.ps g []).1.length+1<=maxLen:=by simp only[maxLen];omega);refine zaH (Weak.recell (id:=1) (t:=112) [.v (.int .i64 T.k),.v (.int .i64 T.n),.sl 3 (T.ps.map Ty.cells),.sl 1 ((Ty.raddL T.ps g []).2.map intC)] rfl ⟨.refl _,.refl _,.refl _,Le.oslL,trivial⟩) ?_;simp only[zam,Nat.reduceEqDiff,↓reduceIte];refine zaQ (mB 56 48) ([(4,.sl 4 (((Ty.raddL T.ps g []).1++[RNode.mk T (Ty.raddL T.ps g []).2]).map RNode.cells)),(5,.v (.int .i64 ((Ty.raddL T.ps g []).1.length:Int)))]) [] 0 (True) ?_ (fun hC=>?_)
  ·
   refine zax [] 10 rfl mixed (trivial) rfl ?_;dsimp only;refine tkS 1 ?_;refine tkS 6 ?_;refine tkS 7 ?_;refine al2 (i:=0) (j:=3) ?_ ?_
   ·
    refine opT fun _ u=>?_;simp only[↓bO,go_sem,seval,↓bs0_4];refine u _ ⟨trivial,?_⟩;clear u;refine al2 (i:=2) (j:=3) ?_ ?_
    ·
     refine opT fun _ u=>?_;simp only[↓bO,go_sem,seval,hq1,hq2,hq3];refine u _ ⟨trivial,?_⟩;clear u;refine alS 3 ?_;refine al1 (i:=4) ?_;refine opT fun _ u=>?_;simp only[↓bO,go_sem,seval,↓zee];refine u _ ⟨trivial,?_⟩;clear u;refine al1 (i:=5) ?_;refine opT fun _ u=>?_;simp only[↓bO,go_sem,seval,hq4,hq5];refine u _ ⟨trivial,?_⟩;clear u;refine tkS 8 ?_;refine tkS 9 ?_;refine dnA ?_;simp only[go_sem];(try simp only[go_sem,seval]);(first | refine ⟨trivial,?_⟩ | skip);refine Weak.bare ?_ rfl ?_
     ·
      simp only[go_sem,Le.refl,Le.any,zu,zt,zW,RNode.cells];first | done | exact Le.oslL
     simp only[go_sem];first | done | exact .data (RNode.dataSl _)
    refine opT fun _ u=>?_;simp only[↓bO,go_sem,seval];refine u _ ⟨trivial,?_⟩;clear u;refine al2 (i:=2) (j:=4) ?_ ?_
    ·
     refine opT fun _ u=>?_;simp only[↓bO,go_sem,seval,hq1,hq2,hq3];refine u _ ⟨trivial,?_⟩;clear u;refine al1 (i:=4) ?_;refine opT fun _ u=>?_;simp only[↓bO,go_sem,seval,↓zee];refine u _ ⟨trivial,?_⟩;clear u;refine al1 (i:=5) ?_;refine opT fun _ u=>?_;simp only[↓bO,go_sem,seval,hq4,hq5];refine u _ ⟨trivial,?_⟩;clear u;refine tkS 8 ?_;refine tkS 9 ?_;refine dnA ?_;simp only[go_sem];(try simp only[go_sem,seval]);(first | refine ⟨trivial,?_⟩ | skip);refine Weak.bare ?_ rfl ?_
     ·
      simp only[go_sem,Le.refl,Le.any,zu,zt,zW,RNode.cells];first | done | exact Le.oslL
     simp only[go_sem];first | done | exact .data (RNode.dataSl _)
    refine opT fun _ u=>?_;simp only[↓bO,go_sem,seval,↓zee];refine u _ ⟨trivial,?_⟩;clear u;refine al1 (i:=2) ?_;refine opT fun _ u=>?_;simp only[↓bO,go_sem,seval,hq1,hq2,hq3];refine u _ ⟨trivial,?_⟩;clear u;refine al1 (i:=5) ?_;refine opT fun _ u=>?_;simp only[↓bO,go_sem,seval,hq4,hq5];refine u _ ⟨trivial,?_⟩;clear u;refine tkS 8 ?_;refine tkS 9 ?_;refine dnA ?_;simp only[go_sem];(try simp only[go_sem,seval]);(first | refine ⟨trivial,?_⟩ | skip);refine Weak.bare ?_ rfl ?_
    ·
     simp only[go_sem,Le.refl,Le.any,zu,zt,zW,RNode.cells];first | done | exact Le.oslL
    simp only[go_sem];first | done | exact .data (RNode.dataSl _)
   refine opT fun _ u=>?_;simp only[↓bO,go_sem,seval];refine u _ ⟨trivial,?_⟩;clear u;refine al2 (i:=0) (j:=4) ?_ ?_
   ·
    refine opT fun _ u=>?_;simp only[↓bO,go_sem,seval,↓bs0_4];refine u _ ⟨trivial,?_⟩;clear u;refine al2 (i:=2) (j:=4) ?_ ?_
    ·
     refine opT fun _ u=>?_;simp only[↓bO,go_sem,seval,hq1,hq2,hq3];refine u _ ⟨trivial,?_⟩;clear u;refine al1 (i:=4) ?_;refine opT fun _ u=>?_;simp only[↓bO,go_sem,seval,↓zee];refine u _ ⟨trivial,?_⟩;clear u;refine al1 (i:=5) ?_;refine opT fun _ u=>?_;simp only[↓bO,go_sem,seval,hq4,hq5];refine u _ ⟨trivial,?_⟩;clear u;refine tkS 8 ?_;refine tkS 9 ?_;refine dnA ?_;simp only[go_sem];(try simp only[go_sem,seval]);(first | refine ⟨trivial,?_⟩ | skip);refine Weak.bare ?_ rfl ?_
     ·
      simp only[go_sem,Le.refl,Le.any,zu,zt,zW,RNode.cells];first | done | exact Le.oslL
     simp only[go_sem];first | done | exact .data (RNode.dataSl _)
    refine opT fun _ u=>?_;simp only[↓bO,go_sem,seval,↓zee];refine u _ ⟨trivial,?_⟩;clear u;refine al1 (i:=2) ?_;refine opT fun _ u=>?_;simp only[↓bO,go_sem,seval,hq1,hq2,hq3];refine u _ ⟨trivial,?_⟩;clear u;refine al1 (i:=5) ?_;refine opT fun _ u=>?_;simp only[↓bO,go_sem,seval,hq4,hq5];refine u _ ⟨trivial,?_⟩;clear u;refine tkS 8 ?_;refine tkS 9 ?_;refine dnA ?_;simp only[go_sem];(try simp only[go_sem,seval]);(first | refine ⟨trivial,?_⟩ | skip);refine Weak.bare ?_ rfl ?_
    ·
     simp only[go_sem,Le.refl,Le.any,zu,zt,zW,RNode.cells];first | done | exact Le.oslL
    simp only[go_sem];first | done | exact .data (RNode.dataSl _)
   refine opT fun _ u=>?_;simp only[↓bO,go_sem,seval,↓zee];refine u _ ⟨trivial,?_⟩;clear u;refine al1 (i:=0) ?_;refine opT fun _ u=>?_;simp only[↓bO,go_sem,seval,↓bs0_4];refine u _ ⟨trivial,?_⟩;clear u;refine al1 (i:=2) ?_;refine opT fun _ u=>?_;simp only[↓bO,go_sem,seval,hq1,hq2,hq3];refine u _ ⟨trivial,?_⟩;clear u;refine al1 (i:=5) ?_;refine opT fun _ u=>?_;simp only[↓bO,go_sem,seval,hq4,hq5];refine u _ ⟨trivial,?_⟩;clear u;refine tkS 8 ?_;refine tkS 9 ?_;refine dnA ?_;simp only[go_sem];(try simp only[go_sem,seval]);(first | refine ⟨trivial,?_⟩ | skip);refine Weak.bare ?_ rfl ?_
   ·
    simp only[go_sem,Le.refl,Le.any,zu,zt,zW,RNode.cells];first | done | exact Le.oslL
   simp only[go_sem];first | done | exact .data (RNode.dataSl _)
  simp only[go_sem,seval];apply zab;(try simp only[go_sem]);rw[Ty.radd_eq];first | (rw[if_neg hno];exact Le.refl _) | (rw[if_pos (by simp at *;omega)];exact Le.refl _)
theorem Ty.roomL_cnt:∀(ps:List Ty) (n:Int) (d:Nat),(∀p∈ps,∀(n:Int) (d:Nat),0<=n->0<=p.room n d->p.room n d=n-p.cnt)->0<=Ty.roomL ps n d->Ty.roomL ps n d=n-Ty.cntL ps
 | [],n,d,_,_=>by simp[Ty.roomL,Ty.cntL]
 | p::ps,n,d,hp,h=>by
  simp only[Ty.roomL] at h ⊢
  by_cases hn:n<0
  (·rw[if_pos hn] at h;omega);rw[if_neg hn] at h ⊢
  have h2:0<=p.room n d:=by
   (rcases Int.lt_or_le (p.room n d) 0 with h3 | h3);(·rw[Ty.roomL_neg ps h3] at h;omega);exact h3
  have h3:=hp p tz4 n d tz1 h2;have h4:=Ty.roomL_cnt ps (p.room n d) d (fun q hq=>hp q (by simp[hq])) h;simp only[Ty.cntL];omega
theorem Ty.room_cnt:∀(t:Ty) (n:Int) (d:Nat),0<=n->0<=t.room n d->t.room n d=n-t.cnt:=by
 refine Ty.ind fun t ih=>?_;intro n d hn h
 cases d with
 | zero=>rw[Ty.room_zero] at h;omega
 | succ d =>
  rw[Ty.room_succ] at h ⊢;have:=Ty.roomL_cnt t.ps (n-1) d ih h;rw[Ty.cnt_eq];omega
theorem Ty.sizeWL_cnt:∀(ps:List Ty) (a:Int),0<=a->a+Ty.cntL ps<=1099511627776->(∀p∈ps,p.cnt<=1099511627776->p.sizeW=p.cnt)->Ty.sizeWL a ps=a+Ty.cntL ps
 | [],a,_,_,_=>by simp[Ty.sizeWL,Ty.cntL]
 | p::ps,a,ha,hb,hp=>by
  simp only[Ty.sizeWL,Ty.cntL] at hb ⊢;rw[hp p tz4 tz1,addW,zal tz1 tz1,Ty.sizeWL_cnt ps _ tz1 tz1 (fun q hq=>hp q (by simp[hq]))];omega
theorem Ty.sizeW_cnt:∀t:Ty,t.cnt<=1099511627776->t.sizeW=t.cnt:=by
 refine Ty.ind fun t ih=>?_;intro h;have h1:=t.cnt_eq;rw[Ty.sizeW_eq,Ty.sizeWL_cnt t.ps 1 tz1 tz1 ih,h1];omega
def Ty.great (t:Ty):Bool:=decide (t.room 300 40<0)
theorem Ty.great_cnt {t:Ty} (h:t.great=false):t.cnt<=300:=by
 simp only[Ty.great,ze] at h;have:=Ty.room_cnt t 300 40 tz1 tz1;omega
theorem zj5 (T:Ty):APure Tryz.prog 29 [.agg T.cells] (.v (.bool T.great)):=by
 refine APure.mkL (.cons T.dataAgg .nil) (.v _) ?_;refine aIn Tryz.func29 fun hm=>?_;simp only[Tryz.ntmps29,Tryz.results29,go_sem,seval];simp only[Ty.cells_eq T,zw,zB];refine sqD ?_;refine sqR fun _ y=>?_;refine chS 1 ?_;refine zZ 1 fun _ q=>?_;simp only[↓bO,go_sem,seval];refine APure.call (by have h9:=room_pure T 300 40 tz1 tz1 tz1;rw[Ty.cells_eq T] at h9;exact h9) ?_;apply q;clear q;simp only[↓bO,go_sem,seval];apply y;apply zab;(try simp only[go_sem]);exact Le.of_eq (congrArg (fun b=>AV.v (.bool b)) rfl)
structure GNode where
 k:Int
 n:Int
 size:Int
 parts:List Int
def GNode.cells (x:GNode):List AV:=[.v (.int .i64 x.k),.v (.int .i64 x.n),.v (.int .i64 x.size),.sl 1 (x.parts.map intC)]
theorem GNode.data (x:GNode):DataL x.cells:=.cons (.v _) (.cons (.v _) (.cons (.v _) (.cons (zap _) .nil)))
theorem GNode.dataRows (N:List GNode):∀x∈N.map GNode.cells,DataL x:=fun x hx=>by
 obtain ⟨y,_,rfl⟩:=zq.1 hx;exact y.data
def vC (p:Int×Int):Int×AV:=(p.1,.v (.int .i64 p.2))
theorem zaU (V:List (Int×Int)):∀p∈V.map vC,Data p.2:=fun p hp=>by
 obtain ⟨y,_,rfl⟩:=zq.1 hp;exact .v _
theorem Und.oslG {n id:Nat} {N:List GNode} (h:id<n):Und n (.osl id 4 (N.map GNode.cells)):=.osl h (.data (.sl (GNode.dataRows N)))
theorem Und.oslI {n id:Nat} {l:List Int} (h:id<n):Und n (.osl id 1 (l.map intC)):=.osl h (.data (zap l))
theorem Und.oslI1 {n id:Nat} {l:List Int} {x:Int} (h:id<n):Und n (.osl id 1 (l.map intC++[intC x])):=by
 have:=Und.oslI (l:=l++[x]) h
 rwa [zu] at this
theorem Und.oslI2 {n id:Nat} {l:List Int} {x:Int} (h:id<n):Und n (.osl id 1 (l.map intC++[[.v (.int .i64 x)]])):=Und.oslI1 h
theorem Und.mapG {n:Nat} (V:List (Int×Int)):(∀p∈V.map vC,Und n p.2)=True:=eq_true fun p hp=>.data (zaU V p hp)
def zcl (N:List GNode) (V:List (Int×Int)):List Ob:=[.cells 169 [.osl 1 4 (N.map GNode.cells),.map 2],.tok 194 4 N.length,.map (V.map vC)]
def gObsAt (j k:Nat) (N:List GNode) (V:List (Int×Int)):List Ob:=[.cells 169 [.osl j 4 (N.map GNode.cells),.map k],.tok 194 4 N.length,.map (V.map vC)]
def GCalls (f:Nat) (args:List AV) (N:List GNode) (V:List (Int×Int)) (R:AV) (N1:List GNode) (V1:List (Int×Int)):Prop :=
 ACalls Tryz.prog f args (zad 0 (zcl N V)) 3 fun r os n=>(r=R/\os=zad 0 (zcl N1 V1))/\n=3
theorem zjq {n:Nat} (h:3<=n) (N:List GNode) (V:List (Int×Int)):UndOs n (zad 0 (zcl N V)) :=
 ⟨by omega,⟨.osl tz1 (.data (.sl (GNode.dataRows N))),.map tz1,trivial⟩,by omega,trivial,by omega,fun p hp=>.data (zaU V p hp),trivial⟩
theorem GCalls.at {f:Nat} {args:List AV} {N N1:List GNode} {V V1:List (Int×Int)} {R:AV} (h:GCalls f (.ptr 0 0::args) N V R N1 V1) (hd:DataL args) (hR:Data R) {i j k:Nat} {os':Os} {nx':Nat}
  (hi:zav os' i=some (.cells 169 [.osl j 4 (N.map GNode.cells),.map k])) (hj:zav os' j=some (.tok 194 4 N.length)) (hk:zav os' k=some (.map (V.map vC)))
  (hij:i≠j) (hik:i≠k) (hjk:j≠k) (li:i<nx') (lj:j<nx') (lk:k<nx') {Q':AV->Os->Nat->Prop}
  (hq:Q' R (zam (zam (zam os' i (.cells 169 [.osl j 4 (N1.map GNode.cells),.map k])) j (.tok 194 4 N1.length)) k (.map (V1.map vC))) nx'):ACalls Tryz.prog f (.ptr i 0::args) os' nx' Q':=by
 have same:∀(l:List AV),DataL l->RenL (zbu [i,j,k] nx') l l:=by
  intro l hl
  induction l with
  | nil=>trivial
  | cons x l ih=>exact ⟨.data (hl x tz4),ih fun y hy=>hl y (by simp[hy])⟩
 have ren:∀(N:List GNode) (V:List (Int×Int)),RenOs (zbu [i,j,k] nx') 0 (zcl N V) (gObsAt j k N V):=fun N V =>
  ⟨.cells ⟨.osl rfl (GNode.dataRows N),.map rfl,trivial⟩,.tok,.map (zaU V),trivial⟩
 refine ACalls.at (args:=.ptr 0 0::args) (obs:=zcl N V) (obs1:=zcl N1 V1) (obs':=gObsAt j k N V) (obs1':=gObsAt j k N1 V1) [i,j,k] ?_ rfl rfl (by simp[hij,hik,hjk]) (by simp[li,lj,lk]) ⟨.ptr rfl,same args hd⟩ (.data hR) (ren N V) ⟨hi,hj,hk,trivial⟩ (ren N1 V1) hq;exact h.mono fun r os n ⟨⟨h1,h2⟩,h3⟩=>⟨h1,h2,h3⟩
def zeC (N:List GNode) (a:Int):List Int->Int
 | []=>a
 | p::ps=>zeC N (min 1099511627776 (a+((N[p.toNat]?).map GNode.size).getD 0)) ps
theorem zfV (N:List GNode):∀(a:Int) (ps qs:List Int),zeC N a (ps++qs)=zeC N (zeC N a ps) qs
 | a,[],qs=>by simp[zeC]
 | a,p::ps,qs=>by simp[zeC,zfV N _ ps qs]
theorem layS_step {N:List GNode} {ps:List Int} {s:Nat} {p:Int} {q:GNode} (hp:ps[s]?=some p) (hq:N[p.toNat]?=some q) (a:Int):zeC N a (ps.take (s+1))=min 1099511627776 (zeC N a (ps.take s)+q.size):=by
 rw[zM,hp,zfV];simp[zeC,hq]
theorem zeP {N:List GNode} (hN:∀x∈N,0<=x.size/\x.size<=1099511627776):∀(ps:List Int) (a:Int),0<=a->a<=1099511627776->0<=zeC N a ps/\zeC N a ps<=1099511627776
 | [],a,h1,h2=>by simp[zeC];omega
 | p::ps,a,h1,h2=>by
  have h3:0<=((N[p.toNat]?).map GNode.size).getD 0:=by
   cases hx:N[p.toNat]? with
   | none=>simp
   | some q=>exact (hN q (zc hx)).1
  exact zeP hN ps _ tz1 tz1
theorem ziD (N:List GNode) (V:List (Int×Int)) (x:GNode) (hN:∀y∈N,0<=y.size/\y.size<=1099511627776) (hl:N.length<1099511627776) (hpl:x.parts.length<=1099511627776) (hp:∀p∈x.parts,0<=p/\p<N.length):GCalls 169 [.ptr 0 0,.agg x.cells] (N) (V) (.v (.int .i64 (N.length:Int))) (N++[⟨x.k,x.n,zeC N 1 x.parts,x.parts⟩]) (V):=by
  refine ACalls.clean (C:=fun r os=>r=_/\os=_) ?_;refine aIn Tryz.func169 fun hm=>?_;simp only[Tryz.ntmps169,Tryz.results169,go_sem,seval];simp only[zcl,zad,Nat.reduceAdd];simp only[GNode.cells,zw,zB];(have hb1:(N.length+1) * 48<=140737488355328:=by omega);(have hb2:N.length+1<=maxLen:=by simp only[maxLen];omega);(have hw3:IntKind.i64.wrap ((N.length:Int)+1-1)=N.length:=by rw[zal tz1 tz1];omega);(iterate 2 (refine z6 fun _ w=>?_;apply z7;simp only[↓bO,go_sem,seval,zi];apply w));refine z6 fun _ w=>?_;refine sqR fun _ z=>?_;refine chS 3 ?_;simp only[↓bO,go_sem,seval,zi];apply z;apply zac;refine zai (σ:=Nat) (mB 45 3593) (fun s=>s<=x.parts.length) (fun s=>[(11,.v (.int .i64 (s:Int)))]) (fun s=>[(3,.cells 194 [.v (.int .i64 x.k),.v (.int .i64 x.n),.v (.int .i64 (zeC N 1 (x.parts.take s))),.sl 1 (x.parts.map intC)])]) (fun s=>x.parts.length-s) 0 tz1 ?_ (fun s hs=>?_)
  ·
   simp only[go_sem,seval,bL,zeC];exact zaL
  simp only[go_sem,seval];refine sqR fun _ z=>?_;simp only[↓bO,go_sem,seval,zi];apply z;refine z6 fun _ z=>?_;apply z8 rfl <;> intro hb12
  ·
   (have hk:s<x.parts.length:=by simpa using hb12);obtain ⟨p,hps⟩:∃p,x.parts[s]?=some p:=⟨_,za hk⟩;obtain ⟨hp0,hp1⟩:=hp p (zc hps);obtain ⟨q,hq⟩:∃q,N[p.toNat]?=some q:=⟨_,za tz1⟩;have hqs:=hN q (zc hq);have hls:=zeP hN (x.parts.take s) 1 tz1 tz1;have hw:IntKind.i64.wrap ((s:Int)+1)=(s:Int)+1:=zal tz1 tz1;(have hw2:min 1099511627776 (IntKind.i64.wrap (zeC N 1 (x.parts.take s)+q.size))=zeC N 1 (x.parts.take (s+1)):=by rw[zal tz1 tz1,layS_step hps hq]);apply zaa;apply z;refine z6 fun _ z=>?_;apply zac;refine sqR fun _ g=>?_;simp only[↓bO,go_sem,seval,zi,hk,gM hps,intC];apply g;refine zay 13 mixed tz0 fun J0 j0=>?_;(iterate 4 (simp only[go_sem];refine zae 3 fun _ u=>?_;simp only[↓zaA,↓dOp,↓bO,go_sem,seval,GNode.cells,zj,gM hq,hp0,hp1,hw2];apply u;clear u));simp only[go_sem];simp only[↓zaA,↓dOp,↓bO,go_sem,seval];refine j0 _ ?_;clear j0 J0;simp only[go_sem];simp only[↓bO,go_sem,seval,zi];apply z;apply z7;simp only[↓bO,go_sem,seval,zi,hw];refine ⟨(s+1),tz1,by omega,?_⟩;simp only[zar,zas,zah,zam,mB,seval,zj,zh];exact zaL
  (have hk:s=x.parts.length:=by simp at hb12;omega);apply zak;simp only[zao,zaj,zaf,bA,Nat.reduceEqDiff,↓reduceIte];apply w;refine z6 fun _ w=>?_;refine zax [] 11 rfl mixed (trivial) rfl ?_;dsimp only;refine tkS 0 ?_;refine tkS 1 ?_;refine tkS 2 ?_;refine tkS 3 ?_;refine al2 (i:=4) (j:=5) ?_ ?_
  ·
   refine opT fun _ u=>?_;simp only[↓bO,go_sem,seval];refine u _ ⟨trivial,?_⟩;clear u;refine alS 5 ?_;refine al1 (i:=6) ?_;refine opT fun _ u=>?_;simp only[↓bO,go_sem,seval,↓zee];refine u _ ⟨trivial,?_⟩;clear u;refine al1 (i:=7) ?_;refine opT fun _ u=>?_;simp only[↓bO,go_sem,seval,hb1,hb2];refine u _ ⟨trivial,?_⟩;clear u;refine tkS 8 ?_;refine tkS 9 ?_;refine alS 10 ?_;refine dnA ?_;apply w;refine sqR fun _ w=>?_;(iterate 2 (refine chS 3 ?_ (by intro _ q;simp only[↓bO,go_sem,seval,hw3,zi,zj];exact q)));simp only[↓bO,go_sem,seval,zi];apply w;apply zab;(try simp only[go_sem]);subst hk;refine ⟨_,zad 0 (zcl (N++[⟨x.k,x.n,zeC N 1 x.parts,x.parts⟩]) V),⟨rfl,rfl⟩,.v _ _,zjq tz1 _ _,?_,⟨1,?_,rfl⟩,by omega⟩
   ·
    refine Le.of_eq (congrArg (fun n=>AV.v (.int .i64 n)) ?_);first | exact hw3 | (simp;done)
   simp only[zcl,zad,zf,zk,zu,zt,zW,zi,zz,zJ,GNode.cells,zI,Nat.reduceAdd,zO]
  refine opT fun _ u=>?_;simp only[↓bO,go_sem,seval];refine u _ ⟨trivial,?_⟩;clear u;refine al2 (i:=4) (j:=6) ?_ ?_
  ·
   refine opT fun _ u=>?_;simp only[↓bO,go_sem,seval];refine u _ ⟨trivial,?_⟩;clear u;refine al1 (i:=6) ?_;refine opT fun _ u=>?_;simp only[↓bO,go_sem,seval,↓zee];refine u _ ⟨trivial,?_⟩;clear u;refine al1 (i:=7) ?_;refine opT fun _ u=>?_;simp only[↓bO,go_sem,seval,hb1,hb2];refine u _ ⟨trivial,?_⟩;clear u;refine tkS 8 ?_;refine tkS 9 ?_;refine alS 10 ?_;refine dnA ?_;apply w;refine sqR fun _ w=>?_;(iterate 2 (refine chS 3 ?_ (by intro _ q;simp only[↓bO,go_sem,seval,hw3,zi,zj];exact q)));simp only[↓bO,go_sem,seval,zi];apply w;apply zab;(try simp only[go_sem]);subst hk;refine ⟨_,zad 0 (zcl (N++[⟨x.k,x.n,zeC N 1 x.parts,x.parts⟩]) V),⟨rfl,rfl⟩,.v _ _,zjq tz1 _ _,?_,⟨1,?_,rfl⟩,by omega⟩
   ·
    refine Le.of_eq (congrArg (fun n=>AV.v (.int .i64 n)) ?_);first | exact hw3 | (simp;done)
   simp only[zcl,zad,zf,zk,zu,zt,zW,zi,zz,zJ,GNode.cells,zI,Nat.reduceAdd,zO]
  refine opT fun _ u=>?_;simp only[↓bO,go_sem,seval,↓zee];refine u _ ⟨trivial,?_⟩;clear u;refine alS 4 ?_;refine al1 (i:=7) ?_;refine opT fun _ u=>?_;simp only[↓bO,go_sem,seval,hb1,hb2];refine u _ ⟨trivial,?_⟩;clear u;refine tkS 8 ?_;refine tkS 9 ?_;refine alS 10 ?_;refine dnA ?_;apply w;refine sqR fun _ w=>?_;(iterate 2 (refine chS 3 ?_ (by intro _ q;simp only[↓bO,go_sem,seval,hw3,zi,zj];exact q)));simp only[↓bO,go_sem,seval,zi];apply w;apply zab;(try simp only[go_sem]);subst hk;refine ⟨_,zad 0 (zcl (N++[⟨x.k,x.n,zeC N 1 x.parts,x.parts⟩]) V),⟨rfl,rfl⟩,.v _ _,zjq tz1 _ _,?_,⟨1,?_,rfl⟩,by omega⟩
  ·
   refine Le.of_eq (congrArg (fun n=>AV.v (.int .i64 n)) ?_);first | exact hw3 | (simp;done)
  simp only[zcl,zad,zf,zk,zu,zt,zW,zi,zz,zJ,GNode.cells,zI,Nat.reduceAdd,zO]
structure GS where
 N:List GNode
 V:List (Int×Int)
def zaw:List (Int×Int)->Int->Option Int
 | [],_=>none
 | (k,x)::rest,i=>if k=i then some x else zaw rest i
def zg5:List (Int×Int)->Int->Int->List (Int×Int)
 | [],k,x=>[(k,x)]
 | (k',y)::rest,k,x=>if k'=k then (k,x)::rest else (k',y)::zg5 rest k x
theorem zfz (k:Int):∀V:List (Int×Int),zbS (V.map vC) k=(zaw V k).map fun i=>AV.v (.int .i64 i)
 | []=>rfl
 | (a,b)::V=>by simp only[zt,vC,zbS,zaw];split <;> simp[zfz k V]
theorem aSet_vC (k x:Int):∀V:List (Int×Int),zef (V.map vC) k (.v (.int .i64 x))=(zg5 V k x).map vC
 | []=>rfl
 | (a,b)::V=>by simp only[zt,vC,zef,zg5];split <;> simp[aSet_vC k x V,vC]
theorem zeD (k x:Int):∀V:List (Int×Int),zaw (zg5 V k x) k=some x
 | []=>by simp[zg5,zaw]
 | (a,b)::V=>by simp only[zg5];split <;> simp_all [zaw,zeD k x V]
theorem zb6 {k x:Int}:∀{V:List (Int×Int)},zaw V k=some x->(k,x)∈V
 | (a,b)::V,h=>by
  simp only[zaw] at h;(split at h);(·rename_i e;cases h;subst e;simp);exact List.mem_cons_of_mem _ (zb6 h)
theorem zkZ {k x:Int} {p:Int×Int}:∀{V:List (Int×Int)},p∈zg5 V k x->p=(k,x)\/p∈V
 | [],h=>by simp[zg5] at h;exact .inl h
 | (a,b)::V,h=>by
  simp only[zg5] at h;split at h
  ·rcases zE.1 h with h | h
   (·exact .inl h);exact .inr (List.mem_cons_of_mem _ h)
  (rcases zE.1 h with h | h);(·exact .inr (by simp[h]));exact (zkZ h).imp id (List.mem_cons_of_mem _)
mutual
def Ty.gadd:Ty->GS->GS×Int
 | .mk k n ps,G =>
  if k=1 then
   match zaw G.V n with
   | some i=>(G,i)
   | none=>(⟨G.N++[⟨k,n,1,[]⟩],zg5 G.V n G.N.length⟩,G.N.length)
  else
   let r:=Ty.gaddL ps G []
   (⟨r.1.N++[⟨k,0,zeC r.1.N 1 r.2,r.2⟩],r.1.V⟩,r.1.N.length)
def Ty.gaddL:List Ty->GS->List Int->GS×List Int
 | [],G,l=>(G,l)
 | p::ps,G,l =>
  let r:=Ty.gadd p G
  Ty.gaddL ps r.1 (l++[r.2])
end
theorem Ty.gadd_var {t:Ty} (h:t.k=1) (G:GS):t.gadd G=match zaw G.V t.n with
   | some i=>(G,i)
   | none=>(⟨G.N++[⟨t.k,t.n,1,[]⟩],zg5 G.V t.n G.N.length⟩,G.N.length):=by
 obtain ⟨k,n,ps⟩:=t;have h:k=1:=h;rw[Ty.gadd,if_pos h];rfl
theorem Ty.gadd_more {t:Ty} (h:¬t.k=1) (G:GS):t.gadd G =
  ((⟨(Ty.gaddL t.ps G []).1.N++[⟨t.k,0,zeC (Ty.gaddL t.ps G []).1.N 1 (Ty.gaddL t.ps G []).2,(Ty.gaddL t.ps G []).2⟩],(Ty.gaddL t.ps G []).1.V⟩:GS),((Ty.gaddL t.ps G []).1.N.length:Int)):=by
 obtain ⟨k,n,ps⟩:=t;have h:¬k=1:=h;rw[Ty.gadd,if_neg h];rfl
theorem Ty.gaddL_append:∀(ps qs:List Ty) (G:GS) (l:List Int),Ty.gaddL (ps++qs) G l=Ty.gaddL qs (Ty.gaddL ps G l).1 (Ty.gaddL ps G l).2
 | [],qs,G,l=>by simp[Ty.gaddL]
 | p::ps,qs,G,l=>by simp[Ty.gaddL,Ty.gaddL_append ps qs]
theorem Ty.gaddL_step {ps:List Ty} {s:Nat} {p:Ty} (hp:ps[s]?=some p) (G:GS) (l:List Int) :
  Ty.gaddL (ps.take (s+1)) G l=((p.gadd (Ty.gaddL (ps.take s) G l).1).1,(Ty.gaddL (ps.take s) G l).2++[(p.gadd (Ty.gaddL (ps.take s) G l).1).2]):=by
 rw[zM,hp,Ty.gaddL_append];simp[Ty.gaddL]
structure GInv (G:GS):Prop where
 size:∀x∈G.N,0<=x.size/\x.size<=1099511627776
 vars:∀p∈G.V,0<=p.2/\p.2<G.N.length
structure GStep (G G':GS) (n:Nat):Prop where
 inv:GInv G'
 ge:G.N.length<=G'.N.length
 le:G'.N.length<=G.N.length+n
theorem Ty.gaddL_inv:∀(ps:List Ty) (_:∀p∈ps,∀G,GInv G->GStep G (p.gadd G).1 p.cnt/\0<=(p.gadd G).2/\(p.gadd G).2<(p.gadd G).1.N.length) (G:GS) (l:List Int),GInv G->(∀x∈l,0<=x/\x<(G.N.length:Int)) ->
  GStep G (Ty.gaddL ps G l).1 (Ty.cntL ps)/\(∀x∈(Ty.gaddL ps G l).2,0<=x/\x<((Ty.gaddL ps G l).1.N.length:Int))/\(Ty.gaddL ps G l).2.length=l.length+ps.length
 | [],_,G,l,h,hl=>⟨⟨h,zQ _,by simp[Ty.gaddL]⟩,by simpa [Ty.gaddL] using hl,by simp[Ty.gaddL]⟩
 | p::ps,hp,G,l,h,hl=>by
  obtain ⟨h1,h2,h3⟩:=hp p tz4 G h
  obtain ⟨h4,h5,h6⟩:=Ty.gaddL_inv ps (fun q hq=>hp q (by simp[hq])) (p.gadd G).1 (l++[(p.gadd G).2]) h1.inv (fun x hx=>by
   (rcases zD.1 hx with hx | hx);·have:=hl x hx;have:=h1.ge;omega
   simp at hx;subst hx;exact ⟨h2,h3⟩)
  simp only[Ty.gaddL,Ty.cntL];refine ⟨⟨h4.inv,Nat.le_trans h1.ge h4.ge,?_⟩,h5,?_⟩;(·have:=h1.le;have:=h4.le;omega);rw[h6];simp;omega
theorem Ty.gadd_inv:∀(t:Ty) (G:GS),GInv G->GStep G (t.gadd G).1 t.cnt/\0<=(t.gadd G).2/\(t.gadd G).2<(t.gadd G).1.N.length:=by
 refine Ty.ind fun t ih=>?_;intro G h;have hc:=t.cnt_eq
 by_cases hk:t.k=1
 ·rw[Ty.gadd_var hk]
  cases hf:zaw G.V t.n with
  | some i=>exact ⟨⟨h,zQ _,by simp only;omega⟩,h.vars _ (zb6 hf)⟩
  | none =>
   refine ⟨⟨⟨fun x hx=>?_,fun p hp=>?_⟩,by simp,by simp;omega⟩,by simp,by simp;omega⟩
   ·rcases zD.1 hx with hx | hx
    (·exact h.size x hx);simp at hx;subst hx;simp
   simp only[zi,zz,zJ];(rcases zkZ hp with hp | hp);(·subst hp;simp;omega);have:=h.vars p hp;omega
 rw[Ty.gadd_more hk];obtain ⟨h1,h2,h3⟩:=Ty.gaddL_inv t.ps ih G [] h tz4;refine ⟨⟨⟨fun x hx=>?_,fun p hp=>?_⟩,?_,?_⟩,by simp,by simp;omega⟩
 ·rcases zD.1 hx with hx | hx
  (·exact h1.inv.size x hx);simp at hx;subst hx;exact zeP h1.inv.size _ 1 tz1 tz1
 ·have:=h1.inv.vars p hp
  simp only[zi,zz,zJ];omega
 (·have:=h1.ge;simp;omega);have:=h1.le;simp;omega
theorem Ty.gaddL_inv0 (ps:List Ty) (G:GS) (h:GInv G):GStep G (Ty.gaddL ps G []).1 (Ty.cntL ps)/\(∀x∈(Ty.gaddL ps G []).2,0<=x/\x<((Ty.gaddL ps G []).1.N.length:Int))/\(Ty.gaddL ps G []).2.length=ps.length:=by
 have:=Ty.gaddL_inv ps (fun p _=>p.gadd_inv) G [] h tz4;simpa using this
theorem tz9 {p:Prop} (h:p:=by exact ⟨⟨_,_,rfl,by simp,rfl,trivial,trivial⟩,⟨_,_,rfl,by simp,rfl,trivial,trivial⟩,⟨_,_,rfl,by simp,rfl,trivial,trivial⟩,trivial⟩):p:=h
theorem add_calls:∀(T:Ty) (G:GS),GInv G->G.N.length+T.cnt<=1099511627776->GCalls 159 [.ptr 0 0,.agg T.cells] G.N G.V (.v (.int .i64 (T.gadd G).2)) (T.gadd G).1.N (T.gadd G).1.V:=by
  refine Ty.ind fun T ih=>?_;intro G hG hl;refine ACalls.clean (C:=fun r os=>r=_/\os=_) ?_;refine aIn Tryz.func159 fun hm=>?_;simp only[Tryz.ntmps159,Tryz.results159,go_sem,seval];simp only[zcl,zad,Nat.reduceAdd];simp only[Ty.cells_eq T,zw,zB];have hm1:=T.cnt_eq;have hcl:=Ty.cntL_len T.ps;refine sqD ?_;refine z6 fun _ u=>?_;refine sqR fun _ w=>?_;refine chS 2 ?_;simp only[↓bO,go_sem,seval];apply w;apply z8 rfl <;> intro hb12
  ·
   (have hk1:T.k=1:=by simpa using hb12);refine z6 fun _ w=>?_;refine z6 fun _ z=>?_;refine zax [(3,0,[.v (.int .i64 T.k)]),(3,1,[.v (.int .i64 T.n)]),(0,1,[.map 2])] 12 rfl mixed (tz9) rfl ?_;dsimp only;refine tkS 0 ?_;refine tkS 1 ?_;refine tkS 2 ?_;refine tkM 3 2 ?_;refine tkS 4 ?_;refine tkM 5 1 ?_;refine al1 (i:=6) ?_;refine opT fun _ y=>?_;simp only[↓bO,go_sem,seval,zfz];refine y _ ⟨tz9,?_⟩;clear y;refine tkS 7 ?_;refine tkS 8 ?_;refine tkS 9 ?_;refine tkS 10 ?_;refine tkS 11 ?_;refine dnA ?_;apply z;refine sqD ?_;apply z8 rfl <;> intro hb23
   ·
    refine sqD ?_;apply zab;try simp only[go_sem]
    obtain ⟨i,hf⟩:∃i,zaw G.V T.n=some i:=by
     cases hf:zaw G.V T.n with
     | none=>rw[hf] at hb23;cases hb23
     | some i=>exact ⟨i,rfl⟩
    (have hg:T.gadd G=(G,i):=by rw[Ty.gadd_var hk1,hf]);rw[hg,hf];refine ⟨_,zad 0 (zcl (G.N) (G.V)),⟨rfl,rfl⟩,.v _ _,zjq tz1 _ _,?_,?_,by omega⟩
    ·
     refine Le.of_eq ?_;rfl
    first | (refine ⟨1,?_,rfl⟩;first | rfl | (simp only[zcl,zad,zf,zk,zu,zt,zW,zi,zz,zJ,GNode.cells,zI,Nat.reduceAdd,zO];done))
   apply zaa;apply w;refine z6 fun _ w=>?_;refine zax [(3,0,[.v (.int .i64 T.k)]),(3,1,[.v (.int .i64 T.n)]),(0,1,[.map 2])] 14 rfl mixed (tz9) rfl ?_;dsimp only;refine tkS 0 ?_;refine tkS 1 ?_;refine tkS 2 ?_;refine tkM 3 2 ?_;refine tkS 4 ?_;refine tkM 5 1 ?_;refine tkS 6 ?_;refine tkS 7 ?_;refine tkM 8 0 ?_;refine tkS 9 ?_;refine tkM 10 1 ?_;refine alS 11 ?_ (hH:=by exact tz9);refine al1 (i:=12) ?_;refine opT fun _ y=>?_;simp only[↓bO,go_sem,seval];refine ACalls.args (args':=[.ptr 0 0,.agg (GNode.cells ⟨T.k,T.n,0,[]⟩)]) ⟨.refl _,Le.agg ⟨.refl _,.refl _,.refl _,Le.slNil 1,trivial⟩,trivial⟩ ?_;refine GCalls.at (ziD G.N G.V ⟨T.k,T.n,0,[]⟩ hG.size tz1 tz4 tz4) (.cons (.agg (GNode.data _)) .nil) (.v _) (i:=0) (j:=1) (k:=2) rfl rfl rfl tz3 tz3 tz3 tz2 tz2 tz2 ?_;simp only[zam,Nat.reduceEqDiff,↓reduceIte];(try simp only[go_sem]);refine y _ ⟨tz9,?_⟩;clear y;refine al1 (i:=13) ?_;refine opT fun _ y=>?_;simp only[↓bO,go_sem,seval,aSet_vC,zeC];refine y _ ⟨tz9,?_⟩;clear y;refine dnA ?_;apply w;refine z6 fun _ w=>?_;refine zay 7 mixed tz0 fun J0 j0=>?_;(iterate 3 (simp only[go_sem];refine zae 2 fun _ y=>?_;simp only[↓zaA,↓dOp,↓bO,go_sem,seval];apply y;clear y));simp only[go_sem];simp only[↓zaA,↓dOp,↓bO,go_sem,seval,zfz,zeD,Option.getD_some];refine j0 _ ?_;clear j0 J0;simp only[go_sem];simp only[↓bO,go_sem,seval];apply w;apply zab;try simp only[go_sem]
   have hf:zaw G.V T.n=none:=by
    cases hf:zaw G.V T.n with
    | none=>rfl
    | some i=>rw[hf] at hb23;cases hb23
   (have hg:T.gadd G=((⟨G.N++[⟨T.k,T.n,1,[]⟩],zg5 G.V T.n G.N.length⟩:GS),(G.N.length:Int)):=by rw[Ty.gadd_var hk1,hf]);rw[hg];refine ⟨_,zad 0 (zcl (G.N++[⟨T.k,T.n,1,[]⟩]) (zg5 G.V T.n G.N.length)),⟨rfl,rfl⟩,.v _ _,zjq tz1 _ _,?_,?_,by omega⟩
   ·
    refine Le.of_eq ?_;rfl
   first | (refine ⟨1,?_,rfl⟩;first | rfl | (simp only[zcl,zad,zf,zk,zu,zt,zW,zi,zz,zJ,GNode.cells,zI,Nat.reduceAdd,zO];done))
  (have hk1:¬T.k=1:=by simpa using hb12);apply zaa;apply u;refine sqR fun _ u=>?_;(iterate 2 (refine chS 2 ?_));simp only[↓bO,go_sem,seval];apply u;refine z6 fun _ u=>?_;refine sqR fun _ w=>?_;refine chS 2 ?_;simp only[↓bO,go_sem,seval];apply w;apply zac;refine zaH (Weak.tokCell 3 1 (id:=4) (t:=194) [.v (.int .i64 T.k),.v (.int .i64 0),.v (.int .i64 0),.osl 5 1 []] rfl ⟨.inl (.refl _),.inl (.refl _),.inl (.refl _),.inr ⟨rfl,rfl⟩,trivial⟩) ?_;simp only[zam,Nat.reduceEqDiff,↓reduceIte];refine zai (σ:=Nat) (mB 67 3940649673949313) (fun s=>s<=T.ps.length) (fun s=>[(51,.v (.int .i64 (s:Int)))]) (fun s=>[(0,.cells 169 [.osl 1 4 ((Ty.gaddL (T.ps.take s) G []).1.N.map GNode.cells),.map 2]),(1,.tok 194 4 (Ty.gaddL (T.ps.take s) G []).1.N.length),(2,.map ((Ty.gaddL (T.ps.take s) G []).1.V.map vC)),(4,.cells 194 [.v (.int .i64 T.k),.v (.int .i64 0),.v (.int .i64 0),.osl 5 1 ((Ty.gaddL (T.ps.take s) G []).2.map intC)]),(5,.tok 3 1 s)]) (fun s=>T.ps.length-s) 0 tz1 ?_ (fun s hs=>?_)
  ·
   simp only[go_sem,seval,bL,Ty.gaddL];exact zaL
  simp only[go_sem,seval];refine sqD ?_;refine z6 fun _ w=>?_;apply z8 rfl <;> intro hb52
  ·
   (have hk:s<T.ps.length:=by simpa using hb52);obtain ⟨p,hp⟩:∃p,T.ps[s]?=some p:=⟨_,za hk⟩;have hpm:=zc hp;have hpc:=Ty.cntL_step hp;obtain ⟨hi1,hi2,hi3⟩:=Ty.gaddL_inv0 (T.ps.take s) G hG;have hi4:=hi1.le;(have hln:(Ty.gaddL (T.ps.take s) G []).2.length=s:=by rw[hi3];simp;omega);have hw:IntKind.i64.wrap ((s:Int)+1)=(s:Int)+1:=zal tz1 tz1;(have hb1:(s+1) * 8<=140737488355328:=by omega);(have hb2:s+1<=maxLen:=by simp only[maxLen];omega);apply zaa;apply w;refine z6 fun _ w=>?_;apply zac;refine sqR fun _ z=>?_;refine chS 2 ?_ (by intro _ q;simp only[↓bO,go_sem,seval,hk,gM hp];exact q);simp only[↓bO,go_sem,seval];apply z;refine zax [] 9 rfl mixed (trivial) rfl ?_;dsimp only;refine tkS 0 ?_;refine tkS 2 ?_;refine al2 (i:=1) (j:=3) ?_ ?_
   ·
    refine opT fun _ y=>?_;simp only[↓bO,go_sem,seval];refine y _ ⟨trivial,?_⟩;clear y;refine alS 3 ?_;refine al1 (i:=4) ?_;refine opT fun _ y=>?_;simp only[↓bO,go_sem,seval];refine GCalls.at (ih p hpm (Ty.gaddL (T.ps.take s) G []).1 hi1.inv tz1) (.cons (Ty.dataAgg p) .nil) (.v _) (i:=0) (j:=1) (k:=2) rfl rfl rfl tz3 tz3 tz3 tz2 tz2 tz2 ?_;simp only[zam,Nat.reduceEqDiff,↓reduceIte];(try simp only[go_sem]);refine y _ ⟨trivial,?_⟩;clear y;refine al1 (i:=5) ?_;refine opT fun _ y=>?_;simp only[↓bO,go_sem,seval,↓zcQ];refine y _ ⟨trivial,?_⟩;clear y;refine al1 (i:=6) ?_;refine opT fun _ y=>?_;simp only[↓bO,go_sem,seval,hln,hb1,hb2];refine y _ ⟨trivial,?_⟩;clear y;refine tkS 7 ?_;refine alS 8 ?_;refine dnA ?_;apply w;apply z7;simp only[↓bO,go_sem,seval,hw];refine ⟨(s+1),tz1,by omega,?_⟩;simp only[zar,zas,zah,zam,mB,seval,zj,zh,zu,bL,Ty.gaddL_step hp G []];(first | (refine Weak.drops 1 6 rfl rfl tz5 tz5 ?_ ?_ ?_) | (refine Weak.drops 0 6 rfl rfl tz5 tz5 ?_ ?_ ?_));(· simp only[go_sem,Le.refl,Le.any,zn,zh]);(· simp only[UndL,UndOs,Ob.Und,and_true,true_and,and_self,Und.v,Und.any,Und.ptr,Und.map,Nat.reduceLT,zU,Und.tys,Und.tyAgg,Und.oslTys,Und.oslTys1,Und.clo0,Und.ty,Und.oslG,Und.oslI,Und.oslI1,Und.oslI2,Und.mapG]);simp only[UndL,UndOs,Ob.Und,and_true,true_and,and_self,Und.v,Und.any,Und.ptr,Und.map,Nat.reduceLT,zU,Und.tys,Und.tyAgg,Und.oslTys,Und.oslTys1,Und.clo0,Und.ty,Und.oslG,Und.oslI,Und.oslI1,Und.oslI2,Und.mapG]
   refine opT fun _ y=>?_;simp only[↓bO,go_sem,seval];refine y _ ⟨trivial,?_⟩;clear y;refine al2 (i:=1) (j:=4) ?_ ?_
   ·
    refine opT fun _ y=>?_;simp only[↓bO,go_sem,seval];refine y _ ⟨trivial,?_⟩;clear y;refine al1 (i:=4) ?_;refine opT fun _ y=>?_;simp only[↓bO,go_sem,seval];refine GCalls.at (ih p hpm (Ty.gaddL (T.ps.take s) G []).1 hi1.inv tz1) (.cons (Ty.dataAgg p) .nil) (.v _) (i:=0) (j:=1) (k:=2) rfl rfl rfl tz3 tz3 tz3 tz2 tz2 tz2 ?_;simp only[zam,Nat.reduceEqDiff,↓reduceIte];(try simp only[go_sem]);refine y _ ⟨trivial,?_⟩;clear y;refine al1 (i:=5) ?_;refine opT fun _ y=>?_;simp only[↓bO,go_sem,seval,↓zcQ];refine y _ ⟨trivial,?_⟩;clear y;refine al1 (i:=6) ?_;refine opT fun _ y=>?_;simp only[↓bO,go_sem,seval,hln,hb1,hb2];refine y _ ⟨trivial,?_⟩;clear y;refine tkS 7 ?_;refine alS 8 ?_;refine dnA ?_;apply w;apply z7;simp only[↓bO,go_sem,seval,hw];refine ⟨(s+1),tz1,by omega,?_⟩;simp only[zar,zas,zah,zam,mB,seval,zj,zh,zu,bL,Ty.gaddL_step hp G []];(first | (refine Weak.drops 1 6 rfl rfl tz5 tz5 ?_ ?_ ?_) | (refine Weak.drops 0 6 rfl rfl tz5 tz5 ?_ ?_ ?_));(· simp only[go_sem,Le.refl,Le.any,zn,zh]);(· simp only[UndL,UndOs,Ob.Und,and_true,true_and,and_self,Und.v,Und.any,Und.ptr,Und.map,Nat.reduceLT,zU,Und.tys,Und.tyAgg,Und.oslTys,Und.oslTys1,Und.clo0,Und.ty,Und.oslG,Und.oslI,Und.oslI1,Und.oslI2,Und.mapG]);simp only[UndL,UndOs,Ob.Und,and_true,true_and,and_self,Und.v,Und.any,Und.ptr,Und.map,Nat.reduceLT,zU,Und.tys,Und.tyAgg,Und.oslTys,Und.oslTys1,Und.clo0,Und.ty,Und.oslG,Und.oslI,Und.oslI1,Und.oslI2,Und.mapG]
   refine opT fun _ y=>?_;simp only[↓bO,go_sem,seval];refine GCalls.at (ih p hpm (Ty.gaddL (T.ps.take s) G []).1 hi1.inv tz1) (.cons (Ty.dataAgg p) .nil) (.v _) (i:=0) (j:=1) (k:=2) rfl rfl rfl tz3 tz3 tz3 tz2 tz2 tz2 ?_;simp only[zam,Nat.reduceEqDiff,↓reduceIte];(try simp only[go_sem]);refine y _ ⟨trivial,?_⟩;clear y;refine al2 (i:=1) (j:=5) ?_ ?_
   ·
    refine opT fun _ y=>?_;simp only[↓bO,go_sem,seval];refine y _ ⟨trivial,?_⟩;clear y;refine al1 (i:=5) ?_;refine opT fun _ y=>?_;simp only[↓bO,go_sem,seval,↓zcQ];refine y _ ⟨trivial,?_⟩;clear y;refine al1 (i:=6) ?_;refine opT fun _ y=>?_;simp only[↓bO,go_sem,seval,hln,hb1,hb2];refine y _ ⟨trivial,?_⟩;clear y;refine tkS 7 ?_;refine alS 8 ?_;refine dnA ?_;apply w;apply z7;simp only[↓bO,go_sem,seval,hw];refine ⟨(s+1),tz1,by omega,?_⟩;simp only[zar,zas,zah,zam,mB,seval,zj,zh,zu,bL,Ty.gaddL_step hp G []];(first | (refine Weak.drops 1 6 rfl rfl tz5 tz5 ?_ ?_ ?_) | (refine Weak.drops 0 6 rfl rfl tz5 tz5 ?_ ?_ ?_));(· simp only[go_sem,Le.refl,Le.any,zn,zh]);(· simp only[UndL,UndOs,Ob.Und,and_true,true_and,and_self,Und.v,Und.any,Und.ptr,Und.map,Nat.reduceLT,zU,Und.tys,Und.tyAgg,Und.oslTys,Und.oslTys1,Und.clo0,Und.ty,Und.oslG,Und.oslI,Und.oslI1,Und.oslI2,Und.mapG]);simp only[UndL,UndOs,Ob.Und,and_true,true_and,and_self,Und.v,Und.any,Und.ptr,Und.map,Nat.reduceLT,zU,Und.tys,Und.tyAgg,Und.oslTys,Und.oslTys1,Und.clo0,Und.ty,Und.oslG,Und.oslI,Und.oslI1,Und.oslI2,Und.mapG]
   refine opT fun _ y=>?_;simp only[↓bO,go_sem,seval,↓zcQ];refine y _ ⟨trivial,?_⟩;clear y;refine alS 1 ?_;refine al1 (i:=6) ?_;refine opT fun _ y=>?_;simp only[↓bO,go_sem,seval,hln,hb1,hb2];refine y _ ⟨trivial,?_⟩;clear y;refine tkS 7 ?_;refine alS 8 ?_;refine dnA ?_;apply w;apply z7;simp only[↓bO,go_sem,seval,hw];refine ⟨(s+1),tz1,by omega,?_⟩;simp only[zar,zas,zah,zam,mB,seval,zj,zh,zu,bL,Ty.gaddL_step hp G []];(first | (refine Weak.drops 1 6 rfl rfl tz5 tz5 ?_ ?_ ?_) | (refine Weak.drops 0 6 rfl rfl tz5 tz5 ?_ ?_ ?_));(· simp only[go_sem,Le.refl,Le.any,zn,zh]);(· simp only[UndL,UndOs,Ob.Und,and_true,true_and,and_self,Und.v,Und.any,Und.ptr,Und.map,Nat.reduceLT,zU,Und.tys,Und.tyAgg,Und.oslTys,Und.oslTys1,Und.clo0,Und.ty,Und.oslG,Und.oslI,Und.oslI1,Und.oslI2,Und.mapG]);simp only[UndL,UndOs,Ob.Und,and_true,true_and,and_self,Und.v,Und.any,Und.ptr,Und.map,Nat.reduceLT,zU,Und.tys,Und.tyAgg,Und.oslTys,Und.oslTys1,Und.clo0,Und.ty,Und.oslG,Und.oslI,Und.oslI1,Und.oslI2,Und.mapG]
  (have hk:s=T.ps.length:=by simp at hb52;omega);apply zak;simp only[zao,zaj,zaf,bA,Nat.reduceEqDiff,↓reduceIte];apply u;have hk9:s=T.ps.length:=hk;subst hk9;rw[zI];obtain ⟨hi1,hi2,hi3⟩:=Ty.gaddL_inv0 T.ps G hG;have hi4:=hi1.le;refine sqR fun _ u=>?_;refine chS 2 ?_;refine zZ 1 fun _ y=>?_;simp only[↓bO,go_sem,seval];refine ACalls.args (args':=[.ptr 0 0,.agg (GNode.cells ⟨T.k,0,0,(Ty.gaddL T.ps G []).2⟩)]) ⟨.refl _,Le.agg ⟨.refl _,.refl _,.refl _,Le.oslL,trivial⟩,trivial⟩ ?_;refine GCalls.at (ziD (Ty.gaddL T.ps G []).1.N (Ty.gaddL T.ps G []).1.V ⟨T.k,0,0,(Ty.gaddL T.ps G []).2⟩ hi1.inv.size tz1 tz5 hi2) (.cons (.agg (GNode.data _)) .nil) (.v _) (i:=0) (j:=1) (k:=2) rfl rfl rfl tz3 tz3 tz3 tz2 tz2 tz2 ?_;simp only[zam,Nat.reduceEqDiff,↓reduceIte];apply y;clear y;simp only[↓bO,go_sem,seval];apply u;apply zab;(try simp only[go_sem]);rw[Ty.gadd_more hk1 G];refine ⟨_,zad 0 (zcl ((Ty.gaddL T.ps G []).1.N++[⟨T.k,0,zeC (Ty.gaddL T.ps G []).1.N 1 (Ty.gaddL T.ps G []).2,(Ty.gaddL T.ps G []).2⟩]) ((Ty.gaddL T.ps G []).1.V)),⟨rfl,rfl⟩,.v _ _,zjq tz1 _ _,?_,?_,by omega⟩
  ·
   refine Le.of_eq ?_;rfl
  first | (refine ⟨3,?_,rfl⟩;first | rfl | (simp only[zcl,zad,zf,zk,zu,zt,zW,zi,zz,zJ,GNode.cells,zI,Nat.reduceAdd,zO];done))
def Ty.gAdd (t:Ty) (G:GS):GS×Int×Int:=if t.right=true then ((t.gadd G).1,(t.gadd G).2,0) else (G,0,1)
theorem lookup_at {α:Type} (l:List α) (i:Int) (h:0<=i/\i<l.length):∃x,l[i.toNat]?=some x:=⟨_,za tz1⟩
def GS.there (G:GS) (i:Int):Bool:=decide (0<=i/\i<(G.N.length:Int))
def GS.parts (G:GS) (i:Int):List Int:=if 0<=i then ((G.N[i.toNat]?).map GNode.parts).getD [] else []
theorem GS.parts_in {G:GS} {i:Int} {x:GNode} (h:0<=i) (hx:G.N[i.toNat]?=some x):G.parts i=x.parts:=by rw[GS.parts,if_pos h,hx];rfl
theorem GS.parts_out {G:GS} {i:Int} (h:¬(0<=i/\i<(G.N.length:Int))):G.parts i=[]:=by
 rw[GS.parts];split;(·rw[List.getElem?_eq_none tz1];rfl);rfl
theorem Add_calls (T:Ty) (G:GS) (hG:GInv G) (hl:G.N.length+T.cnt<=1099511627776):GCalls 143 [.ptr 0 0,.agg T.cells] (G.N) (G.V) (.tup [.v (.int .i64 (T.gAdd G).2.1),.v (.int .i64 (T.gAdd G).2.2)]) ((T.gAdd G).1.N) ((T.gAdd G).1.V):=by
  refine ACalls.clean (C:=fun r os=>r=_/\os=_) ?_;refine aIn Tryz.func143 fun hm=>?_;simp only[Tryz.ntmps143,Tryz.results143,go_sem,seval];simp only[zcl,zad,Nat.reduceAdd];refine sqD ?_;refine z6 fun _ y=>?_;apply zac;refine sqD ?_;apply z8 rfl <;> intro hb6
  ·
   cases hb6
  refine sqR fun _ u=>?_;refine chS 1 ?_;refine zZ 1 fun _ q=>?_;simp only[↓bO,go_sem,seval];refine APure.call (zbp T) ?_;apply q;clear q;simp only[↓bO,go_sem,seval];apply u;apply z8 rfl <;> intro hb9
  ·
   refine sqD ?_;apply zab;(try simp only[go_sem]);(have hr:T.right=false:=by simpa using hb9);(have hg:T.gAdd G=(G,0,1):=by rw[Ty.gAdd,hr];rfl);rw[hg];refine ⟨_,zad 0 (zcl (G.N) (G.V)),⟨rfl,rfl⟩,.tup ⟨.v _ _,.v _ _,trivial⟩,zjq tz1 _ _,?_,?_,by omega⟩
   ·
    refine Le.of_eq ?_;rfl
   first | (refine ⟨1,?_,rfl⟩;first | rfl | (simp only[zcl,zad,zf,zk,zu,zt,zW,zi,zz,zJ,GNode.cells,zI,Nat.reduceAdd,zO];done))
  apply zaa;apply y;refine sqR fun _ y=>?_;refine chS 2 ?_;refine zZ 1 fun _ q=>?_;simp only[↓bO,go_sem,seval];refine GCalls.at (add_calls T G hG tz1) (.cons (Ty.dataAgg T) .nil) (.v _) (i:=0) (j:=1) (k:=2) rfl rfl rfl tz3 tz3 tz3 tz2 tz2 tz2 ?_;simp only[zam,Nat.reduceEqDiff,↓reduceIte];apply q;clear q;simp only[↓bO,go_sem,seval];apply y;apply zab;(try simp only[go_sem]);(have hr:T.right=true:=by simpa using hb9);(have hg:T.gAdd G=((T.gadd G).1,(T.gadd G).2,0):=by rw[Ty.gAdd,hr];rfl);rw[hg];refine ⟨_,zad 0 (zcl ((T.gadd G).1.N) ((T.gadd G).1.V)),⟨rfl,rfl⟩,.tup ⟨.v _ _,.v _ _,trivial⟩,zjq tz1 _ _,?_,?_,by omega⟩
  ·
   refine Le.of_eq ?_;rfl
  first | (refine ⟨1,?_,rfl⟩;first | rfl | (simp only[zcl,zad,zf,zk,zu,zt,zW,zi,zz,zJ,GNode.cells,zI,Nat.reduceAdd,zO];done))
theorem zgk (G:GS) (i:Int):GCalls 155 [.ptr 0 0,.v (.int .i64 i)] (G.N) (G.V) (.v (.bool (G.there i))) (G.N) (G.V):=by
  refine ACalls.clean (C:=fun r os=>r=_/\os=_) ?_;refine aIn Tryz.func155 fun hm=>?_;simp only[Tryz.ntmps155,Tryz.results155,go_sem,seval];simp only[zcl,zad,Nat.reduceAdd];refine sqD ?_;refine sqR fun _ q=>?_;refine chS 3 ?_;simp only[go_sem];refine zag 7 rfl (fun hc7=>?_) (fun hc7=>?_)
  ·
   refine chS 4 ?_;simp only[go_sem];refine zag 11 rfl (fun hc11=>?_) (fun hc11=>?_)
   ·
    (iterate 2 (refine chS 4 ?_));simp only[↓bO,go_sem,seval];apply q;apply zab;(try simp only[go_sem]);refine ⟨_,zad 0 (zcl (G.N) (G.V)),⟨rfl,rfl⟩,.v _ _,zjq tz1 _ _,?_,?_,by omega⟩
    ·
     refine Le.of_eq ?_;refine congrArg (fun b=>AV.v (.bool b)) ?_;rw[GS.there,zF];simp only[zd,ze,zL,false_iff,ge_iff_le] at *;try omega
    first | (refine ⟨0,?_,rfl⟩;first | rfl | (simp only[zcl,zad,zf,zk,zu,zt,zW,zi,zz,zJ,GNode.cells,zI,Nat.reduceAdd,zO];done))
   (iterate 2 (refine chS 4 ?_));simp only[↓bO,go_sem,seval];apply q;apply zab;(try simp only[go_sem]);refine ⟨_,zad 0 (zcl (G.N) (G.V)),⟨rfl,rfl⟩,.v _ _,zjq tz1 _ _,?_,?_,by omega⟩
   ·
    refine Le.of_eq ?_;refine congrArg (fun b=>AV.v (.bool b)) ?_;rw[GS.there,zF];simp only[zd,ze,zL,false_iff,ge_iff_le] at *;try omega
   first | (refine ⟨0,?_,rfl⟩;first | rfl | (simp only[zcl,zad,zf,zk,zu,zt,zW,zi,zz,zJ,GNode.cells,zI,Nat.reduceAdd,zO];done))
  simp only[go_sem];cases hc7
theorem Len_calls (G:GS):GCalls 144 [.ptr 0 0] (G.N) (G.V) (.v (.int .i64 (G.N.length:Int))) (G.N) (G.V):=by
  refine ACalls.clean (C:=fun r os=>r=_/\os=_) ?_;refine aIn Tryz.func144 fun hm=>?_;simp only[Tryz.ntmps144,Tryz.results144,go_sem,seval];simp only[zcl,zad,Nat.reduceAdd];refine sqD ?_;refine z6 fun _ q=>?_;refine sqD ?_;apply z8 rfl <;> intro hb4
  ·
   cases hb4
  apply zaa;apply q;refine sqR fun _ q=>?_;refine chS 4 ?_;simp only[↓bO,go_sem,seval];apply q;apply zab;(try simp only[go_sem]);refine ⟨_,zad 0 (zcl (G.N) (G.V)),⟨rfl,rfl⟩,.v _ _,zjq tz1 _ _,?_,?_,by omega⟩
  ·
   refine Le.of_eq ?_;rfl
  first | (refine ⟨0,?_,rfl⟩;first | rfl | (simp only[zcl,zad,zf,zk,zu,zt,zW,zi,zz,zJ,GNode.cells,zI,Nat.reduceAdd,zO];done))
theorem zd6 (G:GS) (i:Int) (hs:∀x∈G.N,x.parts.length<=1099511627776):GCalls 146 [.ptr 0 0,.v (.int .i64 i)] (G.N) (G.V) (.sl 1 ((G.parts i).map intC)) (G.N) (G.V):=by
  refine ACalls.clean (C:=fun r os=>r=_/\os=_) ?_;refine aIn Tryz.func146 fun hm=>?_;simp only[Tryz.ntmps146,Tryz.results146,go_sem,seval];simp only[zcl,zad,Nat.reduceAdd];refine sqD ?_;refine z6 fun _ w=>?_;refine sqR fun _ z=>?_;refine chS 2 ?_;refine zZ 1 fun _ u=>?_;simp only[↓bO,go_sem,seval];refine GCalls.at (zgk G i) (.cons (.v _) .nil) (.v _) (i:=0) (j:=1) (k:=2) rfl rfl rfl tz3 tz3 tz3 tz2 tz2 tz2 ?_;simp only[zam,Nat.reduceEqDiff,↓reduceIte];apply u;clear u;simp only[↓bO,go_sem,seval];apply z;apply z8 rfl <;> intro hb8
  ·
   (have hi:¬(0<=i/\i<(G.N.length:Int)):=by simp[GS.there] at hb8;omega);refine sqD ?_;apply zab;(try simp only[go_sem]);rw[GS.parts_out hi];refine ⟨_,zad 0 (zcl (G.N) (G.V)),⟨rfl,rfl⟩,.data (zap _),zjq tz1 _ _,?_,?_,by omega⟩;(· refine Le.slNil 1);first | (refine ⟨0,?_,rfl⟩;first | rfl | (simp only[zcl,zad,zf,zk,zu,zt,zW,zi,zz,zJ,GNode.cells,zI,Nat.reduceAdd,zO];done)) | (refine ⟨1,?_,rfl⟩;first | rfl | (simp only[zcl,zad,zf,zk,zu,zt,zW,zi,zz,zJ,GNode.cells,zI,Nat.reduceAdd,zO];done))
  (have hi:0<=i/\i<(G.N.length:Int):=by simp[GS.there] at hb8;omega);obtain ⟨hi0,hi1⟩:=hi;obtain ⟨x,hx⟩:=lookup_at G.N i ⟨hi0,hi1⟩;have hxl:=hs x (zc hx);(have hb1:x.parts.length * 8<=140737488355328:=by omega);(have hb2:x.parts.length<=maxLen:=by simp only[maxLen];omega);have hon:((x.parts.map intC).all fun y=>y.all AV.one)=true:=zk7 _;apply zaa;apply w;refine sqR fun _ w=>?_;(iterate 2 (refine chS 4 ?_ (by intro _ q;simp only[↓bO,go_sem,seval,GNode.cells,hi0,hi1,gM hx];exact q)));simp only[↓bO,go_sem,seval,hb1,hb2,hon];apply w;apply zab;(try simp only[go_sem]);rw[GS.parts_in hi0 hx];refine ⟨_,zad 0 (zcl (G.N) (G.V)),⟨rfl,rfl⟩,.data (zap _),zjq tz1 _ _,?_,?_,by omega⟩;(· refine Le.oslL);first | (refine ⟨0,?_,rfl⟩;first | rfl | (simp only[zcl,zad,zf,zk,zu,zt,zW,zi,zz,zJ,GNode.cells,zI,Nat.reduceAdd,zO];done)) | (refine ⟨1,?_,rfl⟩;first | rfl | (simp only[zcl,zad,zf,zk,zu,zt,zW,zi,zz,zJ,GNode.cells,zI,Nat.reduceAdd,zO];done))
def rObs (N:List GNode) (V:List (Int×Int)):List Ob:=[.cells 169 [.osl 1 4 (N.map GNode.cells),.map 2],.tok 194 4 N.length,.map (V.map vC),.cells 124 [.ptr 0 0],.cells 74 [.clo 0 [.ptr 3 0,.ptr 4 0]]]
def rObsAt (i j k a b:Nat) (N:List GNode) (V:List (Int×Int)):List Ob:=[.cells 169 [.osl j 4 (N.map GNode.cells),.map k],.tok 194 4 N.length,.map (V.map vC),.cells 124 [.ptr i 0],.cells 74 [.clo 0 [.ptr a 0,.ptr b 0]]]
def RCalls (f:Nat) (args:List AV) (N:List GNode) (V:List (Int×Int)) (R:AV):Prop :=
 ACalls Tryz.prog f args (zad 0 (rObs N V)) 5 fun r os n=>(r=R/\os=zad 0 (rObs N V))/\n=5
def gty (N:List GNode):Nat->Int->Ty
 | 0,_=>.mk 0 0 []
 | f+1,i=>match N[i.toNat]? with | none=>.mk 0 0 [] | some x=>.mk x.k x.n (x.parts.map (gty N f))
def tyAt (N:List GNode) (i:Int):Ty:=gty N (i.toNat+1) i
def GWf (N:List GNode):Prop:=∀(j:Nat) (x:GNode),N[j]?=some x->(∀p∈x.parts,0<=p/\p<(j:Int))/\x.parts.length<=1099511627776
def GS.type (G:GS) (i most:Int):Ty×Int :=
 if G.there i=false then (.mk 0 0 [],9) else if most<((G.N[i.toNat]?).map GNode.size).getD 0 then (.mk 0 0 [],6) else (tyAt G.N i,0)
end Go.Proofs.YtpfiliamceimmaaGreatDoor
