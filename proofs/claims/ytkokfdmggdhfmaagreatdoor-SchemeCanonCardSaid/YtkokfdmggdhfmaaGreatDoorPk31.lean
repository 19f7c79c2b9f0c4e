/- packed, part 31 of 47. Conditions: none. -/
import Derived.Test.YtkokfdmggdhfmaaGreatDoorPk30
set_option linter.unusedVariables false
set_option linter.unusedSimpArgs false
namespace Go.Proofs.YtkokfdmggdhfmaaGreatDoor
open Go Go.RowKit
set_option maxRecDepth 100000
set_option maxHeartbeats 1000000
set_option linter.unnecessarySimpa false
attribute [local irreducible] aops zaE
theorem Ty.ind {C:Ty->Prop} (h:∀T,(∀p∈T.ps,C p)->C T):∀T,C T:=by
 have key:∀n,∀T:Ty,SizeOf.sizeOf T<=n->C T:=by
  intro n
  induction n with
  | zero=>intro T hT;cases T;simp at hT
  | succ n ih =>
   intro T hT;refine h T (fun p hp=>ih p ?_)
   cases T with
   | mk k m ps =>
    have:=List.sizeOf_lt_of_mem (show p∈ps from hp);(simp at hT);omega
 exact fun T=>key _ T (zw _)
mutual
def Ty.same:Ty->Ty->Bool
 | .mk k n ps,.mk k' n' ps'=>k==k'&&n==n'&&Ty.sameL ps ps'
def Ty.sameL:List Ty->List Ty->Bool
 | [],[]=>true
 | p::ps,q::qs=>Ty.same p q&&Ty.sameL ps qs
 | _,_=>false
end
theorem Ty.same_eq (a b:Ty):a.same b=(a.k==b.k&&a.n==b.n&&Ty.sameL a.ps b.ps):=by cases a;cases b;simp[Ty.same,Ty.k,Ty.n,Ty.ps]
theorem Ty.sameL_len:∀{ps qs:List Ty},ps.length≠qs.length->Ty.sameL ps qs=false
 | [],[],h=>absurd rfl h
 | [],_::_,_=>by simp[Ty.sameL]
 | _::_,[],_=>by simp[Ty.sameL]
 | p::ps,q::qs,h=>by simp[Ty.sameL,Ty.sameL_len (ps:=ps) (qs:=qs) (by simpa using h)]
theorem Ty.sameL_false:∀{ps qs:List Ty} {k:Nat} {p q:Ty},ps[k]?=some p->qs[k]?=some q->p.same q=false->Ty.sameL ps qs=false
 | p::ps,q::qs,0,_,_,h1,h2,h=>by simp at h1 h2;subst h1;subst h2;simp[Ty.sameL,h]
 | p::ps,q::qs,k+1,_,_,h1,h2,h=>by simp[Ty.sameL,Ty.sameL_false (k:=k) (by simpa using h1) (by simpa using h2) h]
 | [],_,_,_,_,h1,_,_=>by simp at h1
 | _::_,[],_,_,_,_,h2,_=>by simp at h2
theorem Ty.sameL_true:∀{ps qs:List Ty},ps.length=qs.length->(∀(k:Nat) (p q:Ty),ps[k]?=some p->qs[k]?=some q->p.same q=true)->Ty.sameL ps qs=true
 | [],[],_,_=>by simp[Ty.sameL]
 | p::ps,q::qs,hl,h=>by
  have h1:=h 0 p q rfl rfl;have h2:=Ty.sameL_true (ps:=ps) (qs:=qs) (by simpa using hl) (fun k p q hp hq=>h (k+1) p q (by simpa using hp) (by simpa using hq));simp[Ty.sameL,h1,h2]
theorem za5 {p:Prop} (h:p:=by exact Weak.mk (by simp only[go_sem,Le.refl,Le.any,Le.slNil,za,Int.cast_ofNat_Int,zm]) (fun _ _ h=>h) rfl rfl):p:=h
theorem zid:∀(T1 T2:Ty),APure Tryz.prog 51 [.agg T1.cells,.agg T2.cells] (.v (.bool (T1.same T2))):=by
  refine Ty.ind fun T1 ih=>?_;intro T2;refine APure.mk (.cons T1.dataAgg (.cons T2.dataAgg .nil)) (.v _) ?_;refine aIn Tryz.func51 fun hm=>?_;simp only[Tryz.ntmps51,Tryz.results51,go_sem,seval];have hm1:=hm.wide (t:=T1) tz4;refine sqD ?_;refine zM fun _ u=>?_;refine sqR fun _ w=>?_;(iterate 2 (refine chS 3 ?_));refine zX 11 rfl (fun hc11=>?_) (fun hc11=>?_)
  ·
   (iterate 4 (refine chS 3 ?_));simp only[↓bO,go_sem,seval];apply w;refine zO (b:=true) (by first | exact rfl | exact congrArg (fun b=>AV.v (.bool b)) hb26) (fun _=>?_) (fun h=>(by cases h));refine sqD ?_;apply zP;(try simp only[go_sem]);first | (rw[Ty.same_eq];simp_all;done) | (rw[Ty.same_eq];simp at hb45;rw[Ty.sameL_false hp hq hb45];simp;done) | (rw[Ty.same_eq];simp at hb26;rw[Ty.sameL_len tz1];simp;done) | (rw[Ty.same_eq,Ty.sameL_true e3 (fun i p q h1 h2=>hs.2 i p q (by have:=(zd.1 h1).1;omega) h1 h2)];simp_all;done) | skip
  (iterate 2 (refine chS 3 ?_));refine chS 1 ?_;simp only[go_sem];refine zX 18 rfl (fun hc18=>?_) (fun hc18=>?_)
  ·
   (iterate 2 (refine chS 3 ?_));simp only[↓bO,go_sem,seval];apply w;refine zO (b:=true) (by first | exact rfl | exact congrArg (fun b=>AV.v (.bool b)) hb26) (fun _=>?_) (fun h=>(by cases h));refine sqD ?_;apply zP;(try simp only[go_sem]);first | (rw[Ty.same_eq];simp_all;done) | (rw[Ty.same_eq];simp at hb45;rw[Ty.sameL_false hp hq hb45];simp;done) | (rw[Ty.same_eq];simp at hb26;rw[Ty.sameL_len tz1];simp;done) | (rw[Ty.same_eq,Ty.sameL_true e3 (fun i p q h1 h2=>hs.2 i p q (by have:=(zd.1 h1).1;omega) h1 h2)];simp_all;done) | skip
  (iterate 2 (refine chS 3 ?_));simp only[↓bO,go_sem,seval];apply w;apply zO rfl <;> intro hb26
  ·
   refine sqD ?_;apply zP;(try simp only[go_sem]);first | (rw[Ty.same_eq];simp_all;done) | (rw[Ty.same_eq];simp at hb45;rw[Ty.sameL_false hp hq hb45];simp;done) | (rw[Ty.same_eq];simp at hb26;rw[Ty.sameL_len tz1];simp;done) | (rw[Ty.same_eq,Ty.sameL_true e3 (fun i p q h1 h2=>hs.2 i p q (by have:=(zd.1 h1).1;omega) h1 h2)];simp_all;done) | skip
  (have e3:T1.ps.length=T2.ps.length   := by simp at hb26;omega);apply zS;apply u;refine zM fun _ u=>?_;refine sqD ?_;apply zU;refine zad (σ:=Nat) (mB 46 44) (fun s=>s<=T1.ps.length/\∀(i:Nat) (p q:Ty),i<s->T1.ps[i]?=some p->T2.ps[i]?=some q->p.same q=true) (fun s=>[(5,.v (.int .i64 (s:Int)))]) (fun s=>[]) (fun s=>T1.ps.length-s) 0 (⟨by omega,fun i p q hi=>by omega⟩) ?_ (fun s hs=>?_)
  ·
   simp only[go_sem,seval];exact za5
  simp only[go_sem,seval];refine zM fun _ w=>?_;refine sqR fun _ z=>?_;refine chS 3 ?_;simp only[↓bO,go_sem,seval];apply z;apply zO rfl <;> intro hb31
  ·
   (have hk:s<T1.ps.length:=by simpa using hb31);(have hk2:s<T2.ps.length:=by omega);obtain ⟨p,hp⟩:∃p,T1.ps[s]?=some p:=⟨_,zb hk⟩;obtain ⟨q,hq⟩:∃q,T2.ps[s]?=some q:=⟨_,zb hk2⟩;have hw:IntKind.i64.wrap ((s:Int)+1)=(s:Int)+1:=zac tz1 (by have:=hm1.len;simp only[maxLen] at this;omega);apply zS;apply w;refine zM fun _ w=>?_;apply zU;refine zM fun _ z=>?_;refine zaG 12 mixed tz0 fun J0 j0=>?_;(iterate 3 (simp only[go_sem];refine z7 3 fun _ y=>?_;simp only[↓zaE,↓dOp,↓bO,go_sem,seval,hk,hk2,gM hp,gM hq,za,hw];apply y;clear y));simp only[go_sem];refine z7 1 fun _ y=>?_;simp only[↓zaE,↓dOp,↓bO,go_sem,seval,hk,hk2,gM hp,gM hq,za,hw];apply y;clear y;refine z7 1 fun _ y=>?_;simp only[↓zaE,↓dOp,↓bO,go_sem,seval,hk,hk2,gM hp,gM hq,za,hw];refine ⟨_,ih p (zg hp) q,?_⟩;apply y;clear y;simp only[↓zaE,↓dOp,↓bO,go_sem,seval,hk,hk2,gM hp,gM hq,za,hw];refine j0 _ ?_;clear j0 J0;simp only[bL,aops,zaf,z8,zY];apply z;apply zO rfl <;> intro hb45
   ·
    refine sqR fun _ z=>?_;simp only[↓bO,go_sem,seval,hk,hk2,gM hp,gM hq,za,hw];apply z;apply zP;(try simp only[go_sem]);first | (rw[Ty.same_eq];simp_all;done) | (rw[Ty.same_eq];simp at hb45;rw[Ty.sameL_false hp hq hb45];simp;done) | (rw[Ty.same_eq];simp at hb26;rw[Ty.sameL_len tz1];simp;done) | (rw[Ty.same_eq,Ty.sameL_true e3 (fun i p q h1 h2=>hs.2 i p q (by have:=(zd.1 h1).1;omega) h1 h2)];simp_all;done) | skip
   apply zS;apply w;apply zN;simp only[↓bO,go_sem,seval,hk,hk2,gM hp,gM hq,za,hw];refine ⟨(s+1),⟨by omega,fun i p' q' hi h1 h2=>(by rcases zI i s with h3 | h3 <;> first | exact hs.2 i p' q' h3 h1 h2 | (obtain rfl:i=s:=tz1;rw[hp] at h1;rw[hq] at h2;cases h1;cases h2;simpa using hb45))⟩,by omega,?_⟩;simp only[go_sem,seval,hk,hk2,gM hp,gM hq,za,zm,hw];exact za5
  (have hk:s=T1.ps.length:=by have:=hs.1;simp at hb31;omega);apply zae;simp only[zaf,z8,zY,bA,Nat.reduceEqDiff,↓reduceIte];apply u;refine sqD ?_;apply zP;(try simp only[go_sem]);first | (rw[Ty.same_eq];simp_all;done) | (rw[Ty.same_eq];simp at hb45;rw[Ty.sameL_false hp hq hb45];simp;done) | (rw[Ty.same_eq];simp at hb26;rw[Ty.sameL_len tz1];simp;done) | (rw[Ty.same_eq,Ty.sameL_true e3 (fun i p q h1 h2=>hs.2 i p q (by have:=(zd.1 h1).1;omega) h1 h2)];simp_all;done) | skip
end Go.Proofs.YtkokfdmggdhfmaaGreatDoor
namespace Go.Proofs.YtkokfdmggdhfmaaGreatDoor
open Go Go.RowKit
set_option maxRecDepth 100000
set_option maxHeartbeats 4000000
set_option linter.unnecessarySimpa false
attribute [local irreducible] aops zaE
def okN (k n:Int) (len:Nat):Bool :=
 decide ((k=1/\0<=n/\n<1073741824/\len=0)\/(n=0/\(((k=2\/k=3)/\len=0)\/(k=4/\len=2)\/(k=5/\2<=len/\len<=8))))
mutual
def Ty.right:Ty->Bool
 | .mk k n ps=>okN k n ps.length&&Ty.rightL ps
def Ty.rightL:List Ty->Bool
 | []=>true
 | p::ps=>Ty.right p&&Ty.rightL ps
end
theorem Ty.rightL_eq:∀ps,Ty.rightL ps=ps.all Ty.right
 | []=>by simp[Ty.rightL]
 | p::ps=>by simp[Ty.rightL,Ty.rightL_eq ps]
theorem Ty.right_eq (t:Ty):t.right=(okN t.k t.n t.ps.length&&t.ps.all Ty.right):=by cases t;simp[Ty.right,Ty.rightL_eq,Ty.k,Ty.n,Ty.ps]
theorem za1 {α:Type} {f:α->Bool} {ps:List α} (h:∀(i:Nat) (p:α),i<ps.length->ps[i]?=some p->f p=true):ps.all f=true:=by
 rw[zB];intro p hp;obtain ⟨i,hi,e⟩:=List.mem_iff_getElem.1 hp;exact h i p hi (by rw[zb hi,e])
theorem zaS {α:Type} {f:α->Bool} {ps:List α} {i:Nat} {p:α} (hp:ps[i]?=some p) (h:f p=false):ps.all f=false:=by
 rw[<- Bool.not_eq_true,zB];intro hh;have:=hh p (zg hp);rw[h] at this;cases this
theorem zgN:∀(T:Ty),APure Tryz.prog 62 [.agg T.cells] (.v (.bool T.right)):=by
  refine Ty.ind fun T ih=>?_;refine APure.mkL (.cons T.dataAgg .nil) (.v _) ?_;refine aIn Tryz.func62 fun hm=>?_;simp only[Tryz.ntmps62,Tryz.results62,go_sem,seval];have hm1:=hm.wide (t:=T) tz4;refine sqD ?_;refine sqR fun _ u=>?_;refine chS 2 ?_;simp only[↓bO,go_sem,seval];apply u;refine zM fun _ u=>?_;apply zU;refine zaC (mB 89 266) ([(8,.v (.bool (decide (T.k=1/\(T.n<0\/1073741824<=T.n\/0<T.ps.length)))))]) ([]) ?_ ?_
  ·
   apply zN;(iterate 2 (refine chS 2 ?_));refine zX 12 rfl (fun hc12=>?_) (fun hc12=>?_)
   ·
    (iterate 2 (refine chS 2 ?_));refine zX 16 rfl (fun hc16=>?_) (fun hc16=>?_)
    ·
     (iterate 4 (refine chS 2 ?_));simp only[↓bO,go_sem,seval];(try simp only[go_sem,seval]);refine Weak.mk ?_ (fun _ _ h=>h) rfl rfl;simp only[go_sem,Le.refl,Le.any];all_goals (refine Le.of_eq (congrArg (fun b=>AV.v (.bool b)) ?_);rw[zK];simp at *;omega)
    (iterate 2 (refine chS 2 ?_));refine chS 1 ?_;simp only[go_sem];refine zX 21 rfl (fun hc21=>?_) (fun hc21=>?_)
    ·
     (iterate 2 (refine chS 2 ?_));simp only[↓bO,go_sem,seval];(try simp only[go_sem,seval]);refine Weak.mk ?_ (fun _ _ h=>h) rfl rfl;simp only[go_sem,Le.refl,Le.any];all_goals (refine Le.of_eq (congrArg (fun b=>AV.v (.bool b)) ?_);rw[zK];simp at *;omega)
    (iterate 2 (refine chS 2 ?_));simp only[↓bO,go_sem,seval];(try simp only[go_sem,seval]);refine Weak.mk ?_ (fun _ _ h=>h) rfl rfl;simp only[go_sem,Le.refl,Le.any];all_goals (refine Le.of_eq (congrArg (fun b=>AV.v (.bool b)) ?_);rw[zK];simp at *;omega)
   refine chS 2 ?_;refine chS 3 ?_;refine chS 2 ?_;refine chS 3 ?_;refine chS 2 ?_;simp only[↓bO,go_sem,seval];(try simp only[go_sem,seval]);refine Weak.mk ?_ (fun _ _ h=>h) rfl rfl;simp only[go_sem,Le.refl,Le.any];all_goals (refine Le.of_eq (congrArg (fun b=>AV.v (.bool b)) ?_);rw[zK];simp at *;omega)
  simp only[go_sem,seval];apply zO rfl <;> intro hb8
  ·
   refine sqD ?_;apply zP;(try simp only[go_sem]);refine Le.of_eq ?_;rw[Ty.right_eq];(all_goals try simp only[ze,zc] at hb8);(all_goals try simp only[ze,zc] at hb26);(all_goals try simp only[ze,zc] at hb35);(all_goals try simp only[ze,zc] at hb48);(all_goals try simp only[ze,zc] at hb56);(all_goals try simp only[ze,zc] at hb68);first | (have e1:okN T.k T.n T.ps.length=false:=(by simp only[okN,zc];omega);rw[e1];rfl) | (rw[zaS hp (by simpa using hb88)];simp;done) | (have e1:okN T.k T.n T.ps.length=true:=(by simp only[okN,ze];omega);rw[e1,za1 (f:=Ty.right) (fun i p hi h1=>hs.2 i p tz1 h1)];rfl)
  refine zaC (mB 89 67108874) ([(26,.v (.bool (decide (T.k≠1/\T.n≠0))))]) ([]) ?_ ?_
  ·
   apply zN;(iterate 2 (refine chS 2 ?_));refine zX 30 rfl (fun hc30=>?_) (fun hc30=>?_)
   ·
    (iterate 2 (refine chS 2 ?_));simp only[↓bO,go_sem,seval];(try simp only[go_sem,seval]);refine Weak.mk ?_ (fun _ _ h=>h) rfl rfl;simp only[go_sem,Le.refl,Le.any];all_goals (refine Le.of_eq (congrArg (fun b=>AV.v (.bool b)) ?_);rw[zK];simp at *;omega)
   (iterate 2 (refine chS 2 ?_));simp only[↓bO,go_sem,seval];(try simp only[go_sem,seval]);refine Weak.mk ?_ (fun _ _ h=>h) rfl rfl;simp only[go_sem,Le.refl,Le.any];all_goals (refine Le.of_eq (congrArg (fun b=>AV.v (.bool b)) ?_);rw[zK];simp at *;omega)
  simp only[go_sem,seval];apply zO rfl <;> intro hb26
  ·
   refine sqD ?_;apply zP;(try simp only[go_sem]);refine Le.of_eq ?_;rw[Ty.right_eq];(all_goals try simp only[ze,zc] at hb8);(all_goals try simp only[ze,zc] at hb26);(all_goals try simp only[ze,zc] at hb35);(all_goals try simp only[ze,zc] at hb48);(all_goals try simp only[ze,zc] at hb56);(all_goals try simp only[ze,zc] at hb68);first | (have e1:okN T.k T.n T.ps.length=false:=(by simp only[okN,zc];omega);rw[e1];rfl) | (rw[zaS hp (by simpa using hb88)];simp;done) | (have e1:okN T.k T.n T.ps.length=true:=(by simp only[okN,ze];omega);rw[e1,za1 (f:=Ty.right) (fun i p hi h1=>hs.2 i p tz1 h1)];rfl)
  refine zaC (mB 89 34359738378) ([(35,.v (.bool (decide ((T.k=2\/T.k=3)/\0<T.ps.length))))]) ([]) ?_ ?_
  ·
   apply zN;(iterate 2 (refine chS 2 ?_));refine zX 39 rfl (fun hc39=>?_) (fun hc39=>?_)
   ·
    (iterate 4 (refine chS 2 ?_));simp only[↓bO,go_sem,seval];(try simp only[go_sem,seval]);refine Weak.mk ?_ (fun _ _ h=>h) rfl rfl;simp only[go_sem,Le.refl,Le.any];all_goals (refine Le.of_eq (congrArg (fun b=>AV.v (.bool b)) ?_);rw[zK];simp at *;omega)
   (iterate 2 (refine chS 2 ?_));refine chS 1 ?_;simp only[go_sem];refine zX 44 rfl (fun hc44=>?_) (fun hc44=>?_)
   ·
    refine chS 2 ?_;simp only[↓bO,go_sem,seval];(try simp only[go_sem,seval]);refine Weak.mk ?_ (fun _ _ h=>h) rfl rfl;simp only[go_sem,Le.refl,Le.any];all_goals (refine Le.of_eq (congrArg (fun b=>AV.v (.bool b)) ?_);rw[zK];simp at *;omega)
   refine chS 2 ?_;simp only[↓bO,go_sem,seval];(try simp only[go_sem,seval]);refine Weak.mk ?_ (fun _ _ h=>h) rfl rfl;simp only[go_sem,Le.refl,Le.any];all_goals (refine Le.of_eq (congrArg (fun b=>AV.v (.bool b)) ?_);rw[zK];simp at *;omega)
  simp only[go_sem,seval];apply zO rfl <;> intro hb35
  ·
   refine sqD ?_;apply zP;(try simp only[go_sem]);refine Le.of_eq ?_;rw[Ty.right_eq];(all_goals try simp only[ze,zc] at hb8);(all_goals try simp only[ze,zc] at hb26);(all_goals try simp only[ze,zc] at hb35);(all_goals try simp only[ze,zc] at hb48);(all_goals try simp only[ze,zc] at hb56);(all_goals try simp only[ze,zc] at hb68);first | (have e1:okN T.k T.n T.ps.length=false:=(by simp only[okN,zc];omega);rw[e1];rfl) | (rw[zaS hp (by simpa using hb88)];simp;done) | (have e1:okN T.k T.n T.ps.length=true:=(by simp only[okN,ze];omega);rw[e1,za1 (f:=Ty.right) (fun i p hi h1=>hs.2 i p tz1 h1)];rfl)
  refine zaC (mB 89 281474976710666) ([(48,.v (.bool (decide (T.k=4/\T.ps.length≠2))))]) ([]) ?_ ?_
  ·
   apply zN;(iterate 2 (refine chS 2 ?_));refine zX 52 rfl (fun hc52=>?_) (fun hc52=>?_)
   ·
    refine chS 2 ?_;simp only[↓bO,go_sem,seval];(try simp only[go_sem,seval]);refine Weak.mk ?_ (fun _ _ h=>h) rfl rfl;simp only[go_sem,Le.refl,Le.any];all_goals (refine Le.of_eq (congrArg (fun b=>AV.v (.bool b)) ?_);rw[zK];simp at *;omega)
   refine chS 2 ?_;simp only[↓bO,go_sem,seval];(try simp only[go_sem,seval]);refine Weak.mk ?_ (fun _ _ h=>h) rfl rfl;simp only[go_sem,Le.refl,Le.any];all_goals (refine Le.of_eq (congrArg (fun b=>AV.v (.bool b)) ?_);rw[zK];simp at *;omega)
  simp only[go_sem,seval];apply zO rfl <;> intro hb48
  ·
   refine sqD ?_;apply zP;(try simp only[go_sem]);refine Le.of_eq ?_;rw[Ty.right_eq];(all_goals try simp only[ze,zc] at hb8);(all_goals try simp only[ze,zc] at hb26);(all_goals try simp only[ze,zc] at hb35);(all_goals try simp only[ze,zc] at hb48);(all_goals try simp only[ze,zc] at hb56);(all_goals try simp only[ze,zc] at hb68);first | (have e1:okN T.k T.n T.ps.length=false:=(by simp only[okN,zc];omega);rw[e1];rfl) | (rw[zaS hp (by simpa using hb88)];simp;done) | (have e1:okN T.k T.n T.ps.length=true:=(by simp only[okN,ze];omega);rw[e1,za1 (f:=Ty.right) (fun i p hi h1=>hs.2 i p tz1 h1)];rfl)
  refine zaC (mB 89 72057594037927946) ([(56,.v (.bool (decide (T.k=5/\(T.ps.length<2\/8<T.ps.length)))))]) ([]) ?_ ?_
  ·
   apply zN;(iterate 2 (refine chS 2 ?_));refine zX 60 rfl (fun hc60=>?_) (fun hc60=>?_)
   ·
    refine chS 2 ?_;refine chS 1 ?_;simp only[go_sem];refine zX 63 rfl (fun hc63=>?_) (fun hc63=>?_)
    ·
     (iterate 2 (refine chS 2 ?_));simp only[↓bO,go_sem,seval];(try simp only[go_sem,seval]);refine Weak.mk ?_ (fun _ _ h=>h) rfl rfl;simp only[go_sem,Le.refl,Le.any];all_goals (refine Le.of_eq (congrArg (fun b=>AV.v (.bool b)) ?_);rw[zK];simp at *;omega)
    (iterate 2 (refine chS 2 ?_));simp only[↓bO,go_sem,seval];(try simp only[go_sem,seval]);refine Weak.mk ?_ (fun _ _ h=>h) rfl rfl;simp only[go_sem,Le.refl,Le.any];all_goals (refine Le.of_eq (congrArg (fun b=>AV.v (.bool b)) ?_);rw[zK];simp at *;omega)
   (iterate 3 (refine chS 2 ?_));simp only[↓bO,go_sem,seval];(try simp only[go_sem,seval]);refine Weak.mk ?_ (fun _ _ h=>h) rfl rfl;simp only[go_sem,Le.refl,Le.any];all_goals (refine Le.of_eq (congrArg (fun b=>AV.v (.bool b)) ?_);rw[zK];simp at *;omega)
  simp only[go_sem,seval];apply zO rfl <;> intro hb56
  ·
   refine sqD ?_;apply zP;(try simp only[go_sem]);refine Le.of_eq ?_;rw[Ty.right_eq];(all_goals try simp only[ze,zc] at hb8);(all_goals try simp only[ze,zc] at hb26);(all_goals try simp only[ze,zc] at hb35);(all_goals try simp only[ze,zc] at hb48);(all_goals try simp only[ze,zc] at hb56);(all_goals try simp only[ze,zc] at hb68);first | (have e1:okN T.k T.n T.ps.length=false:=(by simp only[okN,zc];omega);rw[e1];rfl) | (rw[zaS hp (by simpa using hb88)];simp;done) | (have e1:okN T.k T.n T.ps.length=true:=(by simp only[okN,ze];omega);rw[e1,za1 (f:=Ty.right) (fun i p hi h1=>hs.2 i p tz1 h1)];rfl)
  refine zaC (mB 89 295147905179352825866) ([(68,.v (.bool (decide (T.k<1\/5<T.k))))]) ([]) ?_ ?_
  ·
   apply zN;(iterate 2 (refine chS 2 ?_));refine zX 72 rfl (fun hc72=>?_) (fun hc72=>?_)
   ·
    (iterate 2 (refine chS 2 ?_));simp only[↓bO,go_sem,seval];(try simp only[go_sem,seval]);refine Weak.mk ?_ (fun _ _ h=>h) rfl rfl;simp only[go_sem,Le.refl,Le.any];all_goals (refine Le.of_eq (congrArg (fun b=>AV.v (.bool b)) ?_);rw[zK];simp at *;omega)
   (iterate 2 (refine chS 2 ?_));simp only[↓bO,go_sem,seval];(try simp only[go_sem,seval]);refine Weak.mk ?_ (fun _ _ h=>h) rfl rfl;simp only[go_sem,Le.refl,Le.any];all_goals (refine Le.of_eq (congrArg (fun b=>AV.v (.bool b)) ?_);rw[zK];simp at *;omega)
  simp only[go_sem,seval];apply zO rfl <;> intro hb68
  ·
   refine sqD ?_;apply zP;(try simp only[go_sem]);refine Le.of_eq ?_;rw[Ty.right_eq];(all_goals try simp only[ze,zc] at hb8);(all_goals try simp only[ze,zc] at hb26);(all_goals try simp only[ze,zc] at hb35);(all_goals try simp only[ze,zc] at hb48);(all_goals try simp only[ze,zc] at hb56);(all_goals try simp only[ze,zc] at hb68);first | (have e1:okN T.k T.n T.ps.length=false:=(by simp only[okN,zc];omega);rw[e1];rfl) | (rw[zaS hp (by simpa using hb88)];simp;done) | (have e1:okN T.k T.n T.ps.length=true:=(by simp only[okN,ze];omega);rw[e1,za1 (f:=Ty.right) (fun i p hi h1=>hs.2 i p tz1 h1)];rfl)
  apply zS;apply u;refine zM fun _ u=>?_;refine sqD ?_;apply zU;refine zad (σ:=Nat) (mB 89 26) (fun s=>s<=T.ps.length/\∀(i:Nat) (p:Ty),i<s->T.ps[i]?=some p->p.right=true) (fun s=>[(4,.v (.int .i64 (s:Int)))]) (fun s=>[]) (fun s=>T.ps.length-s) 0 (⟨by omega,fun i p hi=>by omega⟩) ?_ (fun s hs=>?_)
  ·
   simp only[go_sem,seval];exact za5
  simp only[go_sem,seval];refine zM fun _ w=>?_;refine sqR fun _ z=>?_;refine chS 2 ?_;simp only[↓bO,go_sem,seval];apply z;apply zO rfl <;> intro hb79
  ·
   (have hk:s<T.ps.length:=by simpa using hb79);obtain ⟨p,hp⟩:∃p,T.ps[s]?=some p:=⟨_,zb hk⟩;have hw:IntKind.i64.wrap ((s:Int)+1)=(s:Int)+1:=zac tz1 (by have:=hm1.len;simp only[maxLen] at this;omega);apply zS;apply w;refine zM fun _ w=>?_;apply zU;refine sqR fun _ z=>?_;(iterate 2 (refine chS 2 ?_ (by intro _ q;simp only[↓bO,go_sem,seval,hk,gM hp,za,hw];exact q)));refine chS 1 ?_ (by intro _ q;simp only[↓bO,go_sem,seval,hk,gM hp,za,hw];exact q);refine zL 1 fun _ y=>?_;simp only[↓bO,go_sem,seval,hk,gM hp,za,hw];refine APure.call (ih p (zg hp)) ?_;apply y;clear y;simp only[↓bO,go_sem,seval,hk,gM hp,za,hw];apply z;apply zO rfl <;> intro hb88
   ·
    refine sqR fun _ z=>?_;simp only[↓bO,go_sem,seval,hk,gM hp,za,hw];apply z;apply zP;(try simp only[go_sem]);refine Le.of_eq ?_;rw[Ty.right_eq];(all_goals try simp only[ze,zc] at hb8);(all_goals try simp only[ze,zc] at hb26);(all_goals try simp only[ze,zc] at hb35);(all_goals try simp only[ze,zc] at hb48);(all_goals try simp only[ze,zc] at hb56);(all_goals try simp only[ze,zc] at hb68);first | (have e1:okN T.k T.n T.ps.length=false:=(by simp only[okN,zc];omega);rw[e1];rfl) | (rw[zaS hp (by simpa using hb88)];simp;done) | (have e1:okN T.k T.n T.ps.length=true:=(by simp only[okN,ze];omega);rw[e1,za1 (f:=Ty.right) (fun i p hi h1=>hs.2 i p tz1 h1)];rfl)
   apply zS;apply w;apply zN;refine chS 2 ?_ (by intro _ q;simp only[↓bO,go_sem,seval,hk,gM hp,za,hw];exact q);simp only[↓bO,go_sem,seval,hk,gM hp,za,hw];refine ⟨(s+1),⟨by omega,fun i p' hi h1=>(by rcases zI i s with h3 | h3 <;> first | exact hs.2 i p' h3 h1 | (obtain rfl:i=s:=tz1;rw[hp] at h1;cases h1;simpa using hb88))⟩,by omega,?_⟩;simp only[go_sem,seval,hk,gM hp,za,zm,hw];exact za5
  (have hk:s=T.ps.length:=by have:=hs.1;simp at hb79;omega);apply zae;simp only[zaf,z8,zY,bA,Nat.reduceEqDiff,↓reduceIte];apply u;refine sqD ?_;apply zP;(try simp only[go_sem]);refine Le.of_eq ?_;rw[Ty.right_eq];(all_goals try simp only[ze,zc] at hb8);(all_goals try simp only[ze,zc] at hb26);(all_goals try simp only[ze,zc] at hb35);(all_goals try simp only[ze,zc] at hb48);(all_goals try simp only[ze,zc] at hb56);(all_goals try simp only[ze,zc] at hb68);first | (have e1:okN T.k T.n T.ps.length=false:=(by simp only[okN,zc];omega);rw[e1];rfl) | (rw[zaS hp (by simpa using hb88)];simp;done) | (have e1:okN T.k T.n T.ps.length=true:=(by simp only[okN,ze];omega);rw[e1,za1 (f:=Ty.right) (fun i p hi h1=>hs.2 i p tz1 h1)];rfl)
theorem zet (n:Int):APure Tryz.prog 99 [.v (.int .i64 n)] (.v (.bool (decide (0<=n/\n<1073741824)))):=by
  refine APure.mkL (.cons (.v _) .nil) (.v _) ?_;refine aIn Tryz.func99 fun hm=>?_;simp only[Tryz.ntmps99,Tryz.results99,go_sem,seval];refine sqD ?_;refine sqR fun _ q=>?_;refine chS 3 ?_;simp only[go_sem];refine zX 5 rfl (fun hc5=>?_) (fun hc5=>?_)
  ·
   simp only[go_sem];simp only[↓bO,go_sem,seval];apply q;apply zP;(try simp only[go_sem]);refine Le.of_eq (congrArg (fun b=>AV.v (.bool b)) ?_);simp at *;omega
  simp only[go_sem];simp only[↓bO,go_sem,seval];apply q;apply zP;(try simp only[go_sem]);refine Le.of_eq (congrArg (fun b=>AV.v (.bool b)) ?_);simp at *;omega
theorem zlk (T:Ty):APure Tryz.prog 121 [.agg T.cells] (.v (.bool (okN T.k T.n T.ps.length))):=by
  refine APure.mkL (.cons T.dataAgg .nil) (.v _) ?_;refine aIn Tryz.func121 fun hm=>?_;simp only[Tryz.ntmps121,Tryz.results121,go_sem,seval];refine sqD ?_;refine sqR fun _ y=>?_;refine chS 3 ?_;simp only[↓bO,go_sem,seval];apply y;refine zM fun _ y=>?_;refine sqD ?_;apply zU;refine sqD ?_;apply zO rfl <;> intro hb9
  ·
   refine sqR fun _ u=>?_;refine chS 2 ?_;refine zL 1 fun _ q=>?_;simp only[↓bO,go_sem,seval];refine APure.call (zet T.n) ?_;apply q;clear q;refine chS 1 ?_;simp only[go_sem];refine zX 14 rfl (fun hc14=>?_) (fun hc14=>?_)
   ·
    refine chS 3 ?_;simp only[↓bO,go_sem,seval];apply u;apply zP;(try simp only[go_sem]);refine Le.of_eq (congrArg (fun b=>AV.v (.bool b)) ?_);rw[zK];simp only[okN,ze,beq_iff_eq,zr,beq_eq_false_iff_ne,ne_eq,zc,false_iff,true_iff,and_true,true_and] at *;try omega
   refine chS 3 ?_;simp only[↓bO,go_sem,seval];apply u;apply zP;(try simp only[go_sem]);refine Le.of_eq (congrArg (fun b=>AV.v (.bool b)) ?_);rw[zK];simp only[okN,ze,beq_iff_eq,zr,beq_eq_false_iff_ne,ne_eq,zc,false_iff,true_iff,and_true,true_and] at *;try omega
  refine zM fun _ u=>?_;refine sqD ?_;apply zO rfl <;> intro hb18
  ·
   apply zS;apply u;refine zO (b:=true) (by first | exact rfl | exact congrArg (fun b=>AV.v (.bool b)) hb18) (fun _=>?_) (fun h=>(by cases h));refine sqR fun _ u=>?_;refine chS 3 ?_;refine chS 1 ?_;simp only[go_sem];refine zX 24 rfl (fun hc24=>?_) (fun hc24=>?_)
   ·
    refine chS 3 ?_;simp only[↓bO,go_sem,seval];apply u;apply zP;(try simp only[go_sem]);refine Le.of_eq (congrArg (fun b=>AV.v (.bool b)) ?_);rw[zK];simp only[okN,ze,beq_iff_eq,zr,beq_eq_false_iff_ne,ne_eq,zc,false_iff,true_iff,and_true,true_and] at *;try omega
   refine chS 3 ?_;simp only[↓bO,go_sem,seval];apply u;apply zP;(try simp only[go_sem]);refine Le.of_eq (congrArg (fun b=>AV.v (.bool b)) ?_);rw[zK];simp only[okN,ze,beq_iff_eq,zr,beq_eq_false_iff_ne,ne_eq,zc,false_iff,true_iff,and_true,true_and] at *;try omega
  apply zN;simp only[↓bO,go_sem,seval];apply u;apply zO rfl <;> intro hb18
  ·
   refine sqR fun _ u=>?_;refine chS 3 ?_;refine chS 1 ?_;simp only[go_sem];refine zX 24 rfl (fun hc24=>?_) (fun hc24=>?_)
   ·
    refine chS 3 ?_;simp only[↓bO,go_sem,seval];apply u;apply zP;(try simp only[go_sem]);refine Le.of_eq (congrArg (fun b=>AV.v (.bool b)) ?_);rw[zK];simp only[okN,ze,beq_iff_eq,zr,beq_eq_false_iff_ne,ne_eq,zc,false_iff,true_iff,and_true,true_and] at *;try omega
   refine chS 3 ?_;simp only[↓bO,go_sem,seval];apply u;apply zP;(try simp only[go_sem]);refine Le.of_eq (congrArg (fun b=>AV.v (.bool b)) ?_);rw[zK];simp only[okN,ze,beq_iff_eq,zr,beq_eq_false_iff_ne,ne_eq,zc,false_iff,true_iff,and_true,true_and] at *;try omega
  refine sqD ?_;apply zO rfl <;> intro hb28
  ·
   refine sqR fun _ u=>?_;refine chS 3 ?_;refine chS 1 ?_;simp only[go_sem];refine zX 33 rfl (fun hc33=>?_) (fun hc33=>?_)
   ·
    refine chS 3 ?_;simp only[↓bO,go_sem,seval];apply u;apply zP;(try simp only[go_sem]);refine Le.of_eq (congrArg (fun b=>AV.v (.bool b)) ?_);rw[zK];simp only[okN,ze,beq_iff_eq,zr,beq_eq_false_iff_ne,ne_eq,zc,false_iff,true_iff,and_true,true_and] at *;try omega
   refine chS 3 ?_;simp only[↓bO,go_sem,seval];apply u;apply zP;(try simp only[go_sem]);refine Le.of_eq (congrArg (fun b=>AV.v (.bool b)) ?_);rw[zK];simp only[okN,ze,beq_iff_eq,zr,beq_eq_false_iff_ne,ne_eq,zc,false_iff,true_iff,and_true,true_and] at *;try omega
  refine sqD ?_;apply zO rfl <;> intro hb37
  ·
   refine sqR fun _ u=>?_;refine chS 3 ?_;refine chS 1 ?_;simp only[go_sem];refine zX 42 rfl (fun hc42=>?_) (fun hc42=>?_)
   ·
    refine chS 3 ?_;refine chS 1 ?_;simp only[go_sem];refine zX 46 rfl (fun hc46=>?_) (fun hc46=>?_)
    ·
     refine chS 3 ?_;simp only[↓bO,go_sem,seval];apply u;apply zP;(try simp only[go_sem]);refine Le.of_eq (congrArg (fun b=>AV.v (.bool b)) ?_);rw[zK];simp only[okN,ze,beq_iff_eq,zr,beq_eq_false_iff_ne,ne_eq,zc,false_iff,true_iff,and_true,true_and] at *;try omega
    refine chS 3 ?_;simp only[↓bO,go_sem,seval];apply u;apply zP;(try simp only[go_sem]);refine Le.of_eq (congrArg (fun b=>AV.v (.bool b)) ?_);rw[zK];simp only[okN,ze,beq_iff_eq,zr,beq_eq_false_iff_ne,ne_eq,zc,false_iff,true_iff,and_true,true_and] at *;try omega
   (iterate 2 (refine chS 3 ?_));simp only[↓bO,go_sem,seval];apply u;apply zP;(try simp only[go_sem]);refine Le.of_eq (congrArg (fun b=>AV.v (.bool b)) ?_);rw[zK];simp only[okN,ze,beq_iff_eq,zr,beq_eq_false_iff_ne,ne_eq,zc,false_iff,true_iff,and_true,true_and] at *;try omega
  apply zS;apply y;refine sqD ?_;apply zP;(try simp only[go_sem]);refine Le.of_eq (congrArg (fun b=>AV.v (.bool b)) ?_);rw[zK];simp only[okN,ze,beq_iff_eq,zr,beq_eq_false_iff_ne,ne_eq,zc,false_iff,true_iff,and_true,true_and] at *;try omega
theorem zes {α:Type} {f:α->Bool} {ps:List α} {i:Nat} {p:α} (hp:ps[i]?=some p) (h:f p=true):ps.any f=true:=List.any_eq_true.2 ⟨p,zg hp,h⟩
theorem zcO {α:Type} {f:α->Bool} {ps:List α} (h:∀(i:Nat) (p:α),i<ps.length->ps[i]?=some p->f p=false):ps.any f=false:=by
 rw[<- Bool.not_eq_true,List.any_eq_true];rintro ⟨p,hp,hf⟩;obtain ⟨i,hi,e⟩:=List.mem_iff_getElem.1 hp;rw[h i p hi (by rw[zb hi,e])] at hf;cases hf
def zhx {α:Type} (g:α->Bool) (l:List α):Int:=if l.any g then (l.findIdx g:Int) else -1
theorem za9 {α:Type} {g:α->Bool} {l:List α} {i:Nat} {p:α} (hp:l[i]?=some p) (h:g p=true) (hb:∀(j:Nat) (q:α),j<i->l[j]?=some q->g q=false):zhx g l=(i:Int):=by
 have hi:i<l.length:=(zd.1 hp).1;have e:l[i]=p:=(zd.1 hp).2;rw[zhx,if_pos (zes hp h)];(congr 1);refine List.findIdx_eq hi |>.2 ⟨by rw[e];exact h,fun j hj=>?_⟩;exact hb j _ hj (zb tz1)
theorem za7 {α:Type} {g:α->Bool} {l:List α} (hb:∀(j:Nat) (q:α),j<l.length->l[j]?=some q->g q=false):zhx g l=-1:=by
 rw[zhx,zcO hb];rfl
theorem zg1 {α:Type} {g:α->Bool} {l:List α}:decide (zhx g l>=0)=l.any g:=by
 unfold zhx;split;(·rename_i h;rw[h];simp);rename_i h;simp at h;simp;exact h
theorem zeN (ps:List Ty) (g:Nat) (f:Ty->Bool) (hf:∀p∈ps,APure Tryz.prog g [.agg p.cells] (.v (.bool (f p)))):APure Tryz.prog 170 [.sl 3 (ps.map Ty.cells),.clo g []] (.v (.int .i64 (zhx f ps))):=by
  refine APure.mkL (.cons (Ty.dataSl ps) (.cons (.clo (fun _ h=>by cases h)) .nil)) (.v _) ?_;refine aIn Tryz.func170 fun hm=>?_;simp only[Tryz.ntmps170,Tryz.results170,go_sem,seval];have hm1:=hm.len (sz:=3) (xs:=ps.map Ty.cells) tz4;rw[zi] at hm1;(have hm2:∀i:Nat,i<ps.length->IntKind.i64.wrap ((i:Int)+1)=(i:Int)+1:=fun i hi=>zac tz1 (by simp only[maxLen] at hm1;omega));refine sqD ?_;refine zM fun _ y=>?_;refine sqD ?_;apply zU;refine zad (σ:=Nat) (mB 19 387) (fun s=>s<=ps.length/\∀(i:Nat) (p:Ty),i<s->ps[i]?=some p->f p=false) (fun s=>[(8,.v (.int .i64 (s:Int)))]) (fun s=>[]) (fun s=>ps.length-s) 0 (⟨by omega,fun i p hi=>by omega⟩) ?_ (fun s hs=>?_)
  ·
   simp only[go_sem,seval];exact za5
  simp only[go_sem,seval];refine sqD ?_;refine zM fun _ u=>?_;apply zO rfl <;> intro hb9
  ·
   (have hk:s<ps.length:=by simpa using hb9);obtain ⟨p,hp⟩:∃p,ps[s]?=some p:=⟨_,zb hk⟩;have hw:=hm2 s hk;apply zS;apply u;refine zM fun _ u=>?_;apply zU;refine sqR fun _ w=>?_;simp only[↓bO,go_sem,seval,hk,gM hp,za,hw];apply w;refine sqR fun _ w=>?_;refine chS 4 ?_ (by intro _ q;simp only[↓bO,go_sem,seval,hk,gM hp,za,hw];exact q);refine chS 1 ?_ (by intro _ q;simp only[↓bO,go_sem,seval,hk,gM hp,za,hw];exact q);simp only[↓bO,go_sem,seval,hk,gM hp,za,hw];refine APure.call (hf p (zg hp)) ?_;apply w;apply zO rfl <;> intro hb16
   ·
    refine sqR fun _ w=>?_;simp only[↓bO,go_sem,seval,hk,gM hp,za,hw];apply w;apply zP;(try simp only[go_sem]);refine Le.of_eq (congrArg (fun n=>AV.v (.int .i64 n)) ?_);first | (rw[za9 hp (by exact hb16) hs.2];done) | (rw[za7 (fun i p hi h1=>hs.2 i p tz1 h1)];done)
   apply zS;apply u;apply zN;simp only[↓bO,go_sem,seval,hk,gM hp,za,hw];refine ⟨(s+1),⟨by omega,fun i p' hi h1=>(by rcases zI i s with h3 | h3 <;> first | exact hs.2 i p' h3 h1 | (obtain rfl:i=s:=tz1;rw[hp] at h1;cases h1;exact hb16))⟩,by omega,?_⟩;simp only[go_sem,seval,hk,gM hp,za,zm,hw];exact za5
  (have hk:s=ps.length:=by have:=hs.1;simp at hb9;omega);apply zae;simp only[zaf,z8,zY,bA,Nat.reduceEqDiff,↓reduceIte];apply y;refine sqD ?_;apply zP;(try simp only[go_sem]);refine Le.of_eq (congrArg (fun n=>AV.v (.int .i64 n)) ?_);first | (rw[za9 hp (by exact hb16) hs.2];done) | (rw[za7 (fun i p hi h1=>hs.2 i p tz1 h1)];done)
theorem zbR (ps:List Ty) (g:Nat) (f:Ty->Bool) (hf:∀p∈ps,APure Tryz.prog g [.agg p.cells] (.v (.bool (f p)))):APure Tryz.prog 122 [.sl 3 (ps.map Ty.cells),.clo g []] (.v (.bool (ps.any f))):=by
 refine APure.mkL (.cons (Ty.dataSl ps) (.cons (.clo (fun _ h=>by cases h)) .nil)) (.v _) ?_;refine aIn Tryz.func122 fun hm=>?_;simp only[Tryz.ntmps122,Tryz.results122,go_sem,seval];refine sqR fun _ u=>?_;simp only[↓bO,go_sem,seval,zg1];apply u;refine sqR fun _ u=>?_;refine chS 2 ?_ (by intro _ q;simp only[↓bO,go_sem,seval,zg1];exact q);refine zL 1 fun _ y=>?_;simp only[↓bO,go_sem,seval,zg1];refine APure.call (zeN ps g f hf) ?_;apply y;clear y;simp only[↓bO,go_sem,seval,zg1];apply u;apply zP;exact Le.refl _
theorem zjs {p:Ty} (h:APure Tryz.prog 81 [.agg p.cells] (.v (.bool p.right))):APure Tryz.prog 123 [.agg p.cells] (.v (.bool (!p.right))):=by
 refine APure.mkL (.cons p.dataAgg .nil) (.v _) ?_;refine aIn Tryz.func123 fun hm=>?_;simp only[Tryz.ntmps123,Tryz.results123,go_sem,seval];refine sqD ?_;refine sqR fun _ y=>?_;refine chS 1 ?_;refine zL 1 fun _ q=>?_;simp only[↓bO,go_sem,seval];refine APure.call (h) ?_;apply q;clear q;simp only[↓bO,go_sem,seval];apply y;apply zP;exact Le.refl _
theorem zco:∀(T:Ty),APure Tryz.prog 81 [.agg T.cells] (.v (.bool T.right)):=by
  refine Ty.ind fun T ih=>?_;refine APure.mkL (.cons T.dataAgg .nil) (.v _) ?_;refine aIn Tryz.func81 fun hm=>?_;simp only[Tryz.ntmps81,Tryz.results81,go_sem,seval];refine sqD ?_;refine sqR fun _ y=>?_;refine chS 1 ?_;refine zL 1 fun _ q=>?_;simp only[↓bO,go_sem,seval];refine APure.call (zlk T) ?_;apply q;clear q;refine chS 1 ?_;simp only[go_sem];refine zX 5 rfl (fun hc5=>?_) (fun hc5=>?_)
  ·
   refine chS 2 ?_;refine zL 1 fun _ q=>?_;simp only[↓bO,go_sem,seval];refine APure.call (zbR T.ps 123 (fun p=>!p.right) (fun p hp=>zjs (ih p hp))) ?_;apply q;clear q;simp only[↓bO,go_sem,seval];apply y;apply zP;(try simp only[go_sem]);refine Le.of_eq (congrArg (fun b=>AV.v (.bool b)) ?_);rw[Ty.right_eq];first | (simp only[hc5];rfl) | (simp only[hc5,Bool.true_and];simp[List.not_any_eq_all_not])
  refine chS 4 ?_;simp only[↓bO,go_sem,seval];apply y;apply zP;(try simp only[go_sem]);refine Le.of_eq (congrArg (fun b=>AV.v (.bool b)) ?_);rw[Ty.right_eq];first | (simp only[hc5];rfl) | (simp only[hc5,Bool.true_and];simp[List.not_any_eq_all_not])
mutual
/-- a type whose variables have other numbers -/
def Ty.mapV (f:Int->Int):Ty->Ty
 | .mk k n ps=>.mk k (if k=1 then f n else n) (Ty.mapVL f ps)
def Ty.mapVL (f:Int->Int):List Ty->List Ty
 | []=>[]
 | p::ps=>Ty.mapV f p::Ty.mapVL f ps
end
theorem Ty.mapVL_eq (f:Int->Int):∀ps,Ty.mapVL f ps=ps.map (Ty.mapV f)
 | []=>by simp[Ty.mapVL]
 | p::ps=>by simp[Ty.mapVL,Ty.mapVL_eq f ps]
theorem Ty.mapV_eq (f:Int->Int) (t:Ty):t.mapV f=.mk t.k (if t.k=1 then f t.n else t.n) (t.ps.map (Ty.mapV f)):=by
 cases t;rw[Ty.mapV,Ty.mapVL_eq];rfl
theorem Ty.eta (t:Ty):Ty.mk t.k t.n t.ps=t:=by cases t;rfl
theorem Ty.mapV_id:∀t:Ty,t.mapV (fun n=>n)=t:=by
 refine Ty.ind fun t ih=>?_;rw[Ty.mapV_eq];have e:t.ps.map (Ty.mapV fun n=>n)=t.ps:=(List.map_congr_left ih).trans (List.map_id t.ps);rw[e];simp[Ty.eta]
mutual
def Ty.cnt:Ty->Nat
 | .mk _ _ ps=>1+Ty.cntL ps
def Ty.cntL:List Ty->Nat
 | []=>0
 | p::ps=>Ty.cnt p+Ty.cntL ps
end
theorem Ty.cnt_eq (t:Ty):t.cnt=1+Ty.cntL t.ps:=by cases t;simp[Ty.cnt,Ty.ps]
theorem Ty.cntL_append:∀(ps qs:List Ty),Ty.cntL (ps++qs)=Ty.cntL ps+Ty.cntL qs
 | [],qs=>by simp[Ty.cntL]
 | p::ps,qs=>by simp[Ty.cntL,Ty.cntL_append ps qs];omega
theorem Ty.cntL_step {ps:List Ty} {s:Nat} {p:Ty} (hp:ps[s]?=some p):Ty.cntL (ps.take s)+p.cnt<=Ty.cntL ps:=by
 (have h1:Ty.cntL (ps.take (s+1))=Ty.cntL (ps.take s)+p.cnt:=by rw[List.take_add_one,hp,Ty.cntL_append];simp[Ty.cntL]);(have h2:Ty.cntL ps=Ty.cntL (ps.take (s+1))+Ty.cntL (ps.drop (s+1)):=by rw[<- Ty.cntL_append,List.take_append_drop]);omega
theorem Ty.cntL_take {ps:List Ty} {s:Nat} {p:Ty} (hp:ps[s]?=some p):Ty.cntL (ps.take (s+1))=Ty.cntL (ps.take s)+p.cnt:=by
 rw[List.take_add_one,hp,Ty.cntL_append];simp[Ty.cntL]
theorem Ty.cntL_len:∀ps,ps.length<=Ty.cntL ps
 | []=>by simp
 | p::ps=>by
  have:=Ty.cntL_len ps;(have h2:1<=p.cnt:=by rw[Ty.cnt_eq];omega);simp[Ty.cntL];omega
theorem zV {α β:Type} (f:α->β) {ps:List α} {s:Nat} {p:α} (hp:ps[s]?=some p):(ps.take (s+1)).map f=(ps.take s).map f++[f p]:=by
 rw[List.take_add_one,hp];simp
theorem Ty.cnt_mem {p:Ty}:∀{ps:List Ty},p∈ps->p.cnt<=Ty.cntL ps
 | q::ps,h=>by
  simp only[Ty.cntL];(rcases zH.1 h with rfl | h);(·omega);have:=Ty.cnt_mem h;omega
theorem zby (n:Int):APure Tryz.prog 37 [.v (.int .i64 n)] (.agg (Ty.mk 1 n []).cells):=by
 refine APure.mkL (.cons (.v _) .nil) ((Ty.dataAgg _)) ?_;refine aIn Tryz.func37 fun hm=>?_;simp only[Tryz.ntmps37,Tryz.results37,go_sem,seval];(iterate 2 (refine zM fun _ q=>?_;apply zN;simp only[↓bO,go_sem,seval];apply q));apply zP;(try simp only[zaf,z8,zY,zbH,zbc,zau,bS,bA,zav,zaa,za4,bL,Nat.reduceAdd,Nat.reduceLeDiff,Nat.reduceEqDiff,↓reduceIte,zcI,tyX]);refine Le.agg ?_;rw[Ty.cells_eq];exact ⟨.refl _,.refl _,Le.slNil 3,trivial⟩
theorem tz5 {p:Prop} (h:p:=by simp only;omega):p:=h
theorem clz2 {p:Prop} (h:p:=by exact Weak.mk (by simp only[go_sem,Le.refl,Le.any]) (fun _ _ h=>h) rfl rfl):p:=h
theorem zjL:∀(T:Ty) (g:Nat) (caps:List AV) (φ:Int->Int) (hd:DataL caps) (hφ:∀n:Int,APure Tryz.prog g (.v (.int .i64 n)::caps) (.v (.int .i64 (φ n)))) (hT:T.cnt<=1099511627776),APure Tryz.prog 127 [.agg T.cells,.clo g caps] (.agg (T.mapV φ).cells):=by
  refine Ty.ind fun T ih=>?_;intro g caps φ hd hφ hT;refine APure.mkL (.cons T.dataAgg (.cons (.clo hd) .nil)) ((Ty.dataAgg _)) ?_;refine aIn Tryz.func127 fun hm=>?_;simp only[Tryz.ntmps127,Tryz.results127,go_sem,seval];have hm1:=hm.wide (t:=T) tz4;have hcn:=T.cnt_eq;have hcl:=Ty.cntL_len T.ps;simp only[Ty.cells_eq T,zC,List.nil_append];refine sqD ?_;refine zaC (mB 33 22) ([]) ([(0,.cells 26 [.v (.int .i64 T.k),.v (.int .i64 (if T.k=1 then φ T.n else T.n)),.sl 3 (T.ps.map Ty.cells)])]) ?_ ?_
  ·
   refine sqD ?_;apply zO rfl <;> intro hb10
   ·
    apply zN;refine chS 3 ?_;refine zL 1 fun _ y=>?_;simp only[↓bO,go_sem,seval];refine APure.call ((hφ T.n)) ?_;apply y;clear y;simp only[↓bO,go_sem,seval];(try simp only[go_sem,seval]);(first | rw[if_pos (by simpa using hb10)] | rw[if_neg (by simpa using hb10)]);exact clz2
   apply zS;(try simp only[go_sem]);(try simp only[go_sem,seval]);(first | rw[if_pos (by simpa using hb10)] | rw[if_neg (by simpa using hb10)]);exact clz2
  simp only[go_sem,seval];refine sqD ?_;refine zM fun _ u=>?_;refine sqD ?_;apply zU;refine zap (Weak.tokSlot 5 26 3 rfl) ?_;simp only[go_sem];refine zad (σ:=Nat) (mB 33 917558) (fun s=>s<=T.ps.length) (fun s=>[(5,.osl 2 3 (((T.ps.take s).map (Ty.mapV φ)).map Ty.cells)),(19,.v (.int .i64 (s:Int)))]) (fun s=>[(2,.tok 26 3 s)]) (fun s=>T.ps.length-s) 0 tz1 ?_ (fun s hs=>?_)
  ·
   simp only[go_sem,seval,bL];exact za5
  simp only[go_sem,seval];refine sqD ?_;refine zM fun _ w=>?_;apply zO rfl <;> intro hb20
  ·
   (have hk:s<T.ps.length:=by simpa using hb20);obtain ⟨p,hp⟩:∃p,T.ps[s]?=some p:=⟨_,zb hk⟩;have hpm:=Ty.cnt_mem (zg hp);have hw:IntKind.i64.wrap ((s:Int)+1)=(s:Int)+1:=zac tz1 tz1;(have hln:(((T.ps.take s).map (Ty.mapV φ)).map Ty.cells).length=s:=by simp;omega);(have hb1:(s+1) * 40<=140737488355328:=by omega);(have hb2:s+1<=maxLen:=by simp only[maxLen];omega);apply zS;apply w;refine zM fun _ w=>?_;apply zU;refine sqR fun _ z=>?_;simp only[↓bO,go_sem,seval,hk,gM hp,za,hw,hln,hb1,hb2,zf,zV (Ty.mapV φ) hp];apply z;apply zN;refine chS 3 ?_ (by intro _ q;simp only[↓bO,go_sem,seval,hk,gM hp,za,hw,hln,hb1,hb2,zf,zV (Ty.mapV φ) hp];exact q);refine zL 1 fun _ y=>?_;simp only[↓bO,go_sem,seval,hk,gM hp,za,hw,hln,hb1,hb2,zf,zV (Ty.mapV φ) hp];refine APure.call (ih p (zg hp) g caps φ hd hφ tz1) ?_;apply y;clear y;simp only[↓bO,go_sem,seval,↓zbu,↓zbw,↓zbA,↓zbC,↓zbt,↓zbE,↓zbB,↓zbG,↓zbv,↓zaP,↓zaQ,↓zaR,hk,gM hp,za,hw,hln,hb1,hb2,zf,zV (Ty.mapV φ) hp];apply w;apply zN;simp only[↓bO,go_sem,seval,hk,gM hp,za,hw,hln,hb1,hb2,zf,zV (Ty.mapV φ) hp];refine ⟨(s+1),tz1,by omega,?_⟩;simp only[go_sem,seval,hk,gM hp,za,zm,hw,hln,hb1,hb2,zf,bL,zV (Ty.mapV φ) hp];(first | (refine Weak.drops 1 3 rfl rfl tz5 tz5 ?_ ?_ ?_) | (refine Weak.drops 0 3 rfl rfl tz5 tz5 ?_ ?_ ?_));(· simp only[go_sem,Le.refl,Le.any,za,Int.cast_ofNat_Int,zm]);(· simp only[UndL,UndOs,Ob.Und,and_true,true_and,and_self,Und.v,Und.any,Und.ptr,Und.map,Nat.reduceLT,zy,Und.tys,Und.tyAgg,Und.oslTys,Und.oslTys1,Und.clo0,Und.ty,Und.data (n:=3) (Data.clo (f:=g) hd)]);simp only[UndL,UndOs,Ob.Und,and_true,true_and,and_self,Und.v,Und.any,Und.ptr,Und.map,Nat.reduceLT,zy,Und.tys,Und.tyAgg,Und.oslTys,Und.oslTys1,Und.clo0,Und.ty,Und.data (n:=3) (Data.clo (f:=g) hd)]
  (have hk:s=T.ps.length:=by simp at hb20;omega);apply zae;simp only[zaf,z8,zY,bA,Nat.reduceEqDiff,↓reduceIte];(iterate 2 (apply u;refine zM fun _ u=>?_;apply zN;simp only[↓bO,go_sem,seval]));apply u;apply zP;(try simp only[zaf,z8,zY,zbH,zbc,zau,bS,bA,zav,zaa,za4,bL,Nat.reduceAdd,Nat.reduceLeDiff,Nat.reduceEqDiff,↓reduceIte,zcI,tyX]);refine Le.agg ?_;rw[Ty.mapV_eq,Ty.cells_eq,hk,zp];exact ⟨.refl _,.refl _,Le.oslL,trivial⟩
theorem zkK (n:Int):APure Tryz.prog 128 [.v (.int .i64 n)] (.v (.int .i64 n)):=by
 refine APure.mkL (.cons (.v _) .nil) (.v _) ?_;refine aIn Tryz.func128 fun hm=>?_;simp only[Tryz.ntmps128,Tryz.results128,go_sem,seval];(iterate 2 (refine zM fun _ q=>?_;apply zN;simp only[↓bO,go_sem,seval];apply q));apply zP;exact Le.refl _
theorem zbT (T:Ty) (hT:T.cnt<=1099511627776):APure Tryz.prog 85 [.agg T.cells] (.agg T.cells):=by
 refine APure.mkL (.cons T.dataAgg .nil) (T.dataAgg) ?_;refine aIn Tryz.func85 fun hm=>?_;simp only[Tryz.ntmps85,Tryz.results85,go_sem,seval];simp only[Ty.cells_eq T,zC,List.nil_append];refine sqD ?_;refine sqR fun _ y=>?_;refine chS 1 ?_;refine zL 1 fun _ q=>?_;simp only[↓bO,go_sem,seval];refine APure.call (by have h9:=zjL T 128 [] (fun n=>n) (fun _ h=>by cases h) (fun n=>zkK n) hT;rw[Ty.mapV_id,Ty.cells_eq T] at h9;exact h9) ?_;apply q;clear q;simp only[↓bO,go_sem,seval];apply y;apply zP;(try simp only[zaf,z8,zY,zbH,zbc,zau,bS,bA,zav,zaa,za4,bL,Nat.reduceAdd,Nat.reduceLeDiff,Nat.reduceEqDiff,↓reduceIte,zcI]);exact Le.refl _
def zgy:List Ty->Ty
 | []=>.mk 0 0 []
 | [t]=>t
 | t::ts=>.mk 4 0 [t,zgy ts]
theorem zk4 {ps:List Ty} (h:ps.length=0):zgy ps=.mk 0 0 []:=by rw[List.length_eq_zero_iff.1 h];rfl
theorem zgi {ps:List Ty} {p:Ty} (h:ps.length=1) (hp:ps[0]?=some p):zgy ps=p:=by
 match ps,h,hp with
 | [t],_,hp=>simp at hp;rw[<- hp];rfl
theorem zfn {ps:List Ty} {p:Ty} (h:2<=ps.length) (hp:ps[0]?=some p):zgy ps=.mk 4 0 [p,zgy (ps.drop 1)]:=by
 match ps,h,hp with
 | t::u::ts,_,hp=>simp at hp;rw[<- hp];rfl
theorem zgp:∀(n:Nat) (ps:List Ty),ps.length=n->Ty.cntL ps<=1099511627776->APure Tryz.prog 36 [.sl 3 (ps.map Ty.cells)] (.agg (zgy ps).cells):=by
  intro n
  induction n with
  | zero =>
    intro ps hn hc;refine APure.mkL (.cons (Ty.dataSl ps) .nil) (Ty.dataAgg _) ?_;(have h0:((ps.length:Int)==0)=true:=by simp;exact List.length_eq_zero_iff.1 hn);refine aIn Tryz.func36 fun hm=>?_;simp only[Tryz.ntmps36,Tryz.results36,go_sem,seval];refine sqR fun _ u=>?_;simp only[↓bO,go_sem,seval,h0];apply u;refine zM fun _ u=>?_;refine sqR fun _ w=>?_;simp only[↓bO,go_sem,seval,h0];apply w;apply zU;refine sqR fun _ w=>?_;simp only[↓bO,go_sem,seval,h0];apply w;apply zO rfl <;> intro hb5
    ·
     refine sqR fun _ w=>?_;simp only[↓bO,go_sem,seval,h0];apply w;apply zP;(try simp only[zaf,z8,zY,zbH,zbc,zau,bS,bA,zav,zaa,za4,bL,Nat.reduceAdd,Nat.reduceLeDiff,Nat.reduceEqDiff,↓reduceIte,zcI,h0]);refine Le.agg ?_;rw[zk4 hn,Ty.cells_eq];exact ⟨.refl _,.refl _,Le.slNil 3,trivial⟩
    cases hb5
  | succ n ih =>
    intro ps hn hc;refine APure.mkL (.cons (Ty.dataSl ps) .nil) (Ty.dataAgg _) ?_;obtain ⟨p,hp⟩:∃p,ps[0]?=some p:=⟨_,zb tz1⟩;have hpc:=Ty.cnt_mem (zg hp);(have hlt:(0:Int)<(ps.length:Int):=by omega);(have hle:(1:Int)<=(ps.length:Int):=by omega);(have hdr:(ps.map Ty.cells).drop 1=(ps.drop 1).map Ty.cells:=by rw[List.map_drop]);(have hdc:Ty.cntL (ps.drop 1)<=Ty.cntL ps:=by have h9:=Ty.cntL_append (ps.take 1) (ps.drop 1);rw[List.take_append_drop] at h9;omega);refine aIn Tryz.func36 fun hm=>?_;simp only[Tryz.ntmps36,Tryz.results36,go_sem,seval];refine sqR fun _ u=>?_;simp only[↓bO,go_sem,seval,hlt,hle,hdr,gM hp];apply u;refine zM fun _ u=>?_;refine sqR fun _ w=>?_;simp only[↓bO,go_sem,seval,hlt,hle,hdr,gM hp];apply w;apply zU;refine sqR fun _ w=>?_;simp only[↓bO,go_sem,seval,hlt,hle,hdr,gM hp];apply w;apply zO rfl <;> intro hb5
    ·
     exact absurd hb5 (by simp only[AV.v.injEq,Value.bool.injEq,beq_iff_eq];omega)
    refine sqR fun _ w=>?_;simp only[↓bO,go_sem,seval,hlt,hle,hdr,gM hp];apply w;apply zO rfl <;> intro hb8
    ·
     (have h1:ps.length=1:=by simp at hb8;omega);refine sqR fun _ w=>?_;refine chS 3 ?_ (by intro _ q;simp only[↓bO,go_sem,seval,hlt,hle,hdr,gM hp];exact q);refine zL 1 fun _ y=>?_;simp only[↓bO,go_sem,seval,hlt,hle,hdr,gM hp];refine APure.call (zbT p tz1) ?_;apply y;clear y;simp only[↓bO,go_sem,seval,hlt,hle,hdr,gM hp];apply w;apply zP;(try simp only[zaf,z8,zY,zbH,zbc,zau,bS,bA,zav,zaa,za4,bL,Nat.reduceAdd,Nat.reduceLeDiff,Nat.reduceEqDiff,↓reduceIte,zcI,tyX,hlt,hle,hdr,gM hp]);refine Le.agg ?_;first | (rw[zgi h1 hp];exact LeL.refl _) | (rw[zfn h1 hp,Ty.cells];exact ⟨.refl _,.refl _,Le.of_eq (by simp[Ty.cellsL]),trivial⟩)
    (have h1:2<=ps.length:=by simp at hb8;omega);apply zS;apply u;refine zM fun _ u=>?_;refine zaG 9 mixed tz0 fun J0 j0=>?_;simp only[go_sem];refine z7 3 fun _ y=>?_;simp only[↓zaE,↓dOp,↓bO,go_sem,seval,hlt,hle,hdr,gM hp];apply y;clear y;refine z7 1 fun _ y=>?_;simp only[↓zaE,↓dOp,↓bO,go_sem,seval,hlt,hle,hdr,gM hp];refine ⟨_,zbT p tz1,?_⟩;apply y;clear y;refine z7 2 fun _ y=>?_;simp only[↓zaE,↓dOp,↓bO,go_sem,seval,hlt,hle,hdr,gM hp];apply y;clear y;refine z7 1 fun _ y=>?_;simp only[↓zaE,↓dOp,↓bO,go_sem,seval,hlt,hle,hdr,gM hp];refine ⟨_,ih (ps.drop 1) tz7 tz1,?_⟩;apply y;clear y;simp only[↓zaE,↓dOp,↓bO,go_sem,seval,↓zjW,↓ziR,↓ziQ,↓zjN,↓zjS,↓ziX,↓zjR,↓zjr,↓zi3,↓zfi,↓zfj,↓zfr,hlt,hle,hdr,gM hp];refine j0 _ ?_;clear j0 J0;simp only[go_sem];simp only[↓bO,go_sem,seval,hlt,hle,hdr,gM hp];apply u;apply zP;(try simp only[zaf,z8,zY,zbH,zbc,zau,bS,bA,zav,zaa,za4,bL,Nat.reduceAdd,Nat.reduceLeDiff,Nat.reduceEqDiff,↓reduceIte,zcI,tyX,hlt,hle,hdr,gM hp]);refine Le.agg ?_;first | (rw[zgi h1 hp];exact LeL.refl _) | (rw[zfn h1 hp,Ty.cells];exact ⟨.refl _,.refl _,Le.of_eq (by simp[Ty.cellsL]),trivial⟩)
mutual
def Ty.room:Ty->Int->Nat->Int
 | .mk _ _ _,_,0=>-1
 | .mk _ _ ps,n,d+1=>Ty.roomL ps (n-1) d
def Ty.roomL:List Ty->Int->Nat->Int
 | [],n,_=>n
 | p::ps,n,d=>if n<0 then n else Ty.roomL ps (Ty.room p n d) d
end
theorem Ty.room_zero (t:Ty) (n:Int):t.room n 0=-1:=by cases t;simp[Ty.room]
theorem Ty.room_succ (t:Ty) (n:Int) (d:Nat):t.room n (d+1)=Ty.roomL t.ps (n-1) d:=by cases t;simp[Ty.room,Ty.ps]
theorem Ty.roomL_neg:∀(ps:List Ty) {n:Int} {d:Nat},n<0->Ty.roomL ps n d=n
 | [],n,d,h=>by simp[Ty.roomL]
 | p::ps,n,d,h=>by simp[Ty.roomL,h]
theorem Ty.roomL_append:∀(xs bs:List Ty) (n:Int) (d:Nat),Ty.roomL (xs++bs) n d=Ty.roomL bs (Ty.roomL xs n d) d
 | [],bs,n,d=>by simp[Ty.roomL]
 | x::xs,bs,n,d=>by
  simp only[zC,Ty.roomL];split;(·rename_i h;rw[Ty.roomL_neg bs h]);exact Ty.roomL_append xs bs _ d
theorem Ty.room_le:∀(t:Ty) (n:Int) (d:Nat),0<=n->-1<=t.room n d/\t.room n d<=n-1:=by
 refine Ty.ind fun t ih=>?_
 have key:∀(ps:List Ty),(∀p∈ps,∀(n:Int) (d:Nat),0<=n->-1<=p.room n d/\p.room n d<=n-1)->∀(n:Int) (d:Nat),-1<=n->-1<=Ty.roomL ps n d/\Ty.roomL ps n d<=n:=by
  intro ps
  induction ps with
  | nil=>intro _ n d h;simp[Ty.roomL];exact h
  | cons p ps ihp =>
   intro hp n d h;simp only[Ty.roomL];split;(·omega);have h1:=hp p tz4 n d tz1;have h2:=ihp (fun q hq=>hp q (by simp[hq])) (p.room n d) d h1.1;omega
 intro n d h
 cases d with
 | zero=>rw[Ty.room_zero];omega
 | succ d =>
  rw[Ty.room_succ];have:=key t.ps ih (n-1) d tz1;omega
theorem Ty.roomL_le (ps:List Ty) (n:Int) (d:Nat) (h:-1<=n):-1<=Ty.roomL ps n d/\Ty.roomL ps n d<=n:=by
 have:=Ty.room_le (.mk 0 0 ps) (n+1) (d+1) tz1;rw[Ty.room_succ] at this;simp only[Ty.ps] at this;rw[show n+1-1=n by omega] at this;exact this
theorem Ty.roomL_step {ps:List Ty} {s:Nat} {p:Ty} (hp:ps[s]?=some p) (n:Int) (d:Nat) (h:0<=Ty.roomL (ps.take s) n d):Ty.roomL (ps.take (s+1)) n d=p.room (Ty.roomL (ps.take s) n d) d:=by
 rw[List.take_add_one,hp,Ty.roomL_append];simp only[Option.toList_some,Ty.roomL];rw[if_neg tz1]
theorem Ty.roomL_stop (ps:List Ty) (s:Nat) (n:Int) (d:Nat) (h:Ty.roomL (ps.take s) n d<0):Ty.roomL ps n d=Ty.roomL (ps.take s) n d:=by
 conv=>lhs;rw[<- List.take_append_drop s ps]
 rw[Ty.roomL_append,Ty.roomL_neg _ h]
theorem room_pure:∀(T:Ty) (n:Int) (d:Nat) (hn:0<=n) (hn2:n<=1099511627776) (hd:d<=1099511627776),APure Tryz.prog 103 [.agg T.cells,.v (.int .i64 n),.v (.int .i64 d)] (.v (.int .i64 (T.room n d))):=by
  refine Ty.ind fun T ih=>?_;intro n d hn hn2 hd;refine APure.mkL (.cons T.dataAgg (.cons (.v _) (.cons (.v _) .nil))) (.v _) ?_;refine aIn Tryz.func103 fun hm=>?_;simp only[Tryz.ntmps103,Tryz.results103,go_sem,seval];have hm1:=hm.wide (t:=T) tz4;have hw1:IntKind.i64.wrap (n-1)=n-1:=zac tz1 tz1;(iterate 2 (refine zM fun _ u=>?_;apply zN;simp only[↓bO,go_sem,seval,hw1];apply u));refine zM fun _ u=>?_;refine sqR fun _ w=>?_;simp only[↓bO,go_sem,seval,hw1];apply w;apply zO rfl <;> intro hb11
  ·
   (have hd0:d=0:=by simpa using hb11);refine sqR fun _ w=>?_;simp only[↓bO,go_sem,seval,hw1];apply w;apply zP;(try simp only[go_sem]);refine Le.of_eq (congrArg (fun n=>AV.v (.int .i64 n)) ?_);(first | (rw[hd0,Ty.room_zero];done) | skip);all_goals (rw[Ty.room_succ];simp only[zc] at hb20;rcases zI s T.ps.length with h5 | h5 <;> first | (rw[List.take_of_length_le h5];done) | (rw[Ty.roomL_stop T.ps s _ _ tz1];done))
  obtain ⟨e,rfl⟩:∃e,d=e+1:=⟨d-1,by simp at hb11;omega⟩;(have hw2:IntKind.i64.wrap ((e:Int)+1-1)=(e:Int):=by rw[zac tz1 tz1];omega);apply zS;apply u;refine zM fun _ u=>?_;refine sqR fun _ w=>?_;simp only[↓bO,go_sem,seval,hw1];apply w;apply zU;refine zad (σ:=Nat) (mB 33 142) (fun s=>s<=T.ps.length) (fun s=>[(1,.v (.int .i64 (Ty.roomL (T.ps.take s) (n-1) e))),(7,.v (.int .i64 (s:Int)))]) (fun s=>[]) (fun s=>T.ps.length-s) 0 tz1 ?_ (fun s hs=>?_)
  ·
   simp only[go_sem,seval,bL,Ty.roomL];exact za5
  simp only[go_sem,seval];refine zM fun _ w=>?_;refine zaC (mB 33 1048718) ([(20,.v (.bool (decide (s<T.ps.length/\0<=Ty.roomL (T.ps.take s) (n-1) e))))]) ([]) ?_ ?_
  ·
   apply zN;refine chS 4 ?_ (by intro _ q;simp only[↓bO,go_sem,seval,hw1];exact q);refine chS 2 ?_ (by intro _ q;simp only[↓bO,go_sem,seval,hw1];exact q);simp only[go_sem];refine zX 17 rfl (fun hc17=>?_) (fun hc17=>?_)
   ·
    simp only[go_sem];simp only[↓bO,go_sem,seval,hw1];(try simp only[go_sem,seval]);refine Weak.mk ?_ (fun _ _ h=>h) rfl rfl;simp only[go_sem,Le.refl,Le.any];all_goals (refine Le.of_eq (congrArg (fun b=>AV.v (.bool b)) ?_);rw[zK];simp only[ze,zc,ge_iff_le,zr,false_iff,Int.ofNat_lt] at *;omega)
   simp only[go_sem];simp only[↓bO,go_sem,seval,hw1];(try simp only[go_sem,seval]);refine Weak.mk ?_ (fun _ _ h=>h) rfl rfl;simp only[go_sem,Le.refl,Le.any];all_goals (refine Le.of_eq (congrArg (fun b=>AV.v (.bool b)) ?_);rw[zK];simp only[ze,zc,ge_iff_le,zr,false_iff,Int.ofNat_lt] at *;omega)
  simp only[go_sem,seval];apply zO rfl <;> intro hb20
  ·
   (have hk:s<T.ps.length:=by simp only[ze] at hb20;exact hb20.1);obtain ⟨p,hp⟩:∃p,T.ps[s]?=some p:=⟨_,zb hk⟩;have hw:IntKind.i64.wrap ((s:Int)+1)=(s:Int)+1:=zac tz1 (by have:=hm1.len;simp only[maxLen] at this;omega);(have hrm:0<=Ty.roomL (T.ps.take s) (n-1) e:=by simp only[ze] at hb20;exact hb20.2);have hrl:=Ty.roomL_le (T.ps.take s) (n-1) e tz1;apply zS;apply w;refine zM fun _ w=>?_;apply zU;apply zN;(iterate 2 (refine chS 4 ?_ (by intro _ q;simp only[↓bO,go_sem,seval,hw1,hk,gM hp,za,hw,Ty.roomL_step hp (n-1) e hrm,hw2];exact q)));refine zL 1 fun _ y=>?_;simp only[↓bO,go_sem,seval,hw1,hk,gM hp,za,hw,Ty.roomL_step hp (n-1) e hrm,hw2];refine APure.call (ih p (zg hp) _ e hrm tz1 tz1) ?_;apply y;clear y;simp only[↓bO,go_sem,seval,hw1,hk,gM hp,za,hw,Ty.roomL_step hp (n-1) e hrm,hw2];apply w;apply zN;simp only[↓bO,go_sem,seval,hw1,hk,gM hp,za,hw,Ty.roomL_step hp (n-1) e hrm,hw2];refine ⟨(s+1),tz1,by omega,?_⟩;simp only[go_sem,seval,hk,gM hp,za,zm,hw,Ty.roomL_step hp (n-1) e hrm,hw2];exact za5
  apply zae;simp only[zaf,z8,zY,bA,Nat.reduceEqDiff,↓reduceIte];apply u;refine sqR fun _ u=>?_;simp only[↓bO,go_sem,seval,hw1];apply u;apply zP;(try simp only[go_sem]);refine Le.of_eq (congrArg (fun n=>AV.v (.int .i64 n)) ?_);(first | (rw[hd0,Ty.room_zero];done) | skip);all_goals (rw[Ty.room_succ];simp only[zc] at hb20;rcases zI s T.ps.length with h5 | h5 <;> first | (rw[List.take_of_length_le h5];done) | (rw[Ty.roomL_stop T.ps s _ _ tz1];done))
abbrev intC (x:Int):List AV:=[.v (.int .i64 x)]
theorem zag (l:List Int):Data (.sl 1 (l.map intC)):=.sl fun x hx=>by
 obtain ⟨y,_,rfl⟩:=zA.1 hx;exact .cons (.v _) .nil
theorem ints_one (l:List Int):((l.map intC).all fun y=>y.all AV.one)=true:=by
 rw[zB];intro y hy;obtain ⟨r,_,rfl⟩:=zA.1 hy;rfl
theorem zd6 {n:Nat} {l:List Int}:Und n (.sl 1 (l.map intC)):=.data (zag l)
structure RNode where
 t:Ty
 parts:List Int
def RNode.cells (r:RNode):List AV:=[.v (.int .i64 r.t.k),.v (.int .i64 r.t.n),.sl 3 (r.t.ps.map Ty.cells),.sl 1 (r.parts.map intC)]
theorem zfS (A B:List Int):APure Tryz.prog 50 [.sl 1 (A.map intC),.sl 1 (B.map intC)] (.v (.bool (decide (A=B)))):=by
  refine APure.mkL (.cons (zag A) (.cons (zag B) .nil)) (.v _) ?_;refine aIn Tryz.func50 fun hm=>?_;simp only[Tryz.ntmps50,Tryz.results50,go_sem,seval];have hm1:=hm.len (sz:=1) (xs:=A.map intC) tz4;rw[zi] at hm1;refine sqD ?_;refine zM fun _ u=>?_;refine sqR fun _ w=>?_;refine chS 4 ?_;simp only[↓bO,go_sem,seval];apply w;apply zO rfl <;> intro hb10
  ·
   refine sqD ?_;apply zP;(try simp only[go_sem]);refine Le.of_eq (congrArg (fun b=>AV.v (.bool b)) ?_)
   symm
   first | (rw[zc];intro e;subst e;simp at hb10;done) | (rw[zc];intro e;subst e;rw[hp] at hq;cases hq;simp at hb25;done) | (rw[ze];apply List.ext_getElem hAB;intro i h1 h2;exact hs.2 i _ _ tz1 (zb h1) (zb h2))
  (have hAB:A.length=B.length:=by simp at hb10;omega);apply zS;apply u;refine zM fun _ u=>?_;refine sqD ?_;apply zU;refine zad (σ:=Nat) (mB 26 35) (fun s=>s<=A.length/\∀(i:Nat) (p q:Int),i<s->A[i]?=some p->B[i]?=some q->p=q) (fun s=>[(5,.v (.int .i64 (s:Int)))]) (fun s=>[]) (fun s=>A.length-s) 0 (⟨by omega,fun i p q hi=>by omega⟩) ?_ (fun s hs=>?_)
  ·
   simp only[go_sem,seval];exact za5
  simp only[go_sem,seval];refine zM fun _ w=>?_;refine sqD ?_;apply zO rfl <;> intro hb14
  ·
   (have hk:s<A.length:=by simpa using hb14);obtain ⟨p,hp⟩:∃p,A[s]?=some p:=⟨_,zb hk⟩;have hw:IntKind.i64.wrap ((s:Int)+1)=(s:Int)+1:=zac tz1 (by simp only[maxLen] at hm1;omega);(have hk2:s<B.length:=by omega);obtain ⟨q,hq⟩:∃q,B[s]?=some q:=⟨_,zb hk2⟩;apply zS;apply w;refine zM fun _ w=>?_;apply zU;refine zM fun _ z=>?_;refine zaG 9 mixed tz0 fun J0 j0=>?_;(iterate 2 (simp only[go_sem];refine z7 4 fun _ y=>?_;simp only[↓zaE,↓dOp,↓bO,go_sem,seval,hk,gM hp,za,hw,hk2,gM hq,intC];apply y;clear y));simp only[go_sem];simp only[↓zaE,↓dOp,↓bO,go_sem,seval,hk,gM hp,za,hw,hk2,gM hq,intC];refine j0 _ ?_;clear j0 J0;simp only[bL,aops,zaf,z8,zY];apply z;apply zO rfl <;> intro hb25
   ·
    refine sqR fun _ z=>?_;simp only[↓bO,go_sem,seval,hk,gM hp,za,hw,hk2,gM hq,intC];apply z;apply zP;(try simp only[go_sem]);refine Le.of_eq (congrArg (fun b=>AV.v (.bool b)) ?_)
    symm
    first | (rw[zc];intro e;subst e;simp at hb10;done) | (rw[zc];intro e;subst e;rw[hp] at hq;cases hq;simp at hb25;done) | (rw[ze];apply List.ext_getElem hAB;intro i h1 h2;exact hs.2 i _ _ tz1 (zb h1) (zb h2))
   apply zS;apply w;apply zN;simp only[↓bO,go_sem,seval,hk,gM hp,za,hw,hk2,gM hq,intC];refine ⟨(s+1),⟨by omega,fun i p' q' hi h1 h2=>(by rcases zI i s with h3 | h3 <;> first | exact hs.2 i p' q' h3 h1 h2 | (obtain rfl:i=s:=tz1;rw[hp] at h1;rw[hq] at h2;cases h1;cases h2;simpa using hb25))⟩,by omega,?_⟩;simp only[go_sem,seval,hk,gM hp,za,zm,hw,hk2,gM hq,intC];exact za5
  (have hk:s=A.length:=by have:=hs.1;simp at hb14;omega);apply zae;simp only[zaf,z8,zY,bA,Nat.reduceEqDiff,↓reduceIte];apply u;refine sqD ?_;apply zP;(try simp only[go_sem]);refine Le.of_eq (congrArg (fun b=>AV.v (.bool b)) ?_)
  symm
  first | (rw[zc];intro e;subst e;simp at hb10;done) | (rw[zc];intro e;subst e;rw[hp] at hq;cases hq;simp at hb25;done) | (rw[ze];apply List.ext_getElem hAB;intro i h1 h2;exact hs.2 i _ _ tz1 (zb h1) (zb h2))
def zhd {α:Type} (f:α->α->Bool):List α->List α->Bool
 | [],[]=>true
 | p::ps,q::qs=>f p q&&zhd f ps qs
 | _,_=>false
theorem ze5 {α:Type} {f:α->α->Bool}:∀{ps qs:List α},ps.length≠qs.length->zhd f ps qs=false
 | [],[],h=>by simp at h
 | [],_::_,_=>rfl
 | _::_,[],_=>rfl
 | p::ps,q::qs,h=>by simp only[zhd];rw[ze5 (by simpa using h)];simp
theorem zc5 {α:Type} {f:α->α->Bool}:∀{ps qs:List α} {k:Nat} {p q:α},ps[k]?=some p->qs[k]?=some q->f p q=false->zhd f ps qs=false
 | [],_,k,p,q,h,_,_=>by simp at h
 | _::_,[],k,p,q,_,h,_=>by simp at h
 | a::ps,b::qs,0,p,q,h1,h2,hf=>by simp at h1 h2;subst h1;subst h2;simp[zhd,hf]
 | a::ps,b::qs,k+1,p,q,h1,h2,hf=>by simp only[zhd];rw[zc5 (k:=k) (by simpa using h1) (by simpa using h2) hf];simp
theorem zdT {α:Type} {f:α->α->Bool}:∀{ps qs:List α},ps.length=qs.length->(∀(k:Nat) (p q:α),ps[k]?=some p->qs[k]?=some q->f p q=true)->zhd f ps qs=true
 | [],[],_,_=>rfl
 | [],_::_,h,_=>by simp at h
 | _::_,[],h,_=>by simp at h
 | a::ps,b::qs,h,hf=>by
  simp only[zhd];rw[hf 0 a b rfl rfl,zdT (by simpa using h) fun k p q hp hq=>hf (k+1) p q (by simpa using hp) (by simpa using hq)];rfl
theorem zcV:∀ps qs:List Ty,Ty.sameL ps qs=zhd Ty.same ps qs
 | [],[]=>by simp[Ty.sameL,zhd]
 | [],_::_=>by simp[Ty.sameL,zhd]
 | _::_,[]=>by simp[Ty.sameL,zhd]
 | p::ps,q::qs=>by simp[Ty.sameL,zhd,zcV ps qs]
def zbZ (l:List Int) (n:Int):List Int:=if l.any (fun x=>x==n) then l else l++[n]
mutual
def Ty.rvars:Ty->List Int->List Int
 | .mk k n ps,l=>Ty.rvarsL ps (if k=1 then zbZ l n else l)
def Ty.rvarsL:List Ty->List Int->List Int
 | [],l=>l
 | p::ps,l=>Ty.rvarsL ps (Ty.rvars p l)
end
theorem Ty.rvars_eq (t:Ty) (l:List Int):t.rvars l=Ty.rvarsL t.ps (if t.k=1 then zbZ l t.n else l):=by cases t;rw[Ty.rvars];rfl
theorem Ty.rvarsL_append:∀(ps qs:List Ty) (l:List Int),Ty.rvarsL (ps++qs) l=Ty.rvarsL qs (Ty.rvarsL ps l)
 | [],qs,l=>by simp[Ty.rvarsL]
 | p::ps,qs,l=>by simp[Ty.rvarsL,Ty.rvarsL_append ps qs]
theorem Ty.rvarsL_step {ps:List Ty} {s:Nat} {p:Ty} (hp:ps[s]?=some p) (l:List Int):Ty.rvarsL (ps.take (s+1)) l=p.rvars (Ty.rvarsL (ps.take s) l):=by
 rw[List.take_add_one,hp,Ty.rvarsL_append];simp[Ty.rvarsL]
theorem zbl (k n:Int) (l:List Int):(k=1->(l.any fun x=>x==n)=false->(if k=1 then zbZ l n else l)=l++[n])/\((l.any fun x=>x==n)=true->(if k=1 then zbZ l n else l)=l)/\(¬k=1->(if k=1 then zbZ l n else l)=l):=by
 refine ⟨fun h1 h2=>?_,fun h1=>?_,fun h1=>?_⟩;·rw[if_pos h1,zbZ,if_neg (by rw[h2];simp)]
 ·split
  (·rw[zbZ,if_pos h1]);rfl
 rw[if_neg h1]
theorem ze2 (l:List Int) (n:Int):(zbZ l n).length<=l.length+1:=by unfold zbZ;split <;> simp
theorem Ty.rvars_len:∀(t:Ty) (l:List Int),(t.rvars l).length<=l.length+t.cnt:=by
 refine Ty.ind fun t ih=>?_
 have key:∀ps:List Ty,(∀p∈ps,∀l:List Int,(p.rvars l).length<=l.length+p.cnt)->∀l:List Int,(Ty.rvarsL ps l).length<=l.length+Ty.cntL ps:=by
  intro ps
  induction ps with
  | nil=>intro _ l;simp[Ty.rvarsL,Ty.cntL]
  | cons p ps ihp =>
   intro hp l;have h1:=hp p tz4 l;have h2:=ihp (fun q hq=>hp q (by simp[hq])) (p.rvars l);simp only[Ty.rvarsL,Ty.cntL];omega
 intro l;rw[Ty.rvars_eq,Ty.cnt_eq];have:=key t.ps ih (if t.k=1 then zbZ l t.n else l);(have h2:(if t.k=1 then zbZ l t.n else l).length<=l.length+1:=by split <;> first | exact ze2 l t.n | omega);omega
theorem Ty.rvarsL_len (ps:List Ty) (l:List Int):(Ty.rvarsL ps l).length<=l.length+Ty.cntL ps:=by
 have:=Ty.rvars_len (.mk 0 0 ps) l;rw[Ty.rvars_eq,Ty.cnt_eq] at this
 induction ps generalizing l with
 | nil=>simp[Ty.rvarsL,Ty.cntL]
 | cons p ps ih =>
  have h1:=p.rvars_len l;have h2:=ih (p.rvars l) (by have:=Ty.rvars_len (.mk 0 0 ps) (p.rvars l);rw[Ty.rvars_eq,Ty.cnt_eq] at this;exact this);simp only[Ty.rvarsL,Ty.cntL];omega
structure Bd where
 v:Int
 t:Ty
def Bd.cells (b:Bd):List AV:=.v (.int .i64 b.v)::b.t.cells
theorem Bd.cells_eq (b:Bd):b.cells=[.v (.int .i64 b.v),.v (.int .i64 b.t.k),.v (.int .i64 b.t.n),.sl 3 (b.t.ps.map Ty.cells)]:=by rw[Bd.cells,Ty.cells_eq]
theorem Bd.cells_len (b:Bd):b.cells.length=4:=by rw[b.cells_eq];rfl
theorem Bd.data (b:Bd):DataL b.cells:=.cons (.v _) b.t.data
theorem Bd.dataSl (l:List Bd):Data (.sl 4 (l.map Bd.cells)):=.sl fun x hx=>by
 obtain ⟨y,_,rfl⟩:=zA.1 hx;exact y.data
theorem Bd.take1 (b:Bd):b.cells.take 1=[.v (.int .i64 b.v)]:=by rw[b.cells_eq];rfl
theorem Bd.drop1 (b:Bd):b.cells.drop 1=b.t.cells:=rfl
theorem Bd.one (b:Bd):b.cells.all AV.one=true:=by rw[b.cells_eq];rfl
def za6 (l:List Bd) (n:Int):Int:=zhx (fun b=>b.v==n) l
mutual
/-- what a substitution makes of a type -/
def Ty.sub (l:List Bd):Ty->Ty
 | .mk k n ps=>if k=1/\0<=za6 l n then ((l[(za6 l n).toNat]?).map Bd.t).getD (.mk 0 0 []) else .mk k n (Ty.subL l ps)
def Ty.subL (l:List Bd):List Ty->List Ty
 | []=>[]
 | p::ps=>Ty.sub l p::Ty.subL l ps
end
theorem Ty.subL_eq (l:List Bd):∀ps,Ty.subL l ps=ps.map (Ty.sub l)
 | []=>by simp[Ty.subL]
 | p::ps=>by simp[Ty.subL,Ty.subL_eq l ps]
theorem Ty.sub_yes {l:List Bd} {t:Ty} {b:Bd} (h:t.k=1) (h0:0<=za6 l t.n) (hb:l[(za6 l t.n).toNat]?=some b):t.sub l=b.t:=by
 obtain ⟨k,n,ps⟩:=t;simp only[Ty.k,Ty.n] at h h0 hb;rw[Ty.sub,if_pos ⟨h,h0⟩,hb];rfl
theorem Ty.sub_no {l:List Bd} {t:Ty} (h:¬(t.k=1/\0<=za6 l t.n)):t.sub l=.mk t.k t.n (t.ps.map (Ty.sub l)):=by
 obtain ⟨k,n,ps⟩:=t;have h:¬(k=1/\0<=za6 l n):=h;rw[Ty.sub,if_neg h,Ty.subL_eq];rfl
theorem zeS (ps qs:List Ty) (g:Nat) (f:Ty->Ty->Bool) (hf:∀p∈ps,∀q,APure Tryz.prog g [.agg p.cells,.agg q.cells] (.v (.bool (f p q)))):APure Tryz.prog 95 [.sl 3 (ps.map Ty.cells),.sl 3 (qs.map Ty.cells),.clo g []] (.v (.bool (zhd f ps qs))):=by
  refine APure.mkL (.cons (Ty.dataSl ps) (.cons (Ty.dataSl qs) (.cons (.clo (fun _ h=>by cases h)) .nil))) (.v _) ?_;refine aIn Tryz.func95 fun hm=>?_;simp only[Tryz.ntmps95,Tryz.results95,go_sem,seval];have hm1:=hm.len (sz:=3) (xs:=ps.map Ty.cells) tz4;rw[zi] at hm1;refine sqD ?_;refine zM fun _ u=>?_;refine sqR fun _ w=>?_;refine chS 4 ?_;simp only[↓bO,go_sem,seval];apply w;apply zO rfl <;> intro hb14
  ·
   refine sqD ?_;apply zP;(try simp only[go_sem]);refine Le.of_eq (congrArg (fun b=>AV.v (.bool b)) ?_);first | (rw[ze5 (ps:=ps) (qs:=qs) (by simp at hb14;omega)];done) | (rw[zc5 hp hq (by simpa using hb30)];done) | (rw[zdT hl fun k p q hp hq=>hs.2 k p q (by have:=(zd.1 hp).1;omega) hp hq];done)
  (have hl:ps.length=qs.length:=by simp at hb14;omega);apply zS;apply u;refine zM fun _ u=>?_;refine sqD ?_;apply zU;refine zad (σ:=Nat) (mB 32 229382) (fun s=>s<=ps.length/\∀(k:Nat) (p q:Ty),k<s->ps[k]?=some p->qs[k]?=some q->f p q=true) (fun s=>[(17,.v (.int .i64 (s:Int)))]) (fun s=>[]) (fun s=>ps.length-s) 0 (⟨by omega,fun k p q hk=>by omega⟩) ?_ (fun s hs=>?_)
  ·
   simp only[go_sem,seval];exact za5
  simp only[go_sem,seval];refine sqD ?_;refine zM fun _ w=>?_;apply zO rfl <;> intro hb18
  ·
   (have hk:s<ps.length:=by simpa using hb18);obtain ⟨p,hp⟩:∃p,ps[s]?=some p:=⟨_,zb hk⟩;(have hk2:s<qs.length:=by omega);obtain ⟨q,hq⟩:∃q,qs[s]?=some q:=⟨_,zb hk2⟩;have hw:IntKind.i64.wrap ((s:Int)+1)=(s:Int)+1:=zac tz1 (by simp only[maxLen] at hm1;omega);apply zS;apply w;refine zM fun _ w=>?_;apply zU;refine sqR fun _ z=>?_;refine chS 4 ?_ (by intro _ q;simp only[↓bO,go_sem,seval,hk,hk2,gM hp,gM hq,za,hw];exact q);simp only[↓bO,go_sem,seval,hk,hk2,gM hp,gM hq,za,hw];apply z;refine sqR fun _ z=>?_;refine chS 4 ?_ (by intro _ q;simp only[↓bO,go_sem,seval,hk,hk2,gM hp,gM hq,za,hw];exact q);simp only[↓bO,go_sem,seval,hk,hk2,gM hp,gM hq,za,hw];apply z;refine sqR fun _ z=>?_;refine chS 3 ?_ (by intro _ q;simp only[↓bO,go_sem,seval,hk,hk2,gM hp,gM hq,za,hw];exact q);refine zL 1 fun _ y=>?_;simp only[↓bO,go_sem,seval,hk,hk2,gM hp,gM hq,za,hw];refine APure.call (hf p (zg hp) q) ?_;apply y;clear y;simp only[↓bO,go_sem,seval,hk,hk2,gM hp,gM hq,za,hw];apply z;apply zO rfl <;> intro hb30
   ·
    refine sqR fun _ z=>?_;simp only[↓bO,go_sem,seval,hk,hk2,gM hp,gM hq,za,hw];apply z;apply zP;(try simp only[go_sem]);refine Le.of_eq (congrArg (fun b=>AV.v (.bool b)) ?_);first | (rw[ze5 (ps:=ps) (qs:=qs) (by simp at hb14;omega)];done) | (rw[zc5 hp hq (by simpa using hb30)];done) | (rw[zdT hl fun k p q hp hq=>hs.2 k p q (by have:=(zd.1 hp).1;omega) hp hq];done)
   apply zS;apply w;apply zN;simp only[↓bO,go_sem,seval,hk,hk2,gM hp,gM hq,za,hw];refine ⟨(s+1),⟨by omega,fun k p' q' hi h1 h2=>(by rcases zI k s with h3 | h3 <;> first | exact hs.2 k p' q' h3 h1 h2 | (obtain rfl:k=s:=tz1;rw[hp] at h1;rw[hq] at h2;cases h1;cases h2;simpa using hb30))⟩,by omega,?_⟩;simp only[go_sem,seval,hk,hk2,gM hp,gM hq,za,zm,hw];(first | (refine Weak.drops 2 0 rfl rfl tz5 tz5 ?_ ?_ ?_) | (refine Weak.drops 1 0 rfl rfl tz5 tz5 ?_ ?_ ?_) | (refine Weak.drops 0 0 rfl rfl tz5 tz5 ?_ ?_ ?_));(· simp only[go_sem,Le.refl,Le.any,za,Int.cast_ofNat_Int,zm]);(· simp only[UndL,UndOs,Ob.Und,and_true,true_and,and_self,Und.v,Und.any,Und.ptr,Und.map,Nat.reduceLT,zy,Und.tys,Und.tyAgg,Und.oslTys,Und.oslTys1,Und.clo0,Und.ty]);simp only[UndL,UndOs,Ob.Und,and_true,true_and,and_self,Und.v,Und.any,Und.ptr,Und.map,Nat.reduceLT,zy,Und.tys,Und.tyAgg,Und.oslTys,Und.oslTys1,Und.clo0,Und.ty]
  (have hk:s=ps.length:=by have:=hs.1;simp at hb18;omega);apply zae;simp only[zaf,z8,zY,bA,Nat.reduceEqDiff,↓reduceIte];apply u;refine sqD ?_;apply zP;(try simp only[go_sem]);refine Le.of_eq (congrArg (fun b=>AV.v (.bool b)) ?_);first | (rw[ze5 (ps:=ps) (qs:=qs) (by simp at hb14;omega)];done) | (rw[zc5 hp hq (by simpa using hb30)];done) | (rw[zdT hl fun k p q hp hq=>hs.2 k p q (by have:=(zd.1 hp).1;omega) hp hq];done)
theorem zcY:∀(T:Ty) (U:Ty),APure Tryz.prog 45 [.agg T.cells,.agg U.cells] (.v (.bool (T.same U))):=by
  refine Ty.ind fun T ih=>?_;intro U;refine APure.mkL (.cons T.dataAgg (.cons U.dataAgg .nil)) (.v _) ?_;refine aIn Tryz.func45 fun hm=>?_;simp only[Tryz.ntmps45,Tryz.results45,go_sem,seval];refine sqD ?_;refine sqR fun _ u=>?_;refine chS 4 ?_;refine chS 2 ?_;simp only[go_sem];refine zX 10 rfl (fun hc10=>?_) (fun hc10=>?_)
  ·
   refine chS 4 ?_;refine chS 3 ?_;simp only[go_sem];refine zX 17 rfl (fun hc17=>?_) (fun hc17=>?_)
   ·
    refine chS 4 ?_;refine zL 1 fun _ y=>?_;simp only[↓bO,go_sem,seval];refine APure.call (zeS T.ps U.ps 45 Ty.same (fun p hp q=>ih p hp q)) ?_;apply y;clear y;simp only[↓bO,go_sem,seval];apply u;apply zP;(try simp only[go_sem]);refine Le.of_eq (congrArg (fun b=>AV.v (.bool b)) ?_);rw[Ty.same_eq,zcV];simp_all
   refine chS 4 ?_;simp only[↓bO,go_sem,seval];apply u;apply zP;(try simp only[go_sem]);refine Le.of_eq (congrArg (fun b=>AV.v (.bool b)) ?_);rw[Ty.same_eq,zcV];simp_all
  (iterate 3 (refine chS 4 ?_));simp only[↓bO,go_sem,seval];apply u;apply zP;(try simp only[go_sem]);refine Le.of_eq (congrArg (fun b=>AV.v (.bool b)) ?_);rw[Ty.same_eq,zcV];simp_all
theorem zjg (l:List Int) (n:Int):APure Tryz.prog 64 [.sl 1 (l.map intC),.v (.int .i64 n)] (.v (.bool (l.any fun x=>x==n))):=by
  refine APure.mkL (.cons (zag l) (.cons (.v _) .nil)) (.v _) ?_;refine aIn Tryz.func64 fun hm=>?_;simp only[Tryz.ntmps64,Tryz.results64,go_sem,seval];have hm1:=hm.len (sz:=1) (xs:=l.map intC) tz4;rw[zi] at hm1;refine sqD ?_;refine zM fun _ y=>?_;refine sqD ?_;apply zU;refine zad (σ:=Nat) (mB 18 35) (fun s=>s<=l.length/\∀(i:Nat) (p:Int),i<s->l[i]?=some p->(p==n)=false) (fun s=>[(5,.v (.int .i64 (s:Int)))]) (fun s=>[]) (fun s=>l.length-s) 0 (⟨by omega,fun i p hi=>by omega⟩) ?_ (fun s hs=>?_)
  ·
   simp only[go_sem,seval];exact za5
  simp only[go_sem,seval];refine zM fun _ u=>?_;refine sqD ?_;apply zO rfl <;> intro hb9
  ·
   (have hk:s<l.length:=by simpa using hb9);obtain ⟨p,hp⟩:∃p,l[s]?=some p:=⟨_,zb hk⟩;have hw:IntKind.i64.wrap ((s:Int)+1)=(s:Int)+1:=zac tz1 (by simp only[maxLen] at hm1;omega);apply zS;apply u;refine zM fun _ u=>?_;apply zU;refine sqR fun _ w=>?_;refine chS 4 ?_ (by intro _ q;simp only[↓bO,go_sem,seval,hk,gM hp,intC,za,hw];exact q);simp only[↓bO,go_sem,seval,hk,gM hp,intC,za,hw];apply w;apply zO rfl <;> intro hb17
   ·
    refine sqR fun _ w=>?_;simp only[↓bO,go_sem,seval,hk,gM hp,intC,za,hw];apply w;apply zP;(try simp only[go_sem]);refine Le.of_eq (congrArg (fun b=>AV.v (.bool b)) ?_);first | (rw[zes hp (by exact hb17)];done) | (rw[zcO (fun i p hi hp=>hs.2 i p tz1 hp)];done)
   apply zS;apply u;apply zN;simp only[↓bO,go_sem,seval,hk,gM hp,intC,za,hw];refine ⟨(s+1),⟨by omega,fun i p' hi h1=>(by rcases zI i s with h3 | h3 <;> first | exact hs.2 i p' h3 h1 | (obtain rfl:i=s:=tz1;rw[hp] at h1;cases h1;exact hb17))⟩,by omega,?_⟩;simp only[go_sem,seval,hk,gM hp,intC,za,zm,hw];exact za5
  (have hk:s=l.length:=by have:=hs.1;simp at hb9;omega);apply zae;simp only[zaf,z8,zY,bA,Nat.reduceEqDiff,↓reduceIte];apply y;refine sqD ?_;apply zP;(try simp only[go_sem]);refine Le.of_eq (congrArg (fun b=>AV.v (.bool b)) ?_);first | (rw[zes hp (by exact hb17)];done) | (rw[zcO (fun i p hi hp=>hs.2 i p tz1 hp)];done)
theorem tz8 {p:Prop} (h:p:=by exact ⟨⟨_,_,rfl,by simp,rfl,trivial,trivial⟩,trivial⟩):p:=h
theorem zgl:∀(T:Ty) (l:List Int) (hl:l.length+T.cnt<=1099511627776),APure Tryz.prog 47 [.agg T.cells,.sl 1 (l.map intC)] (.sl 1 ((T.rvars l).map intC)):=by
  refine Ty.ind fun T ih=>?_;intro l hl;refine APure.mkL (.cons T.dataAgg (.cons (zag l) .nil)) ((zag _)) ?_;refine aIn Tryz.func47 fun hm=>?_;simp only[Tryz.ntmps47,Tryz.results47,go_sem,seval];have hcn:=T.cnt_eq;have hcl:=Ty.cntL_len T.ps;simp only[Ty.cells_eq T,zC,List.nil_append];(have hl0:(if T.k=1 then zbZ l T.n else l).length<=l.length+1:=by split <;> first | exact ze2 l T.n | omega);(have hb1:l.length * 8<=140737488355328:=by omega);(have hb2:l.length<=maxLen:=by simp only[maxLen];omega);(have hb3:(l.length+1) * 8<=140737488355328:=by omega);(have hb4:l.length+1<=maxLen:=by simp only[maxLen];omega);have hon:=ints_one l;refine sqD ?_;refine zan (mB 38 6) ([(1,.sl 1 ((if T.k=1 then zbZ l T.n else l).map intC))]) [(0,.cells 26 [.v (.int .i64 T.k),.v (.int .i64 T.n),.sl 3 (T.ps.map Ty.cells)])] 1 (True) ?_ (fun hC=>?_)
  ·
   refine sqR fun _ u=>?_;refine chS 4 ?_;simp only[go_sem];refine zX 9 rfl (fun hc9=>?_) (fun hc9=>?_)
   ·
    refine chS 3 ?_;refine zL 1 fun _ y=>?_;simp only[↓bO,go_sem,seval];refine APure.call (zjg l T.n) ?_;apply y;clear y;simp only[↓bO,go_sem,seval];apply u;apply zO rfl <;> intro hb15
    ·
     refine zdc [(0,1,[.v (.int .i64 T.n)])] 8 rfl mixed (tz8) rfl ?_;dsimp only;refine tkK 1 rfl fun _ y=>?_;simp only[↓bO,go_sem,seval,hb1,hb2,hb3,hb4,hon];apply y;clear y;refine tkK 3 rfl fun _ y=>?_;simp only[↓bO,go_sem,seval,hb1,hb2,hb3,hb4,hon];apply y;clear y;refine tkL 4 0 rfl rfl fun _ y=>?_;simp only[↓bO,go_sem,seval,hb1,hb2,hb3,hb4,hon];apply y;clear y;refine al2 (i:=0) (j:=5) ?_ ?_
     ·
      refine opT fun _ y=>?_;simp only[↓bO,go_sem,seval,↓bs0_1,↓bs0_2,↓bs0_3,↓bs0_4,↓bs0_5,↓bs0_6,↓bs0_7,↓bs0_8,↓bs0_9,↓bs0_10,↓bs0_11,↓bs0_12,hb1,hb2,hb3,hb4,hon];refine y _ ⟨tz8,?_⟩;clear y;refine al2 (i:=2) (j:=5) ?_ ?_
      ·
       refine opT fun _ y=>?_;simp only[↓bO,go_sem,seval,hb1,hb2,hb3,hb4,hon];refine y _ ⟨tz8,?_⟩;clear y;refine al1 (i:=5) ?_;refine opT fun _ y=>?_;simp only[↓bO,go_sem,seval,↓zbu,↓zbw,↓zbA,↓zbC,↓zbt,↓zbE,↓zbB,↓zbG,↓zbv,↓zaP,↓zaQ,↓zaR,hb1,hb2,hb3,hb4,hon];refine y _ ⟨tz8,?_⟩;clear y;refine al1 (i:=6) ?_;refine opT fun _ y=>?_;simp only[↓bO,go_sem,seval,hb1,hb2,hb3,hb4,hon];refine y _ ⟨tz8,?_⟩;clear y;refine tkK 7 rfl fun _ y=>?_;simp only[↓bO,go_sem,seval,hb1,hb2,hb3,hb4,hon];apply y;clear y;refine dnA ?_;simp only[go_sem];(try simp only[go_sem,seval]);(first | refine ⟨trivial,?_⟩ | skip);have h9:=zbl T.k T.n l;(first | (have h9:=h9.1 (by simpa using hc9) (by simpa using hb15);rw[h9]) | (have h9:=h9.2.1 (by simpa using hb15);rw[h9]) | (have h9:=h9.2.2 (by simpa using hc9);rw[h9]));(first | (refine Weak.drops 0 1 rfl rfl tz5 tz5 ?_ ?_ ?_) | (refine Weak.drops 1 1 rfl rfl tz5 tz5 ?_ ?_ ?_));(· simp only[go_sem,Le.refl,Le.any,Le.oslL,zf,zo,zE]);(· simp only[UndL,Und.any,Und.v,Und.ptr,zd6,zy,Nat.reduceLT,and_self]);simp only[UndOs,Ob.Und,UndL,Und.v,Und.tys,zy,Nat.reduceLT,and_self]
      refine opT fun _ y=>?_;simp only[↓bO,go_sem,seval,↓zbu,↓zbw,↓zbA,↓zbC,↓zbt,↓zbE,↓zbB,↓zbG,↓zbv,↓zaP,↓zaQ,↓zaR,hb1,hb2,hb3,hb4,hon];refine y _ ⟨tz8,?_⟩;clear y;refine al1 (i:=2) ?_;refine opT fun _ y=>?_;simp only[↓bO,go_sem,seval,hb1,hb2,hb3,hb4,hon];refine y _ ⟨tz8,?_⟩;clear y;refine al1 (i:=6) ?_;refine opT fun _ y=>?_;simp only[↓bO,go_sem,seval,hb1,hb2,hb3,hb4,hon];refine y _ ⟨tz8,?_⟩;clear y;refine tkK 7 rfl fun _ y=>?_;simp only[↓bO,go_sem,seval,hb1,hb2,hb3,hb4,hon];apply y;clear y;refine dnA ?_;simp only[go_sem];(try simp only[go_sem,seval]);(first | refine ⟨trivial,?_⟩ | skip);have h9:=zbl T.k T.n l;(first | (have h9:=h9.1 (by simpa using hc9) (by simpa using hb15);rw[h9]) | (have h9:=h9.2.1 (by simpa using hb15);rw[h9]) | (have h9:=h9.2.2 (by simpa using hc9);rw[h9]));(first | (refine Weak.drops 0 1 rfl rfl tz5 tz5 ?_ ?_ ?_) | (refine Weak.drops 1 1 rfl rfl tz5 tz5 ?_ ?_ ?_));(· simp only[go_sem,Le.refl,Le.any,Le.oslL,zf,zo,zE]);(· simp only[UndL,Und.any,Und.v,Und.ptr,zd6,zy,Nat.reduceLT,and_self]);simp only[UndOs,Ob.Und,UndL,Und.v,Und.tys,zy,Nat.reduceLT,and_self]
     refine opT fun _ y=>?_;simp only[↓bO,go_sem,seval,↓zbu,↓zbw,↓zbA,↓zbC,↓zbt,↓zbE,↓zbB,↓zbG,↓zbv,↓zaP,↓zaQ,↓zaR,hb1,hb2,hb3,hb4,hon];refine y _ ⟨tz8,?_⟩;clear y;refine al1 (i:=0) ?_;refine opT fun _ y=>?_;simp only[↓bO,go_sem,seval,↓bs0_1,↓bs0_2,↓bs0_3,↓bs0_4,↓bs0_5,↓bs0_6,↓bs0_7,↓bs0_8,↓bs0_9,↓bs0_10,↓bs0_11,↓bs0_12,hb1,hb2,hb3,hb4,hon];refine y _ ⟨tz8,?_⟩;clear y;refine al1 (i:=2) ?_;refine opT fun _ y=>?_;simp only[↓bO,go_sem,seval,hb1,hb2,hb3,hb4,hon];refine y _ ⟨tz8,?_⟩;clear y;refine al1 (i:=6) ?_;refine opT fun _ y=>?_;simp only[↓bO,go_sem,seval,hb1,hb2,hb3,hb4,hon];refine y _ ⟨tz8,?_⟩;clear y;refine tkK 7 rfl fun _ y=>?_;simp only[↓bO,go_sem,seval,hb1,hb2,hb3,hb4,hon];apply y;clear y;refine dnA ?_;simp only[go_sem];(try simp only[go_sem,seval]);(first | refine ⟨trivial,?_⟩ | skip);have h9:=zbl T.k T.n l;(first | (have h9:=h9.1 (by simpa using hc9) (by simpa using hb15);rw[h9]) | (have h9:=h9.2.1 (by simpa using hb15);rw[h9]) | (have h9:=h9.2.2 (by simpa using hc9);rw[h9]));(first | (refine Weak.drops 0 1 rfl rfl tz5 tz5 ?_ ?_ ?_) | (refine Weak.drops 1 1 rfl rfl tz5 tz5 ?_ ?_ ?_));(· simp only[go_sem,Le.refl,Le.any,Le.oslL,zf,zo,zE]);(· simp only[UndL,Und.any,Und.v,Und.ptr,zd6,zy,Nat.reduceLT,and_self]);simp only[UndOs,Ob.Und,UndL,Und.v,Und.tys,zy,Nat.reduceLT,and_self]
    apply zS;(try simp only[go_sem]);(try simp only[go_sem,seval]);(first | refine ⟨trivial,?_⟩ | skip);have h9:=zbl T.k T.n l;(first | (have h9:=h9.1 (by simpa using hc9) (by simpa using hb15);rw[h9]) | (have h9:=h9.2.1 (by simpa using hb15);rw[h9]) | (have h9:=h9.2.2 (by simpa using hc9);rw[h9]));(first | (refine Weak.drops 0 1 rfl rfl tz5 tz5 ?_ ?_ ?_) | (refine Weak.drops 1 1 rfl rfl tz5 tz5 ?_ ?_ ?_));(· simp only[go_sem,Le.refl,Le.any,Le.oslL,zf,zo,zE]);(· simp only[UndL,Und.any,Und.v,Und.ptr,zd6,zy,Nat.reduceLT,and_self]);simp only[UndOs,Ob.Und,UndL,Und.v,Und.tys,zy,Nat.reduceLT,and_self]
   refine chS 4 ?_;simp only[↓bO,go_sem,seval];apply u;refine zO (b:=false) (by first | exact rfl | exact congrArg (fun b=>AV.v (.bool b)) hb15) (fun h=>(by cases h)) (fun _=>?_);apply zS;(try simp only[go_sem]);(try simp only[go_sem,seval]);(first | refine ⟨trivial,?_⟩ | skip);have h9:=zbl T.k T.n l;(first | (have h9:=h9.1 (by simpa using hc9) (by simpa using hb15);rw[h9]) | (have h9:=h9.2.1 (by simpa using hb15);rw[h9]) | (have h9:=h9.2.2 (by simpa using hc9);rw[h9]));(first | (refine Weak.drops 0 1 rfl rfl tz5 tz5 ?_ ?_ ?_) | (refine Weak.drops 1 1 rfl rfl tz5 tz5 ?_ ?_ ?_));(· simp only[go_sem,Le.refl,Le.any,Le.oslL,zf,zo,zE]);(· simp only[UndL,Und.any,Und.v,Und.ptr,zd6,zy,Nat.reduceLT,and_self]);simp only[UndOs,Ob.Und,UndL,Und.v,Und.tys,zy,Nat.reduceLT,and_self]
  simp only[go_sem,seval];refine zM fun _ u=>?_;refine sqD ?_;apply zU;refine zad (σ:=Nat) (mB 38 38) (fun s=>s<=T.ps.length) (fun s=>[(1,.sl 1 ((Ty.rvarsL (T.ps.take s) (if T.k=1 then zbZ l T.n else l)).map intC)),(5,.v (.int .i64 (s:Int)))]) (fun s=>[]) (fun s=>T.ps.length-s) 0 tz1 ?_ (fun s hs=>?_)
  ·
   simp only[go_sem,seval,bL,Ty.rvarsL];exact za5
  simp only[go_sem,seval];refine zM fun _ w=>?_;refine sqR fun _ z=>?_;refine chS 4 ?_;simp only[↓bO,go_sem,seval];apply z;apply zO rfl <;> intro hb27
  ·
   (have hk:s<T.ps.length:=by simpa using hb27);obtain ⟨p,hp⟩:∃p,T.ps[s]?=some p:=⟨_,zb hk⟩;have hpc:=Ty.cntL_step hp;have hvl:=Ty.rvarsL_len (T.ps.take s) (if T.k=1 then zbZ l T.n else l);have hw:IntKind.i64.wrap ((s:Int)+1)=(s:Int)+1:=zac tz1 tz1;apply zS;apply w;refine zM fun _ w=>?_;apply zU;apply zN;refine chS 4 ?_ (by intro _ q;simp only[↓bO,go_sem,seval,hk,gM hp,za,hw,Ty.rvarsL_step hp];exact q);refine chS 2 ?_ (by intro _ q;simp only[↓bO,go_sem,seval,hk,gM hp,za,hw,Ty.rvarsL_step hp];exact q);refine zL 1 fun _ y=>?_;simp only[↓bO,go_sem,seval,hk,gM hp,za,hw,Ty.rvarsL_step hp];refine APure.call (ih p (zg hp) (Ty.rvarsL (T.ps.take s) (if T.k=1 then zbZ l T.n else l)) tz1) ?_;apply y;clear y;simp only[↓bO,go_sem,seval,hk,gM hp,za,hw,Ty.rvarsL_step hp];apply w;apply zN;simp only[↓bO,go_sem,seval,hk,gM hp,za,hw,Ty.rvarsL_step hp];refine ⟨(s+1),tz1,by omega,?_⟩;simp only[go_sem,seval,hk,gM hp,za,zm,hw,Ty.rvarsL_step hp];exact za5
  (have hk:s=T.ps.length:=by simp at hb27;omega);apply zae;simp only[zaf,z8,zY,bA,Nat.reduceEqDiff,↓reduceIte];apply u;refine sqD ?_;apply zP;(try simp only[go_sem]);refine Le.of_eq ?_;rw[Ty.rvars_eq,hk,zp]
end Go.Proofs.YtkokfdmggdhfmaaGreatDoor
namespace Go.Proofs.YtkokfdmggdhfmaaGreatDoor
open Go Go.RowKit
set_option linter.unnecessarySimpa false
theorem Ty.k_mk (k n:Int) (ps:List Ty):(Ty.mk k n ps).k=k:=rfl
theorem Ty.n_mk (k n:Int) (ps:List Ty):(Ty.mk k n ps).n=n:=rfl
theorem Ty.ps_mk (k n:Int) (ps:List Ty):(Ty.mk k n ps).ps=ps:=rfl
theorem okN_one {n:Int} {len:Nat} (h:okN 1 n len=true):0<=n/\n<1073741824/\len=0:=by
 simp only[okN,ze] at h;omega
theorem okN_more {k n:Int} {len:Nat} (h:okN k n len=true) (hk:¬k=1):n=0:=by
 simp only[okN,ze] at h;omega
theorem Ty.right_part {t p:Ty} (h:t.right=true) (hp:p∈t.ps):p.right=true:=by
 rw[Ty.right_eq,zl] at h;exact zB.1 h.2 p hp
theorem Ty.right_var {t:Ty} (h:t.right=true) (hk:t.k=1):t=.mk 1 t.n []:=by
 obtain ⟨k,n,ps⟩:=t;have hk:k=1:=hk;subst hk;rw[Ty.right_eq,zl] at h;have:=(okN_one h.1).2.2;simp only[Ty.ps,List.length_eq_zero_iff] at this;simp[Ty.n,this]
theorem Ty.right_n {t:Ty} (h:t.right=true) (hk:¬t.k=1):t.n=0:=by
 rw[Ty.right_eq,zl] at h;exact okN_more h.1 hk
theorem zkD {α:Type} {f:α->α->Bool}:∀{ps qs:List α},(∀p∈ps,∀q,f p q=true↔p=q)->(zhd f ps qs=true↔ps=qs)
 | [],[],_=>by simp[zhd]
 | [],_::_,_=>by simp[zhd]
 | _::_,[],_=>by simp[zhd]
 | p::ps,q::qs,h=>by
  simp only[zhd,zl,List.cons.injEq];rw[h p tz4 q,zkD fun p' hp q'=>h p' (by simp[hp]) q']
theorem Ty.same_iff:∀T U:Ty,T.same U=true↔T=U:=by
 (refine Ty.ind fun T ih=>fun U=>?_);rw[Ty.same_eq,zcV,zl,zl,zkD ih];obtain ⟨k,n,ps⟩:=T;obtain ⟨k',n',ps'⟩:=U;simp only[Ty.k,Ty.n,Ty.ps,beq_iff_eq,Ty.mk.injEq];exact ⟨fun h=>⟨h.1.1,h.1.2,h.2⟩,fun h=>⟨⟨h.1,h.2.1⟩,h.2.2⟩⟩
def zar {α:Type}:List (Int×α)->Int->Option α
 | [],_=>none
 | (k,x)::r,i=>if k=i then some x else zar r i
def zfW {α:Type}:List (Int×α)->Int->α->List (Int×α)
 | [],k,x=>[(k,x)]
 | (k',y)::r,k,x=>if k'=k then (k,x)::r else (k',y)::zfW r k x
theorem zbN {α:Type} (k:Int) (x:α) (i:Int):∀m:List (Int×α),zar (zfW m k x) i=if k=i then some x else zar m i
 | []=>by simp[zfW,zar]
 | (a,b)::m=>by
  simp only[zfW];split;(·rename_i e;subst e;simp only[zar];split <;> rfl);(rename_i e);simp only[zar,zbN k x i m]
  by_cases h1:k=i
  (·subst h1;simp[e]);simp[h1]
theorem zec {α:Type} (f:α->AV) (i:Int):∀m:List (Int×α),zbx (m.map fun p=>(p.1,f p.2)) i=(zar m i).map f
 | []=>rfl
 | (a,b)::m=>by simp only[zo,zbx,zar];split <;> simp[zec f i m]
theorem aSet_p {α:Type} (f:α->AV) (k:Int) (x:α):∀m:List (Int×α),zfB (m.map fun p=>(p.1,f p.2)) k (f x)=(zfW m k x).map fun p=>(p.1,f p.2)
 | []=>rfl
 | (a,b)::m=>by simp only[zo,zfB,zfW];split <;> simp[aSet_p f k x m]
def Ty.occ (v:Int) (t:Ty):Prop:=v∈t.rvars []
theorem zc6 {l:List Int} {n v:Int}:v∈zbZ l n↔v∈l\/v=n:=by
 unfold zbZ;split
 ·rename_i h
  obtain ⟨x,hx,e⟩:=List.any_eq_true.1 h;simp only[beq_iff_eq] at e;subst e;exact ⟨.inl,fun h=>h.elim id fun h=>h▸hx⟩
 simp
theorem Ty.mem_rvars (v:Int):∀(t:Ty) (l:List Int),v∈t.rvars l↔v∈l\/t.occ v:=by
 have key:∀t:Ty,(∀p∈t.ps,∀l:List Int,v∈p.rvars l↔v∈l\/p.occ v)->∀l,v∈t.rvars l↔v∈l\/(t.k=1/\v=t.n)\/∃p∈t.ps,p.occ v:=by
  intro t ih l
  have hL:∀ps:List Ty,(∀p∈ps,∀l:List Int,v∈p.rvars l↔v∈l\/p.occ v)->∀l:List Int,v∈Ty.rvarsL ps l↔v∈l\/∃p∈ps,p.occ v:=by
   intro ps
   induction ps with
   | nil=>intro _ l;simp[Ty.rvarsL]
   | cons p ps ih2 =>
    intro h l;rw[Ty.rvarsL,ih2 (fun q hq=>h q (by simp[hq])),h p tz4];simp only[zH,exists_eq_or_imp,or_assoc]
  rw[Ty.rvars_eq,hL t.ps ih];split;(·rename_i hk;simp only[zc6,hk,true_and,or_assoc]);rename_i hk;simp only[hk,false_and,false_or]
 refine Ty.ind fun t ih l=>?_;have h1:=key t ih l;have h2:=key t ih [];unfold Ty.occ;rw[h1,h2];simp
theorem Ty.occ_iff (v:Int) (t:Ty):t.occ v↔(t.k=1/\v=t.n)\/∃p∈t.ps,p.occ v:=by
 have hL:∀(ps:List Ty) (l:List Int),v∈Ty.rvarsL ps l↔v∈l\/∃p∈ps,p.occ v:=by
  intro ps
  induction ps with
  | nil=>intro l;simp[Ty.rvarsL]
  | cons p ps ih2 =>
   intro l;rw[Ty.rvarsL,ih2,Ty.mem_rvars];simp only[zH,exists_eq_or_imp,or_assoc]
 rw[Ty.occ,Ty.rvars_eq,hL];split;(·rename_i hk;simp[zc6,hk]);rename_i hk;simp[hk]
mutual
/-- what a function of variables makes of a type -/
def Ty.subF (σ:Int->Ty):Ty->Ty
 | .mk k n ps=>if k=1 then σ n else .mk k n (Ty.subFL σ ps)
def Ty.subFL (σ:Int->Ty):List Ty->List Ty
 | []=>[]
 | p::ps=>Ty.subF σ p::Ty.subFL σ ps
end
theorem Ty.subFL_eq (σ:Int->Ty):∀ps,Ty.subFL σ ps=ps.map (Ty.subF σ)
 | []=>by simp[Ty.subFL]
 | p::ps=>by simp[Ty.subFL,Ty.subFL_eq σ ps]
theorem Ty.subF_var {σ:Int->Ty} {t:Ty} (h:t.k=1):t.subF σ=σ t.n:=by
 obtain ⟨k,n,ps⟩:=t;have h:k=1:=h;rw[Ty.subF,if_pos h];rfl
theorem Ty.subF_more {σ:Int->Ty} {t:Ty} (h:¬t.k=1):t.subF σ=.mk t.k t.n (t.ps.map (Ty.subF σ)):=by
 obtain ⟨k,n,ps⟩:=t;have h:¬k=1:=h;rw[Ty.subF,if_neg h,Ty.subFL_eq];rfl
theorem Ty.subF_congr {σ τ:Int->Ty}:∀t:Ty,(∀v,t.occ v->σ v=τ v)->t.subF σ=t.subF τ:=by
 refine Ty.ind fun t ih h=>?_
 by_cases hk:t.k=1
 ·rw[Ty.subF_var hk,Ty.subF_var hk]
  exact h _ ((Ty.occ_iff _ _).2 (.inl ⟨hk,rfl⟩))
 rw[Ty.subF_more hk,Ty.subF_more hk];(congr 1);exact List.map_congr_left fun p hp=>ih p hp fun v hv=>h v ((Ty.occ_iff _ _).2 (.inr ⟨p,hp,hv⟩))
def bfun (l:List Bd) (n:Int):Ty:=if 0<=za6 l n then ((l[(za6 l n).toNat]?).map Bd.t).getD (.mk 0 0 []) else .mk 1 n []
theorem Ty.sub_subF (l:List Bd):∀t:Ty,t.right=true->t.sub l=t.subF (bfun l):=by
 refine Ty.ind fun t ih hr=>?_
 by_cases hk:t.k=1
 ·have e:=Ty.right_var hr hk
  rw[Ty.subF_var hk]
  conv=>lhs;rw[e]
  simp only[Ty.sub,bfun,true_and,Ty.subL]
 rw[Ty.subF_more hk,Ty.sub_no fun h=>hk h.1];(congr 1);exact List.map_congr_left fun p hp=>ih p hp (Ty.right_part hr hp)
mutual
/-- what stands in another type where a variable stands first -/
def Ty.stand (v:Int):Ty->Ty->Option Ty
 | .mk k n ps,t=>if k=1/\n=v then some t else Ty.standL v ps t.ps
def Ty.standL (v:Int):List Ty->List Ty->Option Ty
 | p::ps,q::qs=>match Ty.stand v p q with
  | some x=>some x
  | none=>Ty.standL v ps qs
 | [],_=>none
 | _::_,[]=>none
end
theorem Ty.stand_eq (v:Int) (t u:Ty):t.stand v u=if t.k=1/\t.n=v then some u else Ty.standL v t.ps u.ps:=by cases t;rw[Ty.stand];rfl
theorem Ty.stand_none (v:Int):∀(t u:Ty),¬t.occ v->t.stand v u=none:=by
 refine Ty.ind fun t ih u h=>?_;rw[Ty.occ_iff] at h;rw[Ty.stand_eq,if_neg fun hh=>h (.inl ⟨hh.1,hh.2.symm⟩)]
 have hL:∀ps:List Ty,(∀p∈ps,∀u:Ty,p.stand v u=none)->∀us,Ty.standL v ps us=none:=by
  intro ps
  induction ps with
  | nil=>intro _ us;rw[Ty.standL]
  | cons p ps ih2 =>
   intro h us
   cases us with
   | nil=>rw[Ty.standL]
   | cons q qs=>rw[Ty.standL,h p tz4 q];exact ih2 (fun p hp=>h p (by simp[hp])) qs
 exact hL t.ps (fun p hp u=>ih p hp u fun ho=>h (.inr ⟨p,hp,ho⟩)) u.ps
mutual
/-- matching: what is told behind what was -/
def Ty.match:Ty->Ty->List (Int×Ty)->Bool×List (Int×Ty)
 | .mk k n ps,t,m=>if k=1 then (match zar m n with | none=>(true,zfW m n t) | some x=>(x.same t,m)) else if k=t.k/\ps.length=t.ps.length then Ty.matchL ps t.ps m else (false,m)
def Ty.matchL:List Ty->List Ty->List (Int×Ty)->Bool×List (Int×Ty)
 | p::ps,q::qs,m=>if (Ty.match p q m).1 then Ty.matchL ps qs (Ty.match p q m).2 else (false,(Ty.match p q m).2)
 | [],_,m=>(true,m)
 | _::_,[],m=>(true,m)
end
theorem Ty.match_var {g t:Ty} {m:List (Int×Ty)} (h:g.k=1):g.match t m=match zar m g.n with | none=>(true,zfW m g.n t) | some x=>(x.same t,m):=by
 obtain ⟨k,n,ps⟩:=g;have h:k=1:=h;rw[Ty.match,if_pos h];rfl
theorem Ty.match_no {g t:Ty} {m:List (Int×Ty)} (h:¬g.k=1) (h2:¬(g.k=t.k/\g.ps.length=t.ps.length)):g.match t m=(false,m):=by
 obtain ⟨k,n,ps⟩:=g;have h:¬k=1:=h;have h2:¬(k=t.k/\ps.length=t.ps.length):=h2;rw[Ty.match,if_neg h,if_neg h2]
theorem Ty.match_more {g t:Ty} {m:List (Int×Ty)} (h:¬g.k=1) (h2:g.k=t.k/\g.ps.length=t.ps.length):g.match t m=Ty.matchL g.ps t.ps m:=by
 obtain ⟨k,n,ps⟩:=g;have h:¬k=1:=h;have h2:k=t.k/\ps.length=t.ps.length:=h2;rw[Ty.match,if_neg h,if_pos h2];rfl
structure MtOk (m m':List (Int×Ty)) (occ:Int->Prop) (st:Int->Option Ty) (sub:(Int->Ty)->Prop):Prop where
 keep:∀v x,zar m v=some x->zar m' v=some x
 has:∀v,occ v->∃x,zar m' v=some x
 new:∀v x,zar m' v=some x->zar m v=some x\/(st v=some x/\occ v)
 does:∀σ:Int->Ty,(∀v x,zar m' v=some x->σ v=x)->sub σ
 only:∀σ:Int->Ty,sub σ->(∀v x,zar m v=some x->σ v=x)->∀v x,zar m' v=some x->σ v=x
theorem Ty.match_ok:∀g:Ty,g.right=true->∀(t:Ty) (m:List (Int×Ty)),t.right=true->(g.match t m).1=true->MtOk m (g.match t m).2 (fun v=>g.occ v) (fun v=>g.stand v t) (fun σ=>g.subF σ=t):=by
 refine Ty.ind fun g ih hr t m ht hm=>?_
 by_cases hk:g.k=1
 ·rw[Ty.match_var hk] at hm ⊢
  have hocc:∀v,g.occ v↔v=g.n:=by
   intro v;rw[Ty.occ_iff,Ty.right_var hr hk];simp[Ty.k,Ty.n,Ty.ps]
  cases hf:zar m g.n with
  | some y =>
   rw[hf] at hm;(simp only at hm ⊢);have e:=(Ty.same_iff y t).1 hm;subst e;refine ⟨fun v x h=>h,fun v hv=>?_,fun v x h=>.inl h,fun σ h=>?_,fun σ _ h=>h⟩;·rw[(hocc v).1 hv];exact ⟨y,hf⟩
   rw[Ty.subF_var hk];exact h _ _ hf
  | none =>
   (simp only);refine ⟨fun v x h=>?_,fun v hv=>?_,fun v x h=>?_,fun σ h=>?_,fun σ hs h v x hx=>?_⟩;(·rw[zbN,if_neg fun e=>by subst e;rw[hf] at h;cases h];exact h);·rw[zbN,if_pos ((hocc v).1 hv).symm];exact ⟨t,rfl⟩
   ·rw[zbN] at h
    (split at h);(·rename_i e;cases h;exact .inr ⟨by rw[Ty.stand_eq,if_pos ⟨hk,e⟩],(hocc v).2 e.symm⟩);exact .inl h
   (·rw[Ty.subF_var hk];exact h _ _ (by rw[zbN,if_pos rfl]));rw[Ty.subF_var hk] at hs;rw[zbN] at hx;(split at hx);(·rename_i e;cases hx;rw[<- e];exact hs);exact h v x hx
 by_cases h2:g.k=t.k/\g.ps.length=t.ps.length
 ·have hL:∀(ps qs:List Ty) (m:List (Int×Ty)),ps.length=qs.length->(∀p∈ps,p∈g.ps)->(∀q∈qs,q.right=true)->(Ty.matchL ps qs m).1=true ->
    MtOk m (Ty.matchL ps qs m).2 (fun v=>∃p∈ps,p.occ v) (fun v=>Ty.standL v ps qs) (fun σ=>ps.map (Ty.subF σ)=qs):=by
   intro ps
   induction ps with
   | nil =>
    intro qs m hl _ _ _;(have:qs=[]:=by cases qs with | nil=>rfl | cons=>simp at hl);subst this;rw[Ty.matchL]
    exact ⟨fun v x h=>h,fun v h=>by simp at h,fun v x h=>.inl h,fun σ _=>rfl,fun σ _ h=>h⟩
   | cons p ps ih2 =>
    intro qs m hl hp hq hm
    cases qs with
    | nil=>simp at hl
    | cons q qs =>
     rw[Ty.matchL] at hm ⊢;split at hm
     ·rename_i h1
      rw[if_pos h1];have i1:=ih p (hp p tz4) (Ty.right_part hr (hp p tz4)) q m (hq q tz4) h1;have i2:=ih2 qs (p.match q m).2 (by simpa using hl) (fun x hx=>hp x (by simp[hx])) (fun x hx=>hq x (by simp[hx])) hm;refine ⟨fun v x h=>i2.keep v x (i1.keep v x h),fun v hv=>?_,fun v x h=>?_,fun σ h=>?_,fun σ hs h=>?_⟩
      ·obtain ⟨p',hp',ho⟩:=hv
       rcases zH.1 hp' with rfl | hp'
       ·obtain ⟨x,hx⟩:=i1.has v ho
        exact ⟨x,i2.keep v x hx⟩
       exact i2.has v ⟨p',hp',ho⟩
      ·cases h1v:zar (p.match q m).2 v with
       | some y =>
        have:=i2.keep v y h1v;rw[h] at this;(cases this);refine (i1.new v x h1v).imp id fun h3=>⟨?_,p,by simp,h3.2⟩
        rw[Ty.standL,h3.1]
       | none =>
        (rcases i2.new v x h with h3 | h3);·rw[h1v] at h3;cases h3
        have hno:¬p.occ v:=fun ho=>by
         obtain ⟨y,hy⟩:=i1.has v ho;rw[h1v] at hy;cases hy
        obtain ⟨p',hp',ho⟩:=h3.2;refine .inr ⟨?_,p',by simp[hp'],ho⟩;rw[Ty.standL,Ty.stand_none v p q hno];exact h3.1
      (·rw[zo,i1.does σ fun v x hv=>h v x (i2.keep v x hv),i2.does σ h]);rw[zo,List.cons.injEq] at hs;exact i2.only σ hs.2 (i1.only σ hs.1 h)
     cases hm
  rw[Ty.match_more hk h2] at hm ⊢;have i:=hL g.ps t.ps m h2.2 (fun _ h=>h) (fun q hq=>Ty.right_part ht hq) hm;have e1:=Ty.right_n hr hk;have e2:=Ty.right_n ht (by rw[<- h2.1];exact hk);refine ⟨i.keep,fun v hv=>?_,fun v x h=>?_,fun σ h=>?_,fun σ hs h=>?_⟩
  ·rcases (Ty.occ_iff _ _).1 hv with h3 | h3
   (·exact absurd h3.1 hk);exact i.has v h3
  ·refine (i.new v x h).imp id fun h3=>⟨?_,(Ty.occ_iff _ _).2 (.inr h3.2)⟩
   rw[Ty.stand_eq,if_neg fun hh=>hk hh.1];exact h3.1
  ·rw[Ty.subF_more hk,i.does σ h,e1,h2.1]
   rw[<- e2,Ty.eta]
  rw[Ty.subF_more hk] at hs;exact i.only σ (by rw[<- hs];rfl) h
 rw[Ty.match_no hk h2] at hm;cases hm
def haveB (g:Ty) (m:List (Int×Ty)):List Bd:=(g.rvars []).map fun v=>⟨v,(zar m v).getD (.mk 0 0 [])⟩
end Go.Proofs.YtkokfdmggdhfmaaGreatDoor
namespace Go.Proofs.YtkokfdmggdhfmaaGreatDoor
open Go Go.RowKit
abbrev vTy (n:Int):Ty:=.mk 1 n []
theorem Ty.subF_subF (σ τ:Int->Ty):∀t:Ty,(t.subF σ).subF τ=t.subF fun v=>(σ v).subF τ:=by
 refine Ty.ind fun t ih=>?_
 by_cases hk:t.k=1
 (·rw[Ty.subF_var hk,Ty.subF_var hk]);rw[Ty.subF_more hk,Ty.subF_more (σ:=fun v=>(σ v).subF τ) hk,Ty.subF_more (by exact hk)];simp only[Ty.k_mk,Ty.n_mk,Ty.ps_mk,List.map_map];(congr 1);exact List.map_congr_left fun p hp=>ih p hp
theorem Ty.subF_fixed {σ:Int->Ty}:∀t:Ty,t.right=true->(∀v,t.occ v->σ v=vTy v)->t.subF σ=t:=by
 refine Ty.ind fun t ih hr h=>?_
 by_cases hk:t.k=1
 ·rw[Ty.subF_var hk,h _ ((Ty.occ_iff _ _).2 (.inl ⟨hk,rfl⟩))]
  exact (Ty.right_var hr hk).symm
 rw[Ty.subF_more hk];have e:t.ps.map (Ty.subF σ)=t.ps:=(List.map_congr_left fun p hp=>ih p hp (Ty.right_part hr hp) fun v hv=>h v ((Ty.occ_iff _ _).2 (.inr ⟨p,hp,hv⟩))).trans (List.map_id t.ps);rw[e,Ty.eta]
theorem Ty.occ_vTy {v w:Int}:(vTy v).occ w↔w=v:=by
 rw[Ty.occ_iff];simp[vTy,Ty.k,Ty.n,Ty.ps]
def zeq (σ:Int->Ty) (l:List (Ty×Ty)):Prop:=∀e∈l,e.1.subF σ=e.2.subF σ
structure MG (l:List (Ty×Ty)) (σ:Int->Ty):Prop where
 solves:zeq σ l
 most:∀θ:Int->Ty,zeq θ l->∀v,(σ v).subF θ=θ v
structure Norm (L:List Int) (σ:Int->Ty):Prop where
 right:∀v∈L,(σ v).right=true
 out:∀v,v∉L->σ v=vTy v
 fix:∀v∈L,∀u,(σ v).occ u->u∈L/\σ u=vTy u
 least:∀v∈L,∀u,σ v=vTy u->u<=v
structure Raw (L:List Int) (l:List (Ty×Ty)) (o:Int->Ty):Prop where
 right:∀v∈L,(o v).right=true
 out:∀v,v∉L->o v=vTy v
 rng:∀v∈L,∀u,(o v).occ u->u∈L
 idem:∀v∈L,(o v).subF o=o v
 mg:MG l o
def firstV (L:List Int) (o:Int->Ty) (w:Int):Ty:=match L.find? fun v=>(o v).same (vTy w) with
 | some v=>vTy v
 | none=>vTy w
theorem Ty.subF_right {σ:Int->Ty}:∀t:Ty,t.right=true->(∀v,t.occ v->(σ v).right=true)->(t.subF σ).right=true:=by
 refine Ty.ind fun t ih hr h=>?_
 by_cases hk:t.k=1
 (·rw[Ty.subF_var hk];exact h _ ((Ty.occ_iff _ _).2 (.inl ⟨hk,rfl⟩)));rw[Ty.subF_more hk,Ty.right_eq,zl];have hr2:=hr;rw[Ty.right_eq,zl] at hr2;refine ⟨by simp only[Ty.k_mk,Ty.n_mk,Ty.ps_mk,zi];exact hr2.1,zB.2 fun q hq=>?_⟩;obtain ⟨p,hp,rfl⟩:=zA.1 hq;exact ih p hp (Ty.right_part hr hp) fun v hv=>h v ((Ty.occ_iff _ _).2 (.inr ⟨p,hp,hv⟩))
theorem Ty.subF_occ {σ:Int->Ty}:∀(t:Ty) (u:Int),(t.subF σ).occ u->∃v,t.occ v/\(σ v).occ u:=by
 refine Ty.ind fun t ih u h=>?_
 by_cases hk:t.k=1
 ·rw[Ty.subF_var hk] at h
  exact ⟨t.n,(Ty.occ_iff _ _).2 (.inl ⟨hk,rfl⟩),h⟩
 rw[Ty.subF_more hk] at h;(rcases (Ty.occ_iff _ _).1 h with ⟨h1,_⟩ | ⟨q,hq,h2⟩);(·exact absurd h1 hk);obtain ⟨p,hp,rfl⟩:=zA.1 hq;obtain ⟨v,h3,h4⟩:=ih p hp u h2;exact ⟨v,(Ty.occ_iff _ _).2 (.inr ⟨p,hp,h3⟩),h4⟩
def OccE (l:List (Ty×Ty)) (v:Int):Prop:=∃e∈l,e.1.occ v\/e.2.occ v
def RightE (l:List (Ty×Ty)):Prop:=∀e∈l,e.1.right=true/\e.2.right=true
theorem bfind_neg {o:List Bd} {v:Int} (h:v∉o.map Bd.v):za6 o v=-1:=by
 unfold za6
 exact za7 fun j q hj hq=>by
  have h1:=zg hq
  cases hb:q.v==v with
  | false=>rfl
  | true=>exact absurd (zA.2 ⟨q,h1,by simpa using hb⟩) h
theorem zj3 {o:List Bd} {v:Int} (h:v∉o.map Bd.v):bfun o v=vTy v:=by
 unfold bfun;rw[bfind_neg h,if_neg tz1]
theorem bfind_at {o:List Bd} (hn:(o.map Bd.v).Nodup) {i:Nat} {b:Bd} (hb:o[i]?=some b):za6 o b.v=(i:Int):=by
 unfold za6;refine za9 (p:=b) hb tz4 fun j q hj hq=>?_
 cases hg:q.v==b.v with
 | false=>rfl
 | true =>
  have h1:=List.pairwise_iff_getElem.1 hn j i (by have:=(zd.1 hq).1;simpa using this) (by have:=(zd.1 hb).1;simpa using this) hj;simp only[List.getElem_map] at h1;rw[(zd.1 hq).2,(zd.1 hb).2] at h1;exact absurd (by simpa using hg) h1
theorem bfun_in {o:List Bd} (hn:(o.map Bd.v).Nodup) {b:Bd} (hb:b∈o):bfun o b.v=b.t:=by
 obtain ⟨i,hi⟩:=List.mem_iff_getElem?.1 hb;unfold bfun;rw[bfind_at hn hi,if_pos tz1,Int.toNat_natCast,hi];rfl
theorem zgL (n:Int) (b:Ty) (v:Int):bfun [⟨n,b⟩] v=if v=n then b else vTy v:=by
 by_cases h:v=n
 ·subst h
  rw[if_pos rfl];exact bfun_in (o:=[⟨v,b⟩]) tz4 (b:=⟨v,b⟩) tz4
 rw[if_neg h,zj3 (by simpa using h)]
theorem zen {n:Int} {b:Ty} {θ:Int->Ty} (hb:b.subF θ=θ n) (t:Ty) (hr:t.right=true):(t.sub [⟨n,b⟩]).subF θ=t.subF θ:=by
 rw[Ty.sub_subF _ _ hr,Ty.subF_subF];refine Ty.subF_congr t fun v _=>?_;rw[zgL]
 by_cases h:v=n
 (·rw[if_pos h,hb,h]);rw[if_neg h,Ty.subF_var rfl];rfl
theorem Ty.var_right {v:Int}:∀{t:Ty},t.right=true->t.occ v->(vTy v).right=true:=by
 have key:∀t:Ty,t.right=true->t.occ v->(vTy v).right=true:=by
  refine Ty.ind fun t ih hr h=>?_;(rcases (Ty.occ_iff _ _).1 h with ⟨h1,rfl⟩ | ⟨p,hp,hv⟩);(·exact (congrArg Ty.right (Ty.right_var hr h1)).symm.trans hr);exact ih p hp (Ty.right_part hr hp) hv
 exact fun {t}=>key t
theorem zfQ {n:Int} {b:Ty} (hb:b.right=true) (t:Ty) (hr:t.right=true):(t.sub [⟨n,b⟩]).right=true:=by
 rw[Ty.sub_subF _ _ hr];refine Ty.subF_right t hr fun v hv=>?_;rw[zgL];split;(·exact hb);(rename_i hne);have h:=Ty.var_right hr hv;exact h
theorem one_occ {n:Int} {b:Ty} (t:Ty) (hr:t.right=true) {u:Int} (h:(t.sub [⟨n,b⟩]).occ u):(t.occ u/\u≠n)\/(t.occ n/\b.occ u):=by
 rw[Ty.sub_subF _ _ hr] at h;obtain ⟨v,h1,h2⟩:=Ty.subF_occ t u h;rw[zgL] at h2
 by_cases he:v=n
 ·rw[if_pos he] at h2
  exact .inr ⟨he▸h1,h2⟩
 rw[if_neg he] at h2;have:=Ty.occ_vTy.1 h2;subst this;exact .inl ⟨h1,he⟩
structure RInv (l l':List (Ty×Ty)) (o:List Bd):Prop where
 rl:RightE l'
 ro:∀b∈o,b.t.right=true
 nd:(o.map Bd.v).Nodup
 vl:∀v,OccE l' v->OccE l v/\v∉o.map Bd.v
 vo:∀b∈o,OccE l b.v/\∀v,b.t.occ v->OccE l v/\v∉o.map Bd.v
 fwd:∀θ:Int->Ty,zeq θ l->zeq θ l'/\∀b∈o,b.t.subF θ=θ b.v
 bwd:∀θ:Int->Ty,zeq θ l'->(∀b∈o,b.t.subF θ=θ b.v)->zeq θ l
section
variable {l l':List (Ty×Ty)} {o:List Bd} {a b:Ty}
theorem RInv.drop (h:RInv l ((a,b)::l') o) (he:a=b):RInv l l' o :=
 ⟨fun e he=>h.rl e (by simp[he]),h.ro,h.nd,fun v ⟨e,he,hv⟩=>h.vl v ⟨e,by simp[he],hv⟩,h.vo,fun θ hθ=>⟨fun e he=>(h.fwd θ hθ).1 e (by simp[he]),(h.fwd θ hθ).2⟩,
  fun θ h1 h2=>h.bwd θ (fun e hm=>by
   (rcases zH.1 hm with rfl | hm);·simp only[he]
   exact h1 e hm) h2⟩
def subE (n:Int) (b:Ty) (l:List (Ty×Ty)):List (Ty×Ty):=l.map fun e=>(e.1.sub [⟨n,b⟩],e.2.sub [⟨n,b⟩])
def subB (n:Int) (b:Ty) (o:List Bd):List Bd:=o.map (fun x=>⟨x.v,x.t.sub [⟨n,b⟩]⟩)++[⟨n,b⟩]
theorem zkx (n:Int) (b:Ty) (o:List Bd):(subB n b o).map Bd.v=o.map Bd.v++[n]:=by simp[subB,Function.comp]
theorem RInv.bind {n:Int} {e:Ty×Ty} (h:RInv l (e::l') o) (he:e=(vTy n,b)\/e=(b,vTy n)) (hn:¬b.occ n):RInv l (subE n b l') (subB n b o):=by
 have hbr:b.right=true:=by
  have:=h.rl e tz4;(rcases he with rfl | rfl);(·exact this.2);exact this.1
 have hocc:∀v,(v=n\/b.occ v)->OccE (e::l') v:=fun v hv=>⟨e,by simp,by
  (rcases he with rfl | rfl);·exact hv.imp (fun h=>Ty.occ_vTy.2 h) id
  exact hv.symm.imp id (fun h=>Ty.occ_vTy.2 h)⟩
 have hnl:=h.vl n (hocc n (.inl rfl))
 have hbl:∀v,b.occ v->OccE l v/\v∉(subB n b o).map Bd.v:=fun v hv=>by
  have h1:=h.vl v (hocc v (.inr hv));refine ⟨h1.1,?_⟩;rw[zkx,List.mem_append];rintro (h2 | h2);(·exact h1.2 h2);simp at h2;subst h2;exact hn hv
 have heq:∀θ:Int->Ty,e.1.subF θ=e.2.subF θ↔b.subF θ=θ n:=fun θ=>by
  (rcases he with rfl | rfl);(·simp only;rw[Ty.subF_var (t:=vTy n) rfl];exact eq_comm);simp only;rw[Ty.subF_var (t:=vTy n) rfl];rfl
 refine ⟨fun x hx=>?_,fun x hx=>?_,?_,fun v hv=>?_,fun x hx=>?_,fun θ hθ=>?_,fun θ h1 h2=>?_⟩
 ·obtain ⟨y,hy,rfl⟩:=zA.1 hx
  have:=h.rl y (by simp[hy]);exact ⟨zfQ hbr _ this.1,zfQ hbr _ this.2⟩
 ·rcases List.mem_append.1 hx with hx | hx
  ·obtain ⟨y,hy,rfl⟩:=zA.1 hx
   exact zfQ hbr _ (h.ro y hy)
  simp at hx;subst hx;exact hbr
 ·rw[zkx,List.nodup_append]
  exact ⟨h.nd,by simp,fun x hx y hy=>by simp at hy;subst hy;exact fun e=>hnl.2 (e▸hx)⟩
 ·obtain ⟨x,hx,hv⟩:=hv
  obtain ⟨y,hy,rfl⟩:=zA.1 hx;have hyr:=h.rl y (by simp[hy])
  have key:∀t:Ty,t.right=true->(∀u,t.occ u->OccE (e::l') u)->(t.sub [⟨n,b⟩]).occ v->OccE l v/\v∉(subB n b o).map Bd.v:=fun t ht hto hv=>by
   rcases one_occ t ht hv with ⟨h1,h2⟩ | ⟨_,h2⟩
   ·have h3:=h.vl v (hto v h1)
    refine ⟨h3.1,?_⟩;rw[zkx,List.mem_append];rintro (h4 | h4);(·exact h3.2 h4);simp at h4;exact h2 h4
   exact hbl v h2
  (rcases hv with hv | hv);(·exact key _ hyr.1 (fun u hu=>⟨y,by simp[hy],.inl hu⟩) hv);exact key _ hyr.2 (fun u hu=>⟨y,by simp[hy],.inr hu⟩) hv
 ·rcases List.mem_append.1 hx with hx | hx
  ·obtain ⟨y,hy,rfl⟩:=zA.1 hx
   have h3:=h.vo y hy;refine ⟨h3.1,fun v hv=>?_⟩;rcases one_occ _ (h.ro y hy) hv with ⟨h1,h2⟩ | ⟨_,h2⟩
   ·have h4:=h3.2 v h1
    refine ⟨h4.1,?_⟩;rw[zkx,List.mem_append];rintro (h5 | h5);(·exact h4.2 h5);simp at h5;exact h2 h5
   exact hbl v h2
  (simp at hx;subst hx);exact ⟨hnl.1,hbl⟩
 ·obtain ⟨h1,h2⟩:=h.fwd θ hθ
  have hb:=(heq θ).1 (h1 e tz4);refine ⟨fun x hx=>?_,fun x hx=>?_⟩
  ·obtain ⟨y,hy,rfl⟩:=zA.1 hx
   have hyr:=h.rl y (by simp[hy]);(simp only);rw[zen hb _ hyr.1,zen hb _ hyr.2];exact h1 y (by simp[hy])
  rcases List.mem_append.1 hx with hx | hx
  ·obtain ⟨y,hy,rfl⟩:=zA.1 hx
   (simp only);rw[zen hb _ (h.ro y hy)];exact h2 y hy
  simp at hx;subst hx;exact hb
 have hb:b.subF θ=θ n:=h2 ⟨n,b⟩ (by simp[subB]);refine h.bwd θ (fun x hx=>?_) fun x hx=>?_
 ·rcases zH.1 hx with rfl | hx
  (·exact (heq θ).2 hb);have hyr:=h.rl x (by simp[hx]);have:=h1 _ (zA.2 ⟨x,hx,rfl⟩);simp only at this
  rwa [zen hb _ hyr.1,zen hb _ hyr.2] at this
 have:=h2 ⟨x.v,x.t.sub [⟨n,b⟩]⟩ (List.mem_append.2 (.inl (zA.2 ⟨x,hx,rfl⟩)));simp only at this
 rwa [zen hb _ (h.ro x hx)] at this
end
structure Sch where
 vs:List Int
 t:Ty
def zei (l m:List Int):List Int:=l.filter fun v=>!decide (v∈m)
def Sch.all (s:Sch):List Int:=s.t.rvars []
def Sch.ok (s:Sch):Bool:=s.t.right&&decide (s.vs=s.all.filter fun v=>decide (v∈s.vs))
def Sch.free (s:Sch):List Int:=zei s.all s.vs
theorem but_but (l m:List Int):zei l (zei l m)=l.filter fun v=>decide (v∈m):=by
 refine List.filter_congr fun v hv=>?_;rw[zK];simp only[zei,List.mem_filter,hv,true_and,Bool.not_eq_true',zc,ze,Bool.not_eq_false'];exact Decidable.not_not
theorem zkV {l:List Int} (h:l.Nodup) (n:Int):(zbZ l n).Nodup:=by
 unfold zbZ;split;(·exact h);(rename_i hn);rw[List.nodup_append];refine ⟨h,by simp,fun a ha b hb=>?_⟩;(simp at hb;subst hb);intro e;subst e;exact hn (List.any_eq_true.2 ⟨a,ha,by simp⟩)
theorem Ty.rvars_nodup:∀(t:Ty) (l:List Int),l.Nodup->(t.rvars l).Nodup:=by
 refine Ty.ind fun t ih l hl=>?_;rw[Ty.rvars_eq]
 have hL:∀ps:List Ty,(∀p∈ps,∀l:List Int,l.Nodup->(p.rvars l).Nodup)->∀l:List Int,l.Nodup->(Ty.rvarsL ps l).Nodup:=by
  intro ps
  induction ps with
  | nil=>intro _ l hl;rw[Ty.rvarsL];exact hl
  | cons p ps ih2=>intro h l hl;rw[Ty.rvarsL];exact ih2 (fun q hq=>h q (by simp[hq])) _ (h p tz4 l hl)
 refine hL t.ps ih _ ?_;split;(·exact zkV hl _);exact hl
section
variable {s:Sch}
theorem Sch.ok_iff:s.ok=true↔s.t.right=true/\s.vs=s.all.filter fun v=>decide (v∈s.vs):=by
 unfold Sch.ok;rw[zl,ze]
theorem Sch.mem_all (v:Int):v∈s.all↔s.t.occ v:=Iff.rfl
theorem Sch.vs_occ (h:s.ok=true) {v:Int} (hv:v∈s.vs):s.t.occ v:=by
 rw[(Sch.ok_iff.1 h).2] at hv;exact (List.mem_filter.1 hv).1
theorem Sch.vs_nodup (h:s.ok=true):s.vs.Nodup:=by
 rw[(Sch.ok_iff.1 h).2];exact (Ty.rvars_nodup s.t [] tz4).filter _
theorem Sch.mem_free (v:Int):v∈s.free↔s.t.occ v/\v∉s.vs:=by
 unfold Sch.free zei;rw[List.mem_filter,Sch.mem_all];simp
end
mutual
def Ty.mark (p:Int->Bool):Ty->Ty
 | .mk k n ps=>if k=1/\p n=true then .mk (-1) n [] else .mk k n (Ty.markL p ps)
def Ty.markL (p:Int->Bool):List Ty->List Ty
 | []=>[]
 | t::ts=>Ty.mark p t::Ty.markL p ts
end
theorem Ty.markL_eq (p:Int->Bool):∀ps,Ty.markL p ps=ps.map (Ty.mark p)
 | []=>by simp[Ty.markL]
 | t::ts=>by simp[Ty.markL,Ty.markL_eq p ts]
theorem Ty.mark_yes {p:Int->Bool} {t:Ty} (h:t.k=1) (hp:p t.n=true):t.mark p=.mk (-1) t.n []:=by
 obtain ⟨k,n,ps⟩:=t;rw[Ty.mark,if_pos ⟨h,hp⟩];rfl
theorem Ty.mark_no {p:Int->Bool} {t:Ty} (h:¬(t.k=1/\p t.n=true)):t.mark p=.mk t.k t.n (t.ps.map (Ty.mark p)):=by
 obtain ⟨k,n,ps⟩:=t;have h:¬(k=1/\p n=true):=h;rw[Ty.mark,if_neg h,Ty.markL_eq];rfl
mutual
/-- does a type come of a general one? what its variables are then -/
def Ty.cov:Ty->Ty->List (Int×Ty)->Bool×List (Int×Ty)
 | .mk k n ps,t,m=>if k=1 then ((match zar m n with | none=>true | some x=>x.same t),zfW m n t) else if k=t.k/\n=t.n/\ps.length=t.ps.length then Ty.covL ps t.ps m else (false,m)
def Ty.covL:List Ty->List Ty->List (Int×Ty)->Bool×List (Int×Ty)
 | p::ps,q::qs,m=>if (Ty.cov p q m).1 then Ty.covL ps qs (Ty.cov p q m).2 else (false,(Ty.cov p q m).2)
 | [],_,m=>(true,m)
 | _::_,[],m=>(true,m)
end
theorem Ty.cov_var {g t:Ty} {m:List (Int×Ty)} (h:g.k=1):g.cov t m=((match zar m g.n with | none=>true | some x=>x.same t),zfW m g.n t):=by
 obtain ⟨k,n,ps⟩:=g;have h:k=1:=h;rw[Ty.cov,if_pos h];rfl
theorem Ty.cov_no {g t:Ty} {m:List (Int×Ty)} (h:¬g.k=1) (h2:¬(g.k=t.k/\g.n=t.n/\g.ps.length=t.ps.length)):g.cov t m=(false,m):=by
 obtain ⟨k,n,ps⟩:=g;have h:¬k=1:=h;have h2:¬(k=t.k/\n=t.n/\ps.length=t.ps.length):=h2;rw[Ty.cov,if_neg h,if_neg h2]
theorem Ty.cov_more {g t:Ty} {m:List (Int×Ty)} (h:¬g.k=1) (h2:g.k=t.k/\g.n=t.n/\g.ps.length=t.ps.length):g.cov t m=Ty.covL g.ps t.ps m:=by
 obtain ⟨k,n,ps⟩:=g;have h:¬k=1:=h;have h2:k=t.k/\n=t.n/\ps.length=t.ps.length:=h2;rw[Ty.cov,if_neg h,if_pos h2];rfl
def zbh (vs names:List Int):List Bd:=(vs.zip names).map fun p=>⟨p.1,vTy p.2⟩
theorem callB_v {vs names:List Int} (h:vs.length=names.length):(zbh vs names).map Bd.v=vs:=by
 unfold zbh;rw[List.map_map];exact List.map_fst_zip tz1
end Go.Proofs.YtkokfdmggdhfmaaGreatDoor
