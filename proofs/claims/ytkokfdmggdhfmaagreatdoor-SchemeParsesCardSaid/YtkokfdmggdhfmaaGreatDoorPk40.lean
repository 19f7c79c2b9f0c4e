/- packed, part 40 of 49. Conditions: none. -/
import Derived.Test.YtkokfdmggdhfmaaGreatDoorPk39
set_option linter.unusedVariables false
set_option linter.unusedSimpArgs false
namespace Go.Proofs.YtkokfdmggdhfmaaGreatDoor
open Go Go.RowKit
set_option maxRecDepth 100000
set_option maxHeartbeats 1000000
set_option linter.unnecessarySimpa false
attribute [local irreducible] aops zaK
theorem Ty.ind {C:Ty->Prop} (h:∀T,(∀p∈T.ps,C p)->C T):∀T,C T:=by
 have key:∀n,∀T:Ty,SizeOf.sizeOf T<=n->C T:=by
  intro n
  induction n with
  | zero=>intro T hT;cases T;simp at hT
  | succ n ih =>
   intro T hT;refine h T (fun p hp=>ih p ?_)
   cases T with
   | mk k m ps =>
    have:=List.sizeOf_lt_of_mem (show p∈ps from hp);(simp at hT);omega
 exact fun T=>key _ T (zy _)
mutual
def Ty.same:Ty->Ty->Bool
 | .mk k n ps,.mk k' n' ps'=>k==k'&&n==n'&&Ty.sameL ps ps'
def Ty.sameL:List Ty->List Ty->Bool
 | [],[]=>true
 | p::ps,q::qs=>Ty.same p q&&Ty.sameL ps qs
 | _,_=>false
end
theorem Ty.same_eq (a b:Ty):a.same b=(a.k==b.k&&a.n==b.n&&Ty.sameL a.ps b.ps):=by cases a;cases b;simp[Ty.same,Ty.k,Ty.n,Ty.ps]
theorem Ty.sameL_len:∀{ps qs:List Ty},ps.length≠qs.length->Ty.sameL ps qs=false
 | [],[],h=>absurd rfl h
 | [],_::_,_=>by simp[Ty.sameL]
 | _::_,[],_=>by simp[Ty.sameL]
 | p::ps,q::qs,h=>by simp[Ty.sameL,Ty.sameL_len (ps:=ps) (qs:=qs) (by simpa using h)]
theorem Ty.sameL_false:∀{ps qs:List Ty} {k:Nat} {p q:Ty},ps[k]?=some p->qs[k]?=some q->p.same q=false->Ty.sameL ps qs=false
 | p::ps,q::qs,0,_,_,h1,h2,h=>by simp at h1 h2;subst h1;subst h2;simp[Ty.sameL,h]
 | p::ps,q::qs,k+1,_,_,h1,h2,h=>by simp[Ty.sameL,Ty.sameL_false (k:=k) (by simpa using h1) (by simpa using h2) h]
 | [],_,_,_,_,h1,_,_=>by simp at h1
 | _::_,[],_,_,_,_,h2,_=>by simp at h2
theorem Ty.sameL_true:∀{ps qs:List Ty},ps.length=qs.length->(∀(k:Nat) (p q:Ty),ps[k]?=some p->qs[k]?=some q->p.same q=true)->Ty.sameL ps qs=true
 | [],[],_,_=>by simp[Ty.sameL]
 | p::ps,q::qs,hl,h=>by
  have h1:=h 0 p q rfl rfl;have h2:=Ty.sameL_true (ps:=ps) (qs:=qs) (by simpa using hl) (fun k p q hp hq=>h (k+1) p q (by simpa using hp) (by simpa using hq));simp[Ty.sameL,h1,h2]
theorem zaP {p:Prop} (h:p:=by exact Weak.mk (by simp only[go_sem,Le.refl,Le.any,Le.slNil,za,Int.cast_ofNat_Int,zm]) (fun _ _ h=>h) rfl rfl):p:=h
theorem zjc:∀(T1 T2:Ty),APure Tryz.prog 51 [.agg T1.cells,.agg T2.cells] (.v (.bool (T1.same T2))):=by
  refine Ty.ind fun T1 ih=>?_;intro T2;refine APure.mk (.cons T1.dataAgg (.cons T2.dataAgg .nil)) (.v _) ?_;refine aIn Tryz.func51 fun hm=>?_;simp only[Tryz.ntmps51,Tryz.results51,go_sem,seval];have hm1:=hm.wide (t:=T1) tz4;refine sqD ?_;refine zO fun _ u=>?_;refine sqR fun _ w=>?_;(iterate 2 (refine chS 3 ?_));refine zW 11 rfl (fun hc11=>?_) (fun hc11=>?_)
  ·
   (iterate 4 (refine chS 3 ?_));simp only[↓bO,go_sem,seval];apply w;refine zP (b:=true) (by first | exact rfl | exact congrArg (fun b=>AV.v (.bool b)) hb26) (fun _=>?_) (fun h=>(by cases h));refine sqD ?_;apply zR;(try simp only[go_sem]);first | (rw[Ty.same_eq];simp_all;done) | (rw[Ty.same_eq];simp at hb45;rw[Ty.sameL_false hp hq hb45];simp;done) | (rw[Ty.same_eq];simp at hb26;rw[Ty.sameL_len tz1];simp;done) | (rw[Ty.same_eq,Ty.sameL_true e3 (fun i p q h1 h2=>hs.2 i p q (by have:=(zf.1 h1).1;omega) h1 h2)];simp_all;done) | skip
  (iterate 2 (refine chS 3 ?_));refine chS 1 ?_;simp only[go_sem];refine zW 18 rfl (fun hc18=>?_) (fun hc18=>?_)
  ·
   (iterate 2 (refine chS 3 ?_));simp only[↓bO,go_sem,seval];apply w;refine zP (b:=true) (by first | exact rfl | exact congrArg (fun b=>AV.v (.bool b)) hb26) (fun _=>?_) (fun h=>(by cases h));refine sqD ?_;apply zR;(try simp only[go_sem]);first | (rw[Ty.same_eq];simp_all;done) | (rw[Ty.same_eq];simp at hb45;rw[Ty.sameL_false hp hq hb45];simp;done) | (rw[Ty.same_eq];simp at hb26;rw[Ty.sameL_len tz1];simp;done) | (rw[Ty.same_eq,Ty.sameL_true e3 (fun i p q h1 h2=>hs.2 i p q (by have:=(zf.1 h1).1;omega) h1 h2)];simp_all;done) | skip
  (iterate 2 (refine chS 3 ?_));simp only[↓bO,go_sem,seval];apply w;apply zP rfl <;> intro hb26
  ·
   refine sqD ?_;apply zR;(try simp only[go_sem]);first | (rw[Ty.same_eq];simp_all;done) | (rw[Ty.same_eq];simp at hb45;rw[Ty.sameL_false hp hq hb45];simp;done) | (rw[Ty.same_eq];simp at hb26;rw[Ty.sameL_len tz1];simp;done) | (rw[Ty.same_eq,Ty.sameL_true e3 (fun i p q h1 h2=>hs.2 i p q (by have:=(zf.1 h1).1;omega) h1 h2)];simp_all;done) | skip
  (have e3:T1.ps.length=T2.ps.length   := by simp at hb26;omega);apply zS;apply u;refine zO fun _ u=>?_;refine sqD ?_;apply zV;refine zae (σ:=Nat) (mB 46 44) (fun s=>s<=T1.ps.length/\∀(i:Nat) (p q:Ty),i<s->T1.ps[i]?=some p->T2.ps[i]?=some q->p.same q=true) (fun s=>[(5,.v (.int .i64 (s:Int)))]) (fun s=>[]) (fun s=>T1.ps.length-s) 0 (⟨by omega,fun i p q hi=>by omega⟩) ?_ (fun s hs=>?_)
  ·
   simp only[go_sem,seval];exact zaP
  simp only[go_sem,seval];refine zO fun _ w=>?_;refine sqR fun _ z=>?_;refine chS 3 ?_;simp only[↓bO,go_sem,seval];apply z;apply zP rfl <;> intro hb31
  ·
   (have hk:s<T1.ps.length:=by simpa using hb31);(have hk2:s<T2.ps.length:=by omega);obtain ⟨p,hp⟩:∃p,T1.ps[s]?=some p:=⟨_,zb hk⟩;obtain ⟨q,hq⟩:∃q,T2.ps[s]?=some q:=⟨_,zb hk2⟩;have hw:IntKind.i64.wrap ((s:Int)+1)=(s:Int)+1:=z8 tz1 (by have:=hm1.len;simp only[maxLen] at this;omega);apply zS;apply w;refine zO fun _ w=>?_;apply zV;refine zO fun _ z=>?_;refine zaM 12 mixed tz0 fun J0 j0=>?_;(iterate 3 (simp only[go_sem];refine zac 3 fun _ y=>?_;simp only[↓zaK,↓dOp,↓bO,go_sem,seval,hk,hk2,gM hp,gM hq,za,hw];apply y;clear y));simp only[go_sem];refine zac 1 fun _ y=>?_;simp only[↓zaK,↓dOp,↓bO,go_sem,seval,hk,hk2,gM hp,gM hq,za,hw];apply y;clear y;refine zac 1 fun _ y=>?_;simp only[↓zaK,↓dOp,↓bO,go_sem,seval,hk,hk2,gM hp,gM hq,za,hw];refine ⟨_,ih p (zh hp) q,?_⟩;apply y;clear y;simp only[↓zaK,↓dOp,↓bO,go_sem,seval,hk,hk2,gM hp,gM hq,za,hw];refine j0 _ ?_;clear j0 J0;simp only[bL,aops,zag,z6,zY];apply z;apply zP rfl <;> intro hb45
   ·
    refine sqR fun _ z=>?_;simp only[↓bO,go_sem,seval,hk,hk2,gM hp,gM hq,za,hw];apply z;apply zR;(try simp only[go_sem]);first | (rw[Ty.same_eq];simp_all;done) | (rw[Ty.same_eq];simp at hb45;rw[Ty.sameL_false hp hq hb45];simp;done) | (rw[Ty.same_eq];simp at hb26;rw[Ty.sameL_len tz1];simp;done) | (rw[Ty.same_eq,Ty.sameL_true e3 (fun i p q h1 h2=>hs.2 i p q (by have:=(zf.1 h1).1;omega) h1 h2)];simp_all;done) | skip
   apply zS;apply w;apply zQ;simp only[↓bO,go_sem,seval,hk,hk2,gM hp,gM hq,za,hw];refine ⟨(s+1),⟨by omega,fun i p' q' hi h1 h2=>(by rcases zH i s with h3 | h3 <;> first | exact hs.2 i p' q' h3 h1 h2 | (obtain rfl:i=s:=tz1;rw[hp] at h1;rw[hq] at h2;cases h1;cases h2;simpa using hb45))⟩,by omega,?_⟩;simp only[go_sem,seval,hk,hk2,gM hp,gM hq,za,zm,hw];exact zaP
  (have hk:s=T1.ps.length:=by have:=hs.1;simp at hb31;omega);apply zah;simp only[zag,z6,zY,bA,Nat.reduceEqDiff,↓reduceIte];apply u;refine sqD ?_;apply zR;(try simp only[go_sem]);first | (rw[Ty.same_eq];simp_all;done) | (rw[Ty.same_eq];simp at hb45;rw[Ty.sameL_false hp hq hb45];simp;done) | (rw[Ty.same_eq];simp at hb26;rw[Ty.sameL_len tz1];simp;done) | (rw[Ty.same_eq,Ty.sameL_true e3 (fun i p q h1 h2=>hs.2 i p q (by have:=(zf.1 h1).1;omega) h1 h2)];simp_all;done) | skip
end Go.Proofs.YtkokfdmggdhfmaaGreatDoor
namespace Go.Proofs.YtkokfdmggdhfmaaGreatDoor
open Go Go.RowKit
set_option maxRecDepth 100000
set_option maxHeartbeats 4000000
set_option linter.unnecessarySimpa false
attribute [local irreducible] aops zaK
def okN (k n:Int) (len:Nat):Bool :=
 decide ((k=1/\0<=n/\n<1073741824/\len=0)\/(n=0/\(((k=2\/k=3)/\len=0)\/(k=4/\len=2)\/(k=5/\2<=len/\len<=8))))
mutual
def Ty.right:Ty->Bool
 | .mk k n ps=>okN k n ps.length&&Ty.rightL ps
def Ty.rightL:List Ty->Bool
 | []=>true
 | p::ps=>Ty.right p&&Ty.rightL ps
end
theorem Ty.rightL_eq:∀ps,Ty.rightL ps=ps.all Ty.right
 | []=>by simp[Ty.rightL]
 | p::ps=>by simp[Ty.rightL,Ty.rightL_eq ps]
theorem Ty.right_eq (t:Ty):t.right=(okN t.k t.n t.ps.length&&t.ps.all Ty.right):=by cases t;simp[Ty.right,Ty.rightL_eq,Ty.k,Ty.n,Ty.ps]
theorem zbc {α:Type} {f:α->Bool} {ps:List α} (h:∀(i:Nat) (p:α),i<ps.length->ps[i]?=some p->f p=true):ps.all f=true:=by
 rw[zF];intro p hp;obtain ⟨i,hi,e⟩:=List.mem_iff_getElem.1 hp;exact h i p hi (by rw[zb hi,e])
theorem za4 {α:Type} {f:α->Bool} {ps:List α} {i:Nat} {p:α} (hp:ps[i]?=some p) (h:f p=false):ps.all f=false:=by
 rw[<- Bool.not_eq_true,zF];intro hh;have:=hh p (zh hp);rw[h] at this;cases this
theorem zd7:∀(T:Ty),APure Tryz.prog 62 [.agg T.cells] (.v (.bool T.right)):=by
  refine Ty.ind fun T ih=>?_;refine APure.mkL (.cons T.dataAgg .nil) (.v _) ?_;refine aIn Tryz.func62 fun hm=>?_;simp only[Tryz.ntmps62,Tryz.results62,go_sem,seval];have hm1:=hm.wide (t:=T) tz4;refine sqD ?_;refine sqR fun _ u=>?_;refine chS 2 ?_;simp only[↓bO,go_sem,seval];apply u;refine zO fun _ u=>?_;apply zV;refine zaG (mB 89 266) ([(8,.v (.bool (decide (T.k=1/\(T.n<0\/1073741824<=T.n\/0<T.ps.length)))))]) ([]) ?_ ?_
  ·
   apply zQ;(iterate 2 (refine chS 2 ?_));refine zW 12 rfl (fun hc12=>?_) (fun hc12=>?_)
   ·
    (iterate 2 (refine chS 2 ?_));refine zW 16 rfl (fun hc16=>?_) (fun hc16=>?_)
    ·
     (iterate 4 (refine chS 2 ?_));simp only[↓bO,go_sem,seval];(try simp only[go_sem,seval]);refine Weak.mk ?_ (fun _ _ h=>h) rfl rfl;simp only[go_sem,Le.refl,Le.any];all_goals (refine Le.of_eq (congrArg (fun b=>AV.v (.bool b)) ?_);rw[zM];simp at *;omega)
    (iterate 2 (refine chS 2 ?_));refine chS 1 ?_;simp only[go_sem];refine zW 21 rfl (fun hc21=>?_) (fun hc21=>?_)
    ·
     (iterate 2 (refine chS 2 ?_));simp only[↓bO,go_sem,seval];(try simp only[go_sem,seval]);refine Weak.mk ?_ (fun _ _ h=>h) rfl rfl;simp only[go_sem,Le.refl,Le.any];all_goals (refine Le.of_eq (congrArg (fun b=>AV.v (.bool b)) ?_);rw[zM];simp at *;omega)
    (iterate 2 (refine chS 2 ?_));simp only[↓bO,go_sem,seval];(try simp only[go_sem,seval]);refine Weak.mk ?_ (fun _ _ h=>h) rfl rfl;simp only[go_sem,Le.refl,Le.any];all_goals (refine Le.of_eq (congrArg (fun b=>AV.v (.bool b)) ?_);rw[zM];simp at *;omega)
   refine chS 2 ?_;refine chS 3 ?_;refine chS 2 ?_;refine chS 3 ?_;refine chS 2 ?_;simp only[↓bO,go_sem,seval];(try simp only[go_sem,seval]);refine Weak.mk ?_ (fun _ _ h=>h) rfl rfl;simp only[go_sem,Le.refl,Le.any];all_goals (refine Le.of_eq (congrArg (fun b=>AV.v (.bool b)) ?_);rw[zM];simp at *;omega)
  simp only[go_sem,seval];apply zP rfl <;> intro hb8
  ·
   refine sqD ?_;apply zR;(try simp only[go_sem]);refine Le.of_eq ?_;rw[Ty.right_eq];(all_goals try simp only[zg,ze] at hb8);(all_goals try simp only[zg,ze] at hb26);(all_goals try simp only[zg,ze] at hb35);(all_goals try simp only[zg,ze] at hb48);(all_goals try simp only[zg,ze] at hb56);(all_goals try simp only[zg,ze] at hb68);first | (have e1:okN T.k T.n T.ps.length=false:=(by simp only[okN,ze];omega);rw[e1];rfl) | (rw[za4 hp (by simpa using hb88)];simp;done) | (have e1:okN T.k T.n T.ps.length=true:=(by simp only[okN,zg];omega);rw[e1,zbc (f:=Ty.right) (fun i p hi h1=>hs.2 i p tz1 h1)];rfl)
  refine zaG (mB 89 67108874) ([(26,.v (.bool (decide (T.k≠1/\T.n≠0))))]) ([]) ?_ ?_
  ·
   apply zQ;(iterate 2 (refine chS 2 ?_));refine zW 30 rfl (fun hc30=>?_) (fun hc30=>?_)
   ·
    (iterate 2 (refine chS 2 ?_));simp only[↓bO,go_sem,seval];(try simp only[go_sem,seval]);refine Weak.mk ?_ (fun _ _ h=>h) rfl rfl;simp only[go_sem,Le.refl,Le.any];all_goals (refine Le.of_eq (congrArg (fun b=>AV.v (.bool b)) ?_);rw[zM];simp at *;omega)
   (iterate 2 (refine chS 2 ?_));simp only[↓bO,go_sem,seval];(try simp only[go_sem,seval]);refine Weak.mk ?_ (fun _ _ h=>h) rfl rfl;simp only[go_sem,Le.refl,Le.any];all_goals (refine Le.of_eq (congrArg (fun b=>AV.v (.bool b)) ?_);rw[zM];simp at *;omega)
  simp only[go_sem,seval];apply zP rfl <;> intro hb26
  ·
   refine sqD ?_;apply zR;(try simp only[go_sem]);refine Le.of_eq ?_;rw[Ty.right_eq];(all_goals try simp only[zg,ze] at hb8);(all_goals try simp only[zg,ze] at hb26);(all_goals try simp only[zg,ze] at hb35);(all_goals try simp only[zg,ze] at hb48);(all_goals try simp only[zg,ze] at hb56);(all_goals try simp only[zg,ze] at hb68);first | (have e1:okN T.k T.n T.ps.length=false:=(by simp only[okN,ze];omega);rw[e1];rfl) | (rw[za4 hp (by simpa using hb88)];simp;done) | (have e1:okN T.k T.n T.ps.length=true:=(by simp only[okN,zg];omega);rw[e1,zbc (f:=Ty.right) (fun i p hi h1=>hs.2 i p tz1 h1)];rfl)
  refine zaG (mB 89 34359738378) ([(35,.v (.bool (decide ((T.k=2\/T.k=3)/\0<T.ps.length))))]) ([]) ?_ ?_
  ·
   apply zQ;(iterate 2 (refine chS 2 ?_));refine zW 39 rfl (fun hc39=>?_) (fun hc39=>?_)
   ·
    (iterate 4 (refine chS 2 ?_));simp only[↓bO,go_sem,seval];(try simp only[go_sem,seval]);refine Weak.mk ?_ (fun _ _ h=>h) rfl rfl;simp only[go_sem,Le.refl,Le.any];all_goals (refine Le.of_eq (congrArg (fun b=>AV.v (.bool b)) ?_);rw[zM];simp at *;omega)
   (iterate 2 (refine chS 2 ?_));refine chS 1 ?_;simp only[go_sem];refine zW 44 rfl (fun hc44=>?_) (fun hc44=>?_)
   ·
    refine chS 2 ?_;simp only[↓bO,go_sem,seval];(try simp only[go_sem,seval]);refine Weak.mk ?_ (fun _ _ h=>h) rfl rfl;simp only[go_sem,Le.refl,Le.any];all_goals (refine Le.of_eq (congrArg (fun b=>AV.v (.bool b)) ?_);rw[zM];simp at *;omega)
   refine chS 2 ?_;simp only[↓bO,go_sem,seval];(try simp only[go_sem,seval]);refine Weak.mk ?_ (fun _ _ h=>h) rfl rfl;simp only[go_sem,Le.refl,Le.any];all_goals (refine Le.of_eq (congrArg (fun b=>AV.v (.bool b)) ?_);rw[zM];simp at *;omega)
  simp only[go_sem,seval];apply zP rfl <;> intro hb35
  ·
   refine sqD ?_;apply zR;(try simp only[go_sem]);refine Le.of_eq ?_;rw[Ty.right_eq];(all_goals try simp only[zg,ze] at hb8);(all_goals try simp only[zg,ze] at hb26);(all_goals try simp only[zg,ze] at hb35);(all_goals try simp only[zg,ze] at hb48);(all_goals try simp only[zg,ze] at hb56);(all_goals try simp only[zg,ze] at hb68);first | (have e1:okN T.k T.n T.ps.length=false:=(by simp only[okN,ze];omega);rw[e1];rfl) | (rw[za4 hp (by simpa using hb88)];simp;done) | (have e1:okN T.k T.n T.ps.length=true:=(by simp only[okN,zg];omega);rw[e1,zbc (f:=Ty.right) (fun i p hi h1=>hs.2 i p tz1 h1)];rfl)
  refine zaG (mB 89 281474976710666) ([(48,.v (.bool (decide (T.k=4/\T.ps.length≠2))))]) ([]) ?_ ?_
  ·
   apply zQ;(iterate 2 (refine chS 2 ?_));refine zW 52 rfl (fun hc52=>?_) (fun hc52=>?_)
   ·
    refine chS 2 ?_;simp only[↓bO,go_sem,seval];(try simp only[go_sem,seval]);refine Weak.mk ?_ (fun _ _ h=>h) rfl rfl;simp only[go_sem,Le.refl,Le.any];all_goals (refine Le.of_eq (congrArg (fun b=>AV.v (.bool b)) ?_);rw[zM];simp at *;omega)
   refine chS 2 ?_;simp only[↓bO,go_sem,seval];(try simp only[go_sem,seval]);refine Weak.mk ?_ (fun _ _ h=>h) rfl rfl;simp only[go_sem,Le.refl,Le.any];all_goals (refine Le.of_eq (congrArg (fun b=>AV.v (.bool b)) ?_);rw[zM];simp at *;omega)
  simp only[go_sem,seval];apply zP rfl <;> intro hb48
  ·
   refine sqD ?_;apply zR;(try simp only[go_sem]);refine Le.of_eq ?_;rw[Ty.right_eq];(all_goals try simp only[zg,ze] at hb8);(all_goals try simp only[zg,ze] at hb26);(all_goals try simp only[zg,ze] at hb35);(all_goals try simp only[zg,ze] at hb48);(all_goals try simp only[zg,ze] at hb56);(all_goals try simp only[zg,ze] at hb68);first | (have e1:okN T.k T.n T.ps.length=false:=(by simp only[okN,ze];omega);rw[e1];rfl) | (rw[za4 hp (by simpa using hb88)];simp;done) | (have e1:okN T.k T.n T.ps.length=true:=(by simp only[okN,zg];omega);rw[e1,zbc (f:=Ty.right) (fun i p hi h1=>hs.2 i p tz1 h1)];rfl)
  refine zaG (mB 89 72057594037927946) ([(56,.v (.bool (decide (T.k=5/\(T.ps.length<2\/8<T.ps.length)))))]) ([]) ?_ ?_
  ·
   apply zQ;(iterate 2 (refine chS 2 ?_));refine zW 60 rfl (fun hc60=>?_) (fun hc60=>?_)
   ·
    refine chS 2 ?_;refine chS 1 ?_;simp only[go_sem];refine zW 63 rfl (fun hc63=>?_) (fun hc63=>?_)
    ·
     (iterate 2 (refine chS 2 ?_));simp only[↓bO,go_sem,seval];(try simp only[go_sem,seval]);refine Weak.mk ?_ (fun _ _ h=>h) rfl rfl;simp only[go_sem,Le.refl,Le.any];all_goals (refine Le.of_eq (congrArg (fun b=>AV.v (.bool b)) ?_);rw[zM];simp at *;omega)
    (iterate 2 (refine chS 2 ?_));simp only[↓bO,go_sem,seval];(try simp only[go_sem,seval]);refine Weak.mk ?_ (fun _ _ h=>h) rfl rfl;simp only[go_sem,Le.refl,Le.any];all_goals (refine Le.of_eq (congrArg (fun b=>AV.v (.bool b)) ?_);rw[zM];simp at *;omega)
   (iterate 3 (refine chS 2 ?_));simp only[↓bO,go_sem,seval];(try simp only[go_sem,seval]);refine Weak.mk ?_ (fun _ _ h=>h) rfl rfl;simp only[go_sem,Le.refl,Le.any];all_goals (refine Le.of_eq (congrArg (fun b=>AV.v (.bool b)) ?_);rw[zM];simp at *;omega)
  simp only[go_sem,seval];apply zP rfl <;> intro hb56
  ·
   refine sqD ?_;apply zR;(try simp only[go_sem]);refine Le.of_eq ?_;rw[Ty.right_eq];(all_goals try simp only[zg,ze] at hb8);(all_goals try simp only[zg,ze] at hb26);(all_goals try simp only[zg,ze] at hb35);(all_goals try simp only[zg,ze] at hb48);(all_goals try simp only[zg,ze] at hb56);(all_goals try simp only[zg,ze] at hb68);first | (have e1:okN T.k T.n T.ps.length=false:=(by simp only[okN,ze];omega);rw[e1];rfl) | (rw[za4 hp (by simpa using hb88)];simp;done) | (have e1:okN T.k T.n T.ps.length=true:=(by simp only[okN,zg];omega);rw[e1,zbc (f:=Ty.right) (fun i p hi h1=>hs.2 i p tz1 h1)];rfl)
  refine zaG (mB 89 295147905179352825866) ([(68,.v (.bool (decide (T.k<1\/5<T.k))))]) ([]) ?_ ?_
  ·
   apply zQ;(iterate 2 (refine chS 2 ?_));refine zW 72 rfl (fun hc72=>?_) (fun hc72=>?_)
   ·
    (iterate 2 (refine chS 2 ?_));simp only[↓bO,go_sem,seval];(try simp only[go_sem,seval]);refine Weak.mk ?_ (fun _ _ h=>h) rfl rfl;simp only[go_sem,Le.refl,Le.any];all_goals (refine Le.of_eq (congrArg (fun b=>AV.v (.bool b)) ?_);rw[zM];simp at *;omega)
   (iterate 2 (refine chS 2 ?_));simp only[↓bO,go_sem,seval];(try simp only[go_sem,seval]);refine Weak.mk ?_ (fun _ _ h=>h) rfl rfl;simp only[go_sem,Le.refl,Le.any];all_goals (refine Le.of_eq (congrArg (fun b=>AV.v (.bool b)) ?_);rw[zM];simp at *;omega)
  simp only[go_sem,seval];apply zP rfl <;> intro hb68
  ·
   refine sqD ?_;apply zR;(try simp only[go_sem]);refine Le.of_eq ?_;rw[Ty.right_eq];(all_goals try simp only[zg,ze] at hb8);(all_goals try simp only[zg,ze] at hb26);(all_goals try simp only[zg,ze] at hb35);(all_goals try simp only[zg,ze] at hb48);(all_goals try simp only[zg,ze] at hb56);(all_goals try simp only[zg,ze] at hb68);first | (have e1:okN T.k T.n T.ps.length=false:=(by simp only[okN,ze];omega);rw[e1];rfl) | (rw[za4 hp (by simpa using hb88)];simp;done) | (have e1:okN T.k T.n T.ps.length=true:=(by simp only[okN,zg];omega);rw[e1,zbc (f:=Ty.right) (fun i p hi h1=>hs.2 i p tz1 h1)];rfl)
  apply zS;apply u;refine zO fun _ u=>?_;refine sqD ?_;apply zV;refine zae (σ:=Nat) (mB 89 26) (fun s=>s<=T.ps.length/\∀(i:Nat) (p:Ty),i<s->T.ps[i]?=some p->p.right=true) (fun s=>[(4,.v (.int .i64 (s:Int)))]) (fun s=>[]) (fun s=>T.ps.length-s) 0 (⟨by omega,fun i p hi=>by omega⟩) ?_ (fun s hs=>?_)
  ·
   simp only[go_sem,seval];exact zaP
  simp only[go_sem,seval];refine zO fun _ w=>?_;refine sqR fun _ z=>?_;refine chS 2 ?_;simp only[↓bO,go_sem,seval];apply z;apply zP rfl <;> intro hb79
  ·
   (have hk:s<T.ps.length:=by simpa using hb79);obtain ⟨p,hp⟩:∃p,T.ps[s]?=some p:=⟨_,zb hk⟩;have hw:IntKind.i64.wrap ((s:Int)+1)=(s:Int)+1:=z8 tz1 (by have:=hm1.len;simp only[maxLen] at this;omega);apply zS;apply w;refine zO fun _ w=>?_;apply zV;refine sqR fun _ z=>?_;(iterate 2 (refine chS 2 ?_ (by intro _ q;simp only[↓bO,go_sem,seval,hk,gM hp,za,hw];exact q)));refine chS 1 ?_ (by intro _ q;simp only[↓bO,go_sem,seval,hk,gM hp,za,hw];exact q);refine zN 1 fun _ y=>?_;simp only[↓bO,go_sem,seval,hk,gM hp,za,hw];refine APure.call (ih p (zh hp)) ?_;apply y;clear y;simp only[↓bO,go_sem,seval,hk,gM hp,za,hw];apply z;apply zP rfl <;> intro hb88
   ·
    refine sqR fun _ z=>?_;simp only[↓bO,go_sem,seval,hk,gM hp,za,hw];apply z;apply zR;(try simp only[go_sem]);refine Le.of_eq ?_;rw[Ty.right_eq];(all_goals try simp only[zg,ze] at hb8);(all_goals try simp only[zg,ze] at hb26);(all_goals try simp only[zg,ze] at hb35);(all_goals try simp only[zg,ze] at hb48);(all_goals try simp only[zg,ze] at hb56);(all_goals try simp only[zg,ze] at hb68);first | (have e1:okN T.k T.n T.ps.length=false:=(by simp only[okN,ze];omega);rw[e1];rfl) | (rw[za4 hp (by simpa using hb88)];simp;done) | (have e1:okN T.k T.n T.ps.length=true:=(by simp only[okN,zg];omega);rw[e1,zbc (f:=Ty.right) (fun i p hi h1=>hs.2 i p tz1 h1)];rfl)
   apply zS;apply w;apply zQ;refine chS 2 ?_ (by intro _ q;simp only[↓bO,go_sem,seval,hk,gM hp,za,hw];exact q);simp only[↓bO,go_sem,seval,hk,gM hp,za,hw];refine ⟨(s+1),⟨by omega,fun i p' hi h1=>(by rcases zH i s with h3 | h3 <;> first | exact hs.2 i p' h3 h1 | (obtain rfl:i=s:=tz1;rw[hp] at h1;cases h1;simpa using hb88))⟩,by omega,?_⟩;simp only[go_sem,seval,hk,gM hp,za,zm,hw];exact zaP
  (have hk:s=T.ps.length:=by have:=hs.1;simp at hb79;omega);apply zah;simp only[zag,z6,zY,bA,Nat.reduceEqDiff,↓reduceIte];apply u;refine sqD ?_;apply zR;(try simp only[go_sem]);refine Le.of_eq ?_;rw[Ty.right_eq];(all_goals try simp only[zg,ze] at hb8);(all_goals try simp only[zg,ze] at hb26);(all_goals try simp only[zg,ze] at hb35);(all_goals try simp only[zg,ze] at hb48);(all_goals try simp only[zg,ze] at hb56);(all_goals try simp only[zg,ze] at hb68);first | (have e1:okN T.k T.n T.ps.length=false:=(by simp only[okN,ze];omega);rw[e1];rfl) | (rw[za4 hp (by simpa using hb88)];simp;done) | (have e1:okN T.k T.n T.ps.length=true:=(by simp only[okN,zg];omega);rw[e1,zbc (f:=Ty.right) (fun i p hi h1=>hs.2 i p tz1 h1)];rfl)
theorem zer (n:Int):APure Tryz.prog 99 [.v (.int .i64 n)] (.v (.bool (decide (0<=n/\n<1073741824)))):=by
  refine APure.mkL (.cons (.v _) .nil) (.v _) ?_;refine aIn Tryz.func99 fun hm=>?_;simp only[Tryz.ntmps99,Tryz.results99,go_sem,seval];refine sqD ?_;refine sqR fun _ q=>?_;refine chS 3 ?_;simp only[go_sem];refine zW 5 rfl (fun hc5=>?_) (fun hc5=>?_)
  ·
   simp only[go_sem];simp only[↓bO,go_sem,seval];apply q;apply zR;(try simp only[go_sem]);refine Le.of_eq (congrArg (fun b=>AV.v (.bool b)) ?_);simp at *;omega
  simp only[go_sem];simp only[↓bO,go_sem,seval];apply q;apply zR;(try simp only[go_sem]);refine Le.of_eq (congrArg (fun b=>AV.v (.bool b)) ?_);simp at *;omega
theorem zl9 (T:Ty):APure Tryz.prog 121 [.agg T.cells] (.v (.bool (okN T.k T.n T.ps.length))):=by
  refine APure.mkL (.cons T.dataAgg .nil) (.v _) ?_;refine aIn Tryz.func121 fun hm=>?_;simp only[Tryz.ntmps121,Tryz.results121,go_sem,seval];refine sqD ?_;refine sqR fun _ y=>?_;refine chS 3 ?_;simp only[↓bO,go_sem,seval];apply y;refine zO fun _ y=>?_;refine sqD ?_;apply zV;refine sqD ?_;apply zP rfl <;> intro hb9
  ·
   refine sqR fun _ u=>?_;refine chS 2 ?_;refine zN 1 fun _ q=>?_;simp only[↓bO,go_sem,seval];refine APure.call (zer T.n) ?_;apply q;clear q;refine chS 1 ?_;simp only[go_sem];refine zW 14 rfl (fun hc14=>?_) (fun hc14=>?_)
   ·
    refine chS 3 ?_;simp only[↓bO,go_sem,seval];apply u;apply zR;(try simp only[go_sem]);refine Le.of_eq (congrArg (fun b=>AV.v (.bool b)) ?_);rw[zM];simp only[okN,zg,beq_iff_eq,zA,beq_eq_false_iff_ne,ne_eq,ze,false_iff,true_iff,and_true,true_and] at *;try omega
   refine chS 3 ?_;simp only[↓bO,go_sem,seval];apply u;apply zR;(try simp only[go_sem]);refine Le.of_eq (congrArg (fun b=>AV.v (.bool b)) ?_);rw[zM];simp only[okN,zg,beq_iff_eq,zA,beq_eq_false_iff_ne,ne_eq,ze,false_iff,true_iff,and_true,true_and] at *;try omega
  refine zO fun _ u=>?_;refine sqD ?_;apply zP rfl <;> intro hb18
  ·
   apply zS;apply u;refine zP (b:=true) (by first | exact rfl | exact congrArg (fun b=>AV.v (.bool b)) hb18) (fun _=>?_) (fun h=>(by cases h));refine sqR fun _ u=>?_;refine chS 3 ?_;refine chS 1 ?_;simp only[go_sem];refine zW 24 rfl (fun hc24=>?_) (fun hc24=>?_)
   ·
    refine chS 3 ?_;simp only[↓bO,go_sem,seval];apply u;apply zR;(try simp only[go_sem]);refine Le.of_eq (congrArg (fun b=>AV.v (.bool b)) ?_);rw[zM];simp only[okN,zg,beq_iff_eq,zA,beq_eq_false_iff_ne,ne_eq,ze,false_iff,true_iff,and_true,true_and] at *;try omega
   refine chS 3 ?_;simp only[↓bO,go_sem,seval];apply u;apply zR;(try simp only[go_sem]);refine Le.of_eq (congrArg (fun b=>AV.v (.bool b)) ?_);rw[zM];simp only[okN,zg,beq_iff_eq,zA,beq_eq_false_iff_ne,ne_eq,ze,false_iff,true_iff,and_true,true_and] at *;try omega
  apply zQ;simp only[↓bO,go_sem,seval];apply u;apply zP rfl <;> intro hb18
  ·
   refine sqR fun _ u=>?_;refine chS 3 ?_;refine chS 1 ?_;simp only[go_sem];refine zW 24 rfl (fun hc24=>?_) (fun hc24=>?_)
   ·
    refine chS 3 ?_;simp only[↓bO,go_sem,seval];apply u;apply zR;(try simp only[go_sem]);refine Le.of_eq (congrArg (fun b=>AV.v (.bool b)) ?_);rw[zM];simp only[okN,zg,beq_iff_eq,zA,beq_eq_false_iff_ne,ne_eq,ze,false_iff,true_iff,and_true,true_and] at *;try omega
   refine chS 3 ?_;simp only[↓bO,go_sem,seval];apply u;apply zR;(try simp only[go_sem]);refine Le.of_eq (congrArg (fun b=>AV.v (.bool b)) ?_);rw[zM];simp only[okN,zg,beq_iff_eq,zA,beq_eq_false_iff_ne,ne_eq,ze,false_iff,true_iff,and_true,true_and] at *;try omega
  refine sqD ?_;apply zP rfl <;> intro hb28
  ·
   refine sqR fun _ u=>?_;refine chS 3 ?_;refine chS 1 ?_;simp only[go_sem];refine zW 33 rfl (fun hc33=>?_) (fun hc33=>?_)
   ·
    refine chS 3 ?_;simp only[↓bO,go_sem,seval];apply u;apply zR;(try simp only[go_sem]);refine Le.of_eq (congrArg (fun b=>AV.v (.bool b)) ?_);rw[zM];simp only[okN,zg,beq_iff_eq,zA,beq_eq_false_iff_ne,ne_eq,ze,false_iff,true_iff,and_true,true_and] at *;try omega
   refine chS 3 ?_;simp only[↓bO,go_sem,seval];apply u;apply zR;(try simp only[go_sem]);refine Le.of_eq (congrArg (fun b=>AV.v (.bool b)) ?_);rw[zM];simp only[okN,zg,beq_iff_eq,zA,beq_eq_false_iff_ne,ne_eq,ze,false_iff,true_iff,and_true,true_and] at *;try omega
  refine sqD ?_;apply zP rfl <;> intro hb37
  ·
   refine sqR fun _ u=>?_;refine chS 3 ?_;refine chS 1 ?_;simp only[go_sem];refine zW 42 rfl (fun hc42=>?_) (fun hc42=>?_)
   ·
    refine chS 3 ?_;refine chS 1 ?_;simp only[go_sem];refine zW 46 rfl (fun hc46=>?_) (fun hc46=>?_)
    ·
     refine chS 3 ?_;simp only[↓bO,go_sem,seval];apply u;apply zR;(try simp only[go_sem]);refine Le.of_eq (congrArg (fun b=>AV.v (.bool b)) ?_);rw[zM];simp only[okN,zg,beq_iff_eq,zA,beq_eq_false_iff_ne,ne_eq,ze,false_iff,true_iff,and_true,true_and] at *;try omega
    refine chS 3 ?_;simp only[↓bO,go_sem,seval];apply u;apply zR;(try simp only[go_sem]);refine Le.of_eq (congrArg (fun b=>AV.v (.bool b)) ?_);rw[zM];simp only[okN,zg,beq_iff_eq,zA,beq_eq_false_iff_ne,ne_eq,ze,false_iff,true_iff,and_true,true_and] at *;try omega
   (iterate 2 (refine chS 3 ?_));simp only[↓bO,go_sem,seval];apply u;apply zR;(try simp only[go_sem]);refine Le.of_eq (congrArg (fun b=>AV.v (.bool b)) ?_);rw[zM];simp only[okN,zg,beq_iff_eq,zA,beq_eq_false_iff_ne,ne_eq,ze,false_iff,true_iff,and_true,true_and] at *;try omega
  apply zS;apply y;refine sqD ?_;apply zR;(try simp only[go_sem]);refine Le.of_eq (congrArg (fun b=>AV.v (.bool b)) ?_);rw[zM];simp only[okN,zg,beq_iff_eq,zA,beq_eq_false_iff_ne,ne_eq,ze,false_iff,true_iff,and_true,true_and] at *;try omega
theorem zeo {α:Type} {f:α->Bool} {ps:List α} {i:Nat} {p:α} (hp:ps[i]?=some p) (h:f p=true):ps.any f=true:=List.any_eq_true.2 ⟨p,zh hp,h⟩
theorem zc8 {α:Type} {f:α->Bool} {ps:List α} (h:∀(i:Nat) (p:α),i<ps.length->ps[i]?=some p->f p=false):ps.any f=false:=by
 rw[<- Bool.not_eq_true,List.any_eq_true];rintro ⟨p,hp,hf⟩;obtain ⟨i,hi,e⟩:=List.mem_iff_getElem.1 hp;rw[h i p hi (by rw[zb hi,e])] at hf;cases hf
def zhX {α:Type} (g:α->Bool) (l:List α):Int:=if l.any g then (l.findIdx g:Int) else -1
theorem zbl {α:Type} {g:α->Bool} {l:List α} {i:Nat} {p:α} (hp:l[i]?=some p) (h:g p=true) (hb:∀(j:Nat) (q:α),j<i->l[j]?=some q->g q=false):zhX g l=(i:Int):=by
 have hi:i<l.length:=(zf.1 hp).1;have e:l[i]=p:=(zf.1 hp).2;rw[zhX,if_pos (zeo hp h)];(congr 1);refine List.findIdx_eq hi |>.2 ⟨by rw[e];exact h,fun j hj=>?_⟩;exact hb j _ hj (zb tz1)
theorem zbm {α:Type} {g:α->Bool} {l:List α} (hb:∀(j:Nat) (q:α),j<l.length->l[j]?=some q->g q=false):zhX g l=-1:=by
 rw[zhX,zc8 hb];rfl
theorem zhn {α:Type} {g:α->Bool} {l:List α}:decide (zhX g l>=0)=l.any g:=by
 unfold zhX;split;(·rename_i h;rw[h];simp);rename_i h;simp at h;simp;exact h
theorem zfc (ps:List Ty) (g:Nat) (f:Ty->Bool) (hf:∀p∈ps,APure Tryz.prog g [.agg p.cells] (.v (.bool (f p)))):APure Tryz.prog 170 [.sl 3 (ps.map Ty.cells),.clo g []] (.v (.int .i64 (zhX f ps))):=by
  refine APure.mkL (.cons (Ty.dataSl ps) (.cons (.clo (fun _ h=>by cases h)) .nil)) (.v _) ?_;refine aIn Tryz.func170 fun hm=>?_;simp only[Tryz.ntmps170,Tryz.results170,go_sem,seval];have hm1:=hm.len (sz:=3) (xs:=ps.map Ty.cells) tz4;rw[zi] at hm1;(have hm2:∀i:Nat,i<ps.length->IntKind.i64.wrap ((i:Int)+1)=(i:Int)+1:=fun i hi=>z8 tz1 (by simp only[maxLen] at hm1;omega));refine sqD ?_;refine zO fun _ y=>?_;refine sqD ?_;apply zV;refine zae (σ:=Nat) (mB 19 387) (fun s=>s<=ps.length/\∀(i:Nat) (p:Ty),i<s->ps[i]?=some p->f p=false) (fun s=>[(8,.v (.int .i64 (s:Int)))]) (fun s=>[]) (fun s=>ps.length-s) 0 (⟨by omega,fun i p hi=>by omega⟩) ?_ (fun s hs=>?_)
  ·
   simp only[go_sem,seval];exact zaP
  simp only[go_sem,seval];refine sqD ?_;refine zO fun _ u=>?_;apply zP rfl <;> intro hb9
  ·
   (have hk:s<ps.length:=by simpa using hb9);obtain ⟨p,hp⟩:∃p,ps[s]?=some p:=⟨_,zb hk⟩;have hw:=hm2 s hk;apply zS;apply u;refine zO fun _ u=>?_;apply zV;refine sqR fun _ w=>?_;simp only[↓bO,go_sem,seval,hk,gM hp,za,hw];apply w;refine sqR fun _ w=>?_;refine chS 4 ?_ (by intro _ q;simp only[↓bO,go_sem,seval,hk,gM hp,za,hw];exact q);refine chS 1 ?_ (by intro _ q;simp only[↓bO,go_sem,seval,hk,gM hp,za,hw];exact q);simp only[↓bO,go_sem,seval,hk,gM hp,za,hw];refine APure.call (hf p (zh hp)) ?_;apply w;apply zP rfl <;> intro hb16
   ·
    refine sqR fun _ w=>?_;simp only[↓bO,go_sem,seval,hk,gM hp,za,hw];apply w;apply zR;(try simp only[go_sem]);refine Le.of_eq (congrArg (fun n=>AV.v (.int .i64 n)) ?_);first | (rw[zbl hp (by exact hb16) hs.2];done) | (rw[zbm (fun i p hi h1=>hs.2 i p tz1 h1)];done)
   apply zS;apply u;apply zQ;simp only[↓bO,go_sem,seval,hk,gM hp,za,hw];refine ⟨(s+1),⟨by omega,fun i p' hi h1=>(by rcases zH i s with h3 | h3 <;> first | exact hs.2 i p' h3 h1 | (obtain rfl:i=s:=tz1;rw[hp] at h1;cases h1;exact hb16))⟩,by omega,?_⟩;simp only[go_sem,seval,hk,gM hp,za,zm,hw];exact zaP
  (have hk:s=ps.length:=by have:=hs.1;simp at hb9;omega);apply zah;simp only[zag,z6,zY,bA,Nat.reduceEqDiff,↓reduceIte];apply y;refine sqD ?_;apply zR;(try simp only[go_sem]);refine Le.of_eq (congrArg (fun n=>AV.v (.int .i64 n)) ?_);first | (rw[zbl hp (by exact hb16) hs.2];done) | (rw[zbm (fun i p hi h1=>hs.2 i p tz1 h1)];done)
theorem zb3 (ps:List Ty) (g:Nat) (f:Ty->Bool) (hf:∀p∈ps,APure Tryz.prog g [.agg p.cells] (.v (.bool (f p)))):APure Tryz.prog 122 [.sl 3 (ps.map Ty.cells),.clo g []] (.v (.bool (ps.any f))):=by
 refine APure.mkL (.cons (Ty.dataSl ps) (.cons (.clo (fun _ h=>by cases h)) .nil)) (.v _) ?_;refine aIn Tryz.func122 fun hm=>?_;simp only[Tryz.ntmps122,Tryz.results122,go_sem,seval];refine sqR fun _ u=>?_;simp only[↓bO,go_sem,seval,zhn];apply u;refine sqR fun _ u=>?_;refine chS 2 ?_ (by intro _ q;simp only[↓bO,go_sem,seval,zhn];exact q);refine zN 1 fun _ y=>?_;simp only[↓bO,go_sem,seval,zhn];refine APure.call (zfc ps g f hf) ?_;apply y;clear y;simp only[↓bO,go_sem,seval,zhn];apply u;apply zR;exact Le.refl _
theorem zj2 {p:Ty} (h:APure Tryz.prog 81 [.agg p.cells] (.v (.bool p.right))):APure Tryz.prog 123 [.agg p.cells] (.v (.bool (!p.right))):=by
 refine APure.mkL (.cons p.dataAgg .nil) (.v _) ?_;refine aIn Tryz.func123 fun hm=>?_;simp only[Tryz.ntmps123,Tryz.results123,go_sem,seval];refine sqD ?_;refine sqR fun _ y=>?_;refine chS 1 ?_;refine zN 1 fun _ q=>?_;simp only[↓bO,go_sem,seval];refine APure.call (h) ?_;apply q;clear q;simp only[↓bO,go_sem,seval];apply y;apply zR;exact Le.refl _
theorem zcK:∀(T:Ty),APure Tryz.prog 81 [.agg T.cells] (.v (.bool T.right)):=by
  refine Ty.ind fun T ih=>?_;refine APure.mkL (.cons T.dataAgg .nil) (.v _) ?_;refine aIn Tryz.func81 fun hm=>?_;simp only[Tryz.ntmps81,Tryz.results81,go_sem,seval];refine sqD ?_;refine sqR fun _ y=>?_;refine chS 1 ?_;refine zN 1 fun _ q=>?_;simp only[↓bO,go_sem,seval];refine APure.call (zl9 T) ?_;apply q;clear q;refine chS 1 ?_;simp only[go_sem];refine zW 5 rfl (fun hc5=>?_) (fun hc5=>?_)
  ·
   refine chS 2 ?_;refine zN 1 fun _ q=>?_;simp only[↓bO,go_sem,seval];refine APure.call (zb3 T.ps 123 (fun p=>!p.right) (fun p hp=>zj2 (ih p hp))) ?_;apply q;clear q;simp only[↓bO,go_sem,seval];apply y;apply zR;(try simp only[go_sem]);refine Le.of_eq (congrArg (fun b=>AV.v (.bool b)) ?_);rw[Ty.right_eq];first | (simp only[hc5];rfl) | (simp only[hc5,Bool.true_and];simp[List.not_any_eq_all_not])
  refine chS 4 ?_;simp only[↓bO,go_sem,seval];apply y;apply zR;(try simp only[go_sem]);refine Le.of_eq (congrArg (fun b=>AV.v (.bool b)) ?_);rw[Ty.right_eq];first | (simp only[hc5];rfl) | (simp only[hc5,Bool.true_and];simp[List.not_any_eq_all_not])
mutual
/-- a type whose variables have other numbers -/
def Ty.mapV (f:Int->Int):Ty->Ty
 | .mk k n ps=>.mk k (if k=1 then f n else n) (Ty.mapVL f ps)
def Ty.mapVL (f:Int->Int):List Ty->List Ty
 | []=>[]
 | p::ps=>Ty.mapV f p::Ty.mapVL f ps
end
theorem Ty.mapVL_eq (f:Int->Int):∀ps,Ty.mapVL f ps=ps.map (Ty.mapV f)
 | []=>by simp[Ty.mapVL]
 | p::ps=>by simp[Ty.mapVL,Ty.mapVL_eq f ps]
theorem Ty.mapV_eq (f:Int->Int) (t:Ty):t.mapV f=.mk t.k (if t.k=1 then f t.n else t.n) (t.ps.map (Ty.mapV f)):=by
 cases t;rw[Ty.mapV,Ty.mapVL_eq];rfl
theorem Ty.eta (t:Ty):Ty.mk t.k t.n t.ps=t:=by cases t;rfl
theorem Ty.mapV_id:∀t:Ty,t.mapV (fun n=>n)=t:=by
 refine Ty.ind fun t ih=>?_;rw[Ty.mapV_eq];have e:t.ps.map (Ty.mapV fun n=>n)=t.ps:=(List.map_congr_left ih).trans (List.map_id t.ps);rw[e];simp[Ty.eta]
mutual
def Ty.cnt:Ty->Nat
 | .mk _ _ ps=>1+Ty.cntL ps
def Ty.cntL:List Ty->Nat
 | []=>0
 | p::ps=>Ty.cnt p+Ty.cntL ps
end
theorem Ty.cnt_eq (t:Ty):t.cnt=1+Ty.cntL t.ps:=by cases t;simp[Ty.cnt,Ty.ps]
theorem Ty.cntL_append:∀(ps qs:List Ty),Ty.cntL (ps++qs)=Ty.cntL ps+Ty.cntL qs
 | [],qs=>by simp[Ty.cntL]
 | p::ps,qs=>by simp[Ty.cntL,Ty.cntL_append ps qs];omega
theorem Ty.cntL_step {ps:List Ty} {s:Nat} {p:Ty} (hp:ps[s]?=some p):Ty.cntL (ps.take s)+p.cnt<=Ty.cntL ps:=by
 (have h1:Ty.cntL (ps.take (s+1))=Ty.cntL (ps.take s)+p.cnt:=by rw[List.take_add_one,hp,Ty.cntL_append];simp[Ty.cntL]);(have h2:Ty.cntL ps=Ty.cntL (ps.take (s+1))+Ty.cntL (ps.drop (s+1)):=by rw[<- Ty.cntL_append,List.take_append_drop]);omega
theorem Ty.cntL_take {ps:List Ty} {s:Nat} {p:Ty} (hp:ps[s]?=some p):Ty.cntL (ps.take (s+1))=Ty.cntL (ps.take s)+p.cnt:=by
 rw[List.take_add_one,hp,Ty.cntL_append];simp[Ty.cntL]
theorem Ty.cntL_len:∀ps,ps.length<=Ty.cntL ps
 | []=>by simp
 | p::ps=>by
  have:=Ty.cntL_len ps;(have h2:1<=p.cnt:=by rw[Ty.cnt_eq];omega);simp[Ty.cntL];omega
theorem zZ {α β:Type} (f:α->β) {ps:List α} {s:Nat} {p:α} (hp:ps[s]?=some p):(ps.take (s+1)).map f=(ps.take s).map f++[f p]:=by
 rw[List.take_add_one,hp];simp
theorem Ty.cnt_mem {p:Ty}:∀{ps:List Ty},p∈ps->p.cnt<=Ty.cntL ps
 | q::ps,h=>by
  simp only[Ty.cntL];(rcases zK.1 h with rfl | h);(·omega);have:=Ty.cnt_mem h;omega
theorem zbM (n:Int):APure Tryz.prog 37 [.v (.int .i64 n)] (.agg (Ty.mk 1 n []).cells):=by
 refine APure.mkL (.cons (.v _) .nil) ((Ty.dataAgg _)) ?_;refine aIn Tryz.func37 fun hm=>?_;simp only[Tryz.ntmps37,Tryz.results37,go_sem,seval];(iterate 2 (refine zO fun _ q=>?_;apply zQ;simp only[↓bO,go_sem,seval];apply q));apply zR;(try simp only[zag,z6,zY,zbg,za3,zap,bS,bA,zao,zad,zaO,bL,Nat.reduceAdd,Nat.reduceLeDiff,Nat.reduceEqDiff,↓reduceIte,zbR,tyX]);refine Le.agg ?_;rw[Ty.cells_eq];exact ⟨.refl _,.refl _,Le.slNil 3,trivial⟩
theorem tz5 {p:Prop} (h:p:=by simp only;omega):p:=h
theorem clz2 {p:Prop} (h:p:=by exact Weak.mk (by simp only[go_sem,Le.refl,Le.any]) (fun _ _ h=>h) rfl rfl):p:=h
theorem zj7:∀(T:Ty) (g:Nat) (caps:List AV) (φ:Int->Int) (hd:DataL caps) (hφ:∀n:Int,APure Tryz.prog g (.v (.int .i64 n)::caps) (.v (.int .i64 (φ n)))) (hT:T.cnt<=1099511627776),APure Tryz.prog 127 [.agg T.cells,.clo g caps] (.agg (T.mapV φ).cells):=by
  refine Ty.ind fun T ih=>?_;intro g caps φ hd hφ hT;refine APure.mkL (.cons T.dataAgg (.cons (.clo hd) .nil)) ((Ty.dataAgg _)) ?_;refine aIn Tryz.func127 fun hm=>?_;simp only[Tryz.ntmps127,Tryz.results127,go_sem,seval];have hm1:=hm.wide (t:=T) tz4;have hcn:=T.cnt_eq;have hcl:=Ty.cntL_len T.ps;simp only[Ty.cells_eq T,zt,zD];refine sqD ?_;refine zaG (mB 33 22) ([]) ([(0,.cells 26 [.v (.int .i64 T.k),.v (.int .i64 (if T.k=1 then φ T.n else T.n)),.sl 3 (T.ps.map Ty.cells)])]) ?_ ?_
  ·
   refine sqD ?_;apply zP rfl <;> intro hb10
   ·
    apply zQ;refine chS 3 ?_;refine zN 1 fun _ y=>?_;simp only[↓bO,go_sem,seval];refine APure.call ((hφ T.n)) ?_;apply y;clear y;simp only[↓bO,go_sem,seval];(try simp only[go_sem,seval]);(first | rw[if_pos (by simpa using hb10)] | rw[if_neg (by simpa using hb10)]);exact clz2
   apply zS;(try simp only[go_sem]);(try simp only[go_sem,seval]);(first | rw[if_pos (by simpa using hb10)] | rw[if_neg (by simpa using hb10)]);exact clz2
  simp only[go_sem,seval];refine sqD ?_;refine zO fun _ u=>?_;refine sqD ?_;apply zV;refine zar (Weak.tokSlot 5 26 3 rfl) ?_;simp only[go_sem];refine zae (σ:=Nat) (mB 33 917558) (fun s=>s<=T.ps.length) (fun s=>[(5,.osl 2 3 (((T.ps.take s).map (Ty.mapV φ)).map Ty.cells)),(19,.v (.int .i64 (s:Int)))]) (fun s=>[(2,.tok 26 3 s)]) (fun s=>T.ps.length-s) 0 tz1 ?_ (fun s hs=>?_)
  ·
   simp only[go_sem,seval,bL];exact zaP
  simp only[go_sem,seval];refine sqD ?_;refine zO fun _ w=>?_;apply zP rfl <;> intro hb20
  ·
   (have hk:s<T.ps.length:=by simpa using hb20);obtain ⟨p,hp⟩:∃p,T.ps[s]?=some p:=⟨_,zb hk⟩;have hpm:=Ty.cnt_mem (zh hp);have hw:IntKind.i64.wrap ((s:Int)+1)=(s:Int)+1:=z8 tz1 tz1;(have hln:(((T.ps.take s).map (Ty.mapV φ)).map Ty.cells).length=s:=by simp;omega);(have hb1:(s+1) * 40<=140737488355328:=by omega);(have hb2:s+1<=maxLen:=by simp only[maxLen];omega);apply zS;apply w;refine zO fun _ w=>?_;apply zV;refine sqR fun _ z=>?_;simp only[↓bO,go_sem,seval,hk,gM hp,za,hw,hln,hb1,hb2,zc,zZ (Ty.mapV φ) hp];apply z;apply zQ;refine chS 3 ?_ (by intro _ q;simp only[↓bO,go_sem,seval,hk,gM hp,za,hw,hln,hb1,hb2,zc,zZ (Ty.mapV φ) hp];exact q);refine zN 1 fun _ y=>?_;simp only[↓bO,go_sem,seval,hk,gM hp,za,hw,hln,hb1,hb2,zc,zZ (Ty.mapV φ) hp];refine APure.call (ih p (zh hp) g caps φ hd hφ tz1) ?_;apply y;clear y;simp only[↓bO,go_sem,seval,↓zaV,↓za1,↓zaR,↓zaZ,↓zaS,↓zaY,↓za0,↓zaX,↓zaU,↓zax,↓zav,↓zaw,hk,gM hp,za,hw,hln,hb1,hb2,zc,zZ (Ty.mapV φ) hp];apply w;apply zQ;simp only[↓bO,go_sem,seval,hk,gM hp,za,hw,hln,hb1,hb2,zc,zZ (Ty.mapV φ) hp];refine ⟨(s+1),tz1,by omega,?_⟩;simp only[go_sem,seval,hk,gM hp,za,zm,hw,hln,hb1,hb2,zc,bL,zZ (Ty.mapV φ) hp];(first | (refine Weak.drops 1 3 rfl rfl tz5 tz5 ?_ ?_ ?_) | (refine Weak.drops 0 3 rfl rfl tz5 tz5 ?_ ?_ ?_));(· simp only[go_sem,Le.refl,Le.any,za,Int.cast_ofNat_Int,zm]);(· simp only[UndL,UndOs,Ob.Und,and_true,true_and,and_self,Und.v,Und.any,Und.ptr,Und.map,Nat.reduceLT,zC,Und.tys,Und.tyAgg,Und.oslTys,Und.oslTys1,Und.clo0,Und.ty,Und.data (n:=3) (Data.clo (f:=g) hd)]);simp only[UndL,UndOs,Ob.Und,and_true,true_and,and_self,Und.v,Und.any,Und.ptr,Und.map,Nat.reduceLT,zC,Und.tys,Und.tyAgg,Und.oslTys,Und.oslTys1,Und.clo0,Und.ty,Und.data (n:=3) (Data.clo (f:=g) hd)]
  (have hk:s=T.ps.length:=by simp at hb20;omega);apply zah;simp only[zag,z6,zY,bA,Nat.reduceEqDiff,↓reduceIte];(iterate 2 (apply u;refine zO fun _ u=>?_;apply zQ;simp only[↓bO,go_sem,seval]));apply u;apply zR;(try simp only[zag,z6,zY,zbg,za3,zap,bS,bA,zao,zad,zaO,bL,Nat.reduceAdd,Nat.reduceLeDiff,Nat.reduceEqDiff,↓reduceIte,zbR,tyX]);refine Le.agg ?_;rw[Ty.mapV_eq,Ty.cells_eq,hk,zw];exact ⟨.refl _,.refl _,Le.oslL,trivial⟩
theorem zlM (n:Int):APure Tryz.prog 128 [.v (.int .i64 n)] (.v (.int .i64 n)):=by
 refine APure.mkL (.cons (.v _) .nil) (.v _) ?_;refine aIn Tryz.func128 fun hm=>?_;simp only[Tryz.ntmps128,Tryz.results128,go_sem,seval];(iterate 2 (refine zO fun _ q=>?_;apply zQ;simp only[↓bO,go_sem,seval];apply q));apply zR;exact Le.refl _
theorem zb4 (T:Ty) (hT:T.cnt<=1099511627776):APure Tryz.prog 85 [.agg T.cells] (.agg T.cells):=by
 refine APure.mkL (.cons T.dataAgg .nil) (T.dataAgg) ?_;refine aIn Tryz.func85 fun hm=>?_;simp only[Tryz.ntmps85,Tryz.results85,go_sem,seval];simp only[Ty.cells_eq T,zt,zD];refine sqD ?_;refine sqR fun _ y=>?_;refine chS 1 ?_;refine zN 1 fun _ q=>?_;simp only[↓bO,go_sem,seval];refine APure.call (by have h9:=zj7 T 128 [] (fun n=>n) (fun _ h=>by cases h) (fun n=>zlM n) hT;rw[Ty.mapV_id,Ty.cells_eq T] at h9;exact h9) ?_;apply q;clear q;simp only[↓bO,go_sem,seval];apply y;apply zR;(try simp only[zag,z6,zY,zbg,za3,zap,bS,bA,zao,zad,zaO,bL,Nat.reduceAdd,Nat.reduceLeDiff,Nat.reduceEqDiff,↓reduceIte,zbR]);exact Le.refl _
def zg0:List Ty->Ty
 | []=>.mk 0 0 []
 | [t]=>t
 | t::ts=>.mk 4 0 [t,zg0 ts]
theorem zlq {ps:List Ty} (h:ps.length=0):zg0 ps=.mk 0 0 []:=by rw[List.length_eq_zero_iff.1 h];rfl
theorem zgQ {ps:List Ty} {p:Ty} (h:ps.length=1) (hp:ps[0]?=some p):zg0 ps=p:=by
 match ps,h,hp with
 | [t],_,hp=>simp at hp;rw[<- hp];rfl
theorem zgg {ps:List Ty} {p:Ty} (h:2<=ps.length) (hp:ps[0]?=some p):zg0 ps=.mk 4 0 [p,zg0 (ps.drop 1)]:=by
 match ps,h,hp with
 | t::u::ts,_,hp=>simp at hp;rw[<- hp];rfl
theorem zgw:∀(n:Nat) (ps:List Ty),ps.length=n->Ty.cntL ps<=1099511627776->APure Tryz.prog 36 [.sl 3 (ps.map Ty.cells)] (.agg (zg0 ps).cells):=by
  intro n
  induction n with
  | zero =>
    intro ps hn hc;refine APure.mkL (.cons (Ty.dataSl ps) .nil) (Ty.dataAgg _) ?_;(have h0:((ps.length:Int)==0)=true:=by simp;exact List.length_eq_zero_iff.1 hn);refine aIn Tryz.func36 fun hm=>?_;simp only[Tryz.ntmps36,Tryz.results36,go_sem,seval];refine sqR fun _ u=>?_;simp only[↓bO,go_sem,seval,h0];apply u;refine zO fun _ u=>?_;refine sqR fun _ w=>?_;simp only[↓bO,go_sem,seval,h0];apply w;apply zV;refine sqR fun _ w=>?_;simp only[↓bO,go_sem,seval,h0];apply w;apply zP rfl <;> intro hb5
    ·
     refine sqR fun _ w=>?_;simp only[↓bO,go_sem,seval,h0];apply w;apply zR;(try simp only[zag,z6,zY,zbg,za3,zap,bS,bA,zao,zad,zaO,bL,Nat.reduceAdd,Nat.reduceLeDiff,Nat.reduceEqDiff,↓reduceIte,zbR,h0]);refine Le.agg ?_;rw[zlq hn,Ty.cells_eq];exact ⟨.refl _,.refl _,Le.slNil 3,trivial⟩
    cases hb5
  | succ n ih =>
    intro ps hn hc;refine APure.mkL (.cons (Ty.dataSl ps) .nil) (Ty.dataAgg _) ?_;obtain ⟨p,hp⟩:∃p,ps[0]?=some p:=⟨_,zb tz1⟩;have hpc:=Ty.cnt_mem (zh hp);(have hlt:(0:Int)<(ps.length:Int):=by omega);(have hle:(1:Int)<=(ps.length:Int):=by omega);(have hdr:(ps.map Ty.cells).drop 1=(ps.drop 1).map Ty.cells:=by rw[List.map_drop]);(have hdc:Ty.cntL (ps.drop 1)<=Ty.cntL ps:=by have h9:=Ty.cntL_append (ps.take 1) (ps.drop 1);rw[List.take_append_drop] at h9;omega);refine aIn Tryz.func36 fun hm=>?_;simp only[Tryz.ntmps36,Tryz.results36,go_sem,seval];refine sqR fun _ u=>?_;simp only[↓bO,go_sem,seval,hlt,hle,hdr,gM hp];apply u;refine zO fun _ u=>?_;refine sqR fun _ w=>?_;simp only[↓bO,go_sem,seval,hlt,hle,hdr,gM hp];apply w;apply zV;refine sqR fun _ w=>?_;simp only[↓bO,go_sem,seval,hlt,hle,hdr,gM hp];apply w;apply zP rfl <;> intro hb5
    ·
     exact absurd hb5 (by simp only[AV.v.injEq,Value.bool.injEq,beq_iff_eq];omega)
    refine sqR fun _ w=>?_;simp only[↓bO,go_sem,seval,hlt,hle,hdr,gM hp];apply w;apply zP rfl <;> intro hb8
    ·
     (have h1:ps.length=1:=by simp at hb8;omega);refine sqR fun _ w=>?_;refine chS 3 ?_ (by intro _ q;simp only[↓bO,go_sem,seval,hlt,hle,hdr,gM hp];exact q);refine zN 1 fun _ y=>?_;simp only[↓bO,go_sem,seval,hlt,hle,hdr,gM hp];refine APure.call (zb4 p tz1) ?_;apply y;clear y;simp only[↓bO,go_sem,seval,hlt,hle,hdr,gM hp];apply w;apply zR;(try simp only[zag,z6,zY,zbg,za3,zap,bS,bA,zao,zad,zaO,bL,Nat.reduceAdd,Nat.reduceLeDiff,Nat.reduceEqDiff,↓reduceIte,zbR,tyX,hlt,hle,hdr,gM hp]);refine Le.agg ?_;first | (rw[zgQ h1 hp];exact LeL.refl _) | (rw[zgg h1 hp,Ty.cells];exact ⟨.refl _,.refl _,Le.of_eq (by simp[Ty.cellsL]),trivial⟩)
    (have h1:2<=ps.length:=by simp at hb8;omega);apply zS;apply u;refine zO fun _ u=>?_;refine zaM 9 mixed tz0 fun J0 j0=>?_;simp only[go_sem];refine zac 3 fun _ y=>?_;simp only[↓zaK,↓dOp,↓bO,go_sem,seval,hlt,hle,hdr,gM hp];apply y;clear y;refine zac 1 fun _ y=>?_;simp only[↓zaK,↓dOp,↓bO,go_sem,seval,hlt,hle,hdr,gM hp];refine ⟨_,zb4 p tz1,?_⟩;apply y;clear y;refine zac 2 fun _ y=>?_;simp only[↓zaK,↓dOp,↓bO,go_sem,seval,hlt,hle,hdr,gM hp];apply y;clear y;refine zac 1 fun _ y=>?_;simp only[↓zaK,↓dOp,↓bO,go_sem,seval,hlt,hle,hdr,gM hp];refine ⟨_,ih (ps.drop 1) tz7 tz1,?_⟩;apply y;clear y;simp only[↓zaK,↓dOp,↓bO,go_sem,seval,↓zik,↓ziw,↓zig,↓zh1,↓ziR,↓zjl,↓ziy,↓zil,↓zie,↓ze4,↓ze2,↓zeV,hlt,hle,hdr,gM hp];refine j0 _ ?_;clear j0 J0;simp only[go_sem];simp only[↓bO,go_sem,seval,hlt,hle,hdr,gM hp];apply u;apply zR;(try simp only[zag,z6,zY,zbg,za3,zap,bS,bA,zao,zad,zaO,bL,Nat.reduceAdd,Nat.reduceLeDiff,Nat.reduceEqDiff,↓reduceIte,zbR,tyX,hlt,hle,hdr,gM hp]);refine Le.agg ?_;first | (rw[zgQ h1 hp];exact LeL.refl _) | (rw[zgg h1 hp,Ty.cells];exact ⟨.refl _,.refl _,Le.of_eq (by simp[Ty.cellsL]),trivial⟩)
abbrev intC (x:Int):List AV:=[.v (.int .i64 x)]
theorem zab (l:List Int):Data (.sl 1 (l.map intC)):=.sl fun x hx=>by
 obtain ⟨y,_,rfl⟩:=zG.1 hx;exact .cons (.v _) .nil
theorem ints_one (l:List Int):((l.map intC).all fun y=>y.all AV.one)=true:=by
 rw[zF];intro y hy;obtain ⟨r,_,rfl⟩:=zG.1 hy;rfl
theorem zdZ {n:Nat} {l:List Int}:Und n (.sl 1 (l.map intC)):=.data (zab l)
structure RNode where
 t:Ty
 parts:List Int
def RNode.cells (r:RNode):List AV:=[.v (.int .i64 r.t.k),.v (.int .i64 r.t.n),.sl 3 (r.t.ps.map Ty.cells),.sl 1 (r.parts.map intC)]
theorem zfM (A B:List Int):APure Tryz.prog 50 [.sl 1 (A.map intC),.sl 1 (B.map intC)] (.v (.bool (decide (A=B)))):=by
  refine APure.mkL (.cons (zab A) (.cons (zab B) .nil)) (.v _) ?_;refine aIn Tryz.func50 fun hm=>?_;simp only[Tryz.ntmps50,Tryz.results50,go_sem,seval];have hm1:=hm.len (sz:=1) (xs:=A.map intC) tz4;rw[zi] at hm1;refine sqD ?_;refine zO fun _ u=>?_;refine sqR fun _ w=>?_;refine chS 4 ?_;simp only[↓bO,go_sem,seval];apply w;apply zP rfl <;> intro hb10
  ·
   refine sqD ?_;apply zR;(try simp only[go_sem]);refine Le.of_eq (congrArg (fun b=>AV.v (.bool b)) ?_)
   symm
   first | (rw[ze];intro e;subst e;simp at hb10;done) | (rw[ze];intro e;subst e;rw[hp] at hq;cases hq;simp at hb25;done) | (rw[zg];apply List.ext_getElem hAB;intro i h1 h2;exact hs.2 i _ _ tz1 (zb h1) (zb h2))
  (have hAB:A.length=B.length:=by simp at hb10;omega);apply zS;apply u;refine zO fun _ u=>?_;refine sqD ?_;apply zV;refine zae (σ:=Nat) (mB 26 35) (fun s=>s<=A.length/\∀(i:Nat) (p q:Int),i<s->A[i]?=some p->B[i]?=some q->p=q) (fun s=>[(5,.v (.int .i64 (s:Int)))]) (fun s=>[]) (fun s=>A.length-s) 0 (⟨by omega,fun i p q hi=>by omega⟩) ?_ (fun s hs=>?_)
  ·
   simp only[go_sem,seval];exact zaP
  simp only[go_sem,seval];refine zO fun _ w=>?_;refine sqD ?_;apply zP rfl <;> intro hb14
  ·
   (have hk:s<A.length:=by simpa using hb14);obtain ⟨p,hp⟩:∃p,A[s]?=some p:=⟨_,zb hk⟩;have hw:IntKind.i64.wrap ((s:Int)+1)=(s:Int)+1:=z8 tz1 (by simp only[maxLen] at hm1;omega);(have hk2:s<B.length:=by omega);obtain ⟨q,hq⟩:∃q,B[s]?=some q:=⟨_,zb hk2⟩;apply zS;apply w;refine zO fun _ w=>?_;apply zV;refine zO fun _ z=>?_;refine zaM 9 mixed tz0 fun J0 j0=>?_;(iterate 2 (simp only[go_sem];refine zac 4 fun _ y=>?_;simp only[↓zaK,↓dOp,↓bO,go_sem,seval,hk,gM hp,za,hw,hk2,gM hq,intC];apply y;clear y));simp only[go_sem];simp only[↓zaK,↓dOp,↓bO,go_sem,seval,hk,gM hp,za,hw,hk2,gM hq,intC];refine j0 _ ?_;clear j0 J0;simp only[bL,aops,zag,z6,zY];apply z;apply zP rfl <;> intro hb25
   ·
    refine sqR fun _ z=>?_;simp only[↓bO,go_sem,seval,hk,gM hp,za,hw,hk2,gM hq,intC];apply z;apply zR;(try simp only[go_sem]);refine Le.of_eq (congrArg (fun b=>AV.v (.bool b)) ?_)
    symm
    first | (rw[ze];intro e;subst e;simp at hb10;done) | (rw[ze];intro e;subst e;rw[hp] at hq;cases hq;simp at hb25;done) | (rw[zg];apply List.ext_getElem hAB;intro i h1 h2;exact hs.2 i _ _ tz1 (zb h1) (zb h2))
   apply zS;apply w;apply zQ;simp only[↓bO,go_sem,seval,hk,gM hp,za,hw,hk2,gM hq,intC];refine ⟨(s+1),⟨by omega,fun i p' q' hi h1 h2=>(by rcases zH i s with h3 | h3 <;> first | exact hs.2 i p' q' h3 h1 h2 | (obtain rfl:i=s:=tz1;rw[hp] at h1;rw[hq] at h2;cases h1;cases h2;simpa using hb25))⟩,by omega,?_⟩;simp only[go_sem,seval,hk,gM hp,za,zm,hw,hk2,gM hq,intC];exact zaP
  (have hk:s=A.length:=by have:=hs.1;simp at hb14;omega);apply zah;simp only[zag,z6,zY,bA,Nat.reduceEqDiff,↓reduceIte];apply u;refine sqD ?_;apply zR;(try simp only[go_sem]);refine Le.of_eq (congrArg (fun b=>AV.v (.bool b)) ?_)
  symm
  first | (rw[ze];intro e;subst e;simp at hb10;done) | (rw[ze];intro e;subst e;rw[hp] at hq;cases hq;simp at hb25;done) | (rw[zg];apply List.ext_getElem hAB;intro i h1 h2;exact hs.2 i _ _ tz1 (zb h1) (zb h2))
def zg4 {α:Type} (f:α->α->Bool):List α->List α->Bool
 | [],[]=>true
 | p::ps,q::qs=>f p q&&zg4 f ps qs
 | _,_=>false
theorem zfj {α:Type} {f:α->α->Bool}:∀{ps qs:List α},ps.length≠qs.length->zg4 f ps qs=false
 | [],[],h=>by simp at h
 | [],_::_,_=>rfl
 | _::_,[],_=>rfl
 | p::ps,q::qs,h=>by simp only[zg4];rw[zfj (by simpa using h)];simp
theorem zdj {α:Type} {f:α->α->Bool}:∀{ps qs:List α} {k:Nat} {p q:α},ps[k]?=some p->qs[k]?=some q->f p q=false->zg4 f ps qs=false
 | [],_,k,p,q,h,_,_=>by simp at h
 | _::_,[],k,p,q,_,h,_=>by simp at h
 | a::ps,b::qs,0,p,q,h1,h2,hf=>by simp at h1 h2;subst h1;subst h2;simp[zg4,hf]
 | a::ps,b::qs,k+1,p,q,h1,h2,hf=>by simp only[zg4];rw[zdj (k:=k) (by simpa using h1) (by simpa using h2) hf];simp
theorem zdW {α:Type} {f:α->α->Bool}:∀{ps qs:List α},ps.length=qs.length->(∀(k:Nat) (p q:α),ps[k]?=some p->qs[k]?=some q->f p q=true)->zg4 f ps qs=true
 | [],[],_,_=>rfl
 | [],_::_,h,_=>by simp at h
 | _::_,[],h,_=>by simp at h
 | a::ps,b::qs,h,hf=>by
  simp only[zg4];rw[hf 0 a b rfl rfl,zdW (by simpa using h) fun k p q hp hq=>hf (k+1) p q (by simpa using hp) (by simpa using hq)];rfl
theorem zdd:∀ps qs:List Ty,Ty.sameL ps qs=zg4 Ty.same ps qs
 | [],[]=>by simp[Ty.sameL,zg4]
 | [],_::_=>by simp[Ty.sameL,zg4]
 | _::_,[]=>by simp[Ty.sameL,zg4]
 | p::ps,q::qs=>by simp[Ty.sameL,zg4,zdd ps qs]
def zcw (l:List Int) (n:Int):List Int:=if l.any (fun x=>x==n) then l else l++[n]
mutual
def Ty.rvars:Ty->List Int->List Int
 | .mk k n ps,l=>Ty.rvarsL ps (if k=1 then zcw l n else l)
def Ty.rvarsL:List Ty->List Int->List Int
 | [],l=>l
 | p::ps,l=>Ty.rvarsL ps (Ty.rvars p l)
end
theorem Ty.rvars_eq (t:Ty) (l:List Int):t.rvars l=Ty.rvarsL t.ps (if t.k=1 then zcw l t.n else l):=by cases t;rw[Ty.rvars];rfl
theorem Ty.rvarsL_append:∀(ps qs:List Ty) (l:List Int),Ty.rvarsL (ps++qs) l=Ty.rvarsL qs (Ty.rvarsL ps l)
 | [],qs,l=>by simp[Ty.rvarsL]
 | p::ps,qs,l=>by simp[Ty.rvarsL,Ty.rvarsL_append ps qs]
theorem Ty.rvarsL_step {ps:List Ty} {s:Nat} {p:Ty} (hp:ps[s]?=some p) (l:List Int):Ty.rvarsL (ps.take (s+1)) l=p.rvars (Ty.rvarsL (ps.take s) l):=by
 rw[List.take_add_one,hp,Ty.rvarsL_append];simp[Ty.rvarsL]
theorem zbH (k n:Int) (l:List Int):(k=1->(l.any fun x=>x==n)=false->(if k=1 then zcw l n else l)=l++[n])/\((l.any fun x=>x==n)=true->(if k=1 then zcw l n else l)=l)/\(¬k=1->(if k=1 then zcw l n else l)=l):=by
 refine ⟨fun h1 h2=>?_,fun h1=>?_,fun h1=>?_⟩;·rw[if_pos h1,zcw,if_neg (by rw[h2];simp)]
 ·split
  (·rw[zcw,if_pos h1]);rfl
 rw[if_neg h1]
theorem zfe (l:List Int) (n:Int):(zcw l n).length<=l.length+1:=by unfold zcw;split <;> simp
theorem Ty.rvars_len:∀(t:Ty) (l:List Int),(t.rvars l).length<=l.length+t.cnt:=by
 refine Ty.ind fun t ih=>?_
 have key:∀ps:List Ty,(∀p∈ps,∀l:List Int,(p.rvars l).length<=l.length+p.cnt)->∀l:List Int,(Ty.rvarsL ps l).length<=l.length+Ty.cntL ps:=by
  intro ps
  induction ps with
  | nil=>intro _ l;simp[Ty.rvarsL,Ty.cntL]
  | cons p ps ihp =>
   intro hp l;have h1:=hp p tz4 l;have h2:=ihp (fun q hq=>hp q (by simp[hq])) (p.rvars l);simp only[Ty.rvarsL,Ty.cntL];omega
 intro l;rw[Ty.rvars_eq,Ty.cnt_eq];have:=key t.ps ih (if t.k=1 then zcw l t.n else l);(have h2:(if t.k=1 then zcw l t.n else l).length<=l.length+1:=by split <;> first | exact zfe l t.n | omega);omega
theorem Ty.rvarsL_len (ps:List Ty) (l:List Int):(Ty.rvarsL ps l).length<=l.length+Ty.cntL ps:=by
 have:=Ty.rvars_len (.mk 0 0 ps) l;rw[Ty.rvars_eq,Ty.cnt_eq] at this
 induction ps generalizing l with
 | nil=>simp[Ty.rvarsL,Ty.cntL]
 | cons p ps ih =>
  have h1:=p.rvars_len l;have h2:=ih (p.rvars l) (by have:=Ty.rvars_len (.mk 0 0 ps) (p.rvars l);rw[Ty.rvars_eq,Ty.cnt_eq] at this;exact this);simp only[Ty.rvarsL,Ty.cntL];omega
structure Bd where
 v:Int
 t:Ty
def Bd.cells (b:Bd):List AV:=.v (.int .i64 b.v)::b.t.cells
theorem Bd.cells_eq (b:Bd):b.cells=[.v (.int .i64 b.v),.v (.int .i64 b.t.k),.v (.int .i64 b.t.n),.sl 3 (b.t.ps.map Ty.cells)]:=by rw[Bd.cells,Ty.cells_eq]
theorem Bd.cells_len (b:Bd):b.cells.length=4:=by rw[b.cells_eq];rfl
theorem Bd.data (b:Bd):DataL b.cells:=.cons (.v _) b.t.data
theorem Bd.dataSl (l:List Bd):Data (.sl 4 (l.map Bd.cells)):=.sl fun x hx=>by
 obtain ⟨y,_,rfl⟩:=zG.1 hx;exact y.data
theorem Bd.take1 (b:Bd):b.cells.take 1=[.v (.int .i64 b.v)]:=by rw[b.cells_eq];rfl
theorem Bd.drop1 (b:Bd):b.cells.drop 1=b.t.cells:=rfl
theorem Bd.one (b:Bd):b.cells.all AV.one=true:=by rw[b.cells_eq];rfl
def zbj (l:List Bd) (n:Int):Int:=zhX (fun b=>b.v==n) l
mutual
/-- what a substitution makes of a type -/
def Ty.sub (l:List Bd):Ty->Ty
 | .mk k n ps=>if k=1/\0<=zbj l n then ((l[(zbj l n).toNat]?).map Bd.t).getD (.mk 0 0 []) else .mk k n (Ty.subL l ps)
def Ty.subL (l:List Bd):List Ty->List Ty
 | []=>[]
 | p::ps=>Ty.sub l p::Ty.subL l ps
end
theorem Ty.subL_eq (l:List Bd):∀ps,Ty.subL l ps=ps.map (Ty.sub l)
 | []=>by simp[Ty.subL]
 | p::ps=>by simp[Ty.subL,Ty.subL_eq l ps]
theorem Ty.sub_yes {l:List Bd} {t:Ty} {b:Bd} (h:t.k=1) (h0:0<=zbj l t.n) (hb:l[(zbj l t.n).toNat]?=some b):t.sub l=b.t:=by
 obtain ⟨k,n,ps⟩:=t;simp only[Ty.k,Ty.n] at h h0 hb;rw[Ty.sub,if_pos ⟨h,h0⟩,hb];rfl
theorem Ty.sub_no {l:List Bd} {t:Ty} (h:¬(t.k=1/\0<=zbj l t.n)):t.sub l=.mk t.k t.n (t.ps.map (Ty.sub l)):=by
 obtain ⟨k,n,ps⟩:=t;have h:¬(k=1/\0<=zbj l n):=h;rw[Ty.sub,if_neg h,Ty.subL_eq];rfl
theorem zfd (ps qs:List Ty) (g:Nat) (f:Ty->Ty->Bool) (hf:∀p∈ps,∀q,APure Tryz.prog g [.agg p.cells,.agg q.cells] (.v (.bool (f p q)))):APure Tryz.prog 95 [.sl 3 (ps.map Ty.cells),.sl 3 (qs.map Ty.cells),.clo g []] (.v (.bool (zg4 f ps qs))):=by
  refine APure.mkL (.cons (Ty.dataSl ps) (.cons (Ty.dataSl qs) (.cons (.clo (fun _ h=>by cases h)) .nil))) (.v _) ?_;refine aIn Tryz.func95 fun hm=>?_;simp only[Tryz.ntmps95,Tryz.results95,go_sem,seval];have hm1:=hm.len (sz:=3) (xs:=ps.map Ty.cells) tz4;rw[zi] at hm1;refine sqD ?_;refine zO fun _ u=>?_;refine sqR fun _ w=>?_;refine chS 4 ?_;simp only[↓bO,go_sem,seval];apply w;apply zP rfl <;> intro hb14
  ·
   refine sqD ?_;apply zR;(try simp only[go_sem]);refine Le.of_eq (congrArg (fun b=>AV.v (.bool b)) ?_);first | (rw[zfj (ps:=ps) (qs:=qs) (by simp at hb14;omega)];done) | (rw[zdj hp hq (by simpa using hb30)];done) | (rw[zdW hl fun k p q hp hq=>hs.2 k p q (by have:=(zf.1 hp).1;omega) hp hq];done)
  (have hl:ps.length=qs.length:=by simp at hb14;omega);apply zS;apply u;refine zO fun _ u=>?_;refine sqD ?_;apply zV;refine zae (σ:=Nat) (mB 32 229382) (fun s=>s<=ps.length/\∀(k:Nat) (p q:Ty),k<s->ps[k]?=some p->qs[k]?=some q->f p q=true) (fun s=>[(17,.v (.int .i64 (s:Int)))]) (fun s=>[]) (fun s=>ps.length-s) 0 (⟨by omega,fun k p q hk=>by omega⟩) ?_ (fun s hs=>?_)
  ·
   simp only[go_sem,seval];exact zaP
  simp only[go_sem,seval];refine sqD ?_;refine zO fun _ w=>?_;apply zP rfl <;> intro hb18
  ·
   (have hk:s<ps.length:=by simpa using hb18);obtain ⟨p,hp⟩:∃p,ps[s]?=some p:=⟨_,zb hk⟩;(have hk2:s<qs.length:=by omega);obtain ⟨q,hq⟩:∃q,qs[s]?=some q:=⟨_,zb hk2⟩;have hw:IntKind.i64.wrap ((s:Int)+1)=(s:Int)+1:=z8 tz1 (by simp only[maxLen] at hm1;omega);apply zS;apply w;refine zO fun _ w=>?_;apply zV;refine sqR fun _ z=>?_;refine chS 4 ?_ (by intro _ q;simp only[↓bO,go_sem,seval,hk,hk2,gM hp,gM hq,za,hw];exact q);simp only[↓bO,go_sem,seval,hk,hk2,gM hp,gM hq,za,hw];apply z;refine sqR fun _ z=>?_;refine chS 4 ?_ (by intro _ q;simp only[↓bO,go_sem,seval,hk,hk2,gM hp,gM hq,za,hw];exact q);simp only[↓bO,go_sem,seval,hk,hk2,gM hp,gM hq,za,hw];apply z;refine sqR fun _ z=>?_;refine chS 3 ?_ (by intro _ q;simp only[↓bO,go_sem,seval,hk,hk2,gM hp,gM hq,za,hw];exact q);refine zN 1 fun _ y=>?_;simp only[↓bO,go_sem,seval,hk,hk2,gM hp,gM hq,za,hw];refine APure.call (hf p (zh hp) q) ?_;apply y;clear y;simp only[↓bO,go_sem,seval,hk,hk2,gM hp,gM hq,za,hw];apply z;apply zP rfl <;> intro hb30
   ·
    refine sqR fun _ z=>?_;simp only[↓bO,go_sem,seval,hk,hk2,gM hp,gM hq,za,hw];apply z;apply zR;(try simp only[go_sem]);refine Le.of_eq (congrArg (fun b=>AV.v (.bool b)) ?_);first | (rw[zfj (ps:=ps) (qs:=qs) (by simp at hb14;omega)];done) | (rw[zdj hp hq (by simpa using hb30)];done) | (rw[zdW hl fun k p q hp hq=>hs.2 k p q (by have:=(zf.1 hp).1;omega) hp hq];done)
   apply zS;apply w;apply zQ;simp only[↓bO,go_sem,seval,hk,hk2,gM hp,gM hq,za,hw];refine ⟨(s+1),⟨by omega,fun k p' q' hi h1 h2=>(by rcases zH k s with h3 | h3 <;> first | exact hs.2 k p' q' h3 h1 h2 | (obtain rfl:k=s:=tz1;rw[hp] at h1;rw[hq] at h2;cases h1;cases h2;simpa using hb30))⟩,by omega,?_⟩;simp only[go_sem,seval,hk,hk2,gM hp,gM hq,za,zm,hw];(first | (refine Weak.drops 2 0 rfl rfl tz5 tz5 ?_ ?_ ?_) | (refine Weak.drops 1 0 rfl rfl tz5 tz5 ?_ ?_ ?_) | (refine Weak.drops 0 0 rfl rfl tz5 tz5 ?_ ?_ ?_));(· simp only[go_sem,Le.refl,Le.any,za,Int.cast_ofNat_Int,zm]);(· simp only[UndL,UndOs,Ob.Und,and_true,true_and,and_self,Und.v,Und.any,Und.ptr,Und.map,Nat.reduceLT,zC,Und.tys,Und.tyAgg,Und.oslTys,Und.oslTys1,Und.clo0,Und.ty]);simp only[UndL,UndOs,Ob.Und,and_true,true_and,and_self,Und.v,Und.any,Und.ptr,Und.map,Nat.reduceLT,zC,Und.tys,Und.tyAgg,Und.oslTys,Und.oslTys1,Und.clo0,Und.ty]
  (have hk:s=ps.length:=by have:=hs.1;simp at hb18;omega);apply zah;simp only[zag,z6,zY,bA,Nat.reduceEqDiff,↓reduceIte];apply u;refine sqD ?_;apply zR;(try simp only[go_sem]);refine Le.of_eq (congrArg (fun b=>AV.v (.bool b)) ?_);first | (rw[zfj (ps:=ps) (qs:=qs) (by simp at hb14;omega)];done) | (rw[zdj hp hq (by simpa using hb30)];done) | (rw[zdW hl fun k p q hp hq=>hs.2 k p q (by have:=(zf.1 hp).1;omega) hp hq];done)
theorem zez:∀(T:Ty) (U:Ty),APure Tryz.prog 45 [.agg T.cells,.agg U.cells] (.v (.bool (T.same U))):=by
  refine Ty.ind fun T ih=>?_;intro U;refine APure.mkL (.cons T.dataAgg (.cons U.dataAgg .nil)) (.v _) ?_;refine aIn Tryz.func45 fun hm=>?_;simp only[Tryz.ntmps45,Tryz.results45,go_sem,seval];refine sqD ?_;refine sqR fun _ u=>?_;refine chS 4 ?_;refine chS 2 ?_;simp only[go_sem];refine zW 10 rfl (fun hc10=>?_) (fun hc10=>?_)
  ·
   refine chS 4 ?_;refine chS 3 ?_;simp only[go_sem];refine zW 17 rfl (fun hc17=>?_) (fun hc17=>?_)
   ·
    refine chS 4 ?_;refine zN 1 fun _ y=>?_;simp only[↓bO,go_sem,seval];refine APure.call (zfd T.ps U.ps 45 Ty.same (fun p hp q=>ih p hp q)) ?_;apply y;clear y;simp only[↓bO,go_sem,seval];apply u;apply zR;(try simp only[go_sem]);refine Le.of_eq (congrArg (fun b=>AV.v (.bool b)) ?_);rw[Ty.same_eq,zdd];simp_all
   refine chS 4 ?_;simp only[↓bO,go_sem,seval];apply u;apply zR;(try simp only[go_sem]);refine Le.of_eq (congrArg (fun b=>AV.v (.bool b)) ?_);rw[Ty.same_eq,zdd];simp_all
  (iterate 3 (refine chS 4 ?_));simp only[↓bO,go_sem,seval];apply u;apply zR;(try simp only[go_sem]);refine Le.of_eq (congrArg (fun b=>AV.v (.bool b)) ?_);rw[Ty.same_eq,zdd];simp_all
theorem zhs (l:List Int) (n:Int):APure Tryz.prog 64 [.sl 1 (l.map intC),.v (.int .i64 n)] (.v (.bool (l.any fun x=>x==n))):=by
  refine APure.mkL (.cons (zab l) (.cons (.v _) .nil)) (.v _) ?_;refine aIn Tryz.func64 fun hm=>?_;simp only[Tryz.ntmps64,Tryz.results64,go_sem,seval];have hm1:=hm.len (sz:=1) (xs:=l.map intC) tz4;rw[zi] at hm1;refine sqD ?_;refine zO fun _ y=>?_;refine sqD ?_;apply zV;refine zae (σ:=Nat) (mB 18 35) (fun s=>s<=l.length/\∀(i:Nat) (p:Int),i<s->l[i]?=some p->(p==n)=false) (fun s=>[(5,.v (.int .i64 (s:Int)))]) (fun s=>[]) (fun s=>l.length-s) 0 (⟨by omega,fun i p hi=>by omega⟩) ?_ (fun s hs=>?_)
  ·
   simp only[go_sem,seval];exact zaP
  simp only[go_sem,seval];refine zO fun _ u=>?_;refine sqD ?_;apply zP rfl <;> intro hb9
  ·
   (have hk:s<l.length:=by simpa using hb9);obtain ⟨p,hp⟩:∃p,l[s]?=some p:=⟨_,zb hk⟩;have hw:IntKind.i64.wrap ((s:Int)+1)=(s:Int)+1:=z8 tz1 (by simp only[maxLen] at hm1;omega);apply zS;apply u;refine zO fun _ u=>?_;apply zV;refine sqR fun _ w=>?_;refine chS 4 ?_ (by intro _ q;simp only[↓bO,go_sem,seval,hk,gM hp,intC,za,hw];exact q);simp only[↓bO,go_sem,seval,hk,gM hp,intC,za,hw];apply w;apply zP rfl <;> intro hb17
   ·
    refine sqR fun _ w=>?_;simp only[↓bO,go_sem,seval,hk,gM hp,intC,za,hw];apply w;apply zR;(try simp only[go_sem]);refine Le.of_eq (congrArg (fun b=>AV.v (.bool b)) ?_);first | (rw[zeo hp (by exact hb17)];done) | (rw[zc8 (fun i p hi hp=>hs.2 i p tz1 hp)];done)
   apply zS;apply u;apply zQ;simp only[↓bO,go_sem,seval,hk,gM hp,intC,za,hw];refine ⟨(s+1),⟨by omega,fun i p' hi h1=>(by rcases zH i s with h3 | h3 <;> first | exact hs.2 i p' h3 h1 | (obtain rfl:i=s:=tz1;rw[hp] at h1;cases h1;exact hb17))⟩,by omega,?_⟩;simp only[go_sem,seval,hk,gM hp,intC,za,zm,hw];exact zaP
  (have hk:s=l.length:=by have:=hs.1;simp at hb9;omega);apply zah;simp only[zag,z6,zY,bA,Nat.reduceEqDiff,↓reduceIte];apply y;refine sqD ?_;apply zR;(try simp only[go_sem]);refine Le.of_eq (congrArg (fun b=>AV.v (.bool b)) ?_);first | (rw[zeo hp (by exact hb17)];done) | (rw[zc8 (fun i p hi hp=>hs.2 i p tz1 hp)];done)
theorem tz8 {p:Prop} (h:p:=by exact ⟨⟨_,_,rfl,by simp,rfl,trivial,trivial⟩,trivial⟩):p:=h
theorem zeN:∀(T:Ty) (l:List Int) (hl:l.length+T.cnt<=1099511627776),APure Tryz.prog 47 [.agg T.cells,.sl 1 (l.map intC)] (.sl 1 ((T.rvars l).map intC)):=by
  refine Ty.ind fun T ih=>?_;intro l hl;refine APure.mkL (.cons T.dataAgg (.cons (zab l) .nil)) ((zab _)) ?_;refine aIn Tryz.func47 fun hm=>?_;simp only[Tryz.ntmps47,Tryz.results47,go_sem,seval];have hcn:=T.cnt_eq;have hcl:=Ty.cntL_len T.ps;simp only[Ty.cells_eq T,zt,zD];(have hl0:(if T.k=1 then zcw l T.n else l).length<=l.length+1:=by split <;> first | exact zfe l T.n | omega);(have hb1:l.length * 8<=140737488355328:=by omega);(have hb2:l.length<=maxLen:=by simp only[maxLen];omega);(have hb3:(l.length+1) * 8<=140737488355328:=by omega);(have hb4:l.length+1<=maxLen:=by simp only[maxLen];omega);have hon:=ints_one l;refine sqD ?_;refine zaC (mB 38 6) ([(1,.sl 1 ((if T.k=1 then zcw l T.n else l).map intC))]) [(0,.cells 26 [.v (.int .i64 T.k),.v (.int .i64 T.n),.sl 3 (T.ps.map Ty.cells)])] 1 (True) ?_ (fun hC=>?_)
  ·
   refine sqR fun _ u=>?_;refine chS 4 ?_;simp only[go_sem];refine zW 9 rfl (fun hc9=>?_) (fun hc9=>?_)
   ·
    refine chS 3 ?_;refine zN 1 fun _ y=>?_;simp only[↓bO,go_sem,seval];refine APure.call (zhs l T.n) ?_;apply y;clear y;simp only[↓bO,go_sem,seval];apply u;apply zP rfl <;> intro hb15
    ·
     refine zdl [(0,1,[.v (.int .i64 T.n)])] 8 rfl mixed (tz8) rfl ?_;dsimp only;refine tkK 1 rfl fun _ y=>?_;simp only[↓bO,go_sem,seval,hb1,hb2,hb3,hb4,hon];apply y;clear y;refine tkK 3 rfl fun _ y=>?_;simp only[↓bO,go_sem,seval,hb1,hb2,hb3,hb4,hon];apply y;clear y;refine tkL 4 0 rfl rfl fun _ y=>?_;simp only[↓bO,go_sem,seval,hb1,hb2,hb3,hb4,hon];apply y;clear y;refine al2 (i:=0) (j:=5) ?_ ?_
     ·
      refine opT fun _ y=>?_;simp only[↓bO,go_sem,seval,↓bs0_1,↓bs0_2,↓bs0_3,↓bs0_4,↓bs0_5,↓bs0_6,↓bs0_7,↓bs0_8,↓bs0_9,↓bs0_10,↓bs0_11,↓bs0_12,hb1,hb2,hb3,hb4,hon];refine y _ ⟨tz8,?_⟩;clear y;refine al2 (i:=2) (j:=5) ?_ ?_
      ·
       refine opT fun _ y=>?_;simp only[↓bO,go_sem,seval,hb1,hb2,hb3,hb4,hon];refine y _ ⟨tz8,?_⟩;clear y;refine al1 (i:=5) ?_;refine opT fun _ y=>?_;simp only[↓bO,go_sem,seval,↓zaV,↓za1,↓zaR,↓zaZ,↓zaS,↓zaY,↓za0,↓zaX,↓zaU,↓zax,↓zav,↓zaw,hb1,hb2,hb3,hb4,hon];refine y _ ⟨tz8,?_⟩;clear y;refine al1 (i:=6) ?_;refine opT fun _ y=>?_;simp only[↓bO,go_sem,seval,hb1,hb2,hb3,hb4,hon];refine y _ ⟨tz8,?_⟩;clear y;refine tkK 7 rfl fun _ y=>?_;simp only[↓bO,go_sem,seval,hb1,hb2,hb3,hb4,hon];apply y;clear y;refine dnA ?_;simp only[go_sem];(try simp only[go_sem,seval]);(first | refine ⟨trivial,?_⟩ | skip);have h9:=zbH T.k T.n l;(first | (have h9:=h9.1 (by simpa using hc9) (by simpa using hb15);rw[h9]) | (have h9:=h9.2.1 (by simpa using hb15);rw[h9]) | (have h9:=h9.2.2 (by simpa using hc9);rw[h9]));(first | (refine Weak.drops 0 1 rfl rfl tz5 tz5 ?_ ?_ ?_) | (refine Weak.drops 1 1 rfl rfl tz5 tz5 ?_ ?_ ?_));(· simp only[go_sem,Le.refl,Le.any,Le.oslL,zc,zk,zq]);(· simp only[UndL,Und.any,Und.v,Und.ptr,zdZ,zC,Nat.reduceLT,and_self]);simp only[UndOs,Ob.Und,UndL,Und.v,Und.tys,zC,Nat.reduceLT,and_self]
      refine opT fun _ y=>?_;simp only[↓bO,go_sem,seval,↓zaV,↓za1,↓zaR,↓zaZ,↓zaS,↓zaY,↓za0,↓zaX,↓zaU,↓zax,↓zav,↓zaw,hb1,hb2,hb3,hb4,hon];refine y _ ⟨tz8,?_⟩;clear y;refine al1 (i:=2) ?_;refine opT fun _ y=>?_;simp only[↓bO,go_sem,seval,hb1,hb2,hb3,hb4,hon];refine y _ ⟨tz8,?_⟩;clear y;refine al1 (i:=6) ?_;refine opT fun _ y=>?_;simp only[↓bO,go_sem,seval,hb1,hb2,hb3,hb4,hon];refine y _ ⟨tz8,?_⟩;clear y;refine tkK 7 rfl fun _ y=>?_;simp only[↓bO,go_sem,seval,hb1,hb2,hb3,hb4,hon];apply y;clear y;refine dnA ?_;simp only[go_sem];(try simp only[go_sem,seval]);(first | refine ⟨trivial,?_⟩ | skip);have h9:=zbH T.k T.n l;(first | (have h9:=h9.1 (by simpa using hc9) (by simpa using hb15);rw[h9]) | (have h9:=h9.2.1 (by simpa using hb15);rw[h9]) | (have h9:=h9.2.2 (by simpa using hc9);rw[h9]));(first | (refine Weak.drops 0 1 rfl rfl tz5 tz5 ?_ ?_ ?_) | (refine Weak.drops 1 1 rfl rfl tz5 tz5 ?_ ?_ ?_));(· simp only[go_sem,Le.refl,Le.any,Le.oslL,zc,zk,zq]);(· simp only[UndL,Und.any,Und.v,Und.ptr,zdZ,zC,Nat.reduceLT,and_self]);simp only[UndOs,Ob.Und,UndL,Und.v,Und.tys,zC,Nat.reduceLT,and_self]
     refine opT fun _ y=>?_;simp only[↓bO,go_sem,seval,↓zaV,↓za1,↓zaR,↓zaZ,↓zaS,↓zaY,↓za0,↓zaX,↓zaU,↓zax,↓zav,↓zaw,hb1,hb2,hb3,hb4,hon];refine y _ ⟨tz8,?_⟩;clear y;refine al1 (i:=0) ?_;refine opT fun _ y=>?_;simp only[↓bO,go_sem,seval,↓bs0_1,↓bs0_2,↓bs0_3,↓bs0_4,↓bs0_5,↓bs0_6,↓bs0_7,↓bs0_8,↓bs0_9,↓bs0_10,↓bs0_11,↓bs0_12,hb1,hb2,hb3,hb4,hon];refine y _ ⟨tz8,?_⟩;clear y;refine al1 (i:=2) ?_;refine opT fun _ y=>?_;simp only[↓bO,go_sem,seval,hb1,hb2,hb3,hb4,hon];refine y _ ⟨tz8,?_⟩;clear y;refine al1 (i:=6) ?_;refine opT fun _ y=>?_;simp only[↓bO,go_sem,seval,hb1,hb2,hb3,hb4,hon];refine y _ ⟨tz8,?_⟩;clear y;refine tkK 7 rfl fun _ y=>?_;simp only[↓bO,go_sem,seval,hb1,hb2,hb3,hb4,hon];apply y;clear y;refine dnA ?_;simp only[go_sem];(try simp only[go_sem,seval]);(first | refine ⟨trivial,?_⟩ | skip);have h9:=zbH T.k T.n l;(first | (have h9:=h9.1 (by simpa using hc9) (by simpa using hb15);rw[h9]) | (have h9:=h9.2.1 (by simpa using hb15);rw[h9]) | (have h9:=h9.2.2 (by simpa using hc9);rw[h9]));(first | (refine Weak.drops 0 1 rfl rfl tz5 tz5 ?_ ?_ ?_) | (refine Weak.drops 1 1 rfl rfl tz5 tz5 ?_ ?_ ?_));(· simp only[go_sem,Le.refl,Le.any,Le.oslL,zc,zk,zq]);(· simp only[UndL,Und.any,Und.v,Und.ptr,zdZ,zC,Nat.reduceLT,and_self]);simp only[UndOs,Ob.Und,UndL,Und.v,Und.tys,zC,Nat.reduceLT,and_self]
    apply zS;(try simp only[go_sem]);(try simp only[go_sem,seval]);(first | refine ⟨trivial,?_⟩ | skip);have h9:=zbH T.k T.n l;(first | (have h9:=h9.1 (by simpa using hc9) (by simpa using hb15);rw[h9]) | (have h9:=h9.2.1 (by simpa using hb15);rw[h9]) | (have h9:=h9.2.2 (by simpa using hc9);rw[h9]));(first | (refine Weak.drops 0 1 rfl rfl tz5 tz5 ?_ ?_ ?_) | (refine Weak.drops 1 1 rfl rfl tz5 tz5 ?_ ?_ ?_));(· simp only[go_sem,Le.refl,Le.any,Le.oslL,zc,zk,zq]);(· simp only[UndL,Und.any,Und.v,Und.ptr,zdZ,zC,Nat.reduceLT,and_self]);simp only[UndOs,Ob.Und,UndL,Und.v,Und.tys,zC,Nat.reduceLT,and_self]
   refine chS 4 ?_;simp only[↓bO,go_sem,seval];apply u;refine zP (b:=false) (by first | exact rfl | exact congrArg (fun b=>AV.v (.bool b)) hb15) (fun h=>(by cases h)) (fun _=>?_);apply zS;(try simp only[go_sem]);(try simp only[go_sem,seval]);(first | refine ⟨trivial,?_⟩ | skip);have h9:=zbH T.k T.n l;(first | (have h9:=h9.1 (by simpa using hc9) (by simpa using hb15);rw[h9]) | (have h9:=h9.2.1 (by simpa using hb15);rw[h9]) | (have h9:=h9.2.2 (by simpa using hc9);rw[h9]));(first | (refine Weak.drops 0 1 rfl rfl tz5 tz5 ?_ ?_ ?_) | (refine Weak.drops 1 1 rfl rfl tz5 tz5 ?_ ?_ ?_));(· simp only[go_sem,Le.refl,Le.any,Le.oslL,zc,zk,zq]);(· simp only[UndL,Und.any,Und.v,Und.ptr,zdZ,zC,Nat.reduceLT,and_self]);simp only[UndOs,Ob.Und,UndL,Und.v,Und.tys,zC,Nat.reduceLT,and_self]
  simp only[go_sem,seval];refine zO fun _ u=>?_;refine sqD ?_;apply zV;refine zae (σ:=Nat) (mB 38 38) (fun s=>s<=T.ps.length) (fun s=>[(1,.sl 1 ((Ty.rvarsL (T.ps.take s) (if T.k=1 then zcw l T.n else l)).map intC)),(5,.v (.int .i64 (s:Int)))]) (fun s=>[]) (fun s=>T.ps.length-s) 0 tz1 ?_ (fun s hs=>?_)
  ·
   simp only[go_sem,seval,bL,Ty.rvarsL];exact zaP
  simp only[go_sem,seval];refine zO fun _ w=>?_;refine sqR fun _ z=>?_;refine chS 4 ?_;simp only[↓bO,go_sem,seval];apply z;apply zP rfl <;> intro hb27
  ·
   (have hk:s<T.ps.length:=by simpa using hb27);obtain ⟨p,hp⟩:∃p,T.ps[s]?=some p:=⟨_,zb hk⟩;have hpc:=Ty.cntL_step hp;have hvl:=Ty.rvarsL_len (T.ps.take s) (if T.k=1 then zcw l T.n else l);have hw:IntKind.i64.wrap ((s:Int)+1)=(s:Int)+1:=z8 tz1 tz1;apply zS;apply w;refine zO fun _ w=>?_;apply zV;apply zQ;refine chS 4 ?_ (by intro _ q;simp only[↓bO,go_sem,seval,hk,gM hp,za,hw,Ty.rvarsL_step hp];exact q);refine chS 2 ?_ (by intro _ q;simp only[↓bO,go_sem,seval,hk,gM hp,za,hw,Ty.rvarsL_step hp];exact q);refine zN 1 fun _ y=>?_;simp only[↓bO,go_sem,seval,hk,gM hp,za,hw,Ty.rvarsL_step hp];refine APure.call (ih p (zh hp) (Ty.rvarsL (T.ps.take s) (if T.k=1 then zcw l T.n else l)) tz1) ?_;apply y;clear y;simp only[↓bO,go_sem,seval,hk,gM hp,za,hw,Ty.rvarsL_step hp];apply w;apply zQ;simp only[↓bO,go_sem,seval,hk,gM hp,za,hw,Ty.rvarsL_step hp];refine ⟨(s+1),tz1,by omega,?_⟩;simp only[go_sem,seval,hk,gM hp,za,zm,hw,Ty.rvarsL_step hp];exact zaP
  (have hk:s=T.ps.length:=by simp at hb27;omega);apply zah;simp only[zag,z6,zY,bA,Nat.reduceEqDiff,↓reduceIte];apply u;refine sqD ?_;apply zR;(try simp only[go_sem]);refine Le.of_eq ?_;rw[Ty.rvars_eq,hk,zw]
theorem APure.le {P:Program} {f:Nat} {args args':List AV} {x:AV} (h:APure P f args' x) (hl:LeL args args') (hd:DataL args):APure P f args x:=⟨hd,h.2.1,h.2.2.args hl⟩
theorem bfind_get {l:List Bd} {n:Int} (h:0<=zbj l n):∃b:Bd,l[(zbj l n).toNat]?=some b/\b.v=n:=by
 unfold zbj zhX at h ⊢;split at h
 ·rename_i ha
  rw[if_pos ha,Int.toNat_natCast];have h2:=List.findIdx_lt_length_of_exists (List.any_eq_true.1 ha);have h3:=List.findIdx_getElem (w:=h2);exact ⟨_,zb h2,by simpa using h3⟩
 omega
theorem Find_pure (l:List Bd) (n:Int):APure Tryz.prog 150 [.sl 4 (l.map Bd.cells),.v (.int .i64 n)] (.v (.int .i64 (zbj l n))):=by
  refine APure.mkL (.cons (Bd.dataSl l) (.cons (.v _) .nil)) (.v _) ?_;refine aIn Tryz.func150 fun hm=>?_;simp only[Tryz.ntmps150,Tryz.results150,go_sem,seval];have hm1:=hm.len (sz:=4) (xs:=l.map Bd.cells) tz4;rw[zi] at hm1;refine sqR fun _ y=>?_;simp only[↓bO,go_sem,seval,Bd.take1,Bd.drop1,Bd.cells_len,Bd.one];apply y;refine zO fun _ y=>?_;refine sqR fun _ u=>?_;simp only[↓bO,go_sem,seval,Bd.take1,Bd.drop1,Bd.cells_len,Bd.one];apply u;apply zV;refine zae (σ:=Nat) (mB 20 35) (fun s=>s<=l.length/\∀(i:Nat) (b:Bd),i<s->l[i]?=some b->(b.v==n)=false) (fun s=>[(5,.v (.int .i64 (s:Int)))]) (fun s=>[]) (fun s=>l.length-s) 0 (⟨by omega,fun i p hi=>by omega⟩) ?_ (fun s hs=>?_)
  ·
   simp only[go_sem,seval];exact zaP
  simp only[go_sem,seval];refine zO fun _ u=>?_;refine sqR fun _ w=>?_;simp only[↓bO,go_sem,seval,Bd.take1,Bd.drop1,Bd.cells_len,Bd.one];apply w;apply zP rfl <;> intro hb9
  ·
   (have hk:s<l.length:=by simpa using hb9);obtain ⟨p,hp⟩:∃p,l[s]?=some p:=⟨_,zb hk⟩;have hw:IntKind.i64.wrap ((s:Int)+1)=(s:Int)+1:=z8 tz1 (by simp only[maxLen] at hm1;omega);apply zS;apply u;refine zO fun _ u=>?_;apply zV;refine sqR fun _ w=>?_;refine chS 4 ?_ (by intro _ q;simp only[↓bO,go_sem,seval,Bd.take1,Bd.drop1,Bd.cells_len,Bd.one,hk,gM hp,za,hw];exact q);simp only[↓bO,go_sem,seval,Bd.take1,Bd.drop1,Bd.cells_len,Bd.one,hk,gM hp,za,hw];apply w;apply zP rfl <;> intro hb18
   ·
    refine sqR fun _ w=>?_;simp only[↓bO,go_sem,seval,Bd.take1,Bd.drop1,Bd.cells_len,Bd.one,hk,gM hp,za,hw];apply w;apply zR;(try simp only[go_sem]);refine Le.of_eq (congrArg (fun b=>AV.v (.int .i64 b)) ?_);first | (exact (zbl hp (by exact hb18) hs.2).symm) | (exact (zbm fun i p hi hp=>hs.2 i p tz1 hp).symm)
   apply zS;apply u;apply zQ;simp only[↓bO,go_sem,seval,Bd.take1,Bd.drop1,Bd.cells_len,Bd.one,hk,gM hp,za,hw];refine ⟨(s+1),⟨by omega,fun i p' hi h1=>(by rcases zH i s with h3 | h3 <;> first | exact hs.2 i p' h3 h1 | (obtain rfl:i=s:=tz1;rw[hp] at h1;cases h1;exact hb18))⟩,by omega,?_⟩;simp only[go_sem,seval,hk,gM hp,za,zm,hw];exact zaP
  (have hk:s=l.length:=by have:=hs.1;simp at hb9;omega);apply zah;simp only[zag,z6,zY,bA,Nat.reduceEqDiff,↓reduceIte];apply y;refine sqR fun _ y=>?_;simp only[↓bO,go_sem,seval,Bd.take1,Bd.drop1,Bd.cells_len,Bd.one];apply y;apply zR;(try simp only[go_sem]);refine Le.of_eq (congrArg (fun b=>AV.v (.int .i64 b)) ?_);first | (exact (zbl hp (by exact hb18) hs.2).symm) | (exact (zbm fun i p hi hp=>hs.2 i p tz1 hp).symm)
theorem zlG:∀(T:Ty) (l:List Bd) (hT:T.cnt<=1099511627776),APure Tryz.prog 107 [.sl 4 (l.map Bd.cells),.agg T.cells] (.agg (T.sub l).cells):=by
  refine Ty.ind fun T ih=>?_;intro l hT;refine APure.mkL (.cons (Bd.dataSl l) (.cons T.dataAgg .nil)) ((Ty.dataAgg _)) ?_;refine aIn Tryz.func107 fun hm=>?_;simp only[Tryz.ntmps107,Tryz.results107,go_sem,seval];have hcn:=T.cnt_eq;have hcl:=Ty.cntL_len T.ps;simp only[Ty.cells_eq T,zt,zD];refine sqR fun _ u=>?_;simp only[↓bO,go_sem,seval,Bd.take1,Bd.drop1,Bd.cells_len,Bd.one];apply u;refine AWp_joinC (mB 44 25) ([]) ([]) (¬(T.k=1/\0<=zbj l T.n)) ?_ (fun hN=>?_)
  ·
   refine sqR fun _ u=>?_;simp only[↓bO,go_sem,seval,Bd.take1,Bd.drop1,Bd.cells_len,Bd.one];apply u;apply zP rfl <;> intro hb10
   ·
    (have h10:T.k=1:=by simpa using hb10);refine sqR fun _ u=>?_;refine chS 3 ?_ (by intro _ q;simp only[↓bO,go_sem,seval,Bd.take1,Bd.drop1,Bd.cells_len,Bd.one];exact q);refine zN 1 fun _ y=>?_;simp only[↓bO,go_sem,seval,Bd.take1,Bd.drop1,Bd.cells_len,Bd.one];refine APure.call (Find_pure l T.n) ?_;apply y;clear y;simp only[↓bO,go_sem,seval,Bd.take1,Bd.drop1,Bd.cells_len,Bd.one];apply u;refine sqR fun _ u=>?_;simp only[↓bO,go_sem,seval,Bd.take1,Bd.drop1,Bd.cells_len,Bd.one];apply u;apply zP rfl <;> intro hb16
    ·
     (have h16:0<=zbj l T.n:=by simpa using hb16);obtain ⟨b,hb,hbi⟩:=bfind_get h16;(have hbl:zbj l T.n<(l.length:Int):=by have:=(zf.1 hb).1;omega);refine sqR fun _ u=>?_;refine chS 3 ?_ (by intro _ q;simp only[↓bO,go_sem,seval,Bd.take1,Bd.drop1,Bd.cells_len,Bd.one,h16,hbl,zdO hb];exact q);simp only[↓bO,go_sem,seval,Bd.take1,Bd.drop1,Bd.cells_len,Bd.one,h16,hbl,zdO hb];apply u;apply zR;(try simp only[zag,z6,zY,zbg,za3,zap,bS,bA,zao,zad,zaO,bL,Nat.reduceAdd,Nat.reduceLeDiff,Nat.reduceEqDiff,↓reduceIte,zbR,tyX,Bd.take1,Bd.drop1,Bd.cells_len,Bd.one,h16,hbl,zdO hb]);refine Le.agg ?_;first | (rw[Ty.sub_yes h10 h16 hb];exact LeL.refl _) | (rw[Ty.sub_no hN,Ty.cells_eq,hk,zw];exact ⟨.refl _,.refl _,Le.oslL,trivial⟩)
    (have hN:¬(T.k=1/\0<=zbj l T.n):=fun h9=>by simp at hb16;omega);apply zS;(try simp only[go_sem]);(try simp only[go_sem,seval]);refine ⟨hN,?_⟩;exact clz2
   (have hN:¬(T.k=1/\0<=zbj l T.n):=fun h9=>by simp[h9.1] at hb10);apply zS;(try simp only[go_sem]);(try simp only[go_sem,seval]);refine ⟨hN,?_⟩;exact clz2
  simp only[go_sem,seval];(iterate 2 (refine zO fun _ u=>?_;apply zQ;simp only[↓bO,go_sem,seval,Bd.take1,Bd.drop1,Bd.cells_len,Bd.one];apply u));refine zO fun _ u=>?_;refine sqR fun _ w=>?_;simp only[↓bO,go_sem,seval,Bd.take1,Bd.drop1,Bd.cells_len,Bd.one];apply w;apply zV;refine zar (Weak.tokCell 26 3 (id:=2) (t:=26) [.v (.int .i64 T.k),.v (.int .i64 T.n),.osl 3 3 []] rfl ⟨.inl (.refl _),.inl (.refl _),.inr ⟨rfl,rfl⟩,trivial⟩) ?_;simp only[zaz,Nat.reduceEqDiff,↓reduceIte];refine zae (σ:=Nat) (mB 44 217) (fun s=>s<=T.ps.length) (fun s=>[(7,.v (.int .i64 (s:Int)))]) (fun s=>[(2,.cells 26 [.v (.int .i64 T.k),.v (.int .i64 T.n),.osl 3 3 (((T.ps.take s).map (Ty.sub l)).map Ty.cells)]),(3,.tok 26 3 s)]) (fun s=>T.ps.length-s) 0 tz1 ?_ (fun s hs=>?_)
  ·
   simp only[go_sem,seval,bL];exact zaP
  simp only[go_sem,seval];refine zO fun _ w=>?_;refine sqR fun _ z=>?_;refine chS 3 ?_ (by intro _ q;simp only[↓bO,go_sem,seval,Bd.take1,Bd.drop1,Bd.cells_len,Bd.one];exact q);simp only[↓bO,go_sem,seval,Bd.take1,Bd.drop1,Bd.cells_len,Bd.one];apply z;apply zP rfl <;> intro hb28
  ·
   (have hk:s<T.ps.length:=by simpa using hb28);obtain ⟨p,hp⟩:∃p,T.ps[s]?=some p:=⟨_,zb hk⟩;have hpm:=Ty.cnt_mem (zh hp);have hw:IntKind.i64.wrap ((s:Int)+1)=(s:Int)+1:=z8 tz1 tz1;(have hln:(((T.ps.take s).map (Ty.sub l)).map Ty.cells).length=s:=by simp;omega);(have hb1:(s+1) * 40<=140737488355328:=by omega);(have hb2:s+1<=maxLen:=by simp only[maxLen];omega);apply zS;apply w;refine zO fun _ w=>?_;apply zV;refine zaM 10 mixed tz0 fun J0 j0=>?_;(iterate 2 (simp only[go_sem];refine zac 3 fun _ y=>?_;simp only[↓zaK,↓dOp,↓bO,go_sem,seval,Bd.take1,Bd.drop1,Bd.cells_len,Bd.one,hk,gM hp,za,hw,hln,hb1,hb2,zc,zZ (Ty.sub l) hp];apply y;clear y));simp only[go_sem];refine zac 2 fun _ y=>?_;simp only[↓zaK,↓dOp,↓bO,go_sem,seval,Bd.take1,Bd.drop1,Bd.cells_len,Bd.one,hk,gM hp,za,hw,hln,hb1,hb2,zc,zZ (Ty.sub l) hp];apply y;clear y;refine zac 1 fun _ y=>?_;simp only[↓zaK,↓dOp,↓bO,go_sem,seval,Bd.take1,Bd.drop1,Bd.cells_len,Bd.one,hk,gM hp,za,hw,hln,hb1,hb2,zc,zZ (Ty.sub l) hp];refine ⟨_,ih p (zh hp) l tz1,?_⟩;apply y;clear y;simp only[↓zaK,↓dOp,↓bO,go_sem,seval,↓zaV,↓za1,↓zaR,↓zaZ,↓zaS,↓zaY,↓za0,↓zaX,↓zaU,↓zax,↓zav,↓zaw,Bd.take1,Bd.drop1,Bd.cells_len,Bd.one,hk,gM hp,za,hw,hln,hb1,hb2,zc,zZ (Ty.sub l) hp];refine j0 _ ?_;clear j0 J0;simp only[go_sem];simp only[↓bO,go_sem,seval,Bd.take1,Bd.drop1,Bd.cells_len,Bd.one,hk,gM hp,za,hw,hln,hb1,hb2,zc,zZ (Ty.sub l) hp];apply w;apply zQ;simp only[↓bO,go_sem,seval,Bd.take1,Bd.drop1,Bd.cells_len,Bd.one,hk,gM hp,za,hw,hln,hb1,hb2,zc,zZ (Ty.sub l) hp];refine ⟨(s+1),tz1,by omega,?_⟩;simp only[go_sem,seval,hk,gM hp,za,zm,hw,hln,hb1,hb2,zc,bL,zZ (Ty.sub l) hp];exact zaP
  (have hk:s=T.ps.length:=by simp at hb28;omega);apply zah;simp only[zag,z6,zY,bA,Nat.reduceEqDiff,↓reduceIte];apply u;refine sqR fun _ u=>?_;simp only[↓bO,go_sem,seval,Bd.take1,Bd.drop1,Bd.cells_len,Bd.one];apply u;apply zR;(try simp only[zag,z6,zY,zbg,za3,zap,bS,bA,zao,zad,zaO,bL,Nat.reduceAdd,Nat.reduceLeDiff,Nat.reduceEqDiff,↓reduceIte,zbR,tyX,Bd.take1,Bd.drop1,Bd.cells_len,Bd.one]);refine Le.agg ?_;first | (rw[Ty.sub_yes h10 h16 hb];exact LeL.refl _) | (rw[Ty.sub_no hN,Ty.cells_eq,hk,zw];exact ⟨.refl _,.refl _,Le.oslL,trivial⟩)
end Go.Proofs.YtkokfdmggdhfmaaGreatDoor
namespace Go.Proofs.YtkokfdmggdhfmaaGreatDoor
open Go Go.RowKit
set_option linter.unnecessarySimpa false
theorem Ty.k_mk (k n:Int) (ps:List Ty):(Ty.mk k n ps).k=k:=rfl
theorem Ty.n_mk (k n:Int) (ps:List Ty):(Ty.mk k n ps).n=n:=rfl
theorem Ty.ps_mk (k n:Int) (ps:List Ty):(Ty.mk k n ps).ps=ps:=rfl
theorem okN_one {n:Int} {len:Nat} (h:okN 1 n len=true):0<=n/\n<1073741824/\len=0:=by
 simp only[okN,zg] at h;omega
theorem okN_more {k n:Int} {len:Nat} (h:okN k n len=true) (hk:¬k=1):n=0:=by
 simp only[okN,zg] at h;omega
theorem Ty.right_part {t p:Ty} (h:t.right=true) (hp:p∈t.ps):p.right=true:=by
 rw[Ty.right_eq,zl] at h;exact zF.1 h.2 p hp
theorem Ty.right_var {t:Ty} (h:t.right=true) (hk:t.k=1):t=.mk 1 t.n []:=by
 obtain ⟨k,n,ps⟩:=t;have hk:k=1:=hk;subst hk;rw[Ty.right_eq,zl] at h;have:=(okN_one h.1).2.2;simp only[Ty.ps,List.length_eq_zero_iff] at this;simp[Ty.n,this]
theorem Ty.right_n {t:Ty} (h:t.right=true) (hk:¬t.k=1):t.n=0:=by
 rw[Ty.right_eq,zl] at h;exact okN_more h.1 hk
theorem zlf {α:Type} {f:α->α->Bool}:∀{ps qs:List α},(∀p∈ps,∀q,f p q=true↔p=q)->(zg4 f ps qs=true↔ps=qs)
 | [],[],_=>by simp[zg4]
 | [],_::_,_=>by simp[zg4]
 | _::_,[],_=>by simp[zg4]
 | p::ps,q::qs,h=>by
  simp only[zg4,zl,List.cons.injEq];rw[h p tz4 q,zlf fun p' hp q'=>h p' (by simp[hp]) q']
theorem Ty.same_iff:∀T U:Ty,T.same U=true↔T=U:=by
 (refine Ty.ind fun T ih=>fun U=>?_);rw[Ty.same_eq,zdd,zl,zl,zlf ih];obtain ⟨k,n,ps⟩:=T;obtain ⟨k',n',ps'⟩:=U;simp only[Ty.k,Ty.n,Ty.ps,beq_iff_eq,Ty.mk.injEq];exact ⟨fun h=>⟨h.1.1,h.1.2,h.2⟩,fun h=>⟨⟨h.1,h.2.1⟩,h.2.2⟩⟩
def zau {α:Type}:List (Int×α)->Int->Option α
 | [],_=>none
 | (k,x)::r,i=>if k=i then some x else zau r i
def zgj {α:Type}:List (Int×α)->Int->α->List (Int×α)
 | [],k,x=>[(k,x)]
 | (k',y)::r,k,x=>if k'=k then (k,x)::r else (k',y)::zgj r k x
theorem zbZ {α:Type} (k:Int) (x:α) (i:Int):∀m:List (Int×α),zau (zgj m k x) i=if k=i then some x else zau m i
 | []=>by simp[zgj,zau]
 | (a,b)::m=>by
  simp only[zgj];split;(·rename_i e;subst e;simp only[zau];split <;> rfl);(rename_i e);simp only[zau,zbZ k x i m]
  by_cases h1:k=i
  (·subst h1;simp[e]);simp[h1]
theorem zem {α:Type} (f:α->AV) (i:Int):∀m:List (Int×α),zbK (m.map fun p=>(p.1,f p.2)) i=(zau m i).map f
 | []=>rfl
 | (a,b)::m=>by simp only[zk,zbK,zau];split <;> simp[zem f i m]
theorem aSet_p {α:Type} (f:α->AV) (k:Int) (x:α):∀m:List (Int×α),zfS (m.map fun p=>(p.1,f p.2)) k (f x)=(zgj m k x).map fun p=>(p.1,f p.2)
 | []=>rfl
 | (a,b)::m=>by simp only[zk,zfS,zgj];split <;> simp[aSet_p f k x m]
def Ty.occ (v:Int) (t:Ty):Prop:=v∈t.rvars []
theorem zhN {l:List Int} {n v:Int}:v∈zcw l n↔v∈l\/v=n:=by
 unfold zcw;split
 ·rename_i h
  obtain ⟨x,hx,e⟩:=List.any_eq_true.1 h;simp only[beq_iff_eq] at e;subst e;exact ⟨.inl,fun h=>h.elim id fun h=>h▸hx⟩
 simp
theorem Ty.mem_rvars (v:Int):∀(t:Ty) (l:List Int),v∈t.rvars l↔v∈l\/t.occ v:=by
 have key:∀t:Ty,(∀p∈t.ps,∀l:List Int,v∈p.rvars l↔v∈l\/p.occ v)->∀l,v∈t.rvars l↔v∈l\/(t.k=1/\v=t.n)\/∃p∈t.ps,p.occ v:=by
  intro t ih l
  have hL:∀ps:List Ty,(∀p∈ps,∀l:List Int,v∈p.rvars l↔v∈l\/p.occ v)->∀l:List Int,v∈Ty.rvarsL ps l↔v∈l\/∃p∈ps,p.occ v:=by
   intro ps
   induction ps with
   | nil=>intro _ l;simp[Ty.rvarsL]
   | cons p ps ih2 =>
    intro h l;rw[Ty.rvarsL,ih2 (fun q hq=>h q (by simp[hq])),h p tz4];simp only[zK,exists_eq_or_imp,or_assoc]
  rw[Ty.rvars_eq,hL t.ps ih];split;(·rename_i hk;simp only[zhN,hk,true_and,or_assoc]);rename_i hk;simp only[hk,false_and,false_or]
 refine Ty.ind fun t ih l=>?_;have h1:=key t ih l;have h2:=key t ih [];unfold Ty.occ;rw[h1,h2];simp
theorem Ty.occ_iff (v:Int) (t:Ty):t.occ v↔(t.k=1/\v=t.n)\/∃p∈t.ps,p.occ v:=by
 have hL:∀(ps:List Ty) (l:List Int),v∈Ty.rvarsL ps l↔v∈l\/∃p∈ps,p.occ v:=by
  intro ps
  induction ps with
  | nil=>intro l;simp[Ty.rvarsL]
  | cons p ps ih2 =>
   intro l;rw[Ty.rvarsL,ih2,Ty.mem_rvars];simp only[zK,exists_eq_or_imp,or_assoc]
 rw[Ty.occ,Ty.rvars_eq,hL];split;(·rename_i hk;simp[zhN,hk]);rename_i hk;simp[hk]
mutual
/-- what a function of variables makes of a type -/
def Ty.subF (σ:Int->Ty):Ty->Ty
 | .mk k n ps=>if k=1 then σ n else .mk k n (Ty.subFL σ ps)
def Ty.subFL (σ:Int->Ty):List Ty->List Ty
 | []=>[]
 | p::ps=>Ty.subF σ p::Ty.subFL σ ps
end
theorem Ty.subFL_eq (σ:Int->Ty):∀ps,Ty.subFL σ ps=ps.map (Ty.subF σ)
 | []=>by simp[Ty.subFL]
 | p::ps=>by simp[Ty.subFL,Ty.subFL_eq σ ps]
theorem Ty.subF_var {σ:Int->Ty} {t:Ty} (h:t.k=1):t.subF σ=σ t.n:=by
 obtain ⟨k,n,ps⟩:=t;have h:k=1:=h;rw[Ty.subF,if_pos h];rfl
theorem Ty.subF_more {σ:Int->Ty} {t:Ty} (h:¬t.k=1):t.subF σ=.mk t.k t.n (t.ps.map (Ty.subF σ)):=by
 obtain ⟨k,n,ps⟩:=t;have h:¬k=1:=h;rw[Ty.subF,if_neg h,Ty.subFL_eq];rfl
theorem Ty.subF_congr {σ τ:Int->Ty}:∀t:Ty,(∀v,t.occ v->σ v=τ v)->t.subF σ=t.subF τ:=by
 refine Ty.ind fun t ih h=>?_
 by_cases hk:t.k=1
 ·rw[Ty.subF_var hk,Ty.subF_var hk]
  exact h _ ((Ty.occ_iff _ _).2 (.inl ⟨hk,rfl⟩))
 rw[Ty.subF_more hk,Ty.subF_more hk];(congr 1);exact List.map_congr_left fun p hp=>ih p hp fun v hv=>h v ((Ty.occ_iff _ _).2 (.inr ⟨p,hp,hv⟩))
def bfun (l:List Bd) (n:Int):Ty:=if 0<=zbj l n then ((l[(zbj l n).toNat]?).map Bd.t).getD (.mk 0 0 []) else .mk 1 n []
theorem Ty.sub_subF (l:List Bd):∀t:Ty,t.right=true->t.sub l=t.subF (bfun l):=by
 refine Ty.ind fun t ih hr=>?_
 by_cases hk:t.k=1
 ·have e:=Ty.right_var hr hk
  rw[Ty.subF_var hk]
  conv=>lhs;rw[e]
  simp only[Ty.sub,bfun,true_and,Ty.subL]
 rw[Ty.subF_more hk,Ty.sub_no fun h=>hk h.1];(congr 1);exact List.map_congr_left fun p hp=>ih p hp (Ty.right_part hr hp)
mutual
/-- what stands in another type where a variable stands first -/
def Ty.stand (v:Int):Ty->Ty->Option Ty
 | .mk k n ps,t=>if k=1/\n=v then some t else Ty.standL v ps t.ps
def Ty.standL (v:Int):List Ty->List Ty->Option Ty
 | p::ps,q::qs=>match Ty.stand v p q with
  | some x=>some x
  | none=>Ty.standL v ps qs
 | [],_=>none
 | _::_,[]=>none
end
theorem Ty.stand_eq (v:Int) (t u:Ty):t.stand v u=if t.k=1/\t.n=v then some u else Ty.standL v t.ps u.ps:=by cases t;rw[Ty.stand];rfl
theorem Ty.stand_none (v:Int):∀(t u:Ty),¬t.occ v->t.stand v u=none:=by
 refine Ty.ind fun t ih u h=>?_;rw[Ty.occ_iff] at h;rw[Ty.stand_eq,if_neg fun hh=>h (.inl ⟨hh.1,hh.2.symm⟩)]
 have hL:∀ps:List Ty,(∀p∈ps,∀u:Ty,p.stand v u=none)->∀us,Ty.standL v ps us=none:=by
  intro ps
  induction ps with
  | nil=>intro _ us;rw[Ty.standL]
  | cons p ps ih2 =>
   intro h us
   cases us with
   | nil=>rw[Ty.standL]
   | cons q qs=>rw[Ty.standL,h p tz4 q];exact ih2 (fun p hp=>h p (by simp[hp])) qs
 exact hL t.ps (fun p hp u=>ih p hp u fun ho=>h (.inr ⟨p,hp,ho⟩)) u.ps
mutual
/-- matching: what is told behind what was -/
def Ty.match:Ty->Ty->List (Int×Ty)->Bool×List (Int×Ty)
 | .mk k n ps,t,m=>if k=1 then (match zau m n with | none=>(true,zgj m n t) | some x=>(x.same t,m)) else if k=t.k/\ps.length=t.ps.length then Ty.matchL ps t.ps m else (false,m)
def Ty.matchL:List Ty->List Ty->List (Int×Ty)->Bool×List (Int×Ty)
 | p::ps,q::qs,m=>if (Ty.match p q m).1 then Ty.matchL ps qs (Ty.match p q m).2 else (false,(Ty.match p q m).2)
 | [],_,m=>(true,m)
 | _::_,[],m=>(true,m)
end
theorem Ty.match_var {g t:Ty} {m:List (Int×Ty)} (h:g.k=1):g.match t m=match zau m g.n with | none=>(true,zgj m g.n t) | some x=>(x.same t,m):=by
 obtain ⟨k,n,ps⟩:=g;have h:k=1:=h;rw[Ty.match,if_pos h];rfl
theorem Ty.match_no {g t:Ty} {m:List (Int×Ty)} (h:¬g.k=1) (h2:¬(g.k=t.k/\g.ps.length=t.ps.length)):g.match t m=(false,m):=by
 obtain ⟨k,n,ps⟩:=g;have h:¬k=1:=h;have h2:¬(k=t.k/\ps.length=t.ps.length):=h2;rw[Ty.match,if_neg h,if_neg h2]
theorem Ty.match_more {g t:Ty} {m:List (Int×Ty)} (h:¬g.k=1) (h2:g.k=t.k/\g.ps.length=t.ps.length):g.match t m=Ty.matchL g.ps t.ps m:=by
 obtain ⟨k,n,ps⟩:=g;have h:¬k=1:=h;have h2:k=t.k/\ps.length=t.ps.length:=h2;rw[Ty.match,if_neg h,if_pos h2];rfl
structure MtOk (m m':List (Int×Ty)) (occ:Int->Prop) (st:Int->Option Ty) (sub:(Int->Ty)->Prop):Prop where
 keep:∀v x,zau m v=some x->zau m' v=some x
 has:∀v,occ v->∃x,zau m' v=some x
 new:∀v x,zau m' v=some x->zau m v=some x\/(st v=some x/\occ v)
 does:∀σ:Int->Ty,(∀v x,zau m' v=some x->σ v=x)->sub σ
 only:∀σ:Int->Ty,sub σ->(∀v x,zau m v=some x->σ v=x)->∀v x,zau m' v=some x->σ v=x
theorem Ty.match_ok:∀g:Ty,g.right=true->∀(t:Ty) (m:List (Int×Ty)),t.right=true->(g.match t m).1=true->MtOk m (g.match t m).2 (fun v=>g.occ v) (fun v=>g.stand v t) (fun σ=>g.subF σ=t):=by
 refine Ty.ind fun g ih hr t m ht hm=>?_
 by_cases hk:g.k=1
 ·rw[Ty.match_var hk] at hm ⊢
  have hocc:∀v,g.occ v↔v=g.n:=by
   intro v;rw[Ty.occ_iff,Ty.right_var hr hk];simp[Ty.k,Ty.n,Ty.ps]
  cases hf:zau m g.n with
  | some y =>
   rw[hf] at hm;(simp only at hm ⊢);have e:=(Ty.same_iff y t).1 hm;subst e;refine ⟨fun v x h=>h,fun v hv=>?_,fun v x h=>.inl h,fun σ h=>?_,fun σ _ h=>h⟩;·rw[(hocc v).1 hv];exact ⟨y,hf⟩
   rw[Ty.subF_var hk];exact h _ _ hf
  | none =>
   (simp only);refine ⟨fun v x h=>?_,fun v hv=>?_,fun v x h=>?_,fun σ h=>?_,fun σ hs h v x hx=>?_⟩;(·rw[zbZ,if_neg fun e=>by subst e;rw[hf] at h;cases h];exact h);·rw[zbZ,if_pos ((hocc v).1 hv).symm];exact ⟨t,rfl⟩
   ·rw[zbZ] at h
    (split at h);(·rename_i e;cases h;exact .inr ⟨by rw[Ty.stand_eq,if_pos ⟨hk,e⟩],(hocc v).2 e.symm⟩);exact .inl h
   (·rw[Ty.subF_var hk];exact h _ _ (by rw[zbZ,if_pos rfl]));rw[Ty.subF_var hk] at hs;rw[zbZ] at hx;(split at hx);(·rename_i e;cases hx;rw[<- e];exact hs);exact h v x hx
 by_cases h2:g.k=t.k/\g.ps.length=t.ps.length
 ·have hL:∀(ps qs:List Ty) (m:List (Int×Ty)),ps.length=qs.length->(∀p∈ps,p∈g.ps)->(∀q∈qs,q.right=true)->(Ty.matchL ps qs m).1=true ->
    MtOk m (Ty.matchL ps qs m).2 (fun v=>∃p∈ps,p.occ v) (fun v=>Ty.standL v ps qs) (fun σ=>ps.map (Ty.subF σ)=qs):=by
   intro ps
   induction ps with
   | nil =>
    intro qs m hl _ _ _;(have:qs=[]:=by cases qs with | nil=>rfl | cons=>simp at hl);subst this;rw[Ty.matchL]
    exact ⟨fun v x h=>h,fun v h=>by simp at h,fun v x h=>.inl h,fun σ _=>rfl,fun σ _ h=>h⟩
   | cons p ps ih2 =>
    intro qs m hl hp hq hm
    cases qs with
    | nil=>simp at hl
    | cons q qs =>
     rw[Ty.matchL] at hm ⊢;split at hm
     ·rename_i h1
      rw[if_pos h1];have i1:=ih p (hp p tz4) (Ty.right_part hr (hp p tz4)) q m (hq q tz4) h1;have i2:=ih2 qs (p.match q m).2 (by simpa using hl) (fun x hx=>hp x (by simp[hx])) (fun x hx=>hq x (by simp[hx])) hm;refine ⟨fun v x h=>i2.keep v x (i1.keep v x h),fun v hv=>?_,fun v x h=>?_,fun σ h=>?_,fun σ hs h=>?_⟩
      ·obtain ⟨p',hp',ho⟩:=hv
       rcases zK.1 hp' with rfl | hp'
       ·obtain ⟨x,hx⟩:=i1.has v ho
        exact ⟨x,i2.keep v x hx⟩
       exact i2.has v ⟨p',hp',ho⟩
      ·cases h1v:zau (p.match q m).2 v with
       | some y =>
        have:=i2.keep v y h1v;rw[h] at this;(cases this);refine (i1.new v x h1v).imp id fun h3=>⟨?_,p,by simp,h3.2⟩
        rw[Ty.standL,h3.1]
       | none =>
        (rcases i2.new v x h with h3 | h3);·rw[h1v] at h3;cases h3
        have hno:¬p.occ v:=fun ho=>by
         obtain ⟨y,hy⟩:=i1.has v ho;rw[h1v] at hy;cases hy
        obtain ⟨p',hp',ho⟩:=h3.2;refine .inr ⟨?_,p',by simp[hp'],ho⟩;rw[Ty.standL,Ty.stand_none v p q hno];exact h3.1
      (·rw[zk,i1.does σ fun v x hv=>h v x (i2.keep v x hv),i2.does σ h]);rw[zk,List.cons.injEq] at hs;exact i2.only σ hs.2 (i1.only σ hs.1 h)
     cases hm
  rw[Ty.match_more hk h2] at hm ⊢;have i:=hL g.ps t.ps m h2.2 (fun _ h=>h) (fun q hq=>Ty.right_part ht hq) hm;have e1:=Ty.right_n hr hk;have e2:=Ty.right_n ht (by rw[<- h2.1];exact hk);refine ⟨i.keep,fun v hv=>?_,fun v x h=>?_,fun σ h=>?_,fun σ hs h=>?_⟩
  ·rcases (Ty.occ_iff _ _).1 hv with h3 | h3
   (·exact absurd h3.1 hk);exact i.has v h3
  ·refine (i.new v x h).imp id fun h3=>⟨?_,(Ty.occ_iff _ _).2 (.inr h3.2)⟩
   rw[Ty.stand_eq,if_neg fun hh=>hk hh.1];exact h3.1
  ·rw[Ty.subF_more hk,i.does σ h,e1,h2.1]
   rw[<- e2,Ty.eta]
  rw[Ty.subF_more hk] at hs;exact i.only σ (by rw[<- hs];rfl) h
 rw[Ty.match_no hk h2] at hm;cases hm
def haveB (g:Ty) (m:List (Int×Ty)):List Bd:=(g.rvars []).map fun v=>⟨v,(zau m v).getD (.mk 0 0 [])⟩
end Go.Proofs.YtkokfdmggdhfmaaGreatDoor
namespace Go.Proofs.YtkokfdmggdhfmaaGreatDoor
open Go Go.RowKit
set_option maxRecDepth 100000
set_option maxHeartbeats 4000000
set_option linter.unnecessarySimpa false
attribute [local irreducible] aops zaK
def sv (l:List Int):List (Int×AV):=l.map fun n=>(n,.v (.int .i64 1))
theorem sv_nil:sv []=[]:=rfl
theorem zfx (l:List Int):∀p∈sv l,Data p.2:=fun p hp=>by
 obtain ⟨n,_,rfl⟩:=zG.1 hp;exact .v _
def zgv (l:List Int) (k:Int):Int:=if l.any (fun x=>x==k) then 1 else 0
theorem zaF (k:Int):∀l:List Int,(zbK (sv l) k).getD (.v (.int .i64 0))=.v (.int .i64 (zgv l k))
 | []=>rfl
 | x::l=>by
  have:=zaF k l;simp only[sv,zk,zbK,zgv,List.any_cons] at this ⊢
  by_cases h:x=k
  (·simp[h]);(have hb:(x==k)=false:=by simpa using h);rw[if_neg h,this];simp[hb]
theorem zcW {k:Int}:∀{l:List Int},(l.any fun x=>x==k)=false->zfS (sv l) k (.v (.int .i64 1))=sv (l++[k])
 | [],_=>rfl
 | x::l,h=>by
  simp only[List.any_cons,Bool.or_eq_false_iff,beq_eq_false_iff_ne] at h;have:=zcW (l:=l) h.2;simp only[sv,zk,zfS,zt,if_neg h.1] at this ⊢;rw[this]
theorem zcq:IntKind.i64.wrap 1=1:=z8 tz1 tz1
def zhE (l:List Int):List Ob:=[.map (sv l),.cells 165 [.map 0],.cells 23 [.osl 3 1 (l.map intC)],.tok 3 1 l.length]
def SCalls (f:Nat) (args:List AV) (l:List Int) (R:AV) (l1:List Int):Prop :=
 ACalls Tryz.prog f args (zas 0 (zhE l)) 4 fun r os n=>(r=R/\os=zas 0 (zhE l1))/\n=4
theorem ziu (n:Nat) (l:List Int):Und n (.sl 1 (l.map intC)):=.data (zab l)
theorem sUnd {n:Nat} (h:4<=n) (l:List Int):UndOs n (zas 0 (zhE l)) :=
 ⟨by omega,fun p hp=>.data (zfx l p hp),by omega,⟨.map tz1,trivial⟩,by omega,⟨.osl tz1 (ziu n l),trivial⟩,by omega,trivial,trivial⟩
theorem Und.sv {n:Nat} (l:List Int):(∀p∈Go.Proofs.YtkokfdmggdhfmaaGreatDoor.sv l,Und n p.2)=True:=eq_true fun p hp=>.data (zfx l p hp)
theorem Und.oslN {n id:Nat} {l:List Int} (h:id<n):Und n (.osl id 1 (l.map intC)):=.osl h (ziu n l)
theorem Und.cloV {n:Nat} (h:3<=n):Und n (.clo 125 [.ptr 1 0,.ptr 2 0]):=.clo ⟨.ptr tz1,.ptr tz1,trivial⟩
theorem renS (l:List Int) (nx:Nat):RenOs (zbB [0,1,2,3] nx) 0 (zhE l) (zhE l) :=
 ⟨.map (zfx l),.cells ⟨.map rfl,trivial⟩,.cells ⟨.osl rfl (fun x hx=>by obtain ⟨y,_,rfl⟩:=zG.1 hx;exact .cons (.v _) .nil),trivial⟩,.tok,trivial⟩
theorem SCalls.at {f:Nat} {args:List AV} {l l1:List Int} {R:AV} (h:SCalls f args l R l1) (hargs:∀nx,RenL (zbB [0,1,2,3] nx) args args) (hR:Data R) {os':Os} {nx':Nat}
  (h0:zad os' 0=some (.map (sv l))) (h1:zad os' 1=some (.cells 165 [.map 0])) (h2:zad os' 2=some (.cells 23 [.osl 3 1 (l.map intC)])) (h3:zad os' 3=some (.tok 3 1 l.length)) (hn:4<=nx') {Q':AV->Os->Nat->Prop}
  (hq:Q' R (zaz (zaz (zaz (zaz os' 0 (.map (sv l1))) 1 (.cells 165 [.map 0])) 2 (.cells 23 [.osl 3 1 (l1.map intC)])) 3 (.tok 3 1 l1.length)) nx'):ACalls Tryz.prog f args os' nx' Q':=by
 refine ACalls.at (args:=args) (obs:=zhE l) (obs1:=zhE l1) (obs':=zhE l) (obs1':=zhE l1) [0,1,2,3] ?_ rfl rfl tz3 tz7 (hargs _) (.data hR) (renS l _) ⟨h0,h1,h2,h3,trivial⟩ (renS l1 _) hq;exact h.mono fun r os n ⟨⟨h1,h2⟩,h3⟩=>⟨h1,h2,h3⟩
theorem zcj:Data (.tup []):=.tup (fun _ h=>by cases h)
theorem zjy (T:Ty) (l:List Int) (hl:l.length+1<=1099511627776):SCalls 125 [.agg T.cells,.ptr 1 0,.ptr 2 0] (l) (.tup []) ((if T.k=1 then zcw l T.n else l)):=by
  refine ACalls.clean (C:=fun r os=>r=_/\os=_) ?_;refine aIn Tryz.func125 fun hm=>?_;simp only[Tryz.ntmps125,Tryz.results125,go_sem,seval];simp only[zhE,zas,Nat.reduceAdd];simp only[Ty.cells_eq T,zt,zD];have h9:=zbH T.k T.n l;(have hb1:(l.length+1) * 8<=140737488355328:=by omega);(have hb2:l.length+1<=maxLen:=by simp only[maxLen];omega);refine sqR fun _ y=>?_;simp only[↓bO,go_sem,seval,zaF];apply y;refine sqR fun _ y=>?_;refine chS 4 ?_ (by intro _ q;simp only[↓bO,go_sem,seval,zaF];exact q);simp only[go_sem];refine zW 7 rfl (fun hc7=>?_) (fun hc7=>?_)
  ·
   simp only[go_sem];(have hk1:T.k=1:=by simpa using hc7);refine chS 4 ?_ (by intro _ q;simp only[↓bO,go_sem,seval,zaF];exact q);simp only[↓bO,go_sem,seval,zaF];apply y;apply zP rfl <;> intro hb13
   ·
    (have ha:(l.any fun x=>x==T.n)=false:=by cases hv:(l.any fun x=>x==T.n) with | false=>rfl | true=>simp[zgv,hv] at hb13);(have hs0:zgv l T.n=0:=by simp[zgv,ha]);have he:(if T.k=1 then zcw l T.n else l)=l++[T.n]:=h9.1 hk1 ha;refine sqR fun _ y=>?_;refine chS 4 ?_ (by intro _ q;simp only[↓bO,go_sem,seval,zaF,hs0,zcW ha,Int.zero_add,zcq,hb1,hb2];exact q);simp only[↓bO,go_sem,seval,zaF,hs0,zcW ha,Int.zero_add,zcq,hb1,hb2];apply y;apply zQ;refine chS 4 ?_ (by intro _ q;simp only[↓bO,go_sem,seval,↓zaV,↓za1,↓zaR,↓zaZ,↓zaS,↓zaY,↓za0,↓zaX,↓zaU,↓zax,↓zav,↓zaw,zaF,hs0,zcW ha,Int.zero_add,zcq,hb1,hb2];exact q);simp only[↓bO,go_sem,seval,zaF,hs0,zcW ha,Int.zero_add,zcq,hb1,hb2];(try simp only[go_sem]);rw[he];refine ⟨.tup [],zas 0 (zhE (l++[T.n])),⟨rfl,rfl⟩,.tup trivial,sUnd tz1 _,?_,?_,by omega⟩
    ·
     refine Le.of_eq ?_;rfl
    first | (refine ⟨1,?_,rfl⟩;first | rfl | (simp only[zhE,zas,List.drop_succ_cons,List.drop_zero,zc,zk,zq,zd,zx,zu,Nat.reduceAdd,zz,intC,zw];done))
   (have ha:(l.any fun x=>x==T.n)=true:=by cases hv:(l.any fun x=>x==T.n) with | true=>rfl | false=>simp[zgv,hv] at hb13);have he:(if T.k=1 then zcw l T.n else l)=l:=h9.2.1 ha;apply zS;(try simp only[go_sem]);(try simp only[go_sem]);rw[he];refine ⟨.tup [],zas 0 (zhE (l)),⟨rfl,rfl⟩,.tup trivial,sUnd tz1 _,?_,?_,by omega⟩
   ·
    refine Le.of_eq ?_;rfl
   first | (refine ⟨1,?_,rfl⟩;first | rfl | (simp only[zhE,zas,List.drop_succ_cons,List.drop_zero,zc,zk,zq,zd,zx,zu,Nat.reduceAdd,zz,intC,zw];done))
  simp only[go_sem];(have hk1:¬T.k=1:=by simpa using hc7);have he:(if T.k=1 then zcw l T.n else l)=l:=h9.2.2 hk1;refine chS 4 ?_ (by intro _ q;simp only[↓bO,go_sem,seval,zaF];exact q);simp only[↓bO,go_sem,seval,zaF];apply y;refine zP (b:=false) (by first | exact rfl | exact congrArg (fun b=>AV.v (.bool b)) hb13) (fun h=>(by cases h)) (fun _=>?_);apply zS;(try simp only[go_sem]);(try simp only[go_sem]);rw[he];refine ⟨.tup [],zas 0 (zhE (l)),⟨rfl,rfl⟩,.tup trivial,sUnd tz1 _,?_,?_,by omega⟩
  ·
   refine Le.of_eq ?_;rfl
  first | (refine ⟨1,?_,rfl⟩;first | rfl | (simp only[zhE,zas,List.drop_succ_cons,List.drop_zero,zc,zk,zq,zd,zx,zu,Nat.reduceAdd,zz,intC,zw];done))
theorem tz2 {p:Prop} (h:p:=by first | omega | (simp only;omega)):p:=h
theorem zlA:∀(T:Ty) (l:List Int),l.length+T.cnt<=1099511627776->SCalls 124 [.agg T.cells,.clo 125 [.ptr 1 0,.ptr 2 0]] (l) (.tup []) (T.rvars l):=by
  refine Ty.ind fun T ih l hl=>?_;refine ACalls.clean (C:=fun r os=>r=_/\os=_) ?_;refine aIn Tryz.func124 fun hm=>?_;simp only[Tryz.ntmps124,Tryz.results124,go_sem,seval];simp only[zhE,zas,Nat.reduceAdd];simp only[Ty.cells_eq T,zt,zD];have hm1:=T.cnt_eq;have hcl:=Ty.cntL_len T.ps;(have hv1:=by have h9:=zjy T l tz1;rw[Ty.cells_eq T] at h9;exact h9);(have hl0:(if T.k=1 then zcw l T.n else l).length<=l.length+1:=by split <;> first | exact zfe l T.n | omega);refine sqD ?_;refine sqR fun _ y=>?_;refine chS 2 ?_;simp only[↓bO,go_sem,seval];refine SCalls.at (hv1) (fun _=>⟨.data (by rw[<- Ty.cells_eq];exact T.dataAgg),.ptr rfl,.ptr rfl,trivial⟩) zcj rfl rfl rfl rfl tz2 ?_;simp only[zaz,Nat.reduceEqDiff,↓reduceIte];apply y;refine sqD ?_;apply zV;refine zae (σ:=Nat) (mB 20 7170) (fun s=>s<=T.ps.length) (fun s=>[(12,.v (.int .i64 (s:Int)))]) (fun s=>[(0,.map (sv (Ty.rvarsL (T.ps.take s) (if T.k=1 then zcw l T.n else l)))),(2,.cells 23 [.osl 3 1 ((Ty.rvarsL (T.ps.take s) (if T.k=1 then zcw l T.n else l)).map intC)]),(3,.tok 3 1 (Ty.rvarsL (T.ps.take s) (if T.k=1 then zcw l T.n else l)).length)]) (fun s=>T.ps.length-s) 0 tz1 ?_ (fun s hs=>?_)
  ·
   simp only[go_sem,seval,bL,Ty.rvarsL];exact zaP
  simp only[go_sem,seval];refine sqD ?_;refine zO fun _ y=>?_;apply zP rfl <;> intro hb13
  ·
   (have hk:s<T.ps.length:=by simpa using hb13);obtain ⟨p,hp⟩:∃p,T.ps[s]?=some p:=⟨_,zb hk⟩;have hpc:=Ty.cntL_step hp;have hvl:=Ty.rvarsL_len (T.ps.take s) (if T.k=1 then zcw l T.n else l);have hw:IntKind.i64.wrap ((s:Int)+1)=(s:Int)+1:=z8 tz1 tz1;apply zS;apply y;refine zO fun _ y=>?_;apply zV;refine sqR fun _ u=>?_;simp only[↓bO,go_sem,seval,hk,gM hp,za,hw,Ty.rvarsL_step hp];apply u;apply zQ;refine chS 2 ?_ (by intro _ q;simp only[↓bO,go_sem,seval,hk,gM hp,za,hw,Ty.rvarsL_step hp];exact q);simp only[↓bO,go_sem,seval,hk,gM hp,za,hw,Ty.rvarsL_step hp];refine SCalls.at (ih p (zh hp) (Ty.rvarsL (T.ps.take s) (if T.k=1 then zcw l T.n else l)) tz1) (fun _=>⟨.data (Ty.dataAgg p),.clo ⟨.ptr rfl,.ptr rfl,trivial⟩,trivial⟩) zcj rfl rfl rfl rfl tz2 ?_;simp only[zaz,Nat.reduceEqDiff,↓reduceIte];apply y;apply zQ;simp only[↓bO,go_sem,seval,hk,gM hp,za,hw,Ty.rvarsL_step hp];refine ⟨(s+1),tz1,by omega,?_⟩;simp only[go_sem,seval,hk,gM hp,za,zm,hw,Ty.rvarsL_step hp];(first | (refine Weak.drops 1 5 rfl rfl tz5 tz5 ?_ ?_ ?_) | (refine Weak.drops 0 5 rfl rfl tz5 tz5 ?_ ?_ ?_));(· simp only[go_sem,Le.refl,Le.any,za,Int.cast_ofNat_Int,zm]);(· simp only[UndL,UndOs,Ob.Und,and_true,true_and,and_self,Und.v,Und.any,Und.ptr,Und.map,Nat.reduceLT,zC,Und.tys,Und.tyAgg,Und.oslTys,Und.oslTys1,Und.clo0,Und.ty,Und.sv,Und.oslN,Und.cloV,Nat.reduceLeDiff,UndL,Und.map]);simp only[UndL,UndOs,Ob.Und,and_true,true_and,and_self,Und.v,Und.any,Und.ptr,Und.map,Nat.reduceLT,zC,Und.tys,Und.tyAgg,Und.oslTys,Und.oslTys1,Und.clo0,Und.ty,Und.sv,Und.oslN,Und.cloV,Nat.reduceLeDiff,UndL,Und.map]
  (have hk:s=T.ps.length:=by simp at hb13;omega);apply zah;simp only[zag,z6,zY,bA,Nat.reduceEqDiff,↓reduceIte];(try simp only[go_sem]);rw[Ty.rvars_eq,hk];simp only[zw];refine ⟨.tup [],zas 0 (zhE (Ty.rvarsL T.ps (if T.k=1 then zcw l T.n else l))),⟨rfl,rfl⟩,.tup trivial,sUnd tz1 _,?_,?_,by omega⟩
  ·
   refine Le.of_eq ?_;rfl
  first | (refine ⟨1,?_,rfl⟩;first | rfl | (simp only[zhE,zas,List.drop_succ_cons,List.drop_zero,zc,zk,zq,zd,zx,zu,Nat.reduceAdd,zz,intC,zw];done))
theorem zh0 (ps:List Ty) (hT:Ty.cntL ps<=1099511627776):APure Tryz.prog 82 [.sl 3 (ps.map Ty.cells)] (.sl 1 ((Ty.rvarsL ps []).map intC)):=by
  refine APure.mkL (.cons (Ty.dataSl ps) .nil) ((zab _)) ?_;refine aIn Tryz.func82 fun hm=>?_;simp only[Tryz.ntmps82,Tryz.results82,go_sem,seval];have hcl:=Ty.cntL_len ps;(iterate 3 (refine zO fun _ y=>?_;apply zQ;simp only[↓bO,go_sem,seval];apply y));refine zO fun _ y=>?_;refine sqD ?_;apply zV;refine zar (Weak.tokCell 3 1 (id:=2) (t:=23) [.osl 3 1 []] rfl ⟨.inr ⟨rfl,rfl⟩,trivial⟩) ?_;simp only[zaz,Nat.reduceEqDiff,↓reduceIte];refine zae (σ:=Nat) (mB 19 1816) (fun s=>s<=ps.length) (fun s=>[(10,.v (.int .i64 (s:Int)))]) (fun s=>[(0,.map (sv (Ty.rvarsL (ps.take s) []))),(2,.cells 23 [.osl 3 1 ((Ty.rvarsL (ps.take s) []).map intC)]),(3,.tok 3 1 (Ty.rvarsL (ps.take s) []).length)]) (fun s=>ps.length-s) 0 tz1 ?_ (fun s hs=>?_)
  ·
   simp only[go_sem,seval,bL,Ty.rvarsL,sv_nil];exact zaP
  simp only[go_sem,seval];refine sqD ?_;refine zO fun _ u=>?_;apply zP rfl <;> intro hb11
  ·
   (have hk:s<ps.length:=by simpa using hb11);obtain ⟨p,hp⟩:∃p,ps[s]?=some p:=⟨_,zb hk⟩;have hpc:=Ty.cntL_step hp;have hvl:=Ty.rvarsL_len (ps.take s) [];simp only[zu] at hvl;have hw:IntKind.i64.wrap ((s:Int)+1)=(s:Int)+1:=z8 tz1 tz1;apply zS;apply u;refine zO fun _ u=>?_;apply zV;refine sqR fun _ w=>?_;simp only[↓bO,go_sem,seval,hk,gM hp,za,hw,Ty.rvarsL_step hp];apply w;apply zQ;refine chS 2 ?_ (by intro _ q;simp only[↓bO,go_sem,seval,hk,gM hp,za,hw,Ty.rvarsL_step hp];exact q);simp only[↓bO,go_sem,seval,hk,gM hp,za,hw,Ty.rvarsL_step hp];refine SCalls.at (zlA p (Ty.rvarsL (ps.take s) []) tz1) (fun _=>⟨.data (Ty.dataAgg p),.clo ⟨.ptr rfl,.ptr rfl,trivial⟩,trivial⟩) zcj rfl rfl rfl rfl tz2 ?_;simp only[zaz,Nat.reduceEqDiff,↓reduceIte];apply u;apply zQ;simp only[↓bO,go_sem,seval,hk,gM hp,za,hw,Ty.rvarsL_step hp];refine ⟨(s+1),tz1,by omega,?_⟩;simp only[go_sem,seval,hk,gM hp,za,zm,hw,Ty.rvarsL_step hp];(first | (refine Weak.drops 1 4 rfl rfl tz5 tz5 ?_ ?_ ?_) | (refine Weak.drops 0 4 rfl rfl tz5 tz5 ?_ ?_ ?_));(· simp only[go_sem,Le.refl,Le.any,za,Int.cast_ofNat_Int,zm]);(· simp only[UndL,UndOs,Ob.Und,and_true,true_and,and_self,Und.v,Und.any,Und.ptr,Und.map,Nat.reduceLT,zC,Und.tys,Und.tyAgg,Und.oslTys,Und.oslTys1,Und.clo0,Und.ty,Und.sv,Und.oslN,Und.cloV,Nat.reduceLeDiff,UndL,Und.map,Und.tys]);simp only[UndL,UndOs,Ob.Und,and_true,true_and,and_self,Und.v,Und.any,Und.ptr,Und.map,Nat.reduceLT,zC,Und.tys,Und.tyAgg,Und.oslTys,Und.oslTys1,Und.clo0,Und.ty,Und.sv,Und.oslN,Und.cloV,Nat.reduceLeDiff,UndL,Und.map,Und.tys]
  (have hk:s=ps.length:=by simp at hb11;omega);apply zah;simp only[zag,z6,zY,bA,Nat.reduceEqDiff,↓reduceIte];apply y;refine sqD ?_;apply zR;(try simp only[go_sem]);rw[hk,zw];exact Le.oslL
def zgx (q:AV) (bs:ByteArray):List Ob:=[.cells 89 [q,.own 1 bs.size],.row 5 1 (zat bs)]
theorem zcm (bs:ByteArray):∀x∈zat bs,DataL x:=fun x hx=>by
 obtain ⟨y,_,rfl⟩:=zG.1 hx;exact .cons (.v _) .nil
theorem zb1 {n:Nat} (bs:ByteArray):∀x∈zat bs,UndL n x:=fun x hx=>UndL.data (zcm bs x hx)
theorem Weak.noOs {st:St}:Weak st {st with os:=[]}:=Weak.mk (LeL.refl _) (fun _ _ h=>by cases h) rfl rfl
theorem zal (a b:ByteArray):zat a++zat b=zat (a++b):=by
 simp only[zat,Lib.strCells,<- zc];congr 2
theorem zly (bs:ByteArray):ACalls Tryz.prog 98 [.ptr 0 0] (zas 0 (zgx (.v (.pointer none)) bs)) 2 fun r os n=>(r=.tup []/\os=zas 0 (zgx (.ptr 0 0) bs))/\n=2:=by
  refine ACalls.clean (C:=fun r os'=>r=_/\os'=_) ?_;refine aIn Tryz.func98 fun hm=>?_;simp only[Tryz.ntmps98,Tryz.results98,go_sem,seval];simp only[zgx,zas,Nat.reduceAdd];refine sqR fun _ y=>?_;(iterate 4 (refine chS 1 ?_));simp only[↓bO,go_sem,seval];apply y;apply zP rfl <;> intro hb6
  ·
   refine zeh 2 [_,_,_] [_,_,_] rfl fun _ q=>?_;refine chS 1 ?_;simp only[↓bO,go_sem,seval];apply q;clear q;refine zhk (id:=0) rfl rfl tz4 tz4 tz4 tz0 Tryz.func143 rfl rfl tz0 tz0 ?_;simp only[zaz,bS,bA];(iterate 2 (refine chS 1 ?_));simp only[↓bO,go_sem,seval];(try simp only[go_sem]);refine ⟨_,_,⟨rfl,rfl⟩,.data zcj,⟨by omega,⟨.ptr tz1,.own tz1,trivial⟩,by omega,zb1 _,trivial⟩,Le.refl _,⟨0,rfl,rfl⟩,by omega⟩
  exact absurd hb6 tz3
theorem zlN (bs:ByteArray):ACalls Tryz.prog 98 [.ptr 0 0] (zas 0 (zgx (.ptr 0 0) bs)) 2 fun r os n=>(r=.tup []/\os=zas 0 (zgx (.ptr 0 0) bs))/\n=2:=by
  refine ACalls.clean (C:=fun r os'=>r=_/\os'=_) ?_;refine aIn Tryz.func98 fun hm=>?_;simp only[Tryz.ntmps98,Tryz.results98,go_sem,seval];simp only[zgx,zas,Nat.reduceAdd];refine sqR fun _ y=>?_;(iterate 4 (refine chS 1 ?_));simp only[↓bO,go_sem,seval];apply y;apply zP rfl <;> intro hb6
  ·
   exact absurd hb6 tz3
  refine zO fun _ y=>?_;refine zeh 5 [_] [] rfl fun _ q=>?_;(iterate 4 (simp only[go_sem];refine chS 1 ?_));simp only[go_sem];simp only[↓bO,go_sem,seval];apply q;clear q;refine zhR (id:=0) (off:=0) rfl rfl tz0 ?_;simp only[zaz,bS,bA,aops,zag,z6,zY];apply y;apply zP rfl <;> intro hb19
  ·
   exact absurd hb19 tz3
  apply zS;(try simp only[go_sem]);(try simp only[go_sem]);refine ⟨_,_,⟨rfl,rfl⟩,.data zcj,⟨by omega,⟨.ptr tz1,.own tz1,trivial⟩,by omega,zb1 _,trivial⟩,Le.refl _,⟨0,rfl,rfl⟩,by omega⟩
theorem zib (bs s:ByteArray) (h0:0<s.size) (hl:bs.size+s.size<=1048576):ACalls Tryz.prog 52 [.ptr 0 0,.v (.string s)] (zas 0 (zgx (.v (.pointer none)) bs)) 2 fun r os n=>(r=.tup [.v (.int .i64 s.size),.v .nilIface]/\os=zas 0 (zgx (.ptr 0 0) (bs++s)))/\n=2:=by
 refine ACalls.clean (C:=fun r os'=>r=_/\os'=_) ?_;refine aIn Tryz.func52 fun hm=>?_;simp only[Tryz.ntmps52,Tryz.results52,go_sem,seval];simp only[zgx,zas,Nat.reduceAdd];refine sqR fun _ u=>?_;refine chS 1 ?_ (by intro _ q;simp only[↓bO,go_sem,seval,z1,zal,ByteArray.size_append];exact q);simp only[↓bO,go_sem,seval,z1,zal,ByteArray.size_append];apply u;refine sqR fun _ u=>?_;refine chS 1 ?_ (by intro _ q;simp only[↓bO,go_sem,seval,z1,zal,ByteArray.size_append];exact q);simp only[↓bO,go_sem,seval,z1,zal,ByteArray.size_append];refine ACalls.mono (zly bs) ?_;rintro z os2 nx2 ⟨⟨rfl,rfl⟩,rfl⟩;simp only[zgx,zas,Nat.reduceAdd];apply u;refine zO fun _ u=>?_;refine zeh 6 [_] [_,_,_] rfl fun _ y=>?_;(iterate 5 (simp only[go_sem];refine chS 1 ?_ (by intro _ q;simp only[↓bO,go_sem,seval,z1,zal,ByteArray.size_append];exact q)));simp only[go_sem];simp only[↓bO,go_sem,seval,z1,zal,ByteArray.size_append];apply y;clear y;refine zdc (id:=1) rfl rfl rfl (z1 _).symm ei46 tz0 h0 (by rw[z1];omega) (by rw[z1];simp only[maxLen];omega) ?_;simp only[zaz,bS,bA,z1,zal,ByteArray.size_append];(iterate 2 (refine chS 1 ?_ (by intro _ q;simp only[↓bO,go_sem,seval,z1,zal,ByteArray.size_append];exact q)));simp only[↓bO,go_sem,seval,z1,zal,ByteArray.size_append];apply u;refine sqR fun _ u=>?_;(iterate 3 (refine chS 1 ?_ (by intro _ q;simp only[↓bO,go_sem,seval,z1,zal,ByteArray.size_append];exact q)));simp only[↓bO,go_sem,seval,z1,zal,ByteArray.size_append];apply u;apply zR;(try simp only[go_sem]);refine ⟨_,[(0,.cells 89 [.ptr 0 0,.own 1 (bs++s).size]),(1,.row 5 1 (zat (bs++s)))],⟨rfl,by first | rfl | simp only[ByteArray.size_append]⟩,.data (.tup (.cons (.v _) (.cons (.v _) .nil))),⟨by omega,⟨.ptr tz1,.own tz1,trivial⟩,by omega,zb1 _,trivial⟩,Le.refl _,⟨0,by (rw[ByteArray.size_append];rfl),rfl⟩,by omega⟩
theorem zio (bs s:ByteArray) (h0:0<s.size) (hl:bs.size+s.size<=1048576):ACalls Tryz.prog 52 [.ptr 0 0,.v (.string s)] (zas 0 (zgx (.ptr 0 0) bs)) 2 fun r os n=>(r=.tup [.v (.int .i64 s.size),.v .nilIface]/\os=zas 0 (zgx (.ptr 0 0) (bs++s)))/\n=2:=by
 refine ACalls.clean (C:=fun r os'=>r=_/\os'=_) ?_;refine aIn Tryz.func52 fun hm=>?_;simp only[Tryz.ntmps52,Tryz.results52,go_sem,seval];simp only[zgx,zas,Nat.reduceAdd];refine sqR fun _ u=>?_;refine chS 1 ?_ (by intro _ q;simp only[↓bO,go_sem,seval,z1,zal,ByteArray.size_append];exact q);simp only[↓bO,go_sem,seval,z1,zal,ByteArray.size_append];apply u;refine sqR fun _ u=>?_;refine chS 1 ?_ (by intro _ q;simp only[↓bO,go_sem,seval,z1,zal,ByteArray.size_append];exact q);simp only[↓bO,go_sem,seval,z1,zal,ByteArray.size_append];refine ACalls.mono (zlN bs) ?_;rintro z os2 nx2 ⟨⟨rfl,rfl⟩,rfl⟩;simp only[zgx,zas,Nat.reduceAdd];apply u;refine zO fun _ u=>?_;refine zeh 6 [_] [_,_,_] rfl fun _ y=>?_;(iterate 5 (simp only[go_sem];refine chS 1 ?_ (by intro _ q;simp only[↓bO,go_sem,seval,z1,zal,ByteArray.size_append];exact q)));simp only[go_sem];simp only[↓bO,go_sem,seval,z1,zal,ByteArray.size_append];apply y;clear y;refine zdc (id:=1) rfl rfl rfl (z1 _).symm ei46 tz0 h0 (by rw[z1];omega) (by rw[z1];simp only[maxLen];omega) ?_;simp only[zaz,bS,bA,z1,zal,ByteArray.size_append];(iterate 2 (refine chS 1 ?_ (by intro _ q;simp only[↓bO,go_sem,seval,z1,zal,ByteArray.size_append];exact q)));simp only[↓bO,go_sem,seval,z1,zal,ByteArray.size_append];apply u;refine sqR fun _ u=>?_;(iterate 3 (refine chS 1 ?_ (by intro _ q;simp only[↓bO,go_sem,seval,z1,zal,ByteArray.size_append];exact q)));simp only[↓bO,go_sem,seval,z1,zal,ByteArray.size_append];apply u;apply zR;(try simp only[go_sem]);refine ⟨_,[(0,.cells 89 [.ptr 0 0,.own 1 (bs++s).size]),(1,.row 5 1 (zat (bs++s)))],⟨rfl,by first | rfl | simp only[ByteArray.size_append]⟩,.data (.tup (.cons (.v _) (.cons (.v _) .nil))),⟨by omega,⟨.ptr tz1,.own tz1,trivial⟩,by omega,zb1 _,trivial⟩,Le.refl _,⟨0,by (rw[ByteArray.size_append];rfl),rfl⟩,by omega⟩
theorem String_c (q:AV) (bs:ByteArray) (h0:0<bs.size):ACalls Tryz.prog 55 [.ptr 0 0] (zas 0 (zgx q bs)) 2 fun r os n=>(r=.v (.string bs)/\os=[])/\n=2:=by
 refine ACalls.clean (C:=fun r os'=>r=_/\os'=_) ?_;refine aIn Tryz.func55 fun hm=>?_;simp only[Tryz.ntmps55,Tryz.results55,go_sem,seval];simp only[zgx,zas,Nat.reduceAdd];refine sqR fun _ u=>?_;simp only[↓bO,go_sem,seval,z1,zba,zn,zo,Nat.reduceBEq];apply u;refine zO fun _ u=>?_;refine zdl [(0,1,[.own 1 bs.size])] 12 rfl mixed (⟨⟨_,_,rfl,by simp,rfl,(z1 _).symm,trivial⟩,trivial⟩) rfl ?_;dsimp only;refine tkK 0 rfl fun _ y=>?_;simp only[↓bO,go_sem,seval,z1,zba,zn,zo,Nat.reduceBEq];apply y;clear y;refine tkK 1 rfl fun _ y=>?_;simp only[↓bO,go_sem,seval,z1,zba,zn,zo,Nat.reduceBEq];apply y;clear y;refine tkK 2 rfl fun _ y=>?_;simp only[↓bO,go_sem,seval,z1,zba,zn,zo,Nat.reduceBEq];apply y;clear y;refine tkL 3 0 rfl rfl fun _ y=>?_;simp only[↓bO,go_sem,seval,z1,zba,zn,zo,Nat.reduceBEq];apply y;clear y;refine zjh (id:=1) 4 rfl tz0 tz0 tz0 (fun _ _ h=>h) rfl rfl (z1 _).symm h0 ?_;simp only[bS,bA,zaz,z1,zba,zn,zo,Nat.reduceBEq];refine tkK 5 rfl fun _ y=>?_;simp only[↓bO,go_sem,seval,z1,zba,zn,zo,Nat.reduceBEq];apply y;clear y;refine tkK 6 rfl fun _ y=>?_;simp only[↓bO,go_sem,seval,z1,zba,zn,zo,Nat.reduceBEq];apply y;clear y;refine tkK 7 rfl fun _ y=>?_;simp only[↓bO,go_sem,seval,z1,zba,zn,zo,Nat.reduceBEq];apply y;clear y;refine tkL 8 0 rfl rfl fun _ y=>?_;simp only[↓bO,go_sem,seval,z1,zba,zn,zo,Nat.reduceBEq];apply y;clear y;refine zkj (id:=1) 9 rfl tz0 tz0 tz0 (fun _ _ h=>h) rfl rfl (z1 _).symm tz0 ?_;simp only[bS,bA,zaz,z1,zba,zn,zo,Nat.reduceBEq];refine AAny_str (i:=10) (id:=1) tz0 rfl rfl rfl rfl rfl h0 tz0 tz0 ?_;simp only[bS,bA,zaz,z1,zba,zn,zo,Nat.reduceBEq];refine tkK 11 rfl fun _ y=>?_;simp only[↓bO,go_sem,seval,z1,zba,zn,zo,Nat.reduceBEq];apply y;clear y;refine dnA ?_;apply u;refine zar Weak.noOs ?_;apply zR;(try simp only[go_sem]);refine ⟨_,[],⟨rfl,rfl⟩,.v _ _,trivial,Le.refl _,⟨0,rfl,rfl⟩,by omega⟩
theorem ACalls.eats2 {P:Program} {f:Nat} {args args':List AV} {R:AV} {ob0 ob1 ob0' ob1':Ob} {a b nx':Nat} {os':Os} {Q':AV->Os->Nat->Prop}
  (h:ACalls P f args [(0,ob0),(1,ob1)] 2 fun r os n=>(r=R/\os=[])/\n=2) (hab:a≠b) (ha:a<nx') (hb:b<nx') (hargs:RenL (zbB [a,b] nx') args args') (hR:Data R) (hga:zad os' a=some ob0') (hgb:zad os' b=some ob1')
  (ho0:RenO (zbB [a,b] nx') 0 ob0 ob0') (ho1:RenO (zbB [a,b] nx') 1 ob1 ob1') (hq:Q' R (zba (zba os' b) a) nx'):ACalls P f args' os' nx' Q':=by
 refine h.frame (zbB [a,b] nx') (zgb (by simpa using hab) tz7) (fun j hj=>?_) (fun j hj=>by rw[zcQ (by simpa using hj)];rfl) hargs (fun j x hx=>?_) ?_
 ·have:j=0\/j=1:=by omega
  (rcases this with rfl | rfl);(·exact ha);exact hb
 ·simp only[zad] at hx
  split at hx
  ·rename_i e;cases hx;subst e
   exact ⟨ob0',hga,ho0⟩
  split at hx
  ·rename_i e;cases hx;subst e
   exact ⟨ob1',hgb,ho1⟩
  cases hx
 rintro r os1 n1 ⟨⟨rfl,rfl⟩,rfl⟩;refine ⟨r,zba (zba os' b) a,.data hR,by simpa using hq,fun id ob2 hgo=>.inr ?_⟩;rw[zbr,zbr] at hgo;(split at hgo);(·cases hgo);(rename_i hne);(split at hgo);(·cases hgo);(rename_i hne2);refine ⟨hgo,?_⟩;rintro ⟨j,hj,hj1⟩;(have:j=0\/j=1:=by omega);(rcases this with rfl | rfl);(·exact hne hj.symm);exact hne2 hj.symm
def bq (a:Nat) (z:Bool):AV:=if z then .ptr a 0 else .v (.pointer none)
theorem bq_ren {a b nx:Nat} (z:Bool):RenV (zbB [a,b] nx) (bq 0 z) (bq a z):=by
 (cases z);(·exact .v _);exact .ptr rfl
theorem zhM (z:Bool) (bs s:ByteArray) (h0:0<s.size) (hl:bs.size+s.size<=1048576):ACalls Tryz.prog 52 [.ptr 0 0,.v (.string s)] (zas 0 (zgx (bq 0 z) bs)) 2 fun r os n=>(r=.tup [.v (.int .i64 s.size),.v .nilIface]/\os=zas 0 (zgx (bq 0 true) (bs++s)))/\n=2:=by
 (cases z);(·exact zib bs s h0 hl);exact zio bs s h0 hl
theorem zgs {os':Os} {nx':Nat} {Q':AV->Os->Nat->Prop} (a b:Nat) (z:Bool) (bs s:ByteArray) (h0:0<s.size) (hl:bs.size+s.size<=1048576) (hab:a≠b) (ha:zad os' a=some (.cells 89 [bq a z,.own b bs.size])) (hb:zad os' b=some (.row 5 1 (zat bs))) (hn:a<nx'/\b<nx')
  (hq:Q' (.tup [.v (.int .i64 s.size),.v .nilIface]) (zaz (zaz os' a (.cells 89 [bq a true,.own b (bs++s).size])) b (.row 5 1 (zat (bs++s)))) nx'):ACalls Tryz.prog 52 [.ptr a 0,.v (.string s)] os' nx' Q':=by
 refine ACalls.at (args:=[.ptr 0 0,.v (.string s)]) (obs:=zgx (bq 0 z) bs) (obs1:=zgx (bq 0 true) (bs++s)) (obs':=[.cells 89 [bq a z,.own b bs.size],.row 5 1 (zat bs)]) (obs1':=[.cells 89 [bq a true,.own b (bs++s).size],.row 5 1 (zat (bs++s))]) (R':=.tup [.v (.int .i64 s.size),.v .nilIface]) [a,b] ?_ rfl rfl (by simpa using hab) tz7 ⟨.ptr rfl,.v _,trivial⟩ (.data (.tup (.cons (.v _) (.cons (.v _) .nil)))) ⟨.cells ⟨bq_ren z,.own rfl,trivial⟩,.row (zcm _),trivial⟩ ⟨ha,hb,trivial⟩ ⟨.cells ⟨bq_ren true,.own rfl,trivial⟩,.row (zcm _),trivial⟩ hq;exact (zhM z bs s h0 hl).mono fun r os n ⟨⟨h1,h2⟩,h3⟩=>⟨h1,h2,h3⟩
theorem String_at {os':Os} {nx':Nat} {Q':AV->Os->Nat->Prop} (a b:Nat) (z:Bool) (bs:ByteArray) (h0:0<bs.size) (hab:a≠b) (ha:zad os' a=some (.cells 89 [bq a z,.own b bs.size])) (hb:zad os' b=some (.row 5 1 (zat bs))) (hn:a<nx'/\b<nx')
  (hq:Q' (.v (.string bs)) (zba (zba os' b) a) nx'):ACalls Tryz.prog 55 [.ptr a 0] os' nx' Q' :=
 ACalls.eats2 (String_c (bq 0 z) bs h0) hab hn.1 hn.2 ⟨.ptr rfl,trivial⟩ (.v _) ha hb (.cells ⟨bq_ren z,.own rfl,trivial⟩) (.row (zcm _)) hq
theorem zaL (l:List Int):∀x∈l.map intC,DataL x:=fun x hx=>by
 obtain ⟨y,_,rfl⟩:=zG.1 hx;exact .cons (.v _) .nil
def zhd (l:List Int):List Ob:=[.map (sv l),.cells 165 [.map 0],.cells 23 [.own 3 l.length],.row 3 1 (l.map intC)]
def OCalls (f:Nat) (args:List AV) (l:List Int) (R:AV) (l1:List Int):Prop :=
 ACalls Tryz.prog f args (zas 0 (zhd l)) 4 fun r os n=>(r=R/\os=zas 0 (zhd l1))/\n=4
theorem oUnd {n:Nat} (h:4<=n) (l:List Int):UndOs n (zas 0 (zhd l)) :=
 ⟨by omega,fun p hp=>.data (zfx l p hp),by omega,⟨.map tz1,trivial⟩,by omega,⟨.own tz1,trivial⟩,by omega,Und.rowI (zaL l),trivial⟩
theorem Und.ownN {n id k:Nat} (h:id<n):Und n (.own id k)=True:=eq_true (.own h)
theorem Und.rowN {n:Nat} (l:List Int):(∀x∈l.map intC,UndL n x)=True:=eq_true (Und.rowI (zaL l))
theorem renW (l:List Int) (nx:Nat):RenOs (zbB [0,1,2,3] nx) 0 (zhd l) (zhd l) :=
 ⟨.map (zfx l),.cells ⟨.map rfl,trivial⟩,.cells ⟨.own rfl,trivial⟩,.row (zaL l),trivial⟩
theorem OCalls.at {f:Nat} {args:List AV} {l l1:List Int} {R:AV} (h:OCalls f args l R l1) (hargs:∀nx,RenL (zbB [0,1,2,3] nx) args args) (hR:Data R) {os':Os} {nx':Nat}
  (h0:zad os' 0=some (.map (sv l))) (h1:zad os' 1=some (.cells 165 [.map 0])) (h2:zad os' 2=some (.cells 23 [.own 3 l.length])) (h3:zad os' 3=some (.row 3 1 (l.map intC))) (hn:4<=nx') {Q':AV->Os->Nat->Prop}
  (hq:Q' R (zaz (zaz (zaz (zaz os' 0 (.map (sv l1))) 1 (.cells 165 [.map 0])) 2 (.cells 23 [.own 3 l1.length])) 3 (.row 3 1 (l1.map intC))) nx'):ACalls Tryz.prog f args os' nx' Q':=by
 refine ACalls.at (args:=args) (obs:=zhd l) (obs1:=zhd l1) (obs':=zhd l) (obs1':=zhd l1) [0,1,2,3] ?_ rfl rfl tz3 tz7 (hargs _) (.data hR) (renW l _) ⟨h0,h1,h2,h3,trivial⟩ (renW l1 _) hq;exact h.mono fun r os n ⟨⟨h1,h2⟩,h3⟩=>⟨h1,h2,h3⟩
theorem ziC (T:Ty) (l:List Int) (hl:l.length+1<=1099511627776):OCalls 125 [.agg T.cells,.ptr 1 0,.ptr 2 0] (l) (.tup []) ((if T.k=1 then zcw l T.n else l)):=by
  refine ACalls.clean (C:=fun r os=>r=_/\os=_) ?_;refine aIn Tryz.func125 fun hm=>?_;simp only[Tryz.ntmps125,Tryz.results125,go_sem,seval];simp only[zhd,zas,Nat.reduceAdd];simp only[Ty.cells_eq T,zt,zD];have h9:=zbH T.k T.n l;(have hb1:(l.length+1) * 8<=140737488355328:=by omega);(have hb2:l.length+1<=maxLen:=by simp only[maxLen];omega);refine sqR fun _ y=>?_;simp only[↓bO,go_sem,seval,zaF];apply y;refine sqR fun _ y=>?_;refine chS 4 ?_ (by intro _ q;simp only[↓bO,go_sem,seval,zaF];exact q);simp only[go_sem];refine zW 7 rfl (fun hc7=>?_) (fun hc7=>?_)
  ·
   simp only[go_sem];(have hk1:T.k=1:=by simpa using hc7);refine chS 4 ?_ (by intro _ q;simp only[↓bO,go_sem,seval,zaF];exact q);simp only[↓bO,go_sem,seval,zaF];apply y;apply zP rfl <;> intro hb13
   ·
    (have ha:(l.any fun x=>x==T.n)=false:=by cases hv:(l.any fun x=>x==T.n) with | false=>rfl | true=>simp[zgv,hv] at hb13);(have hs0:zgv l T.n=0:=by simp[zgv,ha]);have he:(if T.k=1 then zcw l T.n else l)=l++[T.n]:=h9.1 hk1 ha;refine sqR fun _ y=>?_;refine chS 4 ?_ (by intro _ q;simp only[↓bO,go_sem,seval,zaF,hs0,zcW ha,Int.zero_add,zcq,hb1,hb2];exact q);simp only[↓bO,go_sem,seval,zaF,hs0,zcW ha,Int.zero_add,zcq,hb1,hb2];apply y;apply zQ;refine chS 4 ?_ (by intro _ q;simp only[↓bO,go_sem,seval,↓zaV,↓za1,↓zaR,↓zaZ,↓zaS,↓zaY,↓za0,↓zaX,↓zaU,↓zax,↓zav,↓zaw,zaF,hs0,zcW ha,Int.zero_add,zcq,hb1,hb2];exact q);simp only[↓bO,go_sem,seval,zaF,hs0,zcW ha,Int.zero_add,zcq,hb1,hb2];(try simp only[go_sem]);rw[he];refine ⟨.tup [],zas 0 (zhd (l++[T.n])),⟨rfl,rfl⟩,.tup trivial,oUnd tz1 _,?_,?_,by omega⟩
    ·
     refine Le.of_eq ?_;rfl
    first | (refine ⟨1,?_,rfl⟩;first | rfl | (simp only[zhd,zas,List.drop_succ_cons,List.drop_zero,zc,zk,zq,zd,zx,zu,Nat.reduceAdd,zz,intC,zw];done))
   (have ha:(l.any fun x=>x==T.n)=true:=by cases hv:(l.any fun x=>x==T.n) with | true=>rfl | false=>simp[zgv,hv] at hb13);have he:(if T.k=1 then zcw l T.n else l)=l:=h9.2.1 ha;apply zS;(try simp only[go_sem]);(try simp only[go_sem]);rw[he];refine ⟨.tup [],zas 0 (zhd (l)),⟨rfl,rfl⟩,.tup trivial,oUnd tz1 _,?_,?_,by omega⟩
   ·
    refine Le.of_eq ?_;rfl
   first | (refine ⟨1,?_,rfl⟩;first | rfl | (simp only[zhd,zas,List.drop_succ_cons,List.drop_zero,zc,zk,zq,zd,zx,zu,Nat.reduceAdd,zz,intC,zw];done))
  simp only[go_sem];(have hk1:¬T.k=1:=by simpa using hc7);have he:(if T.k=1 then zcw l T.n else l)=l:=h9.2.2 hk1;refine chS 4 ?_ (by intro _ q;simp only[↓bO,go_sem,seval,zaF];exact q);simp only[↓bO,go_sem,seval,zaF];apply y;refine zP (b:=false) (by first | exact rfl | exact congrArg (fun b=>AV.v (.bool b)) hb13) (fun h=>(by cases h)) (fun _=>?_);apply zS;(try simp only[go_sem]);(try simp only[go_sem]);rw[he];refine ⟨.tup [],zas 0 (zhd (l)),⟨rfl,rfl⟩,.tup trivial,oUnd tz1 _,?_,?_,by omega⟩
  ·
   refine Le.of_eq ?_;rfl
  first | (refine ⟨1,?_,rfl⟩;first | rfl | (simp only[zhd,zas,List.drop_succ_cons,List.drop_zero,zc,zk,zq,zd,zx,zu,Nat.reduceAdd,zz,intC,zw];done))
theorem zkx:∀(T:Ty) (l:List Int),l.length+T.cnt<=1099511627776->OCalls 124 [.agg T.cells,.clo 125 [.ptr 1 0,.ptr 2 0]] (l) (.tup []) (T.rvars l):=by
  refine Ty.ind fun T ih l hl=>?_;refine ACalls.clean (C:=fun r os=>r=_/\os=_) ?_;refine aIn Tryz.func124 fun hm=>?_;simp only[Tryz.ntmps124,Tryz.results124,go_sem,seval];simp only[zhd,zas,Nat.reduceAdd];simp only[Ty.cells_eq T,zt,zD];have hm1:=T.cnt_eq;have hcl:=Ty.cntL_len T.ps;(have hv1:=by have h9:=ziC T l tz1;rw[Ty.cells_eq T] at h9;exact h9);(have hl0:(if T.k=1 then zcw l T.n else l).length<=l.length+1:=by split <;> first | exact zfe l T.n | omega);refine sqD ?_;refine sqR fun _ y=>?_;refine chS 2 ?_;simp only[↓bO,go_sem,seval];refine OCalls.at (hv1) (fun _=>⟨.data (by rw[<- Ty.cells_eq];exact T.dataAgg),.ptr rfl,.ptr rfl,trivial⟩) zcj rfl rfl rfl rfl tz2 ?_;simp only[zaz,Nat.reduceEqDiff,↓reduceIte];apply y;refine sqD ?_;apply zV;refine zae (σ:=Nat) (mB 20 7170) (fun s=>s<=T.ps.length) (fun s=>[(12,.v (.int .i64 (s:Int)))]) (fun s=>[(0,.map (sv (Ty.rvarsL (T.ps.take s) (if T.k=1 then zcw l T.n else l)))),(2,.cells 23 [.own 3 (Ty.rvarsL (T.ps.take s) (if T.k=1 then zcw l T.n else l)).length]),(3,.row 3 1 ((Ty.rvarsL (T.ps.take s) (if T.k=1 then zcw l T.n else l)).map intC))]) (fun s=>T.ps.length-s) 0 tz1 ?_ (fun s hs=>?_)
  ·
   simp only[go_sem,seval,bL,Ty.rvarsL];exact zaP
  simp only[go_sem,seval];refine sqD ?_;refine zO fun _ y=>?_;apply zP rfl <;> intro hb13
  ·
   (have hk:s<T.ps.length:=by simpa using hb13);obtain ⟨p,hp⟩:∃p,T.ps[s]?=some p:=⟨_,zb hk⟩;have hpc:=Ty.cntL_step hp;have hvl:=Ty.rvarsL_len (T.ps.take s) (if T.k=1 then zcw l T.n else l);have hw:IntKind.i64.wrap ((s:Int)+1)=(s:Int)+1:=z8 tz1 tz1;apply zS;apply y;refine zO fun _ y=>?_;apply zV;refine sqR fun _ u=>?_;simp only[↓bO,go_sem,seval,hk,gM hp,za,hw,Ty.rvarsL_step hp];apply u;apply zQ;refine chS 2 ?_ (by intro _ q;simp only[↓bO,go_sem,seval,hk,gM hp,za,hw,Ty.rvarsL_step hp];exact q);simp only[↓bO,go_sem,seval,hk,gM hp,za,hw,Ty.rvarsL_step hp];refine OCalls.at (ih p (zh hp) (Ty.rvarsL (T.ps.take s) (if T.k=1 then zcw l T.n else l)) tz1) (fun _=>⟨.data (Ty.dataAgg p),.clo ⟨.ptr rfl,.ptr rfl,trivial⟩,trivial⟩) zcj rfl rfl rfl rfl tz2 ?_;simp only[zaz,Nat.reduceEqDiff,↓reduceIte];apply y;apply zQ;simp only[↓bO,go_sem,seval,hk,gM hp,za,hw,Ty.rvarsL_step hp];refine ⟨(s+1),tz1,by omega,?_⟩;simp only[go_sem,seval,hk,gM hp,za,zm,hw,Ty.rvarsL_step hp];(first | (refine Weak.drops 1 5 rfl rfl tz5 tz5 ?_ ?_ ?_) | (refine Weak.drops 0 5 rfl rfl tz5 tz5 ?_ ?_ ?_));(· simp only[go_sem,Le.refl,Le.any,za,Int.cast_ofNat_Int,zm]);(· simp only[UndL,UndOs,Ob.Und,and_true,true_and,and_self,Und.v,Und.any,Und.ptr,Und.map,Nat.reduceLT,zC,Und.tys,Und.tyAgg,Und.oslTys,Und.oslTys1,Und.clo0,Und.ty,Und.sv,Und.ownN,Und.rowN,Und.cloV,Nat.reduceLeDiff,UndL,Und.map]);simp only[UndL,UndOs,Ob.Und,and_true,true_and,and_self,Und.v,Und.any,Und.ptr,Und.map,Nat.reduceLT,zC,Und.tys,Und.tyAgg,Und.oslTys,Und.oslTys1,Und.clo0,Und.ty,Und.sv,Und.ownN,Und.rowN,Und.cloV,Nat.reduceLeDiff,UndL,Und.map]
  (have hk:s=T.ps.length:=by simp at hb13;omega);apply zah;simp only[zag,z6,zY,bA,Nat.reduceEqDiff,↓reduceIte];(try simp only[go_sem]);rw[Ty.rvars_eq,hk];simp only[zw];refine ⟨.tup [],zas 0 (zhd (Ty.rvarsL T.ps (if T.k=1 then zcw l T.n else l))),⟨rfl,rfl⟩,.tup trivial,oUnd tz1 _,?_,?_,by omega⟩
  ·
   refine Le.of_eq ?_;rfl
  first | (refine ⟨1,?_,rfl⟩;first | rfl | (simp only[zhd,zas,List.drop_succ_cons,List.drop_zero,zc,zk,zq,zd,zx,zu,Nat.reduceAdd,zz,intC,zw];done))
theorem Weak.backOwn0 {st:St} (j k c:Nat) {sl':List AV} {os':Os} {n:Nat} (hij:st.n0<=0/\st.n0<=j/\0<st.nx/\j<st.nx) (hn:n<=st.nx) (h0:st.n0<=n) (h1:LeL st.sl (sl'.set k (.own j c))) (hl:RenL (zdy 0 j) (sl'.set k (.own j c)) sl') (ho:OsFrom (zdy 0 j) st.os os') (h6:UndL n sl') (h7:UndOs n os'):Weak st ⟨sl',os',n,st.n0⟩:=Weak.back 0 j h1 hij hl ho hn h0 h6 h7
theorem zb6 (ps:List Ty) (hT:Ty.cntL ps<=1099511627776):ACalls Tryz.prog 82 [.sl 3 (ps.map Ty.cells)] [] 0 fun r os n=>(r=.own 0 (Ty.rvarsL ps []).length/\os=[(0,.row 3 1 ((Ty.rvarsL ps []).map intC))])/\n=1:=by
  refine ACalls.cleanN (n:=1) (C:=fun r os=>r=_/\os=_) tz1 ?_;refine aIn Tryz.func82 fun hm=>?_;simp only[Tryz.ntmps82,Tryz.results82,go_sem,seval];have hcl:=Ty.cntL_len ps;(iterate 3 (refine zO fun _ y=>?_;apply zQ;simp only[↓bO,go_sem,seval];apply y));refine zO fun _ y=>?_;refine sqD ?_;apply zV;refine zar (Weak.rowCell 3 1 0 (id:=2) rfl rfl) ?_;simp only[zaz,Nat.reduceEqDiff,↓reduceIte,List.set_cons_zero];refine zae (σ:=Nat) (mB 19 1816) (fun s=>s<=ps.length) (fun s=>[(10,.v (.int .i64 (s:Int)))]) (fun s=>[(0,.map (sv (Ty.rvarsL (ps.take s) []))),(2,.cells 23 [.own 3 (Ty.rvarsL (ps.take s) []).length]),(3,.row 3 1 ((Ty.rvarsL (ps.take s) []).map intC))]) (fun s=>ps.length-s) 0 tz1 ?_ (fun s hs=>?_)
  ·
   simp only[go_sem,seval,bL,Ty.rvarsL,sv_nil];exact zaP
  simp only[go_sem,seval];refine sqD ?_;refine zO fun _ u=>?_;apply zP rfl <;> intro hb11
  ·
   (have hk:s<ps.length:=by simpa using hb11);obtain ⟨p,hp⟩:∃p,ps[s]?=some p:=⟨_,zb hk⟩;have hpc:=Ty.cntL_step hp;have hvl:=Ty.rvarsL_len (ps.take s) [];simp only[zu] at hvl;have hw:IntKind.i64.wrap ((s:Int)+1)=(s:Int)+1:=z8 tz1 tz1;apply zS;apply u;refine zO fun _ u=>?_;apply zV;refine sqR fun _ w=>?_;simp only[↓bO,go_sem,seval,hk,gM hp,za,hw,Ty.rvarsL_step hp];apply w;apply zQ;refine chS 2 ?_ (by intro _ q;simp only[↓bO,go_sem,seval,hk,gM hp,za,hw,Ty.rvarsL_step hp];exact q);simp only[↓bO,go_sem,seval,hk,gM hp,za,hw,Ty.rvarsL_step hp];refine OCalls.at (zkx p (Ty.rvarsL (ps.take s) []) tz1) (fun _=>⟨.data (Ty.dataAgg p),.clo ⟨.ptr rfl,.ptr rfl,trivial⟩,trivial⟩) zcj rfl rfl rfl rfl tz2 ?_;simp only[zaz,Nat.reduceEqDiff,↓reduceIte];apply u;apply zQ;simp only[↓bO,go_sem,seval,hk,gM hp,za,hw,Ty.rvarsL_step hp];refine ⟨(s+1),tz1,by omega,?_⟩;simp only[go_sem,seval,hk,gM hp,za,zm,hw,Ty.rvarsL_step hp];(first | (refine Weak.drops 1 4 rfl rfl tz5 tz5 ?_ ?_ ?_) | (refine Weak.drops 0 4 rfl rfl tz5 tz5 ?_ ?_ ?_));(· simp only[go_sem,Le.refl,Le.any,za,Int.cast_ofNat_Int,zm]);(· simp only[UndL,UndOs,Ob.Und,and_true,true_and,and_self,Und.v,Und.any,Und.ptr,Und.map,Nat.reduceLT,zC,Und.tys,Und.tyAgg,Und.oslTys,Und.oslTys1,Und.clo0,Und.ty,Und.sv,Und.ownN,Und.rowN,Und.cloV,Nat.reduceLeDiff,UndL,Und.map,Und.tys]);simp only[UndL,UndOs,Ob.Und,and_true,true_and,and_self,Und.v,Und.any,Und.ptr,Und.map,Nat.reduceLT,zC,Und.tys,Und.tyAgg,Und.oslTys,Und.oslTys1,Und.clo0,Und.ty,Und.sv,Und.ownN,Und.rowN,Und.cloV,Nat.reduceLeDiff,UndL,Und.map,Und.tys]
  (have hk:s=ps.length:=by simp at hb11;omega);apply zah;simp only[zag,z6,zY,bA,Nat.reduceEqDiff,↓reduceIte];apply y;refine zaC (mB 19 4) ([(2,.own 0 (Ty.rvarsL ps []).length)]) [(0,.row 3 1 ((Ty.rvarsL ps []).map intC))] 1 (True) ?_ (fun hC=>?_)
  ·
   apply zQ;simp only[↓bO,go_sem,seval];(try simp only[go_sem,seval]);(first | refine ⟨trivial,?_⟩ | skip);rw[hk,zw];refine Weak.backOwn0 3 2 (Ty.rvarsL ps []).length tz2 tz2 tz2 ?_ ?_ ?_ ?_ ?_;· simp only[List.set_cons_zero,List.set_cons_succ,LeL,Le.refl,Le.any,and_self]
   ·
    simp only[go_sem];repeat' first | exact trivial | exact .any | exact .v _ | exact .own rfl | exact .data (Ty.dataSl _) | (refine ⟨?_,?_⟩)
   (· exact ⟨⟨_,rfl,.row (zaL _)⟩,trivial⟩);(· repeat' first | exact trivial | exact .any _ | exact .v _ _ | exact .own tz1 | exact Und.data (Ty.dataSl _) | (refine ⟨?_,?_⟩));exact ⟨by omega,Und.rowI (zaL _),trivial⟩
  simp only[go_sem,seval];apply zR;(try simp only[go_sem]);refine ⟨_,_,⟨rfl,rfl⟩,.own tz1,⟨by omega,Und.rowI (zaL _),trivial⟩,Le.refl _,⟨0,rfl,rfl⟩,by omega⟩
theorem zhu {f:Int->Bool} {ps:List Int} {s:Nat} {p:Int} (h:ps[s]?=some p):(ps.take (s+1)).filter f=if f p=true then (ps.take s).filter f++[p] else (ps.take s).filter f:=by
 rw[List.take_add_one,h,List.filter_append]
 by_cases hp:f p=true
 (·rw[if_pos hp];simp[hp]);rw[if_neg hp];simp[hp]
theorem fil_len (f:Int->Bool) (ps:List Int) (s:Nat) (hs:s<=ps.length):((ps.take s).filter f).length<=s :=
 Nat.le_trans (List.length_filter_le _ _) (by rw[List.length_take];omega)
theorem fil_all {f:Int->Bool} {ps:List Int} {s:Nat} (h:∀(i:Nat) (p:Int),i<s->ps[i]?=some p->f p=true):(ps.take s).filter f=ps.take s :=
 List.filter_eq_self.2 fun x hx=>by
  obtain ⟨i,hi⟩:=List.mem_iff_getElem?.1 hx;rw[List.getElem?_take] at hi;(split at hi);(·exact h i x (by assumption) hi);cases hi
def zhQ (F ps:List Int):List Int:=F++ps.drop F.length
theorem delR_len {F ps:List Int} (h:F.length<=ps.length):(zhQ F ps).length=ps.length:=by
 unfold zhQ;rw[zd,List.length_drop];omega
theorem delR_get {F ps:List Int} {j:Nat} (h:F.length<=j):(zhQ F ps)[j]?=ps[j]?:=by
 unfold zhQ;rw[zp h,List.getElem?_drop];congr 1;omega
theorem delR_set {F ps:List Int} {v:Int} (h:F.length<ps.length):(zhQ F ps).set F.length v=zhQ (F++[v]) ps:=by
 unfold zhQ;rw[List.set_append_right _ _ (zy _),Nat.sub_self,List.drop_eq_getElem_cons h,List.set_cons_zero,List.append_assoc];simp
theorem delR_end {F ps:List Int} (X:List (List AV)):((((zhQ F ps).map intC).take F.length)++X).take F.length=F.map intC:=by
 unfold zhQ;rw[zc,List.take_append_of_le_length tz4,List.take_of_length_le tz4,List.take_append_of_le_length tz4,List.take_of_length_le tz4]
theorem zid (f:Int->Bool) (ps:List Int):∀n:Nat,(∀(i:Nat) (p:Int),i<n->ps[i]?=some p->f p=false)\/∃(i:Nat) (p:Int),ps[i]?=some p/\f p=true/\∀(j:Nat) (q:Int),j<i->ps[j]?=some q->f q=false
 | 0=>.inl fun i p hi=>by omega
 | n+1=>by
  rcases zid f ps n with h | h
  ·cases hp:ps[n]? with
   | none =>
    refine .inl fun i p hi hx=>?_;(rcases zH i n with h1 | h1);(·exact h i p h1 hx);obtain rfl:i=n:=by omega
    rw[hp] at hx;cases hx
   | some p =>
    cases hf:f p with
    | true=>exact .inr ⟨n,p,hp,hf,h⟩
    | false =>
     refine .inl fun i q hi hx=>?_;(rcases zH i n with h1 | h1);(·exact h i q h1 hx);(obtain rfl:i=n:=by omega);rw[hp] at hx;cases hx;exact hf
  exact .inr h
theorem zep (f:Int->Bool) (ps:List Int):(zhX f ps=-1/\∀(i:Nat) (p:Int),ps[i]?=some p->f p=false)\/∃(i:Nat) (p:Int),zhX f ps=(i:Int)/\ps[i]?=some p/\f p=true/\∀(j:Nat) (q:Int),j<i->ps[j]?=some q->f q=false:=by
 rcases zid f ps ps.length with h | ⟨i,p,h1,h2,h3⟩
 ·have h9:∀(i:Nat) (p:Int),ps[i]?=some p->f p=false:=fun i p hp=>h i p (zf.1 hp).1 hp
  exact .inl ⟨zbm fun i p _=>h9 i p,h9⟩
 exact .inr ⟨i,p,zbl h1 h2 h3,h1,h2,h3⟩
theorem IndexO (ps:List Int) (g:Nat) (caps:List AV) (f:Int->Bool) (hl:ps.length<=1099511627776) (hcd:DataL caps) (hf:∀p∈ps,APure Tryz.prog g (.v (.int .i64 p)::caps) (.v (.bool (f p)))):ACalls Tryz.prog 126 [.own 0 ps.length,.clo g caps] [(0,.row 3 1 (ps.map intC))] 1 fun r os n=>(r=.v (.int .i64 (zhX f ps))/\os=[(0,.row 3 1 (ps.map intC))])/\n=1:=by
  refine ACalls.clean (C:=fun r os'=>r=_/\os'=_) ?_;refine aIn Tryz.func126 fun hm=>?_;simp only[Tryz.ntmps126,Tryz.results126,go_sem,seval];refine sqD ?_;refine zO fun _ y=>?_;refine sqR fun _ u=>?_;(iterate 2 (refine chS 1 ?_));simp only[↓bO,go_sem,seval];apply u;apply zV;refine zae (σ:=Nat) (mB 19 387) (fun s=>s<=ps.length/\∀(i:Nat) (p:Int),i<s->ps[i]?=some p->f p=false) (fun s=>[(8,.v (.int .i64 (s:Int)))]) (fun s=>[]) (fun s=>ps.length-s) 0 (⟨by omega,fun i p hi=>by omega⟩) ?_ (fun s hs=>?_)
  ·
   simp only[go_sem,seval];exact zaP
  simp only[go_sem,seval];refine sqD ?_;refine zO fun _ u=>?_;apply zP rfl <;> intro hb9
  ·
   (have hk:s<ps.length:=by simpa using hb9);obtain ⟨p,hp⟩:∃p,ps[s]?=some p:=⟨_,zb hk⟩;have hw:IntKind.i64.wrap ((s:Int)+1)=(s:Int)+1:=z8 tz1 tz1;apply zS;apply u;refine zO fun _ u=>?_;apply zV;refine sqR fun _ w=>?_;refine chS 1 ?_ (by intro _ q;simp only[↓bO,go_sem,seval,hk,gM hp,za,hw,intC];exact q);simp only[↓bO,go_sem,seval,hk,gM hp,za,hw,intC];apply w;refine sqR fun _ w=>?_;(iterate 5 (refine chS 1 ?_ (by intro _ q;simp only[↓bO,go_sem,seval,hk,gM hp,za,hw,intC];exact q)));simp only[↓bO,go_sem,seval,hk,gM hp,za,hw,intC];refine APure.call (hf p (zh hp)) ?_;apply w;apply zP rfl <;> intro hb16
   ·
    refine sqR fun _ w=>?_;refine chS 1 ?_ (by intro _ q;simp only[↓bO,go_sem,seval,hk,gM hp,za,hw,intC];exact q);simp only[↓bO,go_sem,seval,hk,gM hp,za,hw,intC];apply w;apply zR;(try simp only[go_sem]);refine ⟨_,_,⟨rfl,rfl⟩,.v _ _,⟨by omega,Und.rowI (zaL _),trivial⟩,Le.of_eq (congrArg (fun n=>AV.v (.int .i64 n)) ?_),⟨0,rfl,rfl⟩,by omega⟩;first | (rw[zbl hp (by exact hb16) hs.2];done) | (rw[zbm (fun i p hi h1=>hs.2 i p tz1 h1)];done)
   apply zS;apply u;apply zQ;refine chS 1 ?_ (by intro _ q;simp only[↓bO,go_sem,seval,hk,gM hp,za,hw,intC];exact q);simp only[↓bO,go_sem,seval,hk,gM hp,za,hw,intC];refine ⟨(s+1),⟨by omega,fun i p' hi h1=>(by rcases zH i s with h3 | h3 <;> first | exact hs.2 i p' h3 h1 | (obtain rfl:i=s:=tz1;rw[hp] at h1;cases h1;exact hb16))⟩,by omega,?_⟩;simp only[go_sem,seval,hk,gM hp,za,zm,hw,intC,zi];exact zaP
  (have hk:s=ps.length:=by have:=hs.1;simp at hb9;omega);apply zah;simp only[zag,z6,zY,bA,Nat.reduceEqDiff,↓reduceIte];apply y;refine sqD ?_;apply zR;(try simp only[go_sem]);refine ⟨_,_,⟨rfl,rfl⟩,.v _ _,⟨by omega,Und.rowI (zaL _),trivial⟩,Le.of_eq (congrArg (fun n=>AV.v (.int .i64 n)) ?_),⟨0,rfl,rfl⟩,by omega⟩;first | (rw[zbl hp (by exact hb16) hs.2];done) | (rw[zbm (fun i p hi h1=>hs.2 i p tz1 h1)];done)
theorem zcJ (ps:List Int) (g:Nat) (caps:List AV) (f:Int->Bool) (hl:ps.length<=1099511627776) (hcd:DataL caps) (hf:∀p∈ps,APure Tryz.prog g (.v (.int .i64 p)::caps) (.v (.bool (f p)))):ACalls Tryz.prog 83 [.own 0 ps.length,.clo g caps] [(0,.row 3 1 (ps.map intC))] 1 fun r os n=>(r=.sl 1 ((ps.filter fun q=>!f q).map intC)/\os=[])/\n=1:=by
  refine ACalls.clean (C:=fun r os'=>r=_/\os'=_) ?_;refine aIn Tryz.func83 fun hm=>?_;simp only[Tryz.ntmps83,Tryz.results83,go_sem,seval];refine sqR fun _ u=>?_;simp only[↓bO,go_sem,seval,zak,zba,zn,zo,Nat.reduceBEq];apply u;refine sqR fun _ u=>?_;(iterate 2 (refine chS 1 ?_ (by intro _ q;simp only[↓bO,go_sem,seval,zak,zba,zn,zo,Nat.reduceBEq];exact q)));refine zN 1 fun _ y=>?_;simp only[↓bO,go_sem,seval,zak,zba,zn,zo,Nat.reduceBEq];refine ACalls.mono (IndexO ps g caps f hl hcd hf) ?_;rintro z os2 nx2 ⟨⟨rfl,rfl⟩,rfl⟩;apply y;clear y;simp only[↓bO,go_sem,seval,zak,zba,zn,zo,Nat.reduceBEq];apply u;refine zO fun _ u=>?_;refine sqR fun _ w=>?_;refine chS 1 ?_ (by intro _ q;simp only[↓bO,go_sem,seval,zak,zba,zn,zo,Nat.reduceBEq];exact q);simp only[↓bO,go_sem,seval,zak,zba,zn,zo,Nat.reduceBEq];apply w;apply zP rfl <;> intro hb12
  ·
   have hix:∀(i:Nat) (p:Int),ps[i]?=some p->f p=false:=(by rcases zep f ps with ⟨_,h9⟩ | ⟨i,p,h9,_⟩;exact h9;(have h8:=hb12;simp[h9] at h8));refine sqR fun _ w=>?_;refine chS 1 ?_ (by intro _ q;simp only[↓bO,go_sem,seval,zak,zba,zn,zo,Nat.reduceBEq];exact q);simp only[↓bO,go_sem,seval,zak,zba,zn,zo,Nat.reduceBEq];apply w;refine zar (Weak.freezeOne 4 rfl rfl (by first | rfl | simp) (zaL _) tz5) ?_;simp only[zk,zq,List.set_cons_zero,List.set_cons_succ];apply zR;(try simp only[go_sem]);refine ⟨_,[],⟨rfl,rfl⟩,.data (zab _),trivial,?_,⟨1,rfl,rfl⟩,by omega⟩;rw[show (ps.filter fun q=>!f q)=ps from List.filter_eq_self.2 fun x hx=>by (obtain ⟨i,hi⟩:=List.mem_iff_getElem?.1 hx;simp[hix i x hi])];exact Le.refl _
  obtain ⟨i0,p0,hi0,hp0,hf0,hb0⟩:∃(i:Nat) (p:Int),zhX f ps=(i:Int)/\ps[i]?=some p/\f p=true/\∀(j:Nat) (q:Int),j<i->ps[j]?=some q->f q=false:=(by rcases zep f ps with ⟨h9,_⟩ | h9;(have h8:=hb12;simp[h9] at h8);exact h9);rw[hi0];have hi1:=(zf.1 hp0).1;(have hF0:((ps.take (i0+1)).filter fun q=>!f q)=ps.take i0:=by (rw[zhu (f:=fun q=>!f q) hp0,if_neg (by simp[hf0])];exact fil_all fun i p hi h1=>by simp[hb0 i p hi h1]));(have hF1:(ps.take i0).length=i0:=by rw[List.length_take];omega);(have delR0:zhQ (ps.take i0) ps=ps:=by (unfold zhQ;rw[hF1];exact List.take_append_drop _ _));have hw0:IntKind.i64.wrap ((i0:Int)+1)=(i0:Int)+1:=z8 tz1 tz1;apply zS;apply u;refine zO fun _ u=>?_;refine sqR fun _ w=>?_;(iterate 2 (refine chS 1 ?_ (by intro _ q;simp only[↓bO,go_sem,seval,zak,zba,zn,zo,Nat.reduceBEq,hw0];exact q)));simp only[↓bO,go_sem,seval,zak,zba,zn,zo,Nat.reduceBEq,hw0];apply w;apply zV;refine zae (σ:=Nat) (mB 42 99) (fun z=>z<=ps.length) (fun z=>[(5,.v (.int .i64 (((ps.take z).filter fun q=>!f q).length:Int))),(6,.v (.int .i64 (z:Int)))]) (fun z=>[(0,.row 3 1 ((zhQ ((ps.take z).filter fun q=>!f q) ps).map intC))]) (fun z=>ps.length-z) (i0+1) tz1 ?_ (fun z hz=>?_)
  ·
   simp only[go_sem,seval,hF0,hF1,delR0,za,zm];exact zaP
  simp only[go_sem,seval];have hFl:=fil_len (fun q=>!f q) ps z hz;have hRl:=delR_len (F:=((ps.take z).filter fun q=>!f q)) (ps:=ps) tz1;refine zO fun _ w=>?_;refine sqR fun _ k=>?_;(iterate 3 (refine chS 1 ?_ (by intro _ q;simp only[↓bO,go_sem,seval,zak,zba,zn,zo,Nat.reduceBEq,hRl,za,intC,hw0];exact q)));simp only[↓bO,go_sem,seval,zak,zba,zn,zo,Nat.reduceBEq,hRl,za,intC,hw0];apply k;apply zP rfl <;> intro hb19
  ·
   (have hk:z<ps.length:=by simpa using hb19);obtain ⟨p,hp⟩:∃p,ps[z]?=some p:=⟨_,zb hk⟩;(have hRg:(zhQ ((ps.take z).filter fun q=>!f q) ps)[z]?=some p:=by rw[delR_get hFl];exact hp);have hw:IntKind.i64.wrap ((z:Int)+1)=(z:Int)+1:=z8 tz1 tz1;apply zS;apply w;refine zO fun _ w=>?_;apply zV;refine sqR fun _ k=>?_;(iterate 4 (refine chS 1 ?_ (by intro _ q;simp only[↓bO,go_sem,seval,zak,zba,zn,zo,Nat.reduceBEq,hRl,za,intC,hw0,hk,gM hRg,hw];exact q)));simp only[↓bO,go_sem,seval,zak,zba,zn,zo,Nat.reduceBEq,hRl,za,intC,hw0,hk,gM hRg,hw];apply k;refine sqR fun _ k=>?_;(iterate 2 (refine chS 1 ?_ (by intro _ q;simp only[↓bO,go_sem,seval,zak,zba,zn,zo,Nat.reduceBEq,hRl,za,intC,hw0,hk,gM hRg,hw];exact q)));refine zN 1 fun _ y=>?_;simp only[↓bO,go_sem,seval,zak,zba,zn,zo,Nat.reduceBEq,hRl,za,intC,hw0,hk,gM hRg,hw];refine APure.call (hf p (zh hp)) ?_;apply y;clear y;simp only[↓bO,go_sem,seval,zak,zba,zn,zo,Nat.reduceBEq,hRl,za,intC,hw0,hk,gM hRg,hw];apply k;apply zP rfl <;> intro hb29
   ·
    (have hfp:f p=false:=by simpa using hb29);(have hFs:((ps.take (z+1)).filter fun q=>!f q)=((ps.take z).filter fun q=>!f q)++[p]:=by (rw[zhu (f:=fun q=>!f q) hp,if_pos (by simp[hfp])]));(have hFl2:((ps.take z).filter fun q=>!f q).length<ps.length:=by omega);(have hst:((zhQ ((ps.take z).filter fun q=>!f q) ps).map intC).set ((ps.take z).filter fun q=>!f q).length [.v (.int .i64 p)]=(zhQ ((ps.take (z+1)).filter fun q=>!f q) ps).map intC:=by (rw[hFs,<- delR_set hFl2,List.map_set]));(have hdr:List.drop 1 (((zhQ ((ps.take z).filter fun q=>!f q) ps).map intC).getD ((ps.take z).filter fun q=>!f q).length [])=[]:=by (rw[zj,zE];cases (zhQ ((ps.take z).filter fun q=>!f q) ps)[((ps.take z).filter fun q=>!f q).length]? <;> rfl));(have hw9:IntKind.i64.wrap ((((ps.take z).filter fun q=>!f q).length:Int)+1)=(((ps.take (z+1)).filter fun q=>!f q).length:Int):=by (rw[z8 tz1 tz1,hFs];simp));refine sqR fun _ k=>?_;(iterate 4 (refine chS 1 ?_ (by intro _ q;simp only[↓bO,go_sem,seval,zak,zba,zn,zo,Nat.reduceBEq,hRl,za,intC,hw0,hk,gM hRg,hw,hdr,hFl2,hst,hw9];exact q)));simp only[↓bO,go_sem,seval,zak,zba,zn,zo,Nat.reduceBEq,hRl,za,intC,hw0,hk,gM hRg,hw,hdr,hFl2,hst,hw9];apply k;apply zQ;(iterate 2 (refine chS 1 ?_ (by intro _ q;simp only[↓bO,go_sem,seval,zak,zba,zn,zo,Nat.reduceBEq,hRl,za,intC,hw0,hk,gM hRg,hw,hdr,hFl2,hst,hw9];exact q)));simp only[↓bO,go_sem,seval,zak,zba,zn,zo,Nat.reduceBEq,hRl,za,intC,hw0,hk,gM hRg,hw,hdr,hFl2,hst,hw9];apply w;apply zQ;(iterate 2 (refine chS 1 ?_ (by intro _ q;simp only[↓bO,go_sem,seval,zak,zba,zn,zo,Nat.reduceBEq,hRl,za,intC,hw0,hk,gM hRg,hw,hdr,hFl2,hst,hw9];exact q)));simp only[↓bO,go_sem,seval,zak,zba,zn,zo,Nat.reduceBEq,hRl,za,intC,hw0,hk,gM hRg,hw,hdr,hFl2,hst,hw9];refine ⟨z+1,tz1,tz1,?_⟩;simp only[go_sem,seval,hRl,za,zm,intC,zi,hw0,hk,gM hRg,hw,hdr,hFl2,hst,hw9];exact zaP
   (have hfp:f p=true:=by simpa using hb29);(have hFs:((ps.take (z+1)).filter fun q=>!f q)=((ps.take z).filter fun q=>!f q):=by (rw[zhu (f:=fun q=>!f q) hp,if_neg (by simp[hfp])]));apply zS;apply w;apply zQ;(iterate 2 (refine chS 1 ?_ (by intro _ q;simp only[↓bO,go_sem,seval,zak,zba,zn,zo,Nat.reduceBEq,hRl,za,intC,hw0,hk,gM hRg,hw,hFs];exact q)));simp only[↓bO,go_sem,seval,zak,zba,zn,zo,Nat.reduceBEq,hRl,za,intC,hw0,hk,gM hRg,hw,hFs];refine ⟨z+1,tz1,tz1,?_⟩;simp only[go_sem,seval,hRl,za,zm,intC,zi,hw0,hk,gM hRg,hw,hFs];exact zaP
  (have hk:z=ps.length:=by (have h9:=hb19;simp at h9;omega));(have hFe:((ps.take z).filter fun q=>!f q)=ps.filter fun q=>!f q:=by rw[hk,zw]);apply zah;simp only[zag,z6,zY,bA,Nat.reduceEqDiff,↓reduceIte];apply u;refine zO fun _ u=>?_;refine AWp_clear (n:=2) rfl ?_;change aops _ _ [_,_] _ _;refine chS 1 ?_ (by intro _ q;simp only[↓bO,go_sem,seval,zak,zba,zn,zo,Nat.reduceBEq,hw0,hRl];exact q);simp only[↓bO,go_sem,seval,zak,zba,zn,zo,Nat.reduceBEq,hw0,hRl];refine ⟨0,_,3,8,.i64,_,_,.int .i64 0,rfl,rfl,rfl,by rw[zi,hRl],by omega,by omega,ei23,tz0,rfl,by simp,?_⟩;obtain ⟨Y,hY⟩:∃Y,Y=(((zhQ ((ps.take z).filter fun q=>!f q) ps).map intC).take ((((ps.take z).filter fun q=>!f q).length:Nat):Int).toNat++List.replicate (((zhQ ((ps.take z).filter fun q=>!f q) ps).map intC).length-((((ps.take z).filter fun q=>!f q).length:Nat):Int).toNat) [AV.v (.int .i64 0)]):=⟨_,rfl⟩;rw[<- hY];(have w:Y.length=ps.length:=by (rw[hY,Int.toNat_natCast,zd,List.length_take,List.length_replicate,zi,hRl];omega));(have k:Y.take ((ps.take z).filter fun q=>!f q).length=((ps.take z).filter fun q=>!f q).map intC:=by (rw[hY,Int.toNat_natCast];exact delR_end _));(have hle:((((ps.take z).filter fun q=>!f q).length:Nat):Int)<=(ps.length:Int):=by omega);simp only[zag,z6,zY,zaz,bS,bA,zi,zak,zba,zn,zo,Nat.reduceBEq,hw0,hRl,w,k,hle];apply u;refine sqR fun _ u=>?_;(iterate 3 (refine chS 1 ?_ (by intro _ q;simp only[↓bO,go_sem,seval,zak,zba,zn,zo,Nat.reduceBEq,hw0,hRl,w,k,hle];exact q)));simp only[↓bO,go_sem,seval,zak,zba,zn,zo,Nat.reduceBEq,hw0,hRl,w,k,hle];apply u;refine zar (Weak.freezeOne 4 rfl rfl (by first | rfl | simp) (zaL _) tz5) ?_;simp only[zk,zq,List.set_cons_zero,List.set_cons_succ];apply zR;(try simp only[go_sem]);refine ⟨_,[],⟨rfl,rfl⟩,.data (zab _),trivial,?_,⟨1,rfl,rfl⟩,by omega⟩;rw[hFe];exact Le.refl _
end Go.Proofs.YtkokfdmggdhfmaaGreatDoor
namespace Go.Proofs.YtkokfdmggdhfmaaGreatDoor
open Go Go.RowKit
abbrev vTy (n:Int):Ty:=.mk 1 n []
theorem Ty.subF_subF (σ τ:Int->Ty):∀t:Ty,(t.subF σ).subF τ=t.subF fun v=>(σ v).subF τ:=by
 refine Ty.ind fun t ih=>?_
 by_cases hk:t.k=1
 (·rw[Ty.subF_var hk,Ty.subF_var hk]);rw[Ty.subF_more hk,Ty.subF_more (σ:=fun v=>(σ v).subF τ) hk,Ty.subF_more (by exact hk)];simp only[Ty.k_mk,Ty.n_mk,Ty.ps_mk,List.map_map];(congr 1);exact List.map_congr_left fun p hp=>ih p hp
theorem Ty.occ_vTy {v w:Int}:(vTy v).occ w↔w=v:=by
 rw[Ty.occ_iff];simp[vTy,Ty.k,Ty.n,Ty.ps]
def zel (σ:Int->Ty) (l:List (Ty×Ty)):Prop:=∀e∈l,e.1.subF σ=e.2.subF σ
structure MG (l:List (Ty×Ty)) (σ:Int->Ty):Prop where
 solves:zel σ l
 most:∀θ:Int->Ty,zel θ l->∀v,(σ v).subF θ=θ v
structure Norm (L:List Int) (σ:Int->Ty):Prop where
 right:∀v∈L,(σ v).right=true
 out:∀v,v∉L->σ v=vTy v
 fix:∀v∈L,∀u,(σ v).occ u->u∈L/\σ u=vTy u
 least:∀v∈L,∀u,σ v=vTy u->u<=v
structure Raw (L:List Int) (l:List (Ty×Ty)) (o:Int->Ty):Prop where
 right:∀v∈L,(o v).right=true
 out:∀v,v∉L->o v=vTy v
 rng:∀v∈L,∀u,(o v).occ u->u∈L
 idem:∀v∈L,(o v).subF o=o v
 mg:MG l o
def firstV (L:List Int) (o:Int->Ty) (w:Int):Ty:=match L.find? fun v=>(o v).same (vTy w) with
 | some v=>vTy v
 | none=>vTy w
theorem Ty.subF_right {σ:Int->Ty}:∀t:Ty,t.right=true->(∀v,t.occ v->(σ v).right=true)->(t.subF σ).right=true:=by
 refine Ty.ind fun t ih hr h=>?_
 by_cases hk:t.k=1
 (·rw[Ty.subF_var hk];exact h _ ((Ty.occ_iff _ _).2 (.inl ⟨hk,rfl⟩)));rw[Ty.subF_more hk,Ty.right_eq,zl];have hr2:=hr;rw[Ty.right_eq,zl] at hr2;refine ⟨by simp only[Ty.k_mk,Ty.n_mk,Ty.ps_mk,zi];exact hr2.1,zF.2 fun q hq=>?_⟩;obtain ⟨p,hp,rfl⟩:=zG.1 hq;exact ih p hp (Ty.right_part hr hp) fun v hv=>h v ((Ty.occ_iff _ _).2 (.inr ⟨p,hp,hv⟩))
theorem Ty.subF_occ {σ:Int->Ty}:∀(t:Ty) (u:Int),(t.subF σ).occ u->∃v,t.occ v/\(σ v).occ u:=by
 refine Ty.ind fun t ih u h=>?_
 by_cases hk:t.k=1
 ·rw[Ty.subF_var hk] at h
  exact ⟨t.n,(Ty.occ_iff _ _).2 (.inl ⟨hk,rfl⟩),h⟩
 rw[Ty.subF_more hk] at h;(rcases (Ty.occ_iff _ _).1 h with ⟨h1,_⟩ | ⟨q,hq,h2⟩);(·exact absurd h1 hk);obtain ⟨p,hp,rfl⟩:=zG.1 hq;obtain ⟨v,h3,h4⟩:=ih p hp u h2;exact ⟨v,(Ty.occ_iff _ _).2 (.inr ⟨p,hp,h3⟩),h4⟩
def OccE (l:List (Ty×Ty)) (v:Int):Prop:=∃e∈l,e.1.occ v\/e.2.occ v
def RightE (l:List (Ty×Ty)):Prop:=∀e∈l,e.1.right=true/\e.2.right=true
theorem bfind_neg {o:List Bd} {v:Int} (h:v∉o.map Bd.v):zbj o v=-1:=by
 unfold zbj
 exact zbm fun j q hj hq=>by
  have h1:=zh hq
  cases hb:q.v==v with
  | false=>rfl
  | true=>exact absurd (zG.2 ⟨q,h1,by simpa using hb⟩) h
theorem zkU {o:List Bd} {v:Int} (h:v∉o.map Bd.v):bfun o v=vTy v:=by
 unfold bfun;rw[bfind_neg h,if_neg tz1]
theorem bfind_at {o:List Bd} (hn:(o.map Bd.v).Nodup) {i:Nat} {b:Bd} (hb:o[i]?=some b):zbj o b.v=(i:Int):=by
 unfold zbj;refine zbl (p:=b) hb tz4 fun j q hj hq=>?_
 cases hg:q.v==b.v with
 | false=>rfl
 | true =>
  have h1:=List.pairwise_iff_getElem.1 hn j i (by have:=(zf.1 hq).1;simpa using this) (by have:=(zf.1 hb).1;simpa using this) hj;simp only[List.getElem_map] at h1;rw[(zf.1 hq).2,(zf.1 hb).2] at h1;exact absurd (by simpa using hg) h1
theorem bfun_in {o:List Bd} (hn:(o.map Bd.v).Nodup) {b:Bd} (hb:b∈o):bfun o b.v=b.t:=by
 obtain ⟨i,hi⟩:=List.mem_iff_getElem?.1 hb;unfold bfun;rw[bfind_at hn hi,if_pos tz1,Int.toNat_natCast,hi];rfl
theorem zhl (n:Int) (b:Ty) (v:Int):bfun [⟨n,b⟩] v=if v=n then b else vTy v:=by
 by_cases h:v=n
 ·subst h
  rw[if_pos rfl];exact bfun_in (o:=[⟨v,b⟩]) tz4 (b:=⟨v,b⟩) tz4
 rw[if_neg h,zkU (by simpa using h)]
theorem zeF {n:Int} {b:Ty} {θ:Int->Ty} (hb:b.subF θ=θ n) (t:Ty) (hr:t.right=true):(t.sub [⟨n,b⟩]).subF θ=t.subF θ:=by
 rw[Ty.sub_subF _ _ hr,Ty.subF_subF];refine Ty.subF_congr t fun v _=>?_;rw[zhl]
 by_cases h:v=n
 (·rw[if_pos h,hb,h]);rw[if_neg h,Ty.subF_var rfl];rfl
theorem Ty.var_right {v:Int}:∀{t:Ty},t.right=true->t.occ v->(vTy v).right=true:=by
 have key:∀t:Ty,t.right=true->t.occ v->(vTy v).right=true:=by
  refine Ty.ind fun t ih hr h=>?_;(rcases (Ty.occ_iff _ _).1 h with ⟨h1,rfl⟩ | ⟨p,hp,hv⟩);(·exact (congrArg Ty.right (Ty.right_var hr h1)).symm.trans hr);exact ih p hp (Ty.right_part hr hp) hv
 exact fun {t}=>key t
theorem zfT {n:Int} {b:Ty} (hb:b.right=true) (t:Ty) (hr:t.right=true):(t.sub [⟨n,b⟩]).right=true:=by
 rw[Ty.sub_subF _ _ hr];refine Ty.subF_right t hr fun v hv=>?_;rw[zhl];split;(·exact hb);(rename_i hne);have h:=Ty.var_right hr hv;exact h
theorem one_occ {n:Int} {b:Ty} (t:Ty) (hr:t.right=true) {u:Int} (h:(t.sub [⟨n,b⟩]).occ u):(t.occ u/\u≠n)\/(t.occ n/\b.occ u):=by
 rw[Ty.sub_subF _ _ hr] at h;obtain ⟨v,h1,h2⟩:=Ty.subF_occ t u h;rw[zhl] at h2
 by_cases he:v=n
 ·rw[if_pos he] at h2
  exact .inr ⟨he▸h1,h2⟩
 rw[if_neg he] at h2;have:=Ty.occ_vTy.1 h2;subst this;exact .inl ⟨h1,he⟩
structure RInv (l l':List (Ty×Ty)) (o:List Bd):Prop where
 rl:RightE l'
 ro:∀b∈o,b.t.right=true
 nd:(o.map Bd.v).Nodup
 vl:∀v,OccE l' v->OccE l v/\v∉o.map Bd.v
 vo:∀b∈o,OccE l b.v/\∀v,b.t.occ v->OccE l v/\v∉o.map Bd.v
 fwd:∀θ:Int->Ty,zel θ l->zel θ l'/\∀b∈o,b.t.subF θ=θ b.v
 bwd:∀θ:Int->Ty,zel θ l'->(∀b∈o,b.t.subF θ=θ b.v)->zel θ l
section
variable {l l':List (Ty×Ty)} {o:List Bd} {a b:Ty}
theorem RInv.drop (h:RInv l ((a,b)::l') o) (he:a=b):RInv l l' o :=
 ⟨fun e he=>h.rl e (by simp[he]),h.ro,h.nd,fun v ⟨e,he,hv⟩=>h.vl v ⟨e,by simp[he],hv⟩,h.vo,fun θ hθ=>⟨fun e he=>(h.fwd θ hθ).1 e (by simp[he]),(h.fwd θ hθ).2⟩,
  fun θ h1 h2=>h.bwd θ (fun e hm=>by
   (rcases zK.1 hm with rfl | hm);·simp only[he]
   exact h1 e hm) h2⟩
def subE (n:Int) (b:Ty) (l:List (Ty×Ty)):List (Ty×Ty):=l.map fun e=>(e.1.sub [⟨n,b⟩],e.2.sub [⟨n,b⟩])
def subB (n:Int) (b:Ty) (o:List Bd):List Bd:=o.map (fun x=>⟨x.v,x.t.sub [⟨n,b⟩]⟩)++[⟨n,b⟩]
theorem zln (n:Int) (b:Ty) (o:List Bd):(subB n b o).map Bd.v=o.map Bd.v++[n]:=by simp[subB,Function.comp]
theorem RInv.bind {n:Int} {e:Ty×Ty} (h:RInv l (e::l') o) (he:e=(vTy n,b)\/e=(b,vTy n)) (hn:¬b.occ n):RInv l (subE n b l') (subB n b o):=by
 have hbr:b.right=true:=by
  have:=h.rl e tz4;(rcases he with rfl | rfl);(·exact this.2);exact this.1
 have hocc:∀v,(v=n\/b.occ v)->OccE (e::l') v:=fun v hv=>⟨e,by simp,by
  (rcases he with rfl | rfl);·exact hv.imp (fun h=>Ty.occ_vTy.2 h) id
  exact hv.symm.imp id (fun h=>Ty.occ_vTy.2 h)⟩
 have hnl:=h.vl n (hocc n (.inl rfl))
 have hbl:∀v,b.occ v->OccE l v/\v∉(subB n b o).map Bd.v:=fun v hv=>by
  have h1:=h.vl v (hocc v (.inr hv));refine ⟨h1.1,?_⟩;rw[zln,List.mem_append];rintro (h2 | h2);(·exact h1.2 h2);simp at h2;subst h2;exact hn hv
 have heq:∀θ:Int->Ty,e.1.subF θ=e.2.subF θ↔b.subF θ=θ n:=fun θ=>by
  (rcases he with rfl | rfl);(·simp only;rw[Ty.subF_var (t:=vTy n) rfl];exact eq_comm);simp only;rw[Ty.subF_var (t:=vTy n) rfl];rfl
 refine ⟨fun x hx=>?_,fun x hx=>?_,?_,fun v hv=>?_,fun x hx=>?_,fun θ hθ=>?_,fun θ h1 h2=>?_⟩
 ·obtain ⟨y,hy,rfl⟩:=zG.1 hx
  have:=h.rl y (by simp[hy]);exact ⟨zfT hbr _ this.1,zfT hbr _ this.2⟩
 ·rcases List.mem_append.1 hx with hx | hx
  ·obtain ⟨y,hy,rfl⟩:=zG.1 hx
   exact zfT hbr _ (h.ro y hy)
  simp at hx;subst hx;exact hbr
 ·rw[zln,List.nodup_append]
  exact ⟨h.nd,by simp,fun x hx y hy=>by simp at hy;subst hy;exact fun e=>hnl.2 (e▸hx)⟩
 ·obtain ⟨x,hx,hv⟩:=hv
  obtain ⟨y,hy,rfl⟩:=zG.1 hx;have hyr:=h.rl y (by simp[hy])
  have key:∀t:Ty,t.right=true->(∀u,t.occ u->OccE (e::l') u)->(t.sub [⟨n,b⟩]).occ v->OccE l v/\v∉(subB n b o).map Bd.v:=fun t ht hto hv=>by
   rcases one_occ t ht hv with ⟨h1,h2⟩ | ⟨_,h2⟩
   ·have h3:=h.vl v (hto v h1)
    refine ⟨h3.1,?_⟩;rw[zln,List.mem_append];rintro (h4 | h4);(·exact h3.2 h4);simp at h4;exact h2 h4
   exact hbl v h2
  (rcases hv with hv | hv);(·exact key _ hyr.1 (fun u hu=>⟨y,by simp[hy],.inl hu⟩) hv);exact key _ hyr.2 (fun u hu=>⟨y,by simp[hy],.inr hu⟩) hv
 ·rcases List.mem_append.1 hx with hx | hx
  ·obtain ⟨y,hy,rfl⟩:=zG.1 hx
   have h3:=h.vo y hy;refine ⟨h3.1,fun v hv=>?_⟩;rcases one_occ _ (h.ro y hy) hv with ⟨h1,h2⟩ | ⟨_,h2⟩
   ·have h4:=h3.2 v h1
    refine ⟨h4.1,?_⟩;rw[zln,List.mem_append];rintro (h5 | h5);(·exact h4.2 h5);simp at h5;exact h2 h5
   exact hbl v h2
  (simp at hx;subst hx);exact ⟨hnl.1,hbl⟩
 ·obtain ⟨h1,h2⟩:=h.fwd θ hθ
  have hb:=(heq θ).1 (h1 e tz4);refine ⟨fun x hx=>?_,fun x hx=>?_⟩
  ·obtain ⟨y,hy,rfl⟩:=zG.1 hx
   have hyr:=h.rl y (by simp[hy]);(simp only);rw[zeF hb _ hyr.1,zeF hb _ hyr.2];exact h1 y (by simp[hy])
  rcases List.mem_append.1 hx with hx | hx
  ·obtain ⟨y,hy,rfl⟩:=zG.1 hx
   (simp only);rw[zeF hb _ (h.ro y hy)];exact h2 y hy
  simp at hx;subst hx;exact hb
 have hb:b.subF θ=θ n:=h2 ⟨n,b⟩ (by simp[subB]);refine h.bwd θ (fun x hx=>?_) fun x hx=>?_
 ·rcases zK.1 hx with rfl | hx
  (·exact (heq θ).2 hb);have hyr:=h.rl x (by simp[hx]);have:=h1 _ (zG.2 ⟨x,hx,rfl⟩);simp only at this
  rwa [zeF hb _ hyr.1,zeF hb _ hyr.2] at this
 have:=h2 ⟨x.v,x.t.sub [⟨n,b⟩]⟩ (List.mem_append.2 (.inl (zG.2 ⟨x,hx,rfl⟩)));simp only at this
 rwa [zeF hb _ (h.ro x hx)] at this
end
structure Sch where
 vs:List Int
 t:Ty
def zbx (l m:List Int):List Int:=l.filter fun v=>!decide (v∈m)
def Sch.all (s:Sch):List Int:=s.t.rvars []
def Sch.ok (s:Sch):Bool:=s.t.right&&decide (s.vs=s.all.filter fun v=>decide (v∈s.vs))
def Sch.free (s:Sch):List Int:=zbx s.all s.vs
theorem but_but (l m:List Int):zbx l (zbx l m)=l.filter fun v=>decide (v∈m):=by
 refine List.filter_congr fun v hv=>?_;rw[zM];simp only[zbx,List.mem_filter,hv,true_and,Bool.not_eq_true',ze,zg,Bool.not_eq_false'];exact Decidable.not_not
theorem zlB {l:List Int} (h:l.Nodup) (n:Int):(zcw l n).Nodup:=by
 unfold zcw;split;(·exact h);(rename_i hn);rw[List.nodup_append];refine ⟨h,by simp,fun a ha b hb=>?_⟩;(simp at hb;subst hb);intro e;subst e;exact hn (List.any_eq_true.2 ⟨a,ha,by simp⟩)
theorem Ty.rvars_nodup:∀(t:Ty) (l:List Int),l.Nodup->(t.rvars l).Nodup:=by
 refine Ty.ind fun t ih l hl=>?_;rw[Ty.rvars_eq]
 have hL:∀ps:List Ty,(∀p∈ps,∀l:List Int,l.Nodup->(p.rvars l).Nodup)->∀l:List Int,l.Nodup->(Ty.rvarsL ps l).Nodup:=by
  intro ps
  induction ps with
  | nil=>intro _ l hl;rw[Ty.rvarsL];exact hl
  | cons p ps ih2=>intro h l hl;rw[Ty.rvarsL];exact ih2 (fun q hq=>h q (by simp[hq])) _ (h p tz4 l hl)
 refine hL t.ps ih _ ?_;split;(·exact zlB hl _);exact hl
section
variable {s:Sch}
theorem Sch.ok_iff:s.ok=true↔s.t.right=true/\s.vs=s.all.filter fun v=>decide (v∈s.vs):=by
 unfold Sch.ok;rw[zl,zg]
theorem Sch.vs_occ (h:s.ok=true) {v:Int} (hv:v∈s.vs):s.t.occ v:=by
 rw[(Sch.ok_iff.1 h).2] at hv;exact (List.mem_filter.1 hv).1
theorem Sch.vs_nodup (h:s.ok=true):s.vs.Nodup:=by
 rw[(Sch.ok_iff.1 h).2];exact (Ty.rvars_nodup s.t [] tz4).filter _
end
mutual
def Ty.mark (p:Int->Bool):Ty->Ty
 | .mk k n ps=>if k=1/\p n=true then .mk (-1) n [] else .mk k n (Ty.markL p ps)
def Ty.markL (p:Int->Bool):List Ty->List Ty
 | []=>[]
 | t::ts=>Ty.mark p t::Ty.markL p ts
end
theorem Ty.markL_eq (p:Int->Bool):∀ps,Ty.markL p ps=ps.map (Ty.mark p)
 | []=>by simp[Ty.markL]
 | t::ts=>by simp[Ty.markL,Ty.markL_eq p ts]
theorem Ty.mark_yes {p:Int->Bool} {t:Ty} (h:t.k=1) (hp:p t.n=true):t.mark p=.mk (-1) t.n []:=by
 obtain ⟨k,n,ps⟩:=t;rw[Ty.mark,if_pos ⟨h,hp⟩];rfl
theorem Ty.mark_no {p:Int->Bool} {t:Ty} (h:¬(t.k=1/\p t.n=true)):t.mark p=.mk t.k t.n (t.ps.map (Ty.mark p)):=by
 obtain ⟨k,n,ps⟩:=t;have h:¬(k=1/\p n=true):=h;rw[Ty.mark,if_neg h,Ty.markL_eq];rfl
mutual
/-- does a type come of a general one? what its variables are then -/
def Ty.cov:Ty->Ty->List (Int×Ty)->Bool×List (Int×Ty)
 | .mk k n ps,t,m=>if k=1 then ((match zau m n with | none=>true | some x=>x.same t),zgj m n t) else if k=t.k/\n=t.n/\ps.length=t.ps.length then Ty.covL ps t.ps m else (false,m)
def Ty.covL:List Ty->List Ty->List (Int×Ty)->Bool×List (Int×Ty)
 | p::ps,q::qs,m=>if (Ty.cov p q m).1 then Ty.covL ps qs (Ty.cov p q m).2 else (false,(Ty.cov p q m).2)
 | [],_,m=>(true,m)
 | _::_,[],m=>(true,m)
end
theorem Ty.cov_var {g t:Ty} {m:List (Int×Ty)} (h:g.k=1):g.cov t m=((match zau m g.n with | none=>true | some x=>x.same t),zgj m g.n t):=by
 obtain ⟨k,n,ps⟩:=g;have h:k=1:=h;rw[Ty.cov,if_pos h];rfl
theorem Ty.cov_no {g t:Ty} {m:List (Int×Ty)} (h:¬g.k=1) (h2:¬(g.k=t.k/\g.n=t.n/\g.ps.length=t.ps.length)):g.cov t m=(false,m):=by
 obtain ⟨k,n,ps⟩:=g;have h:¬k=1:=h;have h2:¬(k=t.k/\n=t.n/\ps.length=t.ps.length):=h2;rw[Ty.cov,if_neg h,if_neg h2]
theorem Ty.cov_more {g t:Ty} {m:List (Int×Ty)} (h:¬g.k=1) (h2:g.k=t.k/\g.n=t.n/\g.ps.length=t.ps.length):g.cov t m=Ty.covL g.ps t.ps m:=by
 obtain ⟨k,n,ps⟩:=g;have h:¬k=1:=h;have h2:k=t.k/\n=t.n/\ps.length=t.ps.length:=h2;rw[Ty.cov,if_neg h,if_pos h2];rfl
def zbG (vs names:List Int):List Bd:=(vs.zip names).map fun p=>⟨p.1,vTy p.2⟩
theorem callB_v {vs names:List Int} (h:vs.length=names.length):(zbG vs names).map Bd.v=vs:=by
 unfold zbG;rw[List.map_map];exact List.map_fst_zip tz1
end Go.Proofs.YtkokfdmggdhfmaaGreatDoor
