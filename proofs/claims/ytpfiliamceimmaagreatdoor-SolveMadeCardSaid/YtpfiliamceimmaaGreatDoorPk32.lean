/- packed, part 32 of 47. Conditions: none. -/
import Derived.Test.YtpfiliamceimmaaGreatDoorPk31
set_option linter.unusedVariables false
set_option linter.unusedSimpArgs false
namespace Go.Proofs.YtpfiliamceimmaaGreatDoor
open Go Go.RowKit
set_option maxRecDepth 100000
set_option maxHeartbeats 1000000
attribute [local irreducible] aops zaz
theorem Ty.ind {C:Ty->Prop} (h:∀T,(∀p∈T.ps,C p)->C T):∀T,C T:=by
 have key:∀n,∀T:Ty,SizeOf.sizeOf T<=n->C T:=by
  intro n
  induction n with
  | zero=>intro T hT;cases T;simp at hT
  | succ n ih =>
   intro T hT;refine h T (fun p hp=>ih p ?_)
   cases T with
   | mk k m ps =>
    have:=List.sizeOf_lt_of_mem (show p∈ps from hp);(simp at hT);omega
 exact fun T=>key _ T (zQ _)
mutual
def Ty.same:Ty->Ty->Bool
 | .mk k n ps,.mk k' n' ps'=>k==k'&&n==n'&&Ty.sameL ps ps'
def Ty.sameL:List Ty->List Ty->Bool
 | [],[]=>true
 | p::ps,q::qs=>Ty.same p q&&Ty.sameL ps qs
 | _,_=>false
end
theorem Ty.same_eq (a b:Ty):a.same b=(a.k==b.k&&a.n==b.n&&Ty.sameL a.ps b.ps):=by cases a;cases b;simp[Ty.same,Ty.k,Ty.n,Ty.ps]
end Go.Proofs.YtpfiliamceimmaaGreatDoor
namespace Go.Proofs.YtpfiliamceimmaaGreatDoor
open Go Go.RowKit
set_option maxRecDepth 100000
set_option maxHeartbeats 4000000
attribute [local irreducible] aops zaz
def okN (k n:Int) (len:Nat):Bool :=
 decide ((k=1/\0<=n/\n<1073741824/\len=0)\/(n=0/\(((k=2\/k=3)/\len=0)\/(k=4/\len=2)\/(k=5/\2<=len/\len<=8))))
mutual
def Ty.right:Ty->Bool
 | .mk k n ps=>okN k n ps.length&&Ty.rightL ps
def Ty.rightL:List Ty->Bool
 | []=>true
 | p::ps=>Ty.right p&&Ty.rightL ps
end
theorem Ty.rightL_eq:∀ps,Ty.rightL ps=ps.all Ty.right
 | []=>by simp[Ty.rightL]
 | p::ps=>by simp[Ty.rightL,Ty.rightL_eq ps]
theorem Ty.right_eq (t:Ty):t.right=(okN t.k t.n t.ps.length&&t.ps.all Ty.right):=by cases t;simp[Ty.right,Ty.rightL_eq,Ty.k,Ty.n,Ty.ps]
theorem zbi {α:Type} {f:α->Bool} {ps:List α} (h:∀(i:Nat) (p:α),i<ps.length->ps[i]?=some p->f p=true):ps.all f=true:=by
 rw[zN];intro p hp;obtain ⟨i,hi,e⟩:=zU.1 hp;exact h i p hi (by rw[za hi,e])
theorem za5 {α:Type} {f:α->Bool} {ps:List α} {i:Nat} {p:α} (hp:ps[i]?=some p) (h:f p=false):ps.all f=false:=by
 rw[<- Bool.not_eq_true,zN];intro hh;have:=hh p (zc hp);rw[h] at this;cases this
theorem zaI {p:Prop} (h:p:=by exact Weak.mk (by simp only[go_sem,Le.refl,Le.any,zp,zi]) (fun _ _ h=>h) rfl rfl):p:=h
theorem zb1:∀(T:Ty),APure Tryz.prog 31 [.agg T.cells] (.v (.bool T.right)):=by
  refine Ty.ind fun T ih=>?_;refine APure.mkL (.cons T.dataAgg .nil) (.v _) ?_;refine aIn Tryz.func31 fun hm=>?_;simp only[Tryz.ntmps31,Tryz.results31,go_sem,seval];have hm1:=hm.wide (t:=T) tz4;refine sqD ?_;refine sqR fun _ u=>?_;refine chS 2 ?_;simp only[↓bO,go_sem,seval];apply u;refine zY fun _ u=>?_;apply zaa;refine za2 (mB 89 266) ([(8,.v (.bool (decide (T.k=1/\(T.n<0\/1073741824<=T.n\/0<T.ps.length)))))]) ([]) ?_ ?_
  ·
   apply z6;(iterate 2 (refine chS 2 ?_));refine zaf 12 rfl (fun hc12=>?_) (fun hc12=>?_)
   ·
    (iterate 2 (refine chS 2 ?_));refine zaf 16 rfl (fun hc16=>?_) (fun hc16=>?_)
    ·
     (iterate 4 (refine chS 2 ?_));simp only[↓bO,go_sem,seval];(try simp only[go_sem,seval]);refine Weak.mk ?_ (fun _ _ h=>h) rfl rfl;simp only[go_sem,Le.refl,Le.any];all_goals (refine Le.of_eq (congrArg (fun b=>AV.v (.bool b)) ?_);rw[zF];simp at *;omega)
    (iterate 2 (refine chS 2 ?_));refine chS 1 ?_;simp only[go_sem];refine zaf 21 rfl (fun hc21=>?_) (fun hc21=>?_)
    ·
     (iterate 2 (refine chS 2 ?_));simp only[↓bO,go_sem,seval];(try simp only[go_sem,seval]);refine Weak.mk ?_ (fun _ _ h=>h) rfl rfl;simp only[go_sem,Le.refl,Le.any];all_goals (refine Le.of_eq (congrArg (fun b=>AV.v (.bool b)) ?_);rw[zF];simp at *;omega)
    (iterate 2 (refine chS 2 ?_));simp only[↓bO,go_sem,seval];(try simp only[go_sem,seval]);refine Weak.mk ?_ (fun _ _ h=>h) rfl rfl;simp only[go_sem,Le.refl,Le.any];all_goals (refine Le.of_eq (congrArg (fun b=>AV.v (.bool b)) ?_);rw[zF];simp at *;omega)
   refine chS 2 ?_;refine chS 3 ?_;refine chS 2 ?_;refine chS 3 ?_;refine chS 2 ?_;simp only[↓bO,go_sem,seval];(try simp only[go_sem,seval]);refine Weak.mk ?_ (fun _ _ h=>h) rfl rfl;simp only[go_sem,Le.refl,Le.any];all_goals (refine Le.of_eq (congrArg (fun b=>AV.v (.bool b)) ?_);rw[zF];simp at *;omega)
  simp only[go_sem,seval];apply z7 rfl <;> intro hb8
  ·
   refine sqD ?_;apply z8;(try simp only[go_sem]);refine Le.of_eq ?_;rw[Ty.right_eq];(all_goals try simp only[zd,ze] at hb8);(all_goals try simp only[zd,ze] at hb26);(all_goals try simp only[zd,ze] at hb35);(all_goals try simp only[zd,ze] at hb48);(all_goals try simp only[zd,ze] at hb56);(all_goals try simp only[zd,ze] at hb68);first | (have e1:okN T.k T.n T.ps.length=false:=(by simp only[okN,ze];omega);rw[e1];rfl) | (rw[za5 hp (by simpa using hb88)];simp;done) | (have e1:okN T.k T.n T.ps.length=true:=(by simp only[okN,zd];omega);rw[e1,zbi (f:=Ty.right) (fun i p hi h1=>hs.2 i p tz1 h1)];rfl)
  refine za2 (mB 89 67108874) ([(26,.v (.bool (decide (T.k≠1/\T.n≠0))))]) ([]) ?_ ?_
  ·
   apply z6;(iterate 2 (refine chS 2 ?_));refine zaf 30 rfl (fun hc30=>?_) (fun hc30=>?_)
   ·
    (iterate 2 (refine chS 2 ?_));simp only[↓bO,go_sem,seval];(try simp only[go_sem,seval]);refine Weak.mk ?_ (fun _ _ h=>h) rfl rfl;simp only[go_sem,Le.refl,Le.any];all_goals (refine Le.of_eq (congrArg (fun b=>AV.v (.bool b)) ?_);rw[zF];simp at *;omega)
   (iterate 2 (refine chS 2 ?_));simp only[↓bO,go_sem,seval];(try simp only[go_sem,seval]);refine Weak.mk ?_ (fun _ _ h=>h) rfl rfl;simp only[go_sem,Le.refl,Le.any];all_goals (refine Le.of_eq (congrArg (fun b=>AV.v (.bool b)) ?_);rw[zF];simp at *;omega)
  simp only[go_sem,seval];apply z7 rfl <;> intro hb26
  ·
   refine sqD ?_;apply z8;(try simp only[go_sem]);refine Le.of_eq ?_;rw[Ty.right_eq];(all_goals try simp only[zd,ze] at hb8);(all_goals try simp only[zd,ze] at hb26);(all_goals try simp only[zd,ze] at hb35);(all_goals try simp only[zd,ze] at hb48);(all_goals try simp only[zd,ze] at hb56);(all_goals try simp only[zd,ze] at hb68);first | (have e1:okN T.k T.n T.ps.length=false:=(by simp only[okN,ze];omega);rw[e1];rfl) | (rw[za5 hp (by simpa using hb88)];simp;done) | (have e1:okN T.k T.n T.ps.length=true:=(by simp only[okN,zd];omega);rw[e1,zbi (f:=Ty.right) (fun i p hi h1=>hs.2 i p tz1 h1)];rfl)
  refine za2 (mB 89 34359738378) ([(35,.v (.bool (decide ((T.k=2\/T.k=3)/\0<T.ps.length))))]) ([]) ?_ ?_
  ·
   apply z6;(iterate 2 (refine chS 2 ?_));refine zaf 39 rfl (fun hc39=>?_) (fun hc39=>?_)
   ·
    (iterate 4 (refine chS 2 ?_));simp only[↓bO,go_sem,seval];(try simp only[go_sem,seval]);refine Weak.mk ?_ (fun _ _ h=>h) rfl rfl;simp only[go_sem,Le.refl,Le.any];all_goals (refine Le.of_eq (congrArg (fun b=>AV.v (.bool b)) ?_);rw[zF];simp at *;omega)
   (iterate 2 (refine chS 2 ?_));refine chS 1 ?_;simp only[go_sem];refine zaf 44 rfl (fun hc44=>?_) (fun hc44=>?_)
   ·
    refine chS 2 ?_;simp only[↓bO,go_sem,seval];(try simp only[go_sem,seval]);refine Weak.mk ?_ (fun _ _ h=>h) rfl rfl;simp only[go_sem,Le.refl,Le.any];all_goals (refine Le.of_eq (congrArg (fun b=>AV.v (.bool b)) ?_);rw[zF];simp at *;omega)
   refine chS 2 ?_;simp only[↓bO,go_sem,seval];(try simp only[go_sem,seval]);refine Weak.mk ?_ (fun _ _ h=>h) rfl rfl;simp only[go_sem,Le.refl,Le.any];all_goals (refine Le.of_eq (congrArg (fun b=>AV.v (.bool b)) ?_);rw[zF];simp at *;omega)
  simp only[go_sem,seval];apply z7 rfl <;> intro hb35
  ·
   refine sqD ?_;apply z8;(try simp only[go_sem]);refine Le.of_eq ?_;rw[Ty.right_eq];(all_goals try simp only[zd,ze] at hb8);(all_goals try simp only[zd,ze] at hb26);(all_goals try simp only[zd,ze] at hb35);(all_goals try simp only[zd,ze] at hb48);(all_goals try simp only[zd,ze] at hb56);(all_goals try simp only[zd,ze] at hb68);first | (have e1:okN T.k T.n T.ps.length=false:=(by simp only[okN,ze];omega);rw[e1];rfl) | (rw[za5 hp (by simpa using hb88)];simp;done) | (have e1:okN T.k T.n T.ps.length=true:=(by simp only[okN,zd];omega);rw[e1,zbi (f:=Ty.right) (fun i p hi h1=>hs.2 i p tz1 h1)];rfl)
  refine za2 (mB 89 281474976710666) ([(48,.v (.bool (decide (T.k=4/\T.ps.length≠2))))]) ([]) ?_ ?_
  ·
   apply z6;(iterate 2 (refine chS 2 ?_));refine zaf 52 rfl (fun hc52=>?_) (fun hc52=>?_)
   ·
    refine chS 2 ?_;simp only[↓bO,go_sem,seval];(try simp only[go_sem,seval]);refine Weak.mk ?_ (fun _ _ h=>h) rfl rfl;simp only[go_sem,Le.refl,Le.any];all_goals (refine Le.of_eq (congrArg (fun b=>AV.v (.bool b)) ?_);rw[zF];simp at *;omega)
   refine chS 2 ?_;simp only[↓bO,go_sem,seval];(try simp only[go_sem,seval]);refine Weak.mk ?_ (fun _ _ h=>h) rfl rfl;simp only[go_sem,Le.refl,Le.any];all_goals (refine Le.of_eq (congrArg (fun b=>AV.v (.bool b)) ?_);rw[zF];simp at *;omega)
  simp only[go_sem,seval];apply z7 rfl <;> intro hb48
  ·
   refine sqD ?_;apply z8;(try simp only[go_sem]);refine Le.of_eq ?_;rw[Ty.right_eq];(all_goals try simp only[zd,ze] at hb8);(all_goals try simp only[zd,ze] at hb26);(all_goals try simp only[zd,ze] at hb35);(all_goals try simp only[zd,ze] at hb48);(all_goals try simp only[zd,ze] at hb56);(all_goals try simp only[zd,ze] at hb68);first | (have e1:okN T.k T.n T.ps.length=false:=(by simp only[okN,ze];omega);rw[e1];rfl) | (rw[za5 hp (by simpa using hb88)];simp;done) | (have e1:okN T.k T.n T.ps.length=true:=(by simp only[okN,zd];omega);rw[e1,zbi (f:=Ty.right) (fun i p hi h1=>hs.2 i p tz1 h1)];rfl)
  refine za2 (mB 89 72057594037927946) ([(56,.v (.bool (decide (T.k=5/\(T.ps.length<2\/8<T.ps.length)))))]) ([]) ?_ ?_
  ·
   apply z6;(iterate 2 (refine chS 2 ?_));refine zaf 60 rfl (fun hc60=>?_) (fun hc60=>?_)
   ·
    refine chS 2 ?_;refine chS 1 ?_;simp only[go_sem];refine zaf 63 rfl (fun hc63=>?_) (fun hc63=>?_)
    ·
     (iterate 2 (refine chS 2 ?_));simp only[↓bO,go_sem,seval];(try simp only[go_sem,seval]);refine Weak.mk ?_ (fun _ _ h=>h) rfl rfl;simp only[go_sem,Le.refl,Le.any];all_goals (refine Le.of_eq (congrArg (fun b=>AV.v (.bool b)) ?_);rw[zF];simp at *;omega)
    (iterate 2 (refine chS 2 ?_));simp only[↓bO,go_sem,seval];(try simp only[go_sem,seval]);refine Weak.mk ?_ (fun _ _ h=>h) rfl rfl;simp only[go_sem,Le.refl,Le.any];all_goals (refine Le.of_eq (congrArg (fun b=>AV.v (.bool b)) ?_);rw[zF];simp at *;omega)
   (iterate 3 (refine chS 2 ?_));simp only[↓bO,go_sem,seval];(try simp only[go_sem,seval]);refine Weak.mk ?_ (fun _ _ h=>h) rfl rfl;simp only[go_sem,Le.refl,Le.any];all_goals (refine Le.of_eq (congrArg (fun b=>AV.v (.bool b)) ?_);rw[zF];simp at *;omega)
  simp only[go_sem,seval];apply z7 rfl <;> intro hb56
  ·
   refine sqD ?_;apply z8;(try simp only[go_sem]);refine Le.of_eq ?_;rw[Ty.right_eq];(all_goals try simp only[zd,ze] at hb8);(all_goals try simp only[zd,ze] at hb26);(all_goals try simp only[zd,ze] at hb35);(all_goals try simp only[zd,ze] at hb48);(all_goals try simp only[zd,ze] at hb56);(all_goals try simp only[zd,ze] at hb68);first | (have e1:okN T.k T.n T.ps.length=false:=(by simp only[okN,ze];omega);rw[e1];rfl) | (rw[za5 hp (by simpa using hb88)];simp;done) | (have e1:okN T.k T.n T.ps.length=true:=(by simp only[okN,zd];omega);rw[e1,zbi (f:=Ty.right) (fun i p hi h1=>hs.2 i p tz1 h1)];rfl)
  refine za2 (mB 89 295147905179352825866) ([(68,.v (.bool (decide (T.k<1\/5<T.k))))]) ([]) ?_ ?_
  ·
   apply z6;(iterate 2 (refine chS 2 ?_));refine zaf 72 rfl (fun hc72=>?_) (fun hc72=>?_)
   ·
    (iterate 2 (refine chS 2 ?_));simp only[↓bO,go_sem,seval];(try simp only[go_sem,seval]);refine Weak.mk ?_ (fun _ _ h=>h) rfl rfl;simp only[go_sem,Le.refl,Le.any];all_goals (refine Le.of_eq (congrArg (fun b=>AV.v (.bool b)) ?_);rw[zF];simp at *;omega)
   (iterate 2 (refine chS 2 ?_));simp only[↓bO,go_sem,seval];(try simp only[go_sem,seval]);refine Weak.mk ?_ (fun _ _ h=>h) rfl rfl;simp only[go_sem,Le.refl,Le.any];all_goals (refine Le.of_eq (congrArg (fun b=>AV.v (.bool b)) ?_);rw[zF];simp at *;omega)
  simp only[go_sem,seval];apply z7 rfl <;> intro hb68
  ·
   refine sqD ?_;apply z8;(try simp only[go_sem]);refine Le.of_eq ?_;rw[Ty.right_eq];(all_goals try simp only[zd,ze] at hb8);(all_goals try simp only[zd,ze] at hb26);(all_goals try simp only[zd,ze] at hb35);(all_goals try simp only[zd,ze] at hb48);(all_goals try simp only[zd,ze] at hb56);(all_goals try simp only[zd,ze] at hb68);first | (have e1:okN T.k T.n T.ps.length=false:=(by simp only[okN,ze];omega);rw[e1];rfl) | (rw[za5 hp (by simpa using hb88)];simp;done) | (have e1:okN T.k T.n T.ps.length=true:=(by simp only[okN,zd];omega);rw[e1,zbi (f:=Ty.right) (fun i p hi h1=>hs.2 i p tz1 h1)];rfl)
  apply zab;apply u;refine zY fun _ u=>?_;refine sqD ?_;apply zaa;refine zah (σ:=Nat) (mB 89 26) (fun s=>s<=T.ps.length/\∀(i:Nat) (p:Ty),i<s->T.ps[i]?=some p->p.right=true) (fun s=>[(4,.v (.int .i64 (s:Int)))]) (fun s=>[]) (fun s=>T.ps.length-s) 0 (⟨by omega,fun i p hi=>by omega⟩) ?_ (fun s hs=>?_)
  ·
   simp only[go_sem,seval];exact zaI
  simp only[go_sem,seval];refine zY fun _ w=>?_;refine sqR fun _ z=>?_;refine chS 2 ?_;simp only[↓bO,go_sem,seval];apply z;apply z7 rfl <;> intro hb79
  ·
   (have hk:s<T.ps.length:=by simpa using hb79);obtain ⟨p,hp⟩:∃p,T.ps[s]?=some p:=⟨_,za hk⟩;have hw:IntKind.i64.wrap ((s:Int)+1)=(s:Int)+1:=zak tz1 (by have:=hm1.len;simp only[maxLen] at this;omega);apply zab;apply w;refine zY fun _ w=>?_;apply zaa;refine sqR fun _ z=>?_;(iterate 2 (refine chS 2 ?_ (by intro _ q;simp only[↓bO,go_sem,seval,hk,gM hp];exact q)));refine chS 1 ?_;refine zZ 1 fun _ y=>?_;simp only[↓bO,go_sem,seval];refine APure.call (ih p (zc hp)) ?_;apply y;clear y;simp only[↓bO,go_sem,seval];apply z;apply z7 rfl <;> intro hb88
   ·
    refine sqD ?_;apply z8;(try simp only[go_sem]);refine Le.of_eq ?_;rw[Ty.right_eq];(all_goals try simp only[zd,ze] at hb8);(all_goals try simp only[zd,ze] at hb26);(all_goals try simp only[zd,ze] at hb35);(all_goals try simp only[zd,ze] at hb48);(all_goals try simp only[zd,ze] at hb56);(all_goals try simp only[zd,ze] at hb68);first | (have e1:okN T.k T.n T.ps.length=false:=(by simp only[okN,ze];omega);rw[e1];rfl) | (rw[za5 hp (by simpa using hb88)];simp;done) | (have e1:okN T.k T.n T.ps.length=true:=(by simp only[okN,zd];omega);rw[e1,zbi (f:=Ty.right) (fun i p hi h1=>hs.2 i p tz1 h1)];rfl)
   apply zab;apply w;apply z6;refine chS 2 ?_ (by intro _ q;simp only[↓bO,go_sem,seval,hw];exact q);simp only[↓bO,go_sem,seval];refine ⟨(s+1),⟨by omega,fun i p' hi h1=>(by rcases zB i s with h3 | h3 <;> first | exact hs.2 i p' h3 h1 | (obtain rfl:i=s:=tz1;rw[hp] at h1;cases h1;simpa using hb88))⟩,by omega,?_⟩;simp only[zar,zas,zag,zal,mB,seval,zj,zi];exact zaI
  (have hk:s=T.ps.length:=by have:=hs.1;simp at hb79;omega);apply zaj;simp only[zao,zai,zae,bA,Nat.reduceEqDiff,↓reduceIte];apply u;refine sqD ?_;apply z8;(try simp only[go_sem]);refine Le.of_eq ?_;rw[Ty.right_eq];(all_goals try simp only[zd,ze] at hb8);(all_goals try simp only[zd,ze] at hb26);(all_goals try simp only[zd,ze] at hb35);(all_goals try simp only[zd,ze] at hb48);(all_goals try simp only[zd,ze] at hb56);(all_goals try simp only[zd,ze] at hb68);first | (have e1:okN T.k T.n T.ps.length=false:=(by simp only[okN,ze];omega);rw[e1];rfl) | (rw[za5 hp (by simpa using hb88)];simp;done) | (have e1:okN T.k T.n T.ps.length=true:=(by simp only[okN,zd];omega);rw[e1,zbi (f:=Ty.right) (fun i p hi h1=>hs.2 i p tz1 h1)];rfl)
theorem zkM (n:Int):APure Tryz.prog 136 [.v (.int .i64 n)] (.v (.bool (decide (0<=n/\n<1073741824)))):=by
  refine APure.mkL (.cons (.v _) .nil) (.v _) ?_;refine aIn Tryz.func136 fun hm=>?_;simp only[Tryz.ntmps136,Tryz.results136,go_sem,seval];refine sqD ?_;refine sqR fun _ q=>?_;refine chS 3 ?_;simp only[go_sem];refine zaf 5 rfl (fun hc5=>?_) (fun hc5=>?_)
  ·
   simp only[go_sem];simp only[↓bO,go_sem,seval];apply q;apply z8;(try simp only[go_sem]);refine Le.of_eq (congrArg (fun b=>AV.v (.bool b)) ?_);simp at *;omega
  simp only[go_sem];simp only[↓bO,go_sem,seval];apply q;apply z8;(try simp only[go_sem]);refine Le.of_eq (congrArg (fun b=>AV.v (.bool b)) ?_);simp at *;omega
theorem zlz (T:Ty):APure Tryz.prog 105 [.agg T.cells] (.v (.bool (okN T.k T.n T.ps.length))):=by
  refine APure.mkL (.cons T.dataAgg .nil) (.v _) ?_;refine aIn Tryz.func105 fun hm=>?_;simp only[Tryz.ntmps105,Tryz.results105,go_sem,seval];refine sqD ?_;refine sqR fun _ y=>?_;refine chS 3 ?_;simp only[↓bO,go_sem,seval];apply y;refine zY fun _ y=>?_;refine sqD ?_;apply zaa;refine sqD ?_;apply z7 rfl <;> intro hb9
  ·
   refine sqR fun _ u=>?_;refine chS 2 ?_;refine zZ 1 fun _ q=>?_;simp only[↓bO,go_sem,seval];refine APure.call (zkM T.n) ?_;apply q;clear q;refine chS 1 ?_;simp only[go_sem];refine zaf 14 rfl (fun hc14=>?_) (fun hc14=>?_)
   ·
    refine chS 3 ?_;simp only[↓bO,go_sem,seval];apply u;apply z8;(try simp only[go_sem]);refine Le.of_eq (congrArg (fun b=>AV.v (.bool b)) ?_);rw[zF];simp only[okN,zd,beq_iff_eq,zJ,beq_eq_false_iff_ne,ne_eq,ze,false_iff,true_iff,and_true,true_and] at *;try omega
   refine chS 3 ?_;simp only[↓bO,go_sem,seval];apply u;apply z8;(try simp only[go_sem]);refine Le.of_eq (congrArg (fun b=>AV.v (.bool b)) ?_);rw[zF];simp only[okN,zd,beq_iff_eq,zJ,beq_eq_false_iff_ne,ne_eq,ze,false_iff,true_iff,and_true,true_and] at *;try omega
  refine zY fun _ u=>?_;refine sqD ?_;apply z7 rfl <;> intro hb18
  ·
   apply zab;apply u;refine z7 (b:=true) (by first | exact rfl | exact congrArg (fun b=>AV.v (.bool b)) hb18) (fun _=>?_) (fun h=>(by cases h));refine sqR fun _ u=>?_;refine chS 3 ?_;refine chS 1 ?_;simp only[go_sem];refine zaf 24 rfl (fun hc24=>?_) (fun hc24=>?_)
   ·
    refine chS 3 ?_;simp only[↓bO,go_sem,seval];apply u;apply z8;(try simp only[go_sem]);refine Le.of_eq (congrArg (fun b=>AV.v (.bool b)) ?_);rw[zF];simp only[okN,zd,beq_iff_eq,zJ,beq_eq_false_iff_ne,ne_eq,ze,false_iff,true_iff,and_true,true_and] at *;try omega
   refine chS 3 ?_;simp only[↓bO,go_sem,seval];apply u;apply z8;(try simp only[go_sem]);refine Le.of_eq (congrArg (fun b=>AV.v (.bool b)) ?_);rw[zF];simp only[okN,zd,beq_iff_eq,zJ,beq_eq_false_iff_ne,ne_eq,ze,false_iff,true_iff,and_true,true_and] at *;try omega
  apply z6;simp only[↓bO,go_sem,seval];apply u;apply z7 rfl <;> intro hb18
  ·
   refine sqR fun _ u=>?_;refine chS 3 ?_;refine chS 1 ?_;simp only[go_sem];refine zaf 24 rfl (fun hc24=>?_) (fun hc24=>?_)
   ·
    refine chS 3 ?_;simp only[↓bO,go_sem,seval];apply u;apply z8;(try simp only[go_sem]);refine Le.of_eq (congrArg (fun b=>AV.v (.bool b)) ?_);rw[zF];simp only[okN,zd,beq_iff_eq,zJ,beq_eq_false_iff_ne,ne_eq,ze,false_iff,true_iff,and_true,true_and] at *;try omega
   refine chS 3 ?_;simp only[↓bO,go_sem,seval];apply u;apply z8;(try simp only[go_sem]);refine Le.of_eq (congrArg (fun b=>AV.v (.bool b)) ?_);rw[zF];simp only[okN,zd,beq_iff_eq,zJ,beq_eq_false_iff_ne,ne_eq,ze,false_iff,true_iff,and_true,true_and] at *;try omega
  refine sqD ?_;apply z7 rfl <;> intro hb28
  ·
   refine sqR fun _ u=>?_;refine chS 3 ?_;refine chS 1 ?_;simp only[go_sem];refine zaf 33 rfl (fun hc33=>?_) (fun hc33=>?_)
   ·
    refine chS 3 ?_;simp only[↓bO,go_sem,seval];apply u;apply z8;(try simp only[go_sem]);refine Le.of_eq (congrArg (fun b=>AV.v (.bool b)) ?_);rw[zF];simp only[okN,zd,beq_iff_eq,zJ,beq_eq_false_iff_ne,ne_eq,ze,false_iff,true_iff,and_true,true_and] at *;try omega
   refine chS 3 ?_;simp only[↓bO,go_sem,seval];apply u;apply z8;(try simp only[go_sem]);refine Le.of_eq (congrArg (fun b=>AV.v (.bool b)) ?_);rw[zF];simp only[okN,zd,beq_iff_eq,zJ,beq_eq_false_iff_ne,ne_eq,ze,false_iff,true_iff,and_true,true_and] at *;try omega
  refine sqD ?_;apply z7 rfl <;> intro hb37
  ·
   refine sqR fun _ u=>?_;refine chS 3 ?_;refine chS 1 ?_;simp only[go_sem];refine zaf 42 rfl (fun hc42=>?_) (fun hc42=>?_)
   ·
    refine chS 3 ?_;refine chS 1 ?_;simp only[go_sem];refine zaf 46 rfl (fun hc46=>?_) (fun hc46=>?_)
    ·
     refine chS 3 ?_;simp only[↓bO,go_sem,seval];apply u;apply z8;(try simp only[go_sem]);refine Le.of_eq (congrArg (fun b=>AV.v (.bool b)) ?_);rw[zF];simp only[okN,zd,beq_iff_eq,zJ,beq_eq_false_iff_ne,ne_eq,ze,false_iff,true_iff,and_true,true_and] at *;try omega
    refine chS 3 ?_;simp only[↓bO,go_sem,seval];apply u;apply z8;(try simp only[go_sem]);refine Le.of_eq (congrArg (fun b=>AV.v (.bool b)) ?_);rw[zF];simp only[okN,zd,beq_iff_eq,zJ,beq_eq_false_iff_ne,ne_eq,ze,false_iff,true_iff,and_true,true_and] at *;try omega
   (iterate 2 (refine chS 3 ?_));simp only[↓bO,go_sem,seval];apply u;apply z8;(try simp only[go_sem]);refine Le.of_eq (congrArg (fun b=>AV.v (.bool b)) ?_);rw[zF];simp only[okN,zd,beq_iff_eq,zJ,beq_eq_false_iff_ne,ne_eq,ze,false_iff,true_iff,and_true,true_and] at *;try omega
  apply zab;apply y;refine sqD ?_;apply z8;(try simp only[go_sem]);refine Le.of_eq (congrArg (fun b=>AV.v (.bool b)) ?_);rw[zF];simp only[okN,zd,beq_iff_eq,zJ,beq_eq_false_iff_ne,ne_eq,ze,false_iff,true_iff,and_true,true_and] at *;try omega
theorem zc9 {α:Type} {f:α->Bool} {ps:List α} {i:Nat} {p:α} (hp:ps[i]?=some p) (h:f p=true):ps.any f=true:=List.any_eq_true.2 ⟨p,zc hp,h⟩
theorem zcR {α:Type} {f:α->Bool} {ps:List α} (h:∀(i:Nat) (p:α),i<ps.length->ps[i]?=some p->f p=false):ps.any f=false:=by
 rw[<- Bool.not_eq_true,List.any_eq_true];rintro ⟨p,hp,hf⟩;obtain ⟨i,hi,e⟩:=zU.1 hp;rw[h i p hi (by rw[za hi,e])] at hf;cases hf
def zbo {α:Type} (g:α->Bool) (l:List α):Int:=if l.any g then (l.findIdx g:Int) else -1
theorem zaK {α:Type} {g:α->Bool} {l:List α} {i:Nat} {p:α} (hp:l[i]?=some p) (h:g p=true) (hb:∀(j:Nat) (q:α),j<i->l[j]?=some q->g q=false):zbo g l=(i:Int):=by
 have hi:i<l.length:=(zb.1 hp).1;have e:l[i]=p:=(zb.1 hp).2;rw[zbo,if_pos (zc9 hp h)];(congr 1);refine List.findIdx_eq hi |>.2 ⟨by rw[e];exact h,fun j hj=>?_⟩;exact hb j _ hj (za tz1)
theorem zaN {α:Type} {g:α->Bool} {l:List α} (hb:∀(j:Nat) (q:α),j<l.length->l[j]?=some q->g q=false):zbo g l=-1:=by
 rw[zbo,zcR hb];rfl
theorem zhi {α:Type} {g:α->Bool} {l:List α}:decide (zbo g l>=0)=l.any g:=by
 unfold zbo;split;(·rename_i h;rw[h];simp);rename_i h;simp at h;simp;exact h
theorem zeV (ps:List Ty) (g:Nat) (f:Ty->Bool) (hf:∀p∈ps,APure Tryz.prog g [.agg p.cells] (.v (.bool (f p)))):APure Tryz.prog 137 [.sl 3 (ps.map Ty.cells),.clo g []] (.v (.int .i64 (zbo f ps))):=by
  refine APure.mkL (.cons (Ty.dataSl ps) (.cons (.clo (fun _ h=>by cases h)) .nil)) (.v _) ?_;refine aIn Tryz.func137 fun hm=>?_;simp only[Tryz.ntmps137,Tryz.results137,go_sem,seval];have hm1:=hm.len (sz:=3) (xs:=ps.map Ty.cells) tz4;rw[zD] at hm1;(have hm2:∀i:Nat,i<ps.length->IntKind.i64.wrap ((i:Int)+1)=(i:Int)+1:=fun i hi=>zak tz1 (by simp only[maxLen] at hm1;omega));refine sqD ?_;refine zY fun _ y=>?_;refine sqD ?_;apply zaa;refine zah (σ:=Nat) (mB 19 387) (fun s=>s<=ps.length/\∀(i:Nat) (p:Ty),i<s->ps[i]?=some p->f p=false) (fun s=>[(8,.v (.int .i64 (s:Int)))]) (fun s=>[]) (fun s=>ps.length-s) 0 (⟨by omega,fun i p hi=>by omega⟩) ?_ (fun s hs=>?_)
  ·
   simp only[go_sem,seval];exact zaI
  simp only[go_sem,seval];refine sqD ?_;refine zY fun _ u=>?_;apply z7 rfl <;> intro hb9
  ·
   (have hk:s<ps.length:=by simpa using hb9);obtain ⟨p,hp⟩:∃p,ps[s]?=some p:=⟨_,za hk⟩;have hw:=hm2 s hk;apply zab;apply u;refine zY fun _ u=>?_;apply zaa;refine sqR fun _ w=>?_;simp only[↓bO,go_sem,seval,hk];apply w;refine sqR fun _ w=>?_;refine chS 4 ?_ (by intro _ q;simp only[↓bO,go_sem,seval,hk,gM hp];exact q);refine chS 1 ?_;simp only[↓bO,go_sem,seval];refine APure.call (hf p (zc hp)) ?_;apply w;apply z7 rfl <;> intro hb16
   ·
    refine sqD ?_;apply z8;(try simp only[go_sem]);refine Le.of_eq (congrArg (fun n=>AV.v (.int .i64 n)) ?_);first | (rw[zaK hp (by exact hb16) hs.2];done) | (rw[zaN (fun i p hi h1=>hs.2 i p tz1 h1)];done)
   apply zab;apply u;apply z6;simp only[↓bO,go_sem,seval,hw];refine ⟨(s+1),⟨by omega,fun i p' hi h1=>(by rcases zB i s with h3 | h3 <;> first | exact hs.2 i p' h3 h1 | (obtain rfl:i=s:=tz1;rw[hp] at h1;cases h1;exact hb16))⟩,by omega,?_⟩;simp only[zar,zas,zag,zal,mB,seval,zj,zi];exact zaI
  (have hk:s=ps.length:=by have:=hs.1;simp at hb9;omega);apply zaj;simp only[zao,zai,zae,bA,Nat.reduceEqDiff,↓reduceIte];apply y;refine sqD ?_;apply z8;(try simp only[go_sem]);refine Le.of_eq (congrArg (fun n=>AV.v (.int .i64 n)) ?_);first | (rw[zaK hp (by exact hb16) hs.2];done) | (rw[zaN (fun i p hi h1=>hs.2 i p tz1 h1)];done)
theorem zdH (ps:List Ty) (g:Nat) (f:Ty->Bool) (hf:∀p∈ps,APure Tryz.prog g [.agg p.cells] (.v (.bool (f p)))):APure Tryz.prog 106 [.sl 3 (ps.map Ty.cells),.clo g []] (.v (.bool (ps.any f))):=by
 refine APure.mkL (.cons (Ty.dataSl ps) (.cons (.clo (fun _ h=>by cases h)) .nil)) (.v _) ?_;refine aIn Tryz.func106 fun hm=>?_;simp only[Tryz.ntmps106,Tryz.results106,go_sem,seval];refine sqD ?_;refine sqR fun _ y=>?_;refine chS 2 ?_;refine zZ 1 fun _ q=>?_;simp only[↓bO,go_sem,seval];refine APure.call (zeV ps g f hf) ?_;apply q;clear q;simp only[↓bO,go_sem,seval,zhi];apply y;apply z8;exact Le.refl _
theorem zi9 {p:Ty} (h:APure Tryz.prog 64 [.agg p.cells] (.v (.bool p.right))):APure Tryz.prog 107 [.agg p.cells] (.v (.bool (!p.right))):=by
 refine APure.mkL (.cons p.dataAgg .nil) (.v _) ?_;refine aIn Tryz.func107 fun hm=>?_;simp only[Tryz.ntmps107,Tryz.results107,go_sem,seval];refine sqD ?_;refine sqR fun _ y=>?_;refine chS 1 ?_;refine zZ 1 fun _ q=>?_;simp only[↓bO,go_sem,seval];refine APure.call (h) ?_;apply q;clear q;simp only[↓bO,go_sem,seval];apply y;apply z8;exact Le.refl _
theorem zbK:∀(T:Ty),APure Tryz.prog 64 [.agg T.cells] (.v (.bool T.right)):=by
  refine Ty.ind fun T ih=>?_;refine APure.mkL (.cons T.dataAgg .nil) (.v _) ?_;refine aIn Tryz.func64 fun hm=>?_;simp only[Tryz.ntmps64,Tryz.results64,go_sem,seval];refine sqD ?_;refine sqR fun _ y=>?_;refine chS 1 ?_;refine zZ 1 fun _ q=>?_;simp only[↓bO,go_sem,seval];refine APure.call (zlz T) ?_;apply q;clear q;refine chS 1 ?_;simp only[go_sem];refine zaf 5 rfl (fun hc5=>?_) (fun hc5=>?_)
  ·
   refine chS 2 ?_;refine zZ 1 fun _ q=>?_;simp only[↓bO,go_sem,seval];refine APure.call (zdH T.ps 107 (fun p=>!p.right) (fun p hp=>zi9 (ih p hp))) ?_;apply q;clear q;simp only[↓bO,go_sem,seval];apply y;apply z8;(try simp only[go_sem]);refine Le.of_eq (congrArg (fun b=>AV.v (.bool b)) ?_);rw[Ty.right_eq];first | (simp only[hc5];rfl) | (simp only[hc5,Bool.true_and];simp[List.not_any_eq_all_not])
  refine chS 4 ?_;simp only[↓bO,go_sem,seval];apply y;apply z8;(try simp only[go_sem]);refine Le.of_eq (congrArg (fun b=>AV.v (.bool b)) ?_);rw[Ty.right_eq];first | (simp only[hc5];rfl) | (simp only[hc5,Bool.true_and];simp[List.not_any_eq_all_not])
mutual
/-- a type whose variables have other numbers -/
def Ty.mapV (f:Int->Int):Ty->Ty
 | .mk k n ps=>.mk k (if k=1 then f n else n) (Ty.mapVL f ps)
def Ty.mapVL (f:Int->Int):List Ty->List Ty
 | []=>[]
 | p::ps=>Ty.mapV f p::Ty.mapVL f ps
end
theorem Ty.mapVL_eq (f:Int->Int):∀ps,Ty.mapVL f ps=ps.map (Ty.mapV f)
 | []=>by simp[Ty.mapVL]
 | p::ps=>by simp[Ty.mapVL,Ty.mapVL_eq f ps]
theorem Ty.mapV_eq (f:Int->Int) (t:Ty):t.mapV f=.mk t.k (if t.k=1 then f t.n else t.n) (t.ps.map (Ty.mapV f)):=by
 cases t;rw[Ty.mapV,Ty.mapVL_eq];rfl
theorem Ty.eta (t:Ty):Ty.mk t.k t.n t.ps=t:=by cases t;rfl
theorem Ty.mapV_id:∀t:Ty,t.mapV (fun n=>n)=t:=by
 refine Ty.ind fun t ih=>?_;rw[Ty.mapV_eq];have e:t.ps.map (Ty.mapV fun n=>n)=t.ps:=(List.map_congr_left ih).trans (List.map_id t.ps);rw[e];simp[Ty.eta]
mutual
def Ty.cnt:Ty->Nat
 | .mk _ _ ps=>1+Ty.cntL ps
def Ty.cntL:List Ty->Nat
 | []=>0
 | p::ps=>Ty.cnt p+Ty.cntL ps
end
theorem Ty.cnt_eq (t:Ty):t.cnt=1+Ty.cntL t.ps:=by cases t;simp[Ty.cnt,Ty.ps]
theorem Ty.cntL_append:∀(ps qs:List Ty),Ty.cntL (ps++qs)=Ty.cntL ps+Ty.cntL qs
 | [],qs=>by simp[Ty.cntL]
 | p::ps,qs=>by simp[Ty.cntL,Ty.cntL_append ps qs];omega
theorem Ty.cntL_step {ps:List Ty} {s:Nat} {p:Ty} (hp:ps[s]?=some p):Ty.cntL (ps.take s)+p.cnt<=Ty.cntL ps:=by
 (have h1:Ty.cntL (ps.take (s+1))=Ty.cntL (ps.take s)+p.cnt:=by rw[zV,hp,Ty.cntL_append];simp[Ty.cntL]);(have h2:Ty.cntL ps=Ty.cntL (ps.take (s+1))+Ty.cntL (ps.drop (s+1)):=by rw[<- Ty.cntL_append,List.take_append_drop]);omega
theorem Ty.cntL_len:∀ps,ps.length<=Ty.cntL ps
 | []=>by simp
 | p::ps=>by
  have:=Ty.cntL_len ps;(have h2:1<=p.cnt:=by rw[Ty.cnt_eq];omega);simp[Ty.cntL];omega
theorem zaJ {α β:Type} (f:α->β) {ps:List α} {s:Nat} {p:α} (hp:ps[s]?=some p):(ps.take (s+1)).map f=(ps.take s).map f++[f p]:=by
 rw[zV,hp];simp
theorem Ty.cnt_mem {p:Ty}:∀{ps:List Ty},p∈ps->p.cnt<=Ty.cntL ps
 | q::ps,h=>by
  simp only[Ty.cntL];(rcases zI.1 h with rfl | h);(·omega);have:=Ty.cnt_mem h;omega
theorem zhO (n:Int):APure Tryz.prog 41 [.v (.int .i64 n)] (.agg (Ty.mk 1 n []).cells):=by
 refine APure.mkL (.cons (.v _) .nil) ((Ty.dataAgg _)) ?_;refine aIn Tryz.func41 fun hm=>?_;simp only[Tryz.ntmps41,Tryz.results41,go_sem,seval];(iterate 2 (refine zY fun _ q=>?_;apply z6;simp only[↓bO,go_sem,seval];apply q));apply z8;(try simp only[zao,zai,zae,zdO,zcw,zbb,bS,bA,za1,zav,zbF,bL,Nat.reduceAdd,Nat.reduceLeDiff,Nat.reduceEqDiff,↓reduceIte,zeX,tyX]);refine Le.agg ?_;rw[Ty.cells_eq];exact ⟨.refl _,.refl _,Le.slNil 3,trivial⟩
theorem tz5 {p:Prop} (h:p:=by simp only;omega):p:=h
theorem zhS {p:Prop} (h:p:=by exact Weak.mk (by simp only[go_sem,Le.refl,Le.any]) (fun _ _ h=>h) rfl rfl):p:=h
theorem zi0:∀(T:Ty) (g:Nat) (caps:List AV) (φ:Int->Int) (hd:DataL caps) (hφ:∀n:Int,APure Tryz.prog g (.v (.int .i64 n)::caps) (.v (.int .i64 (φ n)))) (hT:T.cnt<=1099511627776),APure Tryz.prog 100 [.agg T.cells,.clo g caps] (.agg (T.mapV φ).cells):=by
  refine Ty.ind fun T ih=>?_;intro g caps φ hd hφ hT;refine APure.mkL (.cons T.dataAgg (.cons (.clo hd) .nil)) ((Ty.dataAgg _)) ?_;refine aIn Tryz.func100 fun hm=>?_;simp only[Tryz.ntmps100,Tryz.results100,go_sem,seval];have hm1:=hm.wide (t:=T) tz4;have hcn:=T.cnt_eq;have hcl:=Ty.cntL_len T.ps;simp only[Ty.cells_eq T,zt,zA];refine sqD ?_;refine za2 (mB 33 22) ([]) ([(0,.cells 28 [.v (.int .i64 T.k),.v (.int .i64 (if T.k=1 then φ T.n else T.n)),.sl 3 (T.ps.map Ty.cells)])]) ?_ ?_
  ·
   refine sqD ?_;apply z7 rfl <;> intro hb10
   ·
    apply z6;refine chS 3 ?_;refine zZ 1 fun _ q=>?_;simp only[↓bO,go_sem,seval];refine APure.call ((hφ T.n)) ?_;apply q;clear q;simp only[↓bO,go_sem,seval];(try simp only[go_sem,seval]);(first | rw[if_pos (by simpa using hb10)] | rw[if_neg (by simpa using hb10)]);exact zhS
   apply zab;(try simp only[go_sem]);(try simp only[zar,zas,zag,zal,mB,seval]);(first | rw[if_pos (by simpa using hb10)] | rw[if_neg (by simpa using hb10)]);exact zhS
  simp only[zar,zas,zag,zal,mB,seval];refine sqD ?_;refine zY fun _ y=>?_;refine sqD ?_;apply zaa;refine zaC (Weak.tokSlot 5 28 3 rfl) ?_;simp only[go_sem];refine zah (σ:=Nat) (mB 33 917558) (fun s=>s<=T.ps.length) (fun s=>[(5,.osl 2 3 (((T.ps.take s).map (Ty.mapV φ)).map Ty.cells)),(19,.v (.int .i64 (s:Int)))]) (fun s=>[(2,.tok 28 3 s)]) (fun s=>T.ps.length-s) 0 tz1 ?_ (fun s hs=>?_)
  ·
   simp only[go_sem,seval,bL];exact zaI
  simp only[go_sem,seval];refine sqD ?_;refine zY fun _ u=>?_;apply z7 rfl <;> intro hb20
  ·
   (have hk:s<T.ps.length:=by simpa using hb20);obtain ⟨p,hp⟩:∃p,T.ps[s]?=some p:=⟨_,za hk⟩;have hpm:=Ty.cnt_mem (zc hp);have hw:IntKind.i64.wrap ((s:Int)+1)=(s:Int)+1:=zak tz1 tz1;(have hln:(((T.ps.take s).map (Ty.mapV φ)).map Ty.cells).length=s:=by simp;omega);(have hb1:(s+1) * 40<=140737488355328:=by omega);(have hb2:s+1<=maxLen:=by simp only[maxLen];omega);apply zab;apply u;refine zY fun _ u=>?_;apply zaa;refine sqR fun _ w=>?_;simp only[↓bO,go_sem,seval,hk,gM hp];apply w;apply z6;refine chS 3 ?_;refine zZ 1 fun _ q=>?_;simp only[↓bO,go_sem,seval];refine APure.call (ih p (zc hp) g caps φ hd hφ tz1) ?_;apply q;clear q;simp only[↓bO,go_sem,seval,↓zem,hln,hb1,hb2];apply u;apply z6;simp only[↓bO,go_sem,seval,hw];refine ⟨(s+1),tz1,by omega,?_⟩;simp only[zar,zas,zag,zal,mB,seval,zj,zi,zz,bL,zaJ (Ty.mapV φ) hp];(first | (refine Weak.drops 1 3 rfl rfl tz5 tz5 ?_ ?_ ?_) | (refine Weak.drops 0 3 rfl rfl tz5 tz5 ?_ ?_ ?_));(· simp only[go_sem,Le.refl,Le.any,zp,zi]);(· simp only[UndL,UndOs,Ob.Und,and_true,true_and,and_self,Und.v,Und.any,Und.ptr,Und.map,Nat.reduceLT,zW,Und.tys,Und.tyAgg,Und.oslTys,Und.oslTys1,Und.clo0,Und.ty,Und.data (n:=3) (Data.clo (f:=g) hd)]);simp only[UndL,UndOs,Ob.Und,and_true,true_and,and_self,Und.v,Und.any,Und.ptr,Und.map,Nat.reduceLT,zW,Und.tys,Und.tyAgg,Und.oslTys,Und.oslTys1,Und.clo0,Und.ty,Und.data (n:=3) (Data.clo (f:=g) hd)]
  (have hk:s=T.ps.length:=by simp at hb20;omega);apply zaj;simp only[zao,zai,zae,bA,Nat.reduceEqDiff,↓reduceIte];(iterate 2 (apply y;refine zY fun _ y=>?_;apply z6;simp only[↓bO,go_sem,seval]));apply y;apply z8;(try simp only[zao,zai,zae,zdO,zcw,zbb,bS,bA,za1,zav,zbF,bL,Nat.reduceAdd,Nat.reduceLeDiff,Nat.reduceEqDiff,↓reduceIte,zeX,tyX]);refine Le.agg ?_;rw[Ty.mapV_eq,Ty.cells_eq,hk,zL];exact ⟨.refl _,.refl _,Le.oslL,trivial⟩
theorem zk3 (n:Int):APure Tryz.prog 101 [.v (.int .i64 n)] (.v (.int .i64 n)):=by
 refine APure.mkL (.cons (.v _) .nil) (.v _) ?_;refine aIn Tryz.func101 fun hm=>?_;simp only[Tryz.ntmps101,Tryz.results101,go_sem,seval];(iterate 2 (refine zY fun _ q=>?_;apply z6;simp only[↓bO,go_sem,seval];apply q));apply z8;exact Le.refl _
theorem zd4 (T:Ty) (hT:T.cnt<=1099511627776):APure Tryz.prog 52 [.agg T.cells] (.agg T.cells):=by
 refine APure.mkL (.cons T.dataAgg .nil) (T.dataAgg) ?_;refine aIn Tryz.func52 fun hm=>?_;simp only[Tryz.ntmps52,Tryz.results52,go_sem,seval];simp only[Ty.cells_eq T,zt,zA];refine sqD ?_;refine sqR fun _ y=>?_;refine chS 1 ?_;refine zZ 1 fun _ q=>?_;simp only[↓bO,go_sem,seval];refine APure.call (by have h9:=zi0 T 101 [] (fun n=>n) (fun _ h=>by cases h) (fun n=>zk3 n) hT;rw[Ty.mapV_id,Ty.cells_eq T] at h9;exact h9) ?_;apply q;clear q;simp only[↓bO,go_sem,seval];apply y;apply z8;(try simp only[zao,zai,zae,zdO,zcw,zbb,bS,bA,za1,zav,zbF,bL,Nat.reduceAdd,Nat.reduceLeDiff,Nat.reduceEqDiff,↓reduceIte,zeX]);exact Le.refl _
def zfX:List Ty->Ty
 | []=>.mk 0 0 []
 | [t]=>t
 | t::ts=>.mk 4 0 [t,zfX ts]
theorem zlu {ps:List Ty} (h:ps.length=0):zfX ps=.mk 0 0 []:=by rw[List.length_eq_zero_iff.1 h];rfl
theorem zgo {ps:List Ty} {p:Ty} (h:ps.length=1) (hp:ps[0]?=some p):zfX ps=p:=by
 match ps,h,hp with
 | [t],_,hp=>simp at hp;rw[<- hp];rfl
theorem zfS {ps:List Ty} {p:Ty} (h:2<=ps.length) (hp:ps[0]?=some p):zfX ps=.mk 4 0 [p,zfX (ps.drop 1)]:=by
 match ps,h,hp with
 | t::u::ts,_,hp=>simp at hp;rw[<- hp];rfl
theorem zls:∀(n:Nat) (ps:List Ty),ps.length=n->Ty.cntL ps<=1099511627776->APure Tryz.prog 42 [.sl 3 (ps.map Ty.cells)] (.agg (zfX ps).cells):=by
  intro n
  induction n with
  | zero =>
    intro ps hn hc;refine APure.mkL (.cons (Ty.dataSl ps) .nil) (Ty.dataAgg _) ?_;(have h0:((ps.length:Int)==0)=true:=by simp;exact List.length_eq_zero_iff.1 hn);refine aIn Tryz.func42 fun hm=>?_;simp only[Tryz.ntmps42,Tryz.results42,go_sem,seval];refine sqD ?_;refine zY fun _ u=>?_;refine sqD ?_;apply zaa;refine sqR fun _ w=>?_;simp only[↓bO,go_sem,seval,h0];apply w;apply z7 rfl <;> intro hb5
    ·
     refine sqD ?_;apply z8;(try simp only[zao,zai,zae,zdO,zcw,zbb,bS,bA,za1,zav,zbF,bL,Nat.reduceAdd,Nat.reduceLeDiff,Nat.reduceEqDiff,↓reduceIte,zeX,h0]);refine Le.agg ?_;rw[zlu hn,Ty.cells_eq];exact ⟨.refl _,.refl _,Le.slNil 3,trivial⟩
    cases hb5
  | succ n ih =>
    intro ps hn hc;refine APure.mkL (.cons (Ty.dataSl ps) .nil) (Ty.dataAgg _) ?_;obtain ⟨p,hp⟩:∃p,ps[0]?=some p:=⟨_,za tz1⟩;have hpc:=Ty.cnt_mem (zc hp);(have hlt:(0:Int)<(ps.length:Int):=by omega);(have hle:(1:Int)<=(ps.length:Int):=by omega);(have hdr:(ps.map Ty.cells).drop 1=(ps.drop 1).map Ty.cells:=by rw[List.map_drop]);(have hdc:Ty.cntL (ps.drop 1)<=Ty.cntL ps:=by have h9:=Ty.cntL_append (ps.take 1) (ps.drop 1);rw[List.take_append_drop] at h9;omega);refine aIn Tryz.func42 fun hm=>?_;simp only[Tryz.ntmps42,Tryz.results42,go_sem,seval];refine sqD ?_;refine zY fun _ u=>?_;refine sqD ?_;apply zaa;refine sqD ?_;apply z7 rfl <;> intro hb5
    ·
     exact absurd hb5 (by simp only[AV.v.injEq,Value.bool.injEq,beq_iff_eq];omega)
    refine sqD ?_;apply z7 rfl <;> intro hb8
    ·
     (have h1:ps.length=1:=by simp at hb8;omega);refine sqR fun _ w=>?_;refine chS 3 ?_ (by intro _ q;simp only[↓bO,go_sem,seval,hlt,gM hp];exact q);refine zZ 1 fun _ y=>?_;simp only[↓bO,go_sem,seval];refine APure.call (zd4 p tz1) ?_;apply y;clear y;simp only[↓bO,go_sem,seval];apply w;apply z8;(try simp only[zao,zai,zae,zdO,zcw,zbb,bS,bA,za1,zav,zbF,bL,Nat.reduceAdd,Nat.reduceLeDiff,Nat.reduceEqDiff,↓reduceIte,zeX,tyX,hlt,hle,hdr,gM hp]);refine Le.agg ?_;first | (rw[zgo h1 hp];exact LeL.refl _) | (rw[zfS h1 hp,Ty.cells];exact ⟨.refl _,.refl _,Le.of_eq (by simp[Ty.cellsL]),trivial⟩)
    (have h1:2<=ps.length:=by simp at hb8;omega);apply zab;apply u;refine zY fun _ u=>?_;refine zay 9 mixed tz0 fun J0 j0=>?_;simp only[go_sem];refine zad 3 fun _ y=>?_;simp only[↓zaz,↓dOp,↓bO,go_sem,seval,hlt,gM hp];apply y;clear y;refine zad 1 fun _ y=>?_;simp only[↓zaz,↓dOp,↓bO,go_sem,seval];refine ⟨_,zd4 p tz1,?_⟩;apply y;clear y;refine zad 2 fun _ y=>?_;simp only[↓zaz,↓dOp,↓bO,go_sem,seval,hle,hdr];apply y;clear y;refine zad 1 fun _ y=>?_;simp only[↓zaz,↓dOp,↓bO,go_sem,seval];refine ⟨_,ih (ps.drop 1) tz8 tz1,?_⟩;apply y;clear y;simp only[↓zaz,↓dOp,↓bO,go_sem,seval,↓bs2_3];refine j0 _ ?_;clear j0 J0;simp only[go_sem];simp only[↓bO,go_sem,seval];apply u;apply z8;(try simp only[zao,zai,zae,zdO,zcw,zbb,bS,bA,za1,zav,zbF,bL,Nat.reduceAdd,Nat.reduceLeDiff,Nat.reduceEqDiff,↓reduceIte,zeX,tyX,hlt,hle,hdr,gM hp]);refine Le.agg ?_;first | (rw[zgo h1 hp];exact LeL.refl _) | (rw[zfS h1 hp,Ty.cells];exact ⟨.refl _,.refl _,Le.of_eq (by simp[Ty.cellsL]),trivial⟩)
mutual
def Ty.room:Ty->Int->Nat->Int
 | .mk _ _ _,_,0=>-1
 | .mk _ _ ps,n,d+1=>Ty.roomL ps (n-1) d
def Ty.roomL:List Ty->Int->Nat->Int
 | [],n,_=>n
 | p::ps,n,d=>if n<0 then n else Ty.roomL ps (Ty.room p n d) d
end
theorem Ty.room_zero (t:Ty) (n:Int):t.room n 0=-1:=by cases t;simp[Ty.room]
theorem Ty.room_succ (t:Ty) (n:Int) (d:Nat):t.room n (d+1)=Ty.roomL t.ps (n-1) d:=by cases t;simp[Ty.room,Ty.ps]
theorem Ty.roomL_neg:∀(ps:List Ty) {n:Int} {d:Nat},n<0->Ty.roomL ps n d=n
 | [],n,d,h=>by simp[Ty.roomL]
 | p::ps,n,d,h=>by simp[Ty.roomL,h]
theorem Ty.roomL_append:∀(xs bs:List Ty) (n:Int) (d:Nat),Ty.roomL (xs++bs) n d=Ty.roomL bs (Ty.roomL xs n d) d
 | [],bs,n,d=>by simp[Ty.roomL]
 | x::xs,bs,n,d=>by
  simp only[zt,Ty.roomL];split;(·rename_i h;rw[Ty.roomL_neg bs h]);exact Ty.roomL_append xs bs _ d
theorem Ty.room_le:∀(t:Ty) (n:Int) (d:Nat),0<=n->-1<=t.room n d/\t.room n d<=n-1:=by
 refine Ty.ind fun t ih=>?_
 have key:∀(ps:List Ty),(∀p∈ps,∀(n:Int) (d:Nat),0<=n->-1<=p.room n d/\p.room n d<=n-1)->∀(n:Int) (d:Nat),-1<=n->-1<=Ty.roomL ps n d/\Ty.roomL ps n d<=n:=by
  intro ps
  induction ps with
  | nil=>intro _ n d h;simp[Ty.roomL];exact h
  | cons p ps ihp =>
   intro hp n d h;simp only[Ty.roomL];split;(·omega);have h1:=hp p tz4 n d tz1;have h2:=ihp (fun q hq=>hp q (by simp[hq])) (p.room n d) d h1.1;omega
 intro n d h
 cases d with
 | zero=>rw[Ty.room_zero];omega
 | succ d =>
  rw[Ty.room_succ];have:=key t.ps ih (n-1) d tz1;omega
theorem Ty.roomL_le (ps:List Ty) (n:Int) (d:Nat) (h:-1<=n):-1<=Ty.roomL ps n d/\Ty.roomL ps n d<=n:=by
 have:=Ty.room_le (.mk 0 0 ps) (n+1) (d+1) tz1;rw[Ty.room_succ] at this;simp only[Ty.ps] at this;rw[show n+1-1=n by omega] at this;exact this
theorem Ty.roomL_step {ps:List Ty} {s:Nat} {p:Ty} (hp:ps[s]?=some p) (n:Int) (d:Nat) (h:0<=Ty.roomL (ps.take s) n d):Ty.roomL (ps.take (s+1)) n d=p.room (Ty.roomL (ps.take s) n d) d:=by
 rw[zV,hp,Ty.roomL_append];simp only[Option.toList_some,Ty.roomL];rw[if_neg tz1]
theorem Ty.roomL_stop (ps:List Ty) (s:Nat) (n:Int) (d:Nat) (h:Ty.roomL (ps.take s) n d<0):Ty.roomL ps n d=Ty.roomL (ps.take s) n d:=by
 conv=>lhs;rw[<- List.take_append_drop s ps]
 rw[Ty.roomL_append,Ty.roomL_neg _ h]
def addW (a b:Int):Int:=IntKind.i64.wrap (a+b)
mutual
def Ty.sizeW:Ty->Int
 | .mk _ _ ps=>Ty.sizeWL 1 ps
def Ty.sizeWL:Int->List Ty->Int
 | a,[]=>a
 | a,p::ps=>Ty.sizeWL (addW a (Ty.sizeW p)) ps
end
theorem Ty.sizeW_eq (t:Ty):t.sizeW=Ty.sizeWL 1 t.ps:=by cases t;simp[Ty.sizeW,Ty.ps]
theorem Ty.sizeWL_append:∀(a:Int) (ps qs:List Ty),Ty.sizeWL a (ps++qs)=Ty.sizeWL (Ty.sizeWL a ps) qs
 | a,[],qs=>by simp[Ty.sizeWL]
 | a,p::ps,qs=>by simp[Ty.sizeWL,Ty.sizeWL_append _ ps qs]
theorem Ty.sizeWL_step {ps:List Ty} {s:Nat} {p:Ty} (hp:ps[s]?=some p) (a:Int):Ty.sizeWL a (ps.take (s+1))=addW (Ty.sizeWL a (ps.take s)) p.sizeW:=by
 rw[zV,hp,Ty.sizeWL_append];simp[Ty.sizeWL]
theorem zdS:∀(T:Ty),APure Tryz.prog 18 [.agg T.cells] (.v (.int .i64 T.sizeW)):=by
  refine Ty.ind fun T ih=>?_;refine APure.mkL (.cons T.dataAgg .nil) (.v _) ?_;refine aIn Tryz.func18 fun hm=>?_;simp only[Tryz.ntmps18,Tryz.results18,go_sem,seval];have hm1:=hm.wide (t:=T) tz4;(iterate 2 (refine zY fun _ u=>?_;apply z6;simp only[↓bO,go_sem,seval];apply u));refine zY fun _ u=>?_;refine sqD ?_;apply zaa;refine zah (σ:=Nat) (mB 21 26) (fun s=>s<=T.ps.length) (fun s=>[(3,.v (.int .i64 (Ty.sizeWL 1 (T.ps.take s)))),(4,.v (.int .i64 (s:Int)))]) (fun s=>[]) (fun s=>T.ps.length-s) 0 tz1 ?_ (fun s hs=>?_)
  ·
   simp only[go_sem,seval,bL,Ty.sizeWL];exact zaI
  simp only[go_sem,seval];refine zY fun _ w=>?_;refine sqR fun _ z=>?_;refine chS 4 ?_;simp only[↓bO,go_sem,seval];apply z;apply z7 rfl <;> intro hb9
  ·
   (have hk:s<T.ps.length:=by simpa using hb9);obtain ⟨p,hp⟩:∃p,T.ps[s]?=some p:=⟨_,za hk⟩;have hw:IntKind.i64.wrap ((s:Int)+1)=(s:Int)+1:=zak tz1 (by have:=hm1.len;simp only[maxLen] at this;omega);apply zab;apply w;refine zY fun _ w=>?_;apply zaa;apply z6;refine chS 4 ?_ (by intro _ q;simp only[↓bO,go_sem,seval,hk];exact q);refine chS 2 ?_ (by intro _ q;simp only[↓bO,go_sem,seval,hk,gM hp];exact q);refine zZ 1 fun _ y=>?_;simp only[↓bO,go_sem,seval];refine APure.call (ih p (zc hp)) ?_;apply y;clear y;simp only[↓bO,go_sem,seval];apply w;apply z6;simp only[↓bO,go_sem,seval,hw];refine ⟨(s+1),tz1,by omega,?_⟩;simp only[zar,zas,zag,zal,mB,seval,zj,zi,Ty.sizeWL_step hp,addW];exact zaI
  (have hk:s=T.ps.length:=by simp at hb9;omega);apply zaj;simp only[zao,zai,zae,bA,Nat.reduceEqDiff,↓reduceIte];apply u;refine sqD ?_;apply z8;(try simp only[go_sem]);refine Le.of_eq (congrArg (fun n=>AV.v (.int .i64 n)) ?_);rw[Ty.sizeW_eq,hk,zL]
theorem clz3 {p:Prop} (h:p:=by exact Weak.mk (by simp only[go_sem,Le.refl,Le.any,zj,zp,zi]) (fun _ _ h=>h) rfl rfl):p:=h
theorem room_pure:∀(T:Ty) (n:Int) (d:Nat) (hn:0<=n) (hn2:n<=1099511627776) (hd:d<=1099511627776),APure Tryz.prog 63 [.agg T.cells,.v (.int .i64 n),.v (.int .i64 d)] (.v (.int .i64 (T.room n d))):=by
  refine Ty.ind fun T ih=>?_;intro n d hn hn2 hd;refine APure.mkL (.cons T.dataAgg (.cons (.v _) (.cons (.v _) .nil))) (.v _) ?_;refine aIn Tryz.func63 fun hm=>?_;simp only[Tryz.ntmps63,Tryz.results63,go_sem,seval];have hm1:=hm.wide (t:=T) tz4;have hw1:IntKind.i64.wrap (n-1)=n-1:=zak tz1 tz1;(iterate 2 (refine zY fun _ u=>?_;apply z6;simp only[↓bO,go_sem,seval,hw1];apply u));refine zY fun _ u=>?_;refine sqD ?_;apply z7 rfl <;> intro hb11
  ·
   (have hd0:d=0:=by simpa using hb11);refine sqD ?_;apply z8;(try simp only[go_sem]);refine Le.of_eq (congrArg (fun n=>AV.v (.int .i64 n)) ?_);(first | (rw[hd0,Ty.room_zero];done) | skip);all_goals (rw[Ty.room_succ];simp only[ze] at hb20;rcases zB s T.ps.length with h5 | h5 <;> first | (rw[List.take_of_length_le h5];done) | (rw[Ty.roomL_stop T.ps s _ _ tz1];done))
  obtain ⟨e,rfl⟩:∃e,d=e+1:=⟨d-1,by simp at hb11;omega⟩;(have hw2:IntKind.i64.wrap ((e:Int)+1-1)=(e:Int):=by rw[zak tz1 tz1];omega);apply zab;apply u;refine zY fun _ u=>?_;refine sqD ?_;apply zaa;refine zah (σ:=Nat) (mB 33 142) (fun s=>s<=T.ps.length) (fun s=>[(1,.v (.int .i64 (Ty.roomL (T.ps.take s) (n-1) e))),(7,.v (.int .i64 (s:Int)))]) (fun s=>[]) (fun s=>T.ps.length-s) 0 tz1 ?_ (fun s hs=>?_)
  ·
   simp only[go_sem,seval,bL,Ty.roomL];exact clz3
  simp only[go_sem,seval];refine zY fun _ w=>?_;refine za2 (mB 33 1048718) ([(20,.v (.bool (decide (s<T.ps.length/\0<=Ty.roomL (T.ps.take s) (n-1) e))))]) ([]) ?_ ?_
  ·
   apply z6;refine chS 4 ?_;refine chS 2 ?_;simp only[go_sem];refine zaf 17 rfl (fun hc17=>?_) (fun hc17=>?_)
   ·
    simp only[go_sem];simp only[↓bO,go_sem,seval];(try simp only[go_sem,seval]);refine Weak.mk ?_ (fun _ _ h=>h) rfl rfl;simp only[go_sem,Le.refl,Le.any];all_goals (refine Le.of_eq (congrArg (fun b=>AV.v (.bool b)) ?_);rw[zF];simp only[zd,ze,ge_iff_le,zJ,false_iff,Int.ofNat_lt] at *;omega)
   simp only[go_sem];simp only[↓bO,go_sem,seval];(try simp only[go_sem,seval]);refine Weak.mk ?_ (fun _ _ h=>h) rfl rfl;simp only[go_sem,Le.refl,Le.any];all_goals (refine Le.of_eq (congrArg (fun b=>AV.v (.bool b)) ?_);rw[zF];simp only[zd,ze,ge_iff_le,zJ,false_iff,Int.ofNat_lt] at *;omega)
  simp only[go_sem,seval];apply z7 rfl <;> intro hb20
  ·
   (have hk:s<T.ps.length:=by simp only[zd] at hb20;exact hb20.1);obtain ⟨p,hp⟩:∃p,T.ps[s]?=some p:=⟨_,za hk⟩;have hw:IntKind.i64.wrap ((s:Int)+1)=(s:Int)+1:=zak tz1 (by have:=hm1.len;simp only[maxLen] at this;omega);(have hrm:0<=Ty.roomL (T.ps.take s) (n-1) e:=by simp only[zd] at hb20;exact hb20.2);have hrl:=Ty.roomL_le (T.ps.take s) (n-1) e tz1;apply zab;apply w;refine zY fun _ w=>?_;apply zaa;apply z6;(iterate 2 (refine chS 4 ?_ (by intro _ q;simp only[↓bO,go_sem,seval,hk,gM hp,zj,hw2];exact q)));refine zZ 1 fun _ y=>?_;simp only[↓bO,go_sem,seval];refine APure.call (ih p (zc hp) _ e hrm tz1 tz1) ?_;apply y;clear y;simp only[↓bO,go_sem,seval,zj];apply w;apply z6;simp only[↓bO,go_sem,seval,zj,hw];refine ⟨(s+1),tz1,by omega,?_⟩;simp only[zar,zas,zag,zal,mB,seval,zj,zi,Ty.roomL_step hp (n-1) e hrm];exact zaI
  apply zaj;simp only[zao,zai,zae,bA,Nat.reduceEqDiff,↓reduceIte];apply u;refine sqD ?_;apply z8;(try simp only[go_sem]);refine Le.of_eq (congrArg (fun n=>AV.v (.int .i64 n)) ?_);(first | (rw[hd0,Ty.room_zero];done) | skip);all_goals (rw[Ty.room_succ];simp only[ze] at hb20;rcases zB s T.ps.length with h5 | h5 <;> first | (rw[List.take_of_length_le h5];done) | (rw[Ty.roomL_stop T.ps s _ _ tz1];done))
abbrev intC (x:Int):List AV:=[.v (.int .i64 x)]
theorem zap (l:List Int):Data (.sl 1 (l.map intC)):=.sl fun x hx=>by
 obtain ⟨y,_,rfl⟩:=zq.1 hx;exact .cons (.v _) .nil
theorem ints_one (l:List Int):((l.map intC).all fun y=>y.all AV.one)=true:=by
 rw[zN];intro y hy;obtain ⟨r,_,rfl⟩:=zq.1 hy;rfl
structure RNode where
 t:Ty
 parts:List Int
def RNode.cells (r:RNode):List AV:=[.v (.int .i64 r.t.k),.v (.int .i64 r.t.n),.sl 3 (r.t.ps.map Ty.cells),.sl 1 (r.parts.map intC)]
theorem Ty.refold (t:Ty):AV.agg [.v (.int .i64 t.k),.v (.int .i64 t.n),.sl 3 (t.ps.map Ty.cells)]=.agg t.cells:=by rw[t.cells_eq]
theorem RNode.data (r:RNode):DataL r.cells:=.cons (.v _) (.cons (.v _) (.cons (Ty.dataSl _) (.cons (zap _) .nil)))
theorem RNode.dataSl (g:List RNode):Data (.sl 4 (g.map RNode.cells)):=.sl fun x hx=>by
 obtain ⟨y,_,rfl⟩:=zq.1 hx;exact y.data
def RNode.isVar (n:Int) (r:RNode):Bool:=r.t.k==1&&r.t.n==n
mutual
def Ty.radd:Ty->List RNode->List RNode×Int
 | .mk k n ps,g =>
  if k=1/\0<=zbo (RNode.isVar n) g then (g,zbo (RNode.isVar n) g)
  else
   let r:=Ty.raddL ps g []
   (r.1++[⟨.mk k n ps,r.2⟩],(r.1.length:Int))
def Ty.raddL:List Ty->List RNode->List Int->List RNode×List Int
 | [],g,l=>(g,l)
 | p::ps,g,l =>
  let r:=Ty.radd p g
  Ty.raddL ps r.1 (l++[r.2])
end
theorem RVar_pure (g:List RNode) (n:Int):APure Tryz.prog 112 [.sl 4 (g.map RNode.cells),.v (.int .i64 n)] (.v (.int .i64 (zbo (RNode.isVar n) g))):=by
  refine APure.mkL (.cons (RNode.dataSl g) (.cons (.v _) .nil)) (.v _) ?_;refine aIn Tryz.func112 fun hm=>?_;simp only[Tryz.ntmps112,Tryz.results112,go_sem,seval];have hm1:=hm.len (sz:=4) (xs:=g.map RNode.cells) tz4;rw[zD] at hm1;refine sqD ?_;refine zY fun _ y=>?_;refine sqD ?_;apply zaa;refine zah (σ:=Nat) (mB 30 35) (fun s=>s<=g.length/\∀(i:Nat) (p:RNode),i<s->g[i]?=some p->RNode.isVar n p=false) (fun s=>[(5,.v (.int .i64 (s:Int)))]) (fun s=>[]) (fun s=>g.length-s) 0 (⟨by omega,fun i p hi=>by omega⟩) ?_ (fun s hs=>?_)
  ·
   simp only[go_sem,seval];exact zaI
  simp only[go_sem,seval];refine zY fun _ u=>?_;refine sqD ?_;apply z7 rfl <;> intro hb9
  ·
   (have hk:s<g.length:=by simpa using hb9);obtain ⟨p,hp⟩:∃p,g[s]?=some p:=⟨_,za hk⟩;have hw:IntKind.i64.wrap ((s:Int)+1)=(s:Int)+1:=zak tz1 (by simp only[maxLen] at hm1;omega);apply zab;apply u;refine zY fun _ u=>?_;apply zaa;refine za2 (mB 30 268435491) ([(28,.v (.bool (RNode.isVar n p)))]) ([]) ?_ ?_
   ·
    apply z6;(iterate 2 (refine chS 4 ?_ (by intro _ q;simp only[↓bO,go_sem,seval,hk,gM hp,RNode.cells];exact q)));refine zaf 19 rfl (fun hc19=>?_) (fun hc19=>?_)
    ·
     (iterate 2 (refine chS 4 ?_ (by intro _ q;simp only[↓bO,go_sem,seval,hk,gM hp,RNode.cells];exact q)));simp only[↓bO,go_sem,seval,hk];(try simp only[go_sem,seval]);refine Weak.mk ?_ (fun _ _ h=>h) rfl rfl;simp only[go_sem,Le.refl,Le.any];all_goals (refine Le.of_eq (congrArg (fun b=>AV.v (.bool b)) ?_);simp_all [RNode.isVar])
    (iterate 2 (refine chS 4 ?_));simp only[↓bO,go_sem,seval,hk];(try simp only[go_sem,seval]);refine Weak.mk ?_ (fun _ _ h=>h) rfl rfl;simp only[go_sem,Le.refl,Le.any];all_goals (refine Le.of_eq (congrArg (fun b=>AV.v (.bool b)) ?_);simp_all [RNode.isVar])
   simp only[go_sem,seval];apply z7 rfl <;> intro hb28
   ·
    refine sqD ?_;apply z8;(try simp only[go_sem]);refine Le.of_eq (congrArg (fun n=>AV.v (.int .i64 n)) ?_);first | (rw[zaK hp (by exact hb28) hs.2];done) | (rw[zaN (fun i p hi h1=>hs.2 i p tz1 h1)];done)
   apply zab;apply u;apply z6;simp only[↓bO,go_sem,seval,hw];refine ⟨(s+1),⟨by omega,fun i p' hi h1=>(by rcases zB i s with h3 | h3 <;> first | exact hs.2 i p' h3 h1 | (obtain rfl:i=s:=tz1;rw[hp] at h1;cases h1;exact hb28))⟩,by omega,?_⟩;simp only[zar,zas,zag,zal,mB,seval,zj,zi,bL];exact zaI
  (have hk:s=g.length:=by have:=hs.1;simp at hb9;omega);apply zaj;simp only[zao,zai,zae,bA,Nat.reduceEqDiff,↓reduceIte];apply y;refine sqD ?_;apply z8;(try simp only[go_sem]);refine Le.of_eq (congrArg (fun n=>AV.v (.int .i64 n)) ?_);first | (rw[zaK hp (by exact hb28) hs.2];done) | (rw[zaN (fun i p hi h1=>hs.2 i p tz1 h1)];done)
theorem Ty.radd_eq (t:Ty) (g:List RNode):t.radd g=if t.k=1/\0<=zbo (RNode.isVar t.n) g then (g,zbo (RNode.isVar t.n) g) else ((Ty.raddL t.ps g []).1++[⟨t,(Ty.raddL t.ps g []).2⟩],((Ty.raddL t.ps g []).1.length:Int)):=by
 cases t;rw[Ty.radd];rfl
theorem Ty.raddL_append:∀(ps qs:List Ty) (g:List RNode) (l:List Int),Ty.raddL (ps++qs) g l=Ty.raddL qs (Ty.raddL ps g l).1 (Ty.raddL ps g l).2
 | [],qs,g,l=>by simp[Ty.raddL]
 | p::ps,qs,g,l=>by simp[Ty.raddL,Ty.raddL_append ps qs]
theorem Ty.raddL_step {ps:List Ty} {s:Nat} {p:Ty} (hp:ps[s]?=some p) (g:List RNode) (l:List Int) :
  Ty.raddL (ps.take (s+1)) g l=((p.radd (Ty.raddL (ps.take s) g l).1).1,(Ty.raddL (ps.take s) g l).2++[(p.radd (Ty.raddL (ps.take s) g l).1).2]):=by
 rw[zV,hp,Ty.raddL_append];simp[Ty.raddL]
theorem Ty.raddL_len2:∀(ps:List Ty) (g:List RNode) (l:List Int),(Ty.raddL ps g l).2.length=l.length+ps.length
 | [],g,l=>by simp[Ty.raddL]
 | p::ps,g,l=>by simp[Ty.raddL,Ty.raddL_len2 ps];omega
theorem Ty.radd_len:∀(t:Ty) (g:List RNode),(t.radd g).1.length<=g.length+t.cnt:=by
 refine Ty.ind fun t ih=>?_
 have key:∀ps:List Ty,(∀p∈ps,∀g:List RNode,(p.radd g).1.length<=g.length+p.cnt)->∀(g:List RNode) (l:List Int),(Ty.raddL ps g l).1.length<=g.length+Ty.cntL ps:=by
  intro ps
  induction ps with
  | nil=>intro _ g l;simp[Ty.raddL,Ty.cntL]
  | cons p ps ihp =>
   intro hp g l;have h1:=hp p tz4 g;have h2:=ihp (fun q hq=>hp q (by simp[hq])) (p.radd g).1 (l++[(p.radd g).2]);simp only[Ty.raddL,Ty.cntL];omega
 intro g;rw[Ty.radd_eq,Ty.cnt_eq];split;(·simp only;omega);have:=key t.ps ih g [];simp only[zh,zy,zH];omega
theorem Ty.raddL_len (ps:List Ty) (g:List RNode) (l:List Int):(Ty.raddL ps g l).1.length<=g.length+Ty.cntL ps:=by
 induction ps generalizing g l with
 | nil=>simp[Ty.raddL,Ty.cntL]
 | cons p ps ihp =>
  have h1:=Ty.radd_len p g;have h2:=ihp (p.radd g).1 (l++[(p.radd g).2]);simp only[Ty.raddL,Ty.cntL];omega
theorem RNode.all_one (l:List RNode):((l.map RNode.cells).all fun y=>y.all AV.one)=true:=by
 rw[zN];intro y hy;obtain ⟨r,_,rfl⟩:=zq.1 hy;rfl
def zgZ {α:Type} (f:α->α->Bool):List α->List α->Bool
 | [],[]=>true
 | p::ps,q::qs=>f p q&&zgZ f ps qs
 | _,_=>false
theorem ze8 {α:Type} {f:α->α->Bool}:∀{ps qs:List α},ps.length≠qs.length->zgZ f ps qs=false
 | [],[],h=>by simp at h
 | [],_::_,_=>rfl
 | _::_,[],_=>rfl
 | p::ps,q::qs,h=>by simp only[zgZ];rw[ze8 (by simpa using h)];simp
theorem zdg {α:Type} {f:α->α->Bool}:∀{ps qs:List α} {k:Nat} {p q:α},ps[k]?=some p->qs[k]?=some q->f p q=false->zgZ f ps qs=false
 | [],_,k,p,q,h,_,_=>by simp at h
 | _::_,[],k,p,q,_,h,_=>by simp at h
 | a::ps,b::qs,0,p,q,h1,h2,hf=>by simp at h1 h2;subst h1;subst h2;simp[zgZ,hf]
 | a::ps,b::qs,k+1,p,q,h1,h2,hf=>by simp only[zgZ];rw[zdg (k:=k) (by simpa using h1) (by simpa using h2) hf];simp
theorem zdR {α:Type} {f:α->α->Bool}:∀{ps qs:List α},ps.length=qs.length->(∀(k:Nat) (p q:α),ps[k]?=some p->qs[k]?=some q->f p q=true)->zgZ f ps qs=true
 | [],[],_,_=>rfl
 | [],_::_,h,_=>by simp at h
 | _::_,[],h,_=>by simp at h
 | a::ps,b::qs,h,hf=>by
  simp only[zgZ];rw[hf 0 a b rfl rfl,zdR (by simpa using h) fun k p q hp hq=>hf (k+1) p q (by simpa using hp) (by simpa using hq)];rfl
theorem zcX:∀ps qs:List Ty,Ty.sameL ps qs=zgZ Ty.same ps qs
 | [],[]=>by simp[Ty.sameL,zgZ]
 | [],_::_=>by simp[Ty.sameL,zgZ]
 | _::_,[]=>by simp[Ty.sameL,zgZ]
 | p::ps,q::qs=>by simp[Ty.sameL,zgZ,zcX ps qs]
def zeP (l:List Int) (n:Int):List Int:=if l.any (fun x=>x==n) then l else l++[n]
mutual
def Ty.rvars:Ty->List Int->List Int
 | .mk k n ps,l=>Ty.rvarsL ps (if k=1 then zeP l n else l)
def Ty.rvarsL:List Ty->List Int->List Int
 | [],l=>l
 | p::ps,l=>Ty.rvarsL ps (Ty.rvars p l)
end
theorem Ty.rvars_eq (t:Ty) (l:List Int):t.rvars l=Ty.rvarsL t.ps (if t.k=1 then zeP l t.n else l):=by cases t;rw[Ty.rvars];rfl
theorem Ty.rvarsL_append:∀(ps qs:List Ty) (l:List Int),Ty.rvarsL (ps++qs) l=Ty.rvarsL qs (Ty.rvarsL ps l)
 | [],qs,l=>by simp[Ty.rvarsL]
 | p::ps,qs,l=>by simp[Ty.rvarsL,Ty.rvarsL_append ps qs]
theorem Ty.rvarsL_step {ps:List Ty} {s:Nat} {p:Ty} (hp:ps[s]?=some p) (l:List Int):Ty.rvarsL (ps.take (s+1)) l=p.rvars (Ty.rvarsL (ps.take s) l):=by
 rw[zV,hp,Ty.rvarsL_append];simp[Ty.rvarsL]
theorem zlF (k n:Int) (l:List Int):(k=1->(l.any fun x=>x==n)=false->(if k=1 then zeP l n else l)=l++[n])/\((l.any fun x=>x==n)=true->(if k=1 then zeP l n else l)=l)/\(¬k=1->(if k=1 then zeP l n else l)=l):=by
 refine ⟨fun h1 h2=>?_,fun h1=>?_,fun h1=>?_⟩;·rw[if_pos h1,zeP,if_neg (by rw[h2];simp)]
 ·split
  (·rw[zeP,if_pos h1]);rfl
 rw[if_neg h1]
theorem zjZ (l:List Int) (n:Int):(zeP l n).length<=l.length+1:=by unfold zeP;split <;> simp
theorem Ty.rvars_len:∀(t:Ty) (l:List Int),(t.rvars l).length<=l.length+t.cnt:=by
 refine Ty.ind fun t ih=>?_
 have key:∀ps:List Ty,(∀p∈ps,∀l:List Int,(p.rvars l).length<=l.length+p.cnt)->∀l:List Int,(Ty.rvarsL ps l).length<=l.length+Ty.cntL ps:=by
  intro ps
  induction ps with
  | nil=>intro _ l;simp[Ty.rvarsL,Ty.cntL]
  | cons p ps ihp =>
   intro hp l;have h1:=hp p tz4 l;have h2:=ihp (fun q hq=>hp q (by simp[hq])) (p.rvars l);simp only[Ty.rvarsL,Ty.cntL];omega
 intro l;rw[Ty.rvars_eq,Ty.cnt_eq];have:=key t.ps ih (if t.k=1 then zeP l t.n else l);(have h2:(if t.k=1 then zeP l t.n else l).length<=l.length+1:=by split <;> first | exact zjZ l t.n | omega);omega
theorem Ty.rvarsL_len (ps:List Ty) (l:List Int):(Ty.rvarsL ps l).length<=l.length+Ty.cntL ps:=by
 have:=Ty.rvars_len (.mk 0 0 ps) l;rw[Ty.rvars_eq,Ty.cnt_eq] at this
 induction ps generalizing l with
 | nil=>simp[Ty.rvarsL,Ty.cntL]
 | cons p ps ih =>
  have h1:=p.rvars_len l;have h2:=ih (p.rvars l) (by have:=Ty.rvars_len (.mk 0 0 ps) (p.rvars l);rw[Ty.rvars_eq,Ty.cnt_eq] at this;exact this);simp only[Ty.rvarsL,Ty.cntL];omega
structure Bd where
 v:Int
 t:Ty
def Bd.cells (b:Bd):List AV:=.v (.int .i64 b.v)::b.t.cells
theorem Bd.cells_eq (b:Bd):b.cells=[.v (.int .i64 b.v),.v (.int .i64 b.t.k),.v (.int .i64 b.t.n),.sl 3 (b.t.ps.map Ty.cells)]:=by rw[Bd.cells,Ty.cells_eq]
theorem Bd.cells_len (b:Bd):b.cells.length=4:=by rw[b.cells_eq];rfl
theorem Bd.data (b:Bd):DataL b.cells:=.cons (.v _) b.t.data
theorem Bd.dataSl (l:List Bd):Data (.sl 4 (l.map Bd.cells)):=.sl fun x hx=>by
 obtain ⟨y,_,rfl⟩:=zq.1 hx;exact y.data
theorem Bd.take1 (b:Bd):b.cells.take 1=[.v (.int .i64 b.v)]:=by rw[b.cells_eq];rfl
theorem Bd.drop1 (b:Bd):b.cells.drop 1=b.t.cells:=rfl
theorem Bd.one (b:Bd):b.cells.all AV.one=true:=by rw[b.cells_eq];rfl
def za7 (l:List Bd) (n:Int):Int:=zbo (fun b=>b.v==n) l
mutual
/-- what a substitution makes of a type -/
def Ty.sub (l:List Bd):Ty->Ty
 | .mk k n ps=>if k=1/\0<=za7 l n then ((l[(za7 l n).toNat]?).map Bd.t).getD (.mk 0 0 []) else .mk k n (Ty.subL l ps)
def Ty.subL (l:List Bd):List Ty->List Ty
 | []=>[]
 | p::ps=>Ty.sub l p::Ty.subL l ps
end
theorem Ty.subL_eq (l:List Bd):∀ps,Ty.subL l ps=ps.map (Ty.sub l)
 | []=>by simp[Ty.subL]
 | p::ps=>by simp[Ty.subL,Ty.subL_eq l ps]
theorem Ty.sub_yes {l:List Bd} {t:Ty} {b:Bd} (h:t.k=1) (h0:0<=za7 l t.n) (hb:l[(za7 l t.n).toNat]?=some b):t.sub l=b.t:=by
 obtain ⟨k,n,ps⟩:=t;simp only[Ty.k,Ty.n] at h h0 hb;rw[Ty.sub,if_pos ⟨h,h0⟩,hb];rfl
theorem Ty.sub_no {l:List Bd} {t:Ty} (h:¬(t.k=1/\0<=za7 l t.n)):t.sub l=.mk t.k t.n (t.ps.map (Ty.sub l)):=by
 obtain ⟨k,n,ps⟩:=t;have h:¬(k=1/\0<=za7 l n):=h;rw[Ty.sub,if_neg h,Ty.subL_eq];rfl
theorem zeU (ps qs:List Ty) (g:Nat) (f:Ty->Ty->Bool) (hf:∀p∈ps,∀q,APure Tryz.prog g [.agg p.cells,.agg q.cells] (.v (.bool (f p q)))):APure Tryz.prog 103 [.sl 3 (ps.map Ty.cells),.sl 3 (qs.map Ty.cells),.clo g []] (.v (.bool (zgZ f ps qs))):=by
  refine APure.mkL (.cons (Ty.dataSl ps) (.cons (Ty.dataSl qs) (.cons (.clo (fun _ h=>by cases h)) .nil))) (.v _) ?_;refine aIn Tryz.func103 fun hm=>?_;simp only[Tryz.ntmps103,Tryz.results103,go_sem,seval];have hm1:=hm.len (sz:=3) (xs:=ps.map Ty.cells) tz4;rw[zD] at hm1;refine sqD ?_;refine zY fun _ u=>?_;refine sqR fun _ w=>?_;refine chS 4 ?_;simp only[↓bO,go_sem,seval];apply w;apply z7 rfl <;> intro hb14
  ·
   refine sqD ?_;apply z8;(try simp only[go_sem]);refine Le.of_eq (congrArg (fun b=>AV.v (.bool b)) ?_);first | (rw[ze8 (ps:=ps) (qs:=qs) (by simp at hb14;omega)];done) | (rw[zdg hp hq (by simpa using hb30)];done) | (rw[zdR hl fun k p q hp hq=>hs.2 k p q (by have:=(zb.1 hp).1;omega) hp hq];done)
  (have hl:ps.length=qs.length:=by simp at hb14;omega);apply zab;apply u;refine zY fun _ u=>?_;refine sqD ?_;apply zaa;refine zah (σ:=Nat) (mB 32 229382) (fun s=>s<=ps.length/\∀(k:Nat) (p q:Ty),k<s->ps[k]?=some p->qs[k]?=some q->f p q=true) (fun s=>[(17,.v (.int .i64 (s:Int)))]) (fun s=>[]) (fun s=>ps.length-s) 0 (⟨by omega,fun k p q hk=>by omega⟩) ?_ (fun s hs=>?_)
  ·
   simp only[go_sem,seval];exact zaI
  simp only[go_sem,seval];refine sqD ?_;refine zY fun _ w=>?_;apply z7 rfl <;> intro hb18
  ·
   (have hk:s<ps.length:=by simpa using hb18);obtain ⟨p,hp⟩:∃p,ps[s]?=some p:=⟨_,za hk⟩;(have hk2:s<qs.length:=by omega);obtain ⟨q,hq⟩:∃q,qs[s]?=some q:=⟨_,za hk2⟩;have hw:IntKind.i64.wrap ((s:Int)+1)=(s:Int)+1:=zak tz1 (by simp only[maxLen] at hm1;omega);apply zab;apply w;refine zY fun _ w=>?_;apply zaa;refine sqR fun _ z=>?_;refine chS 4 ?_ (by intro _ q;simp only[↓bO,go_sem,seval,hk,gM hp];exact q);simp only[↓bO,go_sem,seval];apply z;refine sqR fun _ z=>?_;refine chS 4 ?_ (by intro _ q;simp only[↓bO,go_sem,seval,hk2,gM hq];exact q);simp only[↓bO,go_sem,seval];apply z;refine sqR fun _ z=>?_;refine chS 3 ?_;refine zZ 1 fun _ y=>?_;simp only[↓bO,go_sem,seval];refine APure.call (hf p (zc hp) q) ?_;apply y;clear y;simp only[↓bO,go_sem,seval];apply z;apply z7 rfl <;> intro hb30
   ·
    refine sqD ?_;apply z8;(try simp only[go_sem]);refine Le.of_eq (congrArg (fun b=>AV.v (.bool b)) ?_);first | (rw[ze8 (ps:=ps) (qs:=qs) (by simp at hb14;omega)];done) | (rw[zdg hp hq (by simpa using hb30)];done) | (rw[zdR hl fun k p q hp hq=>hs.2 k p q (by have:=(zb.1 hp).1;omega) hp hq];done)
   apply zab;apply w;apply z6;simp only[↓bO,go_sem,seval,hw];refine ⟨(s+1),⟨by omega,fun k p' q' hi h1 h2=>(by rcases zB k s with h3 | h3 <;> first | exact hs.2 k p' q' h3 h1 h2 | (obtain rfl:k=s:=tz1;rw[hp] at h1;rw[hq] at h2;cases h1;cases h2;simpa using hb30))⟩,by omega,?_⟩;simp only[zar,zas,zag,zal,mB,seval,zj,zi];(first | (refine Weak.drops 2 0 rfl rfl tz5 tz5 ?_ ?_ ?_) | (refine Weak.drops 1 0 rfl rfl tz5 tz5 ?_ ?_ ?_) | (refine Weak.drops 0 0 rfl rfl tz5 tz5 ?_ ?_ ?_));(· simp only[go_sem,Le.refl,Le.any,zp,zi]);(· simp only[UndL,UndOs,Ob.Und,and_true,true_and,and_self,Und.v,Und.any,Und.ptr,Und.map,Nat.reduceLT,zW,Und.tys,Und.tyAgg,Und.oslTys,Und.oslTys1,Und.clo0,Und.ty]);simp only[UndL,UndOs,Ob.Und,and_true,true_and,and_self,Und.v,Und.any,Und.ptr,Und.map,Nat.reduceLT,zW,Und.tys,Und.tyAgg,Und.oslTys,Und.oslTys1,Und.clo0,Und.ty]
  (have hk:s=ps.length:=by have:=hs.1;simp at hb18;omega);apply zaj;simp only[zao,zai,zae,bA,Nat.reduceEqDiff,↓reduceIte];apply u;refine sqD ?_;apply z8;(try simp only[go_sem]);refine Le.of_eq (congrArg (fun b=>AV.v (.bool b)) ?_);first | (rw[ze8 (ps:=ps) (qs:=qs) (by simp at hb14;omega)];done) | (rw[zdg hp hq (by simpa using hb30)];done) | (rw[zdR hl fun k p q hp hq=>hs.2 k p q (by have:=(zb.1 hp).1;omega) hp hq];done)
theorem zlp:∀(T:Ty) (U:Ty),APure Tryz.prog 57 [.agg T.cells,.agg U.cells] (.v (.bool (T.same U))):=by
  refine Ty.ind fun T ih=>?_;intro U;refine APure.mkL (.cons T.dataAgg (.cons U.dataAgg .nil)) (.v _) ?_;refine aIn Tryz.func57 fun hm=>?_;simp only[Tryz.ntmps57,Tryz.results57,go_sem,seval];refine sqD ?_;refine sqR fun _ u=>?_;refine chS 4 ?_;refine chS 2 ?_;simp only[go_sem];refine zaf 10 rfl (fun hc10=>?_) (fun hc10=>?_)
  ·
   refine chS 4 ?_;refine chS 3 ?_;simp only[go_sem];refine zaf 17 rfl (fun hc17=>?_) (fun hc17=>?_)
   ·
    refine chS 4 ?_;refine zZ 1 fun _ y=>?_;simp only[↓bO,go_sem,seval];refine APure.call (zeU T.ps U.ps 57 Ty.same (fun p hp q=>ih p hp q)) ?_;apply y;clear y;simp only[↓bO,go_sem,seval];apply u;apply z8;(try simp only[go_sem]);refine Le.of_eq (congrArg (fun b=>AV.v (.bool b)) ?_);rw[Ty.same_eq,zcX];simp_all
   refine chS 4 ?_;simp only[↓bO,go_sem,seval];apply u;apply z8;(try simp only[go_sem]);refine Le.of_eq (congrArg (fun b=>AV.v (.bool b)) ?_);rw[Ty.same_eq,zcX];simp_all
  (iterate 3 (refine chS 4 ?_));simp only[↓bO,go_sem,seval];apply u;apply z8;(try simp only[go_sem]);refine Le.of_eq (congrArg (fun b=>AV.v (.bool b)) ?_);rw[Ty.same_eq,zcX];simp_all
end Go.Proofs.YtpfiliamceimmaaGreatDoor
namespace Go.Proofs.YtpfiliamceimmaaGreatDoor
open Go Go.RowKit
theorem Ty.k_mk (k n:Int) (ps:List Ty):(Ty.mk k n ps).k=k:=rfl
theorem Ty.n_mk (k n:Int) (ps:List Ty):(Ty.mk k n ps).n=n:=rfl
theorem Ty.ps_mk (k n:Int) (ps:List Ty):(Ty.mk k n ps).ps=ps:=rfl
theorem okN_one {n:Int} {len:Nat} (h:okN 1 n len=true):0<=n/\n<1073741824/\len=0:=by
 simp only[okN,zd] at h;omega
theorem okN_more {k n:Int} {len:Nat} (h:okN k n len=true) (hk:¬k=1):n=0:=by
 simp only[okN,zd] at h;omega
theorem Ty.right_part {t p:Ty} (h:t.right=true) (hp:p∈t.ps):p.right=true:=by
 rw[Ty.right_eq,zw] at h;exact zN.1 h.2 p hp
theorem Ty.right_var {t:Ty} (h:t.right=true) (hk:t.k=1):t=.mk 1 t.n []:=by
 obtain ⟨k,n,ps⟩:=t;have hk:k=1:=hk;subst hk;rw[Ty.right_eq,zw] at h;have:=(okN_one h.1).2.2;simp only[Ty.ps,List.length_eq_zero_iff] at this;simp[Ty.n,this]
theorem Ty.right_n {t:Ty} (h:t.right=true) (hk:¬t.k=1):t.n=0:=by
 rw[Ty.right_eq,zw] at h;exact okN_more h.1 hk
theorem zjY {α:Type} {f:α->α->Bool}:∀{ps qs:List α},(∀p∈ps,∀q,f p q=true↔p=q)->(zgZ f ps qs=true↔ps=qs)
 | [],[],_=>by simp[zgZ]
 | [],_::_,_=>by simp[zgZ]
 | _::_,[],_=>by simp[zgZ]
 | p::ps,q::qs,h=>by
  simp only[zgZ,zw,List.cons.injEq];rw[h p tz4 q,zjY fun p' hp q'=>h p' (by simp[hp]) q']
theorem Ty.same_iff:∀T U:Ty,T.same U=true↔T=U:=by
 (refine Ty.ind fun T ih=>fun U=>?_);rw[Ty.same_eq,zcX,zw,zw,zjY ih];obtain ⟨k,n,ps⟩:=T;obtain ⟨k',n',ps'⟩:=U;simp only[Ty.k,Ty.n,Ty.ps,beq_iff_eq,Ty.mk.injEq];exact ⟨fun h=>⟨h.1.1,h.1.2,h.2⟩,fun h=>⟨⟨h.1,h.2.1⟩,h.2.2⟩⟩
def zaH {α:Type}:List (Int×α)->Int->Option α
 | [],_=>none
 | (k,x)::r,i=>if k=i then some x else zaH r i
def zeu {α:Type}:List (Int×α)->Int->α->List (Int×α)
 | [],k,x=>[(k,x)]
 | (k',y)::r,k,x=>if k'=k then (k,x)::r else (k',y)::zeu r k x
theorem zgO {α:Type} (k:Int) (x:α) (i:Int):∀m:List (Int×α),zaH (zeu m k x) i=if k=i then some x else zaH m i
 | []=>by simp[zeu,zaH]
 | (a,b)::m=>by
  simp only[zeu];split;(·rename_i e;subst e;simp only[zaH];split <;> rfl);(rename_i e);simp only[zaH,zgO k x i m]
  by_cases h1:k=i
  (·subst h1;simp[e]);simp[h1]
theorem zeo {α:Type} (f:α->AV) (i:Int):∀m:List (Int×α),zbq (m.map fun p=>(p.1,f p.2)) i=(zaH m i).map f
 | []=>rfl
 | (a,b)::m=>by simp only[zu,zbq,zaH];split <;> simp[zeo f i m]
theorem aSet_p {α:Type} (f:α->AV) (k:Int) (x:α):∀m:List (Int×α),zdr (m.map fun p=>(p.1,f p.2)) k (f x)=(zeu m k x).map fun p=>(p.1,f p.2)
 | []=>rfl
 | (a,b)::m=>by simp only[zu,zdr,zeu];split <;> simp[aSet_p f k x m]
def Ty.occ (v:Int) (t:Ty):Prop:=v∈t.rvars []
theorem zj2 {l:List Int} {n v:Int}:v∈zeP l n↔v∈l\/v=n:=by
 unfold zeP;split
 ·rename_i h
  obtain ⟨x,hx,e⟩:=List.any_eq_true.1 h;simp only[beq_iff_eq] at e;subst e;exact ⟨.inl,fun h=>h.elim id fun h=>h▸hx⟩
 simp
theorem Ty.mem_rvars (v:Int):∀(t:Ty) (l:List Int),v∈t.rvars l↔v∈l\/t.occ v:=by
 have key:∀t:Ty,(∀p∈t.ps,∀l:List Int,v∈p.rvars l↔v∈l\/p.occ v)->∀l,v∈t.rvars l↔v∈l\/(t.k=1/\v=t.n)\/∃p∈t.ps,p.occ v:=by
  intro t ih l
  have hL:∀ps:List Ty,(∀p∈ps,∀l:List Int,v∈p.rvars l↔v∈l\/p.occ v)->∀l:List Int,v∈Ty.rvarsL ps l↔v∈l\/∃p∈ps,p.occ v:=by
   intro ps
   induction ps with
   | nil=>intro _ l;simp[Ty.rvarsL]
   | cons p ps ih2 =>
    intro h l;rw[Ty.rvarsL,ih2 (fun q hq=>h q (by simp[hq])),h p tz4];simp only[zI,exists_eq_or_imp,or_assoc]
  rw[Ty.rvars_eq,hL t.ps ih];split;(·rename_i hk;simp only[zj2,hk,true_and,or_assoc]);rename_i hk;simp only[hk,false_and,false_or]
 refine Ty.ind fun t ih l=>?_;have h1:=key t ih l;have h2:=key t ih [];unfold Ty.occ;rw[h1,h2];simp
theorem Ty.occ_iff (v:Int) (t:Ty):t.occ v↔(t.k=1/\v=t.n)\/∃p∈t.ps,p.occ v:=by
 have hL:∀(ps:List Ty) (l:List Int),v∈Ty.rvarsL ps l↔v∈l\/∃p∈ps,p.occ v:=by
  intro ps
  induction ps with
  | nil=>intro l;simp[Ty.rvarsL]
  | cons p ps ih2 =>
   intro l;rw[Ty.rvarsL,ih2,Ty.mem_rvars];simp only[zI,exists_eq_or_imp,or_assoc]
 rw[Ty.occ,Ty.rvars_eq,hL];split;(·rename_i hk;simp[zj2,hk]);rename_i hk;simp[hk]
mutual
/-- what a function of variables makes of a type -/
def Ty.subF (σ:Int->Ty):Ty->Ty
 | .mk k n ps=>if k=1 then σ n else .mk k n (Ty.subFL σ ps)
def Ty.subFL (σ:Int->Ty):List Ty->List Ty
 | []=>[]
 | p::ps=>Ty.subF σ p::Ty.subFL σ ps
end
theorem Ty.subFL_eq (σ:Int->Ty):∀ps,Ty.subFL σ ps=ps.map (Ty.subF σ)
 | []=>by simp[Ty.subFL]
 | p::ps=>by simp[Ty.subFL,Ty.subFL_eq σ ps]
theorem Ty.subF_var {σ:Int->Ty} {t:Ty} (h:t.k=1):t.subF σ=σ t.n:=by
 obtain ⟨k,n,ps⟩:=t;have h:k=1:=h;rw[Ty.subF,if_pos h];rfl
theorem Ty.subF_more {σ:Int->Ty} {t:Ty} (h:¬t.k=1):t.subF σ=.mk t.k t.n (t.ps.map (Ty.subF σ)):=by
 obtain ⟨k,n,ps⟩:=t;have h:¬k=1:=h;rw[Ty.subF,if_neg h,Ty.subFL_eq];rfl
theorem Ty.subF_congr {σ τ:Int->Ty}:∀t:Ty,(∀v,t.occ v->σ v=τ v)->t.subF σ=t.subF τ:=by
 refine Ty.ind fun t ih h=>?_
 by_cases hk:t.k=1
 ·rw[Ty.subF_var hk,Ty.subF_var hk]
  exact h _ ((Ty.occ_iff _ _).2 (.inl ⟨hk,rfl⟩))
 rw[Ty.subF_more hk,Ty.subF_more hk];(congr 1);exact List.map_congr_left fun p hp=>ih p hp fun v hv=>h v ((Ty.occ_iff _ _).2 (.inr ⟨p,hp,hv⟩))
def zfn (l:List Bd) (n:Int):Ty:=if 0<=za7 l n then ((l[(za7 l n).toNat]?).map Bd.t).getD (.mk 0 0 []) else .mk 1 n []
theorem Ty.sub_subF (l:List Bd):∀t:Ty,t.right=true->t.sub l=t.subF (zfn l):=by
 refine Ty.ind fun t ih hr=>?_
 by_cases hk:t.k=1
 ·have e:=Ty.right_var hr hk
  rw[Ty.subF_var hk]
  conv=>lhs;rw[e]
  simp only[Ty.sub,zfn,true_and,Ty.subL]
 rw[Ty.subF_more hk,Ty.sub_no fun h=>hk h.1];(congr 1);exact List.map_congr_left fun p hp=>ih p hp (Ty.right_part hr hp)
mutual
/-- matching: what is told behind what was -/
def Ty.match:Ty->Ty->List (Int×Ty)->Bool×List (Int×Ty)
 | .mk k n ps,t,m=>if k=1 then (match zaH m n with | none=>(true,zeu m n t) | some x=>(x.same t,m)) else if k=t.k/\ps.length=t.ps.length then Ty.matchL ps t.ps m else (false,m)
def Ty.matchL:List Ty->List Ty->List (Int×Ty)->Bool×List (Int×Ty)
 | p::ps,q::qs,m=>if (Ty.match p q m).1 then Ty.matchL ps qs (Ty.match p q m).2 else (false,(Ty.match p q m).2)
 | [],_,m=>(true,m)
 | _::_,[],m=>(true,m)
end
theorem Ty.subF_k {σ:Int->Ty} {x:Ty} (h:(x.subF σ).k=1):x.k=1:=by
 by_cases hk:x.k=1
 (·exact hk);rw[Ty.subF_more hk] at h;exact absurd h hk
end Go.Proofs.YtpfiliamceimmaaGreatDoor
namespace Go.Proofs.YtpfiliamceimmaaGreatDoor
open Go Go.RowKit
abbrev vTy (n:Int):Ty:=.mk 1 n []
theorem Ty.subF_subF (σ τ:Int->Ty):∀t:Ty,(t.subF σ).subF τ=t.subF fun v=>(σ v).subF τ:=by
 refine Ty.ind fun t ih=>?_
 by_cases hk:t.k=1
 (·rw[Ty.subF_var hk,Ty.subF_var hk]);rw[Ty.subF_more hk,Ty.subF_more (σ:=fun v=>(σ v).subF τ) hk,Ty.subF_more (by exact hk)];simp only[Ty.k_mk,Ty.n_mk,Ty.ps_mk,List.map_map];(congr 1);exact List.map_congr_left fun p hp=>ih p hp
theorem Ty.subF_fixed {σ:Int->Ty}:∀t:Ty,t.right=true->(∀v,t.occ v->σ v=vTy v)->t.subF σ=t:=by
 refine Ty.ind fun t ih hr h=>?_
 by_cases hk:t.k=1
 ·rw[Ty.subF_var hk,h _ ((Ty.occ_iff _ _).2 (.inl ⟨hk,rfl⟩))]
  exact (Ty.right_var hr hk).symm
 rw[Ty.subF_more hk];have e:t.ps.map (Ty.subF σ)=t.ps:=(List.map_congr_left fun p hp=>ih p hp (Ty.right_part hr hp) fun v hv=>h v ((Ty.occ_iff _ _).2 (.inr ⟨p,hp,hv⟩))).trans (List.map_id t.ps);rw[e,Ty.eta]
theorem Ty.occ_vTy {v w:Int}:(vTy v).occ w↔w=v:=by
 rw[Ty.occ_iff];simp[vTy,Ty.k,Ty.n,Ty.ps]
theorem Ty.cnt_lt {t p:Ty} (h:p∈t.ps):p.cnt<t.cnt:=by
 rw[t.cnt_eq];have:=Ty.cnt_mem h;omega
def zaQ (σ:Int->Ty) (l:List (Ty×Ty)):Prop:=∀e∈l,e.1.subF σ=e.2.subF σ
structure MG (l:List (Ty×Ty)) (σ:Int->Ty):Prop where
 solves:zaQ σ l
 most:∀θ:Int->Ty,zaQ θ l->∀v,(σ v).subF θ=θ v
structure Norm (L:List Int) (σ:Int->Ty):Prop where
 right:∀v∈L,(σ v).right=true
 out:∀v,v∉L->σ v=vTy v
 fix:∀v∈L,∀u,(σ v).occ u->u∈L/\σ u=vTy u
 least:∀v∈L,∀u,σ v=vTy u->u<=v
theorem var_of_k {t:Ty} (hr:t.right=true) (hk:t.k=1):t=vTy t.n:=Ty.right_var hr hk
theorem Norm.var {L:List Int} {σ τ:Int->Ty} (h:Norm L σ) (k:Norm L τ) (h1:∀v∈L,(σ v).subF τ=τ v) (h2:∀v∈L,(τ v).subF σ=σ v) {u:Int} (hu:u∈L) (e:σ u=vTy u):τ u=vTy u:=by
 have h3:=h2 u hu;rw[e] at h3;have hk:(τ u).k=1:=Ty.subF_k (σ:=σ) (by rw[h3];rfl);have e2:=var_of_k (k.right u hu) hk;obtain ⟨hw,e3⟩:=k.fix u hu (τ u).n (by rw[e2];exact Ty.occ_vTy.2 rfl);rw[e2,Ty.subF_var rfl] at h3;have h5:=h.least _ hw u h3;have h6:=k.least u hu _ e2;(have:(τ u).n=u:=by omega);rw[e2,this]
theorem Norm.unique {L:List Int} {σ τ:Int->Ty} (h:Norm L σ) (k:Norm L τ) (h1:∀v∈L,(σ v).subF τ=τ v) (h2:∀v∈L,(τ v).subF σ=σ v) (v:Int):σ v=τ v:=by
 by_cases hv:v∈L
 ·rw[<- h1 v hv]
  refine (Ty.subF_fixed (σ v) (h.right v hv) fun u hu=>?_).symm;obtain ⟨h3,h4⟩:=h.fix v hv u hu;exact h.var k h1 h2 h3 h4
 rw[h.out v hv,k.out v hv]
theorem MG.unique {L:List Int} {l:List (Ty×Ty)} {σ τ:Int->Ty} (h:Norm L σ) (k:Norm L τ) (hs:MG l σ) (ks:MG l τ):σ=τ :=
 funext fun v=>h.unique k (fun v _=>hs.most τ ks.solves v) (fun v _=>ks.most σ hs.solves v) v
structure Raw (L:List Int) (l:List (Ty×Ty)) (o:Int->Ty):Prop where
 right:∀v∈L,(o v).right=true
 out:∀v,v∉L->o v=vTy v
 rng:∀v∈L,∀u,(o v).occ u->u∈L
 idem:∀v∈L,(o v).subF o=o v
 mg:MG l o
def firstV (L:List Int) (o:Int->Ty) (w:Int):Ty:=match L.find? fun v=>(o v).same (vTy w) with
 | some v=>vTy v
 | none=>vTy w
theorem Ty.subF_right {σ:Int->Ty}:∀t:Ty,t.right=true->(∀v,t.occ v->(σ v).right=true)->(t.subF σ).right=true:=by
 refine Ty.ind fun t ih hr h=>?_
 by_cases hk:t.k=1
 (·rw[Ty.subF_var hk];exact h _ ((Ty.occ_iff _ _).2 (.inl ⟨hk,rfl⟩)));rw[Ty.subF_more hk,Ty.right_eq,zw];have hr2:=hr;rw[Ty.right_eq,zw] at hr2;refine ⟨by simp only[Ty.k_mk,Ty.n_mk,Ty.ps_mk,zD];exact hr2.1,zN.2 fun q hq=>?_⟩;obtain ⟨p,hp,rfl⟩:=zq.1 hq;exact ih p hp (Ty.right_part hr hp) fun v hv=>h v ((Ty.occ_iff _ _).2 (.inr ⟨p,hp,hv⟩))
theorem Ty.subF_occ {σ:Int->Ty}:∀(t:Ty) (u:Int),(t.subF σ).occ u->∃v,t.occ v/\(σ v).occ u:=by
 refine Ty.ind fun t ih u h=>?_
 by_cases hk:t.k=1
 ·rw[Ty.subF_var hk] at h
  exact ⟨t.n,(Ty.occ_iff _ _).2 (.inl ⟨hk,rfl⟩),h⟩
 rw[Ty.subF_more hk] at h;(rcases (Ty.occ_iff _ _).1 h with ⟨h1,_⟩ | ⟨q,hq,h2⟩);(·exact absurd h1 hk);obtain ⟨p,hp,rfl⟩:=zq.1 hq;obtain ⟨v,h3,h4⟩:=ih p hp u h2;exact ⟨v,(Ty.occ_iff _ _).2 (.inr ⟨p,hp,h3⟩),h4⟩
def OccE (l:List (Ty×Ty)) (v:Int):Prop:=∃e∈l,e.1.occ v\/e.2.occ v
def zfi (l:List (Ty×Ty)):Prop:=∀e∈l,e.1.right=true/\e.2.right=true
theorem bfind_neg {o:List Bd} {v:Int} (h:v∉o.map Bd.v):za7 o v=-1:=by
 unfold za7
 exact zaN fun j q hj hq=>by
  have h1:=zc hq
  cases hb:q.v==v with
  | false=>rfl
  | true=>exact absurd (zq.2 ⟨q,h1,by simpa using hb⟩) h
theorem zc8 {o:List Bd} {v:Int} (h:v∉o.map Bd.v):zfn o v=vTy v:=by
 unfold zfn;rw[bfind_neg h,if_neg tz1]
theorem zkt {o:List Bd} (hn:(o.map Bd.v).Nodup) {i:Nat} {b:Bd} (hb:o[i]?=some b):za7 o b.v=(i:Int):=by
 unfold za7;refine zaK (p:=b) hb tz4 fun j q hj hq=>?_
 cases hg:q.v==b.v with
 | false=>rfl
 | true =>
  have h1:=List.pairwise_iff_getElem.1 hn j i (by have:=(zb.1 hq).1;simpa using this) (by have:=(zb.1 hb).1;simpa using this) hj;simp only[List.getElem_map] at h1;rw[(zb.1 hq).2,(zb.1 hb).2] at h1;exact absurd (by simpa using hg) h1
theorem zht {o:List Bd} (hn:(o.map Bd.v).Nodup) {b:Bd} (hb:b∈o):zfn o b.v=b.t:=by
 obtain ⟨i,hi⟩:=List.mem_iff_getElem?.1 hb;unfold zfn;rw[zkt hn hi,if_pos tz1,zG,hi];rfl
theorem zhE (n:Int) (b:Ty) (v:Int):zfn [⟨n,b⟩] v=if v=n then b else vTy v:=by
 by_cases h:v=n
 ·subst h
  rw[if_pos rfl];exact zht (o:=[⟨v,b⟩]) tz4 (b:=⟨v,b⟩) tz4
 rw[if_neg h,zc8 (by simpa using h)]
theorem zev {n:Int} {b:Ty} {θ:Int->Ty} (hb:b.subF θ=θ n) (t:Ty) (hr:t.right=true):(t.sub [⟨n,b⟩]).subF θ=t.subF θ:=by
 rw[Ty.sub_subF _ _ hr,Ty.subF_subF];refine Ty.subF_congr t fun v _=>?_;rw[zhE]
 by_cases h:v=n
 (·rw[if_pos h,hb,h]);rw[if_neg h,Ty.subF_var rfl];rfl
theorem Ty.var_right {v:Int}:∀{t:Ty},t.right=true->t.occ v->(vTy v).right=true:=by
 have key:∀t:Ty,t.right=true->t.occ v->(vTy v).right=true:=by
  refine Ty.ind fun t ih hr h=>?_;(rcases (Ty.occ_iff _ _).1 h with ⟨h1,rfl⟩ | ⟨p,hp,hv⟩);(·exact (congrArg Ty.right (Ty.right_var hr h1)).symm.trans hr);exact ih p hp (Ty.right_part hr hp) hv
 exact fun {t}=>key t
theorem zfa {n:Int} {b:Ty} (hb:b.right=true) (t:Ty) (hr:t.right=true):(t.sub [⟨n,b⟩]).right=true:=by
 rw[Ty.sub_subF _ _ hr];refine Ty.subF_right t hr fun v hv=>?_;rw[zhE];split;(·exact hb);(rename_i hne);have h:=Ty.var_right hr hv;exact h
theorem one_occ {n:Int} {b:Ty} (t:Ty) (hr:t.right=true) {u:Int} (h:(t.sub [⟨n,b⟩]).occ u):(t.occ u/\u≠n)\/(t.occ n/\b.occ u):=by
 rw[Ty.sub_subF _ _ hr] at h;obtain ⟨v,h1,h2⟩:=Ty.subF_occ t u h;rw[zhE] at h2
 by_cases he:v=n
 ·rw[if_pos he] at h2
  exact .inr ⟨he▸h1,h2⟩
 rw[if_neg he] at h2;have:=Ty.occ_vTy.1 h2;subst this;exact .inl ⟨h1,he⟩
structure RInv (l l':List (Ty×Ty)) (o:List Bd):Prop where
 rl:zfi l'
 ro:∀b∈o,b.t.right=true
 nd:(o.map Bd.v).Nodup
 vl:∀v,OccE l' v->OccE l v/\v∉o.map Bd.v
 vo:∀b∈o,OccE l b.v/\∀v,b.t.occ v->OccE l v/\v∉o.map Bd.v
 fwd:∀θ:Int->Ty,zaQ θ l->zaQ θ l'/\∀b∈o,b.t.subF θ=θ b.v
 bwd:∀θ:Int->Ty,zaQ θ l'->(∀b∈o,b.t.subF θ=θ b.v)->zaQ θ l
section
variable {l l':List (Ty×Ty)} {o:List Bd} {a b:Ty}
theorem RInv.drop (h:RInv l ((a,b)::l') o) (he:a=b):RInv l l' o :=
 ⟨fun e he=>h.rl e (by simp[he]),h.ro,h.nd,fun v ⟨e,he,hv⟩=>h.vl v ⟨e,by simp[he],hv⟩,h.vo,fun θ hθ=>⟨fun e he=>(h.fwd θ hθ).1 e (by simp[he]),(h.fwd θ hθ).2⟩,
  fun θ h1 h2=>h.bwd θ (fun e hm=>by
   (rcases zI.1 hm with rfl | hm);·simp only[he]
   exact h1 e hm) h2⟩
def subE (n:Int) (b:Ty) (l:List (Ty×Ty)):List (Ty×Ty):=l.map fun e=>(e.1.sub [⟨n,b⟩],e.2.sub [⟨n,b⟩])
def subB (n:Int) (b:Ty) (o:List Bd):List Bd:=o.map (fun x=>⟨x.v,x.t.sub [⟨n,b⟩]⟩)++[⟨n,b⟩]
theorem zj7 (n:Int) (b:Ty) (o:List Bd):(subB n b o).map Bd.v=o.map Bd.v++[n]:=by simp[subB,Function.comp]
theorem RInv.bind {n:Int} {e:Ty×Ty} (h:RInv l (e::l') o) (he:e=(vTy n,b)\/e=(b,vTy n)) (hn:¬b.occ n):RInv l (subE n b l') (subB n b o):=by
 have hbr:b.right=true:=by
  have:=h.rl e tz4;(rcases he with rfl | rfl);(·exact this.2);exact this.1
 have hocc:∀v,(v=n\/b.occ v)->OccE (e::l') v:=fun v hv=>⟨e,by simp,by
  (rcases he with rfl | rfl);·exact hv.imp (fun h=>Ty.occ_vTy.2 h) id
  exact hv.symm.imp id (fun h=>Ty.occ_vTy.2 h)⟩
 have hnl:=h.vl n (hocc n (.inl rfl))
 have hbl:∀v,b.occ v->OccE l v/\v∉(subB n b o).map Bd.v:=fun v hv=>by
  have h1:=h.vl v (hocc v (.inr hv));refine ⟨h1.1,?_⟩;rw[zj7,zE];rintro (h2 | h2);(·exact h1.2 h2);simp at h2;subst h2;exact hn hv
 have heq:∀θ:Int->Ty,e.1.subF θ=e.2.subF θ↔b.subF θ=θ n:=fun θ=>by
  (rcases he with rfl | rfl);(·simp only;rw[Ty.subF_var (t:=vTy n) rfl];exact eq_comm);simp only;rw[Ty.subF_var (t:=vTy n) rfl];rfl
 refine ⟨fun x hx=>?_,fun x hx=>?_,?_,fun v hv=>?_,fun x hx=>?_,fun θ hθ=>?_,fun θ h1 h2=>?_⟩
 ·obtain ⟨y,hy,rfl⟩:=zq.1 hx
  have:=h.rl y (by simp[hy]);exact ⟨zfa hbr _ this.1,zfa hbr _ this.2⟩
 ·rcases zE.1 hx with hx | hx
  ·obtain ⟨y,hy,rfl⟩:=zq.1 hx
   exact zfa hbr _ (h.ro y hy)
  simp at hx;subst hx;exact hbr
 ·rw[zj7,List.nodup_append]
  exact ⟨h.nd,by simp,fun x hx y hy=>by simp at hy;subst hy;exact fun e=>hnl.2 (e▸hx)⟩
 ·obtain ⟨x,hx,hv⟩:=hv
  obtain ⟨y,hy,rfl⟩:=zq.1 hx;have hyr:=h.rl y (by simp[hy])
  have key:∀t:Ty,t.right=true->(∀u,t.occ u->OccE (e::l') u)->(t.sub [⟨n,b⟩]).occ v->OccE l v/\v∉(subB n b o).map Bd.v:=fun t ht hto hv=>by
   rcases one_occ t ht hv with ⟨h1,h2⟩ | ⟨_,h2⟩
   ·have h3:=h.vl v (hto v h1)
    refine ⟨h3.1,?_⟩;rw[zj7,zE];rintro (h4 | h4);(·exact h3.2 h4);simp at h4;exact h2 h4
   exact hbl v h2
  (rcases hv with hv | hv);(·exact key _ hyr.1 (fun u hu=>⟨y,by simp[hy],.inl hu⟩) hv);exact key _ hyr.2 (fun u hu=>⟨y,by simp[hy],.inr hu⟩) hv
 ·rcases zE.1 hx with hx | hx
  ·obtain ⟨y,hy,rfl⟩:=zq.1 hx
   have h3:=h.vo y hy;refine ⟨h3.1,fun v hv=>?_⟩;rcases one_occ _ (h.ro y hy) hv with ⟨h1,h2⟩ | ⟨_,h2⟩
   ·have h4:=h3.2 v h1
    refine ⟨h4.1,?_⟩;rw[zj7,zE];rintro (h5 | h5);(·exact h4.2 h5);simp at h5;exact h2 h5
   exact hbl v h2
  (simp at hx;subst hx);exact ⟨hnl.1,hbl⟩
 ·obtain ⟨h1,h2⟩:=h.fwd θ hθ
  have hb:=(heq θ).1 (h1 e tz4);refine ⟨fun x hx=>?_,fun x hx=>?_⟩
  ·obtain ⟨y,hy,rfl⟩:=zq.1 hx
   have hyr:=h.rl y (by simp[hy]);(simp only);rw[zev hb _ hyr.1,zev hb _ hyr.2];exact h1 y (by simp[hy])
  rcases zE.1 hx with hx | hx
  ·obtain ⟨y,hy,rfl⟩:=zq.1 hx
   (simp only);rw[zev hb _ (h.ro y hy)];exact h2 y hy
  simp at hx;subst hx;exact hb
 have hb:b.subF θ=θ n:=h2 ⟨n,b⟩ (by simp[subB]);refine h.bwd θ (fun x hx=>?_) fun x hx=>?_
 ·rcases zI.1 hx with rfl | hx
  (·exact (heq θ).2 hb);have hyr:=h.rl x (by simp[hx]);have:=h1 _ (zq.2 ⟨x,hx,rfl⟩);simp only at this
  rwa [zev hb _ hyr.1,zev hb _ hyr.2] at this
 have:=h2 ⟨x.v,x.t.sub [⟨n,b⟩]⟩ (zE.2 (.inl (zq.2 ⟨x,hx,rfl⟩)));simp only at this
 rwa [zev hb _ (h.ro x hx)] at this
end
structure Sch where
 vs:List Int
 t:Ty
def butL (l m:List Int):List Int:=l.filter fun v=>!decide (v∈m)
def Sch.all (s:Sch):List Int:=s.t.rvars []
def Sch.ok (s:Sch):Bool:=s.t.right&&decide (s.vs=s.all.filter fun v=>decide (v∈s.vs))
def Sch.free (s:Sch):List Int:=butL s.all s.vs
section
variable {s:Sch}
end
mutual
def Ty.mark (p:Int->Bool):Ty->Ty
 | .mk k n ps=>if k=1/\p n=true then .mk (-1) n [] else .mk k n (Ty.markL p ps)
def Ty.markL (p:Int->Bool):List Ty->List Ty
 | []=>[]
 | t::ts=>Ty.mark p t::Ty.markL p ts
end
mutual
/-- does a type come of a general one? what its variables are then -/
def Ty.cov:Ty->Ty->List (Int×Ty)->Bool×List (Int×Ty)
 | .mk k n ps,t,m=>if k=1 then ((match zaH m n with | none=>true | some x=>x.same t),zeu m n t) else if k=t.k/\n=t.n/\ps.length=t.ps.length then Ty.covL ps t.ps m else (false,m)
def Ty.covL:List Ty->List Ty->List (Int×Ty)->Bool×List (Int×Ty)
 | p::ps,q::qs,m=>if (Ty.cov p q m).1 then Ty.covL ps qs (Ty.cov p q m).2 else (false,(Ty.cov p q m).2)
 | [],_,m=>(true,m)
 | _::_,[],m=>(true,m)
end
end Go.Proofs.YtpfiliamceimmaaGreatDoor
