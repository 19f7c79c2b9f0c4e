/- packed, part 32 of 54. Conditions: none. -/
import Derived.Test.YtpfiliamceimmaaGreatDoorPk31
set_option linter.unusedVariables false
set_option linter.unusedSimpArgs false
namespace Go.Proofs.YtpfiliamceimmaaGreatDoor
open Go Go.RowKit
set_option maxRecDepth 100000
set_option maxHeartbeats 1000000
attribute [local irreducible] aops za1
theorem Ty.ind {C:Ty→Prop} (h:∀T,(∀p∈T.ps,C p)→C T):∀T,C T:=by
  have key:∀n,∀T:Ty,SizeOf.sizeOf T≤n→C T:=by
    intro n
    induction n with
    | zero=>intro T hT;cases T;simp at hT
    | succ n ih =>
      intro T hT;refine h T (fun p hp=>ih p ?_)
      cases T with
      | mk k m ps =>
        have:=List.sizeOf_lt_of_mem (show p∈ps from hp);(simp at hT);omega
  exact fun T=>key _ T (z6 _)
mutual
def Ty.same:Ty→Ty→Bool
  | .mk k n ps,.mk k' n' ps'=>k==k'&&n==n'&&Ty.sameL ps ps'
def Ty.sameL:List Ty→List Ty→Bool
  | [],[]=>true
  | p::ps,q::qs=>Ty.same p q&&Ty.sameL ps qs
  | _,_=>false
end
theorem Ty.same_eq (a b:Ty):a.same b=(a.k==b.k&&a.n==b.n&&Ty.sameL a.ps b.ps):=by cases a;cases b;simp[Ty.same,Ty.k,Ty.n,Ty.ps]
end Go.Proofs.YtpfiliamceimmaaGreatDoor
namespace Go.Proofs.YtpfiliamceimmaaGreatDoor
open Go Go.RowKit
set_option maxRecDepth 100000
set_option maxHeartbeats 4000000
attribute [local irreducible] aops za1
def okN (k n:Int) (len:Nat):Bool :=
  decide ((k=1∧0≤n∧n<1073741824∧len=0)∨(n=0∧(((k=2∨k=3)∧len=0)∨(k=4∧len=2)∨(k=5∧2≤len∧len≤8))))
mutual
def Ty.right:Ty→Bool
  | .mk k n ps=>okN k n ps.length&&Ty.rightL ps
def Ty.rightL:List Ty→Bool
  | []=>true
  | p::ps=>Ty.right p&&Ty.rightL ps
end
theorem Ty.rightL_eq:∀ps,Ty.rightL ps=ps.all Ty.right
  | []=>by simp[Ty.rightL]
  | p::ps=>by simp[Ty.rightL,Ty.rightL_eq ps]
theorem Ty.right_eq (t:Ty):t.right=(okN t.k t.n t.ps.length&&t.ps.all Ty.right):=by cases t;simp[Ty.right,Ty.rightL_eq,Ty.k,Ty.n,Ty.ps]
theorem zbT {α:Type} {f:α→Bool} {ps:List α} (h:∀(i:Nat) (p:α),i<ps.length→ps[i]?=some p→f p=true):ps.all f=true:=by
  rw[z8];intro p hp;obtain ⟨i,hi,e⟩:=z7.1 hp;exact h i p hi (by rw[ze hi,e])
theorem zbC {α:Type} {f:α→Bool} {ps:List α} {i:Nat} {p:α} (hp:ps[i]?=some p) (h:f p=false):ps.all f=false:=by
  rw[← Bool.not_eq_true,z8];intro hh;have:=hh p (zm hp);rw[h] at this;cases this
theorem tz0 {p:Prop} (h:p:=by kernel_rfl):p:=h
theorem zbj {p:Prop} (h:p:=by exact Weak.mk (by simp only[go_sem,Le.refl,Le.any,Le.slNil,za,zE,zC]) (fun _ _ h=>h) rfl rfl):p:=h
theorem zea:∀(T:Ty),APure Tryz.prog 31 [.agg T.cells] (.v (.bool T.right)):=by
  refine Ty.ind fun T ih=>?_;refine APure.mkL (.cons T.dataAgg .nil) (.v _) ?_;refine zai Tryz.func31 tz0 rfl (by rw[Tryz.ntmps31];simp) (fun hm=>?_);simp only[Tryz.ntmps31,Tryz.results31,zh,zk,Nat.reduceAdd,Nat.reduceSub,zt,zu,zi,zj];have hm1:=hm.wide (t:=T) tz4;refine sqR fun Y0 y0=>?_;simp only[↓bO,go_sem,seval];refine y0 _ ?_;(try clear y0 Y0);refine sqR fun Y0 y0=>?_;refine chS 2 ?_;simp only[go_sem];simp only[↓bO,go_sem,seval];refine y0 _ ?_;(try clear y0 Y0);refine zah fun Y0 y0=>?_;refine zap ?_;refine zbS (mB 89 266) ([(8,.v (.bool (decide (T.k=1∧(T.n<0∨1073741824≤T.n∨0<T.ps.length)))))]) ([]) ?_ ?_
  ·
   refine zaj ?_;(iterate 2 (refine chS 2 ?_;simp only[go_sem]));refine zaG 12 rfl (fun hc12=>?_) (fun hc12=>?_)
   ·
    simp only[zc,zb];(iterate 2 (refine chS 2 ?_;simp only[go_sem]));refine zaG 16 rfl (fun hc16=>?_) (fun hc16=>?_)
    ·
     simp only[zc,zb];(iterate 4 (refine chS 2 ?_;simp only[go_sem]));simp only[↓bO,go_sem,seval];(try simp only[zat,zau,zam,zay,mB,zc,zb,seval]);refine Weak.mk ?_ (fun _ _ h=>h) rfl rfl;simp only[go_sem,Le.refl,Le.any];all_goals (refine Le.of_eq (congrArg (fun b=>AV.v (.bool b)) ?_);rw[zU];simp at *;omega)
    simp only[zc,zb];(iterate 2 (refine chS 2 ?_;simp only[go_sem]));refine chS 1 ?_;simp only[go_sem];refine zaG 21 rfl (fun hc21=>?_) (fun hc21=>?_)
    ·
     simp only[zc,zb];(iterate 2 (refine chS 2 ?_;simp only[go_sem]));simp only[↓bO,go_sem,seval];(try simp only[zat,zau,zam,zay,mB,zc,zb,seval]);refine Weak.mk ?_ (fun _ _ h=>h) rfl rfl;simp only[go_sem,Le.refl,Le.any];all_goals (refine Le.of_eq (congrArg (fun b=>AV.v (.bool b)) ?_);rw[zU];simp at *;omega)
    simp only[zc,zb];(iterate 2 (refine chS 2 ?_;simp only[go_sem]));simp only[↓bO,go_sem,seval];(try simp only[zat,zau,zam,zay,mB,zc,zb,seval]);refine Weak.mk ?_ (fun _ _ h=>h) rfl rfl;simp only[go_sem,Le.refl,Le.any];all_goals (refine Le.of_eq (congrArg (fun b=>AV.v (.bool b)) ?_);rw[zU];simp at *;omega)
   simp only[zc,zb];refine chS 2 ?_;simp only[go_sem];refine chS 3 ?_;simp only[go_sem];refine chS 2 ?_;simp only[go_sem];refine chS 3 ?_;simp only[go_sem];refine chS 2 ?_;simp only[go_sem];simp only[↓bO,go_sem,seval];(try simp only[zat,zau,zam,zay,mB,zc,zb,seval]);refine Weak.mk ?_ (fun _ _ h=>h) rfl rfl;simp only[go_sem,Le.refl,Le.any];all_goals (refine Le.of_eq (congrArg (fun b=>AV.v (.bool b)) ?_);rw[zU];simp at *;omega)
  simp only[zat,zau,zam,zay,mB,zc,zb,seval];refine zak rfl (fun hb8=>?_) (fun hb8=>?_)
  ·
   refine sqR fun Y1 y1=>?_;simp only[↓bO,go_sem,seval];refine y1 _ ?_;(try clear y1 Y1);refine zal ?_;(try simp only[zag,zaf,zae,zaY,zaV,zaD,bS,bA]);refine Le.of_eq ?_;rw[Ty.right_eq];(all_goals try simp only[zl,zn] at hb8);(all_goals try simp only[zl,zn] at hb26);(all_goals try simp only[zl,zn] at hb35);(all_goals try simp only[zl,zn] at hb48);(all_goals try simp only[zl,zn] at hb56);(all_goals try simp only[zl,zn] at hb68);first | (have e1:okN T.k T.n T.ps.length=false:=(by simp only[okN,zn];omega);rw[e1];rfl) | (rw[zbC hp (by simpa using hb88)];simp;done) | (have e1:okN T.k T.n T.ps.length=true:=(by simp only[okN,zl];omega);rw[e1,zbT (f:=Ty.right) (fun i p hi h1=>hs.2 i p tz1 h1)];rfl)
  refine zbS (mB 89 67108874) ([(26,.v (.bool (decide (T.k≠1∧T.n≠0))))]) ([]) ?_ ?_
  ·
   refine zaj ?_;(iterate 2 (refine chS 2 ?_;simp only[go_sem]));refine zaG 30 rfl (fun hc30=>?_) (fun hc30=>?_)
   ·
    simp only[zc,zb];(iterate 2 (refine chS 2 ?_;simp only[go_sem]));simp only[↓bO,go_sem,seval];(try simp only[zat,zau,zam,zay,mB,zc,zb,seval]);refine Weak.mk ?_ (fun _ _ h=>h) rfl rfl;simp only[go_sem,Le.refl,Le.any];all_goals (refine Le.of_eq (congrArg (fun b=>AV.v (.bool b)) ?_);rw[zU];simp at *;omega)
   simp only[zc,zb];(iterate 2 (refine chS 2 ?_;simp only[go_sem]));simp only[↓bO,go_sem,seval];(try simp only[zat,zau,zam,zay,mB,zc,zb,seval]);refine Weak.mk ?_ (fun _ _ h=>h) rfl rfl;simp only[go_sem,Le.refl,Le.any];all_goals (refine Le.of_eq (congrArg (fun b=>AV.v (.bool b)) ?_);rw[zU];simp at *;omega)
  simp only[zat,zau,zam,zay,mB,zc,zb,seval];refine zak rfl (fun hb26=>?_) (fun hb26=>?_)
  ·
   refine sqR fun Y1 y1=>?_;simp only[↓bO,go_sem,seval];refine y1 _ ?_;(try clear y1 Y1);refine zal ?_;(try simp only[zag,zaf,zae,zaY,zaV,zaD,bS,bA]);refine Le.of_eq ?_;rw[Ty.right_eq];(all_goals try simp only[zl,zn] at hb8);(all_goals try simp only[zl,zn] at hb26);(all_goals try simp only[zl,zn] at hb35);(all_goals try simp only[zl,zn] at hb48);(all_goals try simp only[zl,zn] at hb56);(all_goals try simp only[zl,zn] at hb68);first | (have e1:okN T.k T.n T.ps.length=false:=(by simp only[okN,zn];omega);rw[e1];rfl) | (rw[zbC hp (by simpa using hb88)];simp;done) | (have e1:okN T.k T.n T.ps.length=true:=(by simp only[okN,zl];omega);rw[e1,zbT (f:=Ty.right) (fun i p hi h1=>hs.2 i p tz1 h1)];rfl)
  refine zbS (mB 89 34359738378) ([(35,.v (.bool (decide ((T.k=2∨T.k=3)∧0<T.ps.length))))]) ([]) ?_ ?_
  ·
   refine zaj ?_;(iterate 2 (refine chS 2 ?_;simp only[go_sem]));refine zaG 39 rfl (fun hc39=>?_) (fun hc39=>?_)
   ·
    simp only[zc,zb];(iterate 4 (refine chS 2 ?_;simp only[go_sem]));simp only[↓bO,go_sem,seval];(try simp only[zat,zau,zam,zay,mB,zc,zb,seval]);refine Weak.mk ?_ (fun _ _ h=>h) rfl rfl;simp only[go_sem,Le.refl,Le.any];all_goals (refine Le.of_eq (congrArg (fun b=>AV.v (.bool b)) ?_);rw[zU];simp at *;omega)
   simp only[zc,zb];(iterate 2 (refine chS 2 ?_;simp only[go_sem]));refine chS 1 ?_;simp only[go_sem];refine zaG 44 rfl (fun hc44=>?_) (fun hc44=>?_)
   ·
    simp only[zc,zb];refine chS 2 ?_;simp only[go_sem];simp only[↓bO,go_sem,seval];(try simp only[zat,zau,zam,zay,mB,zc,zb,seval]);refine Weak.mk ?_ (fun _ _ h=>h) rfl rfl;simp only[go_sem,Le.refl,Le.any];all_goals (refine Le.of_eq (congrArg (fun b=>AV.v (.bool b)) ?_);rw[zU];simp at *;omega)
   simp only[zc,zb];refine chS 2 ?_;simp only[go_sem];simp only[↓bO,go_sem,seval];(try simp only[zat,zau,zam,zay,mB,zc,zb,seval]);refine Weak.mk ?_ (fun _ _ h=>h) rfl rfl;simp only[go_sem,Le.refl,Le.any];all_goals (refine Le.of_eq (congrArg (fun b=>AV.v (.bool b)) ?_);rw[zU];simp at *;omega)
  simp only[zat,zau,zam,zay,mB,zc,zb,seval];refine zak rfl (fun hb35=>?_) (fun hb35=>?_)
  ·
   refine sqR fun Y1 y1=>?_;simp only[↓bO,go_sem,seval];refine y1 _ ?_;(try clear y1 Y1);refine zal ?_;(try simp only[zag,zaf,zae,zaY,zaV,zaD,bS,bA]);refine Le.of_eq ?_;rw[Ty.right_eq];(all_goals try simp only[zl,zn] at hb8);(all_goals try simp only[zl,zn] at hb26);(all_goals try simp only[zl,zn] at hb35);(all_goals try simp only[zl,zn] at hb48);(all_goals try simp only[zl,zn] at hb56);(all_goals try simp only[zl,zn] at hb68);first | (have e1:okN T.k T.n T.ps.length=false:=(by simp only[okN,zn];omega);rw[e1];rfl) | (rw[zbC hp (by simpa using hb88)];simp;done) | (have e1:okN T.k T.n T.ps.length=true:=(by simp only[okN,zl];omega);rw[e1,zbT (f:=Ty.right) (fun i p hi h1=>hs.2 i p tz1 h1)];rfl)
  refine zbS (mB 89 281474976710666) ([(48,.v (.bool (decide (T.k=4∧T.ps.length≠2))))]) ([]) ?_ ?_
  ·
   refine zaj ?_;(iterate 2 (refine chS 2 ?_;simp only[go_sem]));refine zaG 52 rfl (fun hc52=>?_) (fun hc52=>?_)
   ·
    simp only[zc,zb];refine chS 2 ?_;simp only[go_sem];simp only[↓bO,go_sem,seval];(try simp only[zat,zau,zam,zay,mB,zc,zb,seval]);refine Weak.mk ?_ (fun _ _ h=>h) rfl rfl;simp only[go_sem,Le.refl,Le.any];all_goals (refine Le.of_eq (congrArg (fun b=>AV.v (.bool b)) ?_);rw[zU];simp at *;omega)
   simp only[zc,zb];refine chS 2 ?_;simp only[go_sem];simp only[↓bO,go_sem,seval];(try simp only[zat,zau,zam,zay,mB,zc,zb,seval]);refine Weak.mk ?_ (fun _ _ h=>h) rfl rfl;simp only[go_sem,Le.refl,Le.any];all_goals (refine Le.of_eq (congrArg (fun b=>AV.v (.bool b)) ?_);rw[zU];simp at *;omega)
  simp only[zat,zau,zam,zay,mB,zc,zb,seval];refine zak rfl (fun hb48=>?_) (fun hb48=>?_)
  ·
   refine sqR fun Y1 y1=>?_;simp only[↓bO,go_sem,seval];refine y1 _ ?_;(try clear y1 Y1);refine zal ?_;(try simp only[zag,zaf,zae,zaY,zaV,zaD,bS,bA]);refine Le.of_eq ?_;rw[Ty.right_eq];(all_goals try simp only[zl,zn] at hb8);(all_goals try simp only[zl,zn] at hb26);(all_goals try simp only[zl,zn] at hb35);(all_goals try simp only[zl,zn] at hb48);(all_goals try simp only[zl,zn] at hb56);(all_goals try simp only[zl,zn] at hb68);first | (have e1:okN T.k T.n T.ps.length=false:=(by simp only[okN,zn];omega);rw[e1];rfl) | (rw[zbC hp (by simpa using hb88)];simp;done) | (have e1:okN T.k T.n T.ps.length=true:=(by simp only[okN,zl];omega);rw[e1,zbT (f:=Ty.right) (fun i p hi h1=>hs.2 i p tz1 h1)];rfl)
  refine zbS (mB 89 72057594037927946) ([(56,.v (.bool (decide (T.k=5∧(T.ps.length<2∨8<T.ps.length)))))]) ([]) ?_ ?_
  ·
   refine zaj ?_;(iterate 2 (refine chS 2 ?_;simp only[go_sem]));refine zaG 60 rfl (fun hc60=>?_) (fun hc60=>?_)
   ·
    simp only[zc,zb];refine chS 2 ?_;simp only[go_sem];refine chS 1 ?_;simp only[go_sem];refine zaG 63 rfl (fun hc63=>?_) (fun hc63=>?_)
    ·
     simp only[zc,zb];(iterate 2 (refine chS 2 ?_;simp only[go_sem]));simp only[↓bO,go_sem,seval];(try simp only[zat,zau,zam,zay,mB,zc,zb,seval]);refine Weak.mk ?_ (fun _ _ h=>h) rfl rfl;simp only[go_sem,Le.refl,Le.any];all_goals (refine Le.of_eq (congrArg (fun b=>AV.v (.bool b)) ?_);rw[zU];simp at *;omega)
    simp only[zc,zb];(iterate 2 (refine chS 2 ?_;simp only[go_sem]));simp only[↓bO,go_sem,seval];(try simp only[zat,zau,zam,zay,mB,zc,zb,seval]);refine Weak.mk ?_ (fun _ _ h=>h) rfl rfl;simp only[go_sem,Le.refl,Le.any];all_goals (refine Le.of_eq (congrArg (fun b=>AV.v (.bool b)) ?_);rw[zU];simp at *;omega)
   simp only[zc,zb];(iterate 3 (refine chS 2 ?_;simp only[go_sem]));simp only[↓bO,go_sem,seval];(try simp only[zat,zau,zam,zay,mB,zc,zb,seval]);refine Weak.mk ?_ (fun _ _ h=>h) rfl rfl;simp only[go_sem,Le.refl,Le.any];all_goals (refine Le.of_eq (congrArg (fun b=>AV.v (.bool b)) ?_);rw[zU];simp at *;omega)
  simp only[zat,zau,zam,zay,mB,zc,zb,seval];refine zak rfl (fun hb56=>?_) (fun hb56=>?_)
  ·
   refine sqR fun Y1 y1=>?_;simp only[↓bO,go_sem,seval];refine y1 _ ?_;(try clear y1 Y1);refine zal ?_;(try simp only[zag,zaf,zae,zaY,zaV,zaD,bS,bA]);refine Le.of_eq ?_;rw[Ty.right_eq];(all_goals try simp only[zl,zn] at hb8);(all_goals try simp only[zl,zn] at hb26);(all_goals try simp only[zl,zn] at hb35);(all_goals try simp only[zl,zn] at hb48);(all_goals try simp only[zl,zn] at hb56);(all_goals try simp only[zl,zn] at hb68);first | (have e1:okN T.k T.n T.ps.length=false:=(by simp only[okN,zn];omega);rw[e1];rfl) | (rw[zbC hp (by simpa using hb88)];simp;done) | (have e1:okN T.k T.n T.ps.length=true:=(by simp only[okN,zl];omega);rw[e1,zbT (f:=Ty.right) (fun i p hi h1=>hs.2 i p tz1 h1)];rfl)
  refine zbS (mB 89 295147905179352825866) ([(68,.v (.bool (decide (T.k<1∨5<T.k))))]) ([]) ?_ ?_
  ·
   refine zaj ?_;(iterate 2 (refine chS 2 ?_;simp only[go_sem]));refine zaG 72 rfl (fun hc72=>?_) (fun hc72=>?_)
   ·
    simp only[zc,zb];(iterate 2 (refine chS 2 ?_;simp only[go_sem]));simp only[↓bO,go_sem,seval];(try simp only[zat,zau,zam,zay,mB,zc,zb,seval]);refine Weak.mk ?_ (fun _ _ h=>h) rfl rfl;simp only[go_sem,Le.refl,Le.any];all_goals (refine Le.of_eq (congrArg (fun b=>AV.v (.bool b)) ?_);rw[zU];simp at *;omega)
   simp only[zc,zb];(iterate 2 (refine chS 2 ?_;simp only[go_sem]));simp only[↓bO,go_sem,seval];(try simp only[zat,zau,zam,zay,mB,zc,zb,seval]);refine Weak.mk ?_ (fun _ _ h=>h) rfl rfl;simp only[go_sem,Le.refl,Le.any];all_goals (refine Le.of_eq (congrArg (fun b=>AV.v (.bool b)) ?_);rw[zU];simp at *;omega)
  simp only[zat,zau,zam,zay,mB,zc,zb,seval];refine zak rfl (fun hb68=>?_) (fun hb68=>?_)
  ·
   refine sqR fun Y1 y1=>?_;simp only[↓bO,go_sem,seval];refine y1 _ ?_;(try clear y1 Y1);refine zal ?_;(try simp only[zag,zaf,zae,zaY,zaV,zaD,bS,bA]);refine Le.of_eq ?_;rw[Ty.right_eq];(all_goals try simp only[zl,zn] at hb8);(all_goals try simp only[zl,zn] at hb26);(all_goals try simp only[zl,zn] at hb35);(all_goals try simp only[zl,zn] at hb48);(all_goals try simp only[zl,zn] at hb56);(all_goals try simp only[zl,zn] at hb68);first | (have e1:okN T.k T.n T.ps.length=false:=(by simp only[okN,zn];omega);rw[e1];rfl) | (rw[zbC hp (by simpa using hb88)];simp;done) | (have e1:okN T.k T.n T.ps.length=true:=(by simp only[okN,zl];omega);rw[e1,zbT (f:=Ty.right) (fun i p hi h1=>hs.2 i p tz1 h1)];rfl)
  refine zaq ?_;(try simp only[zag,zaf,zae]);refine y0 _ ?_;(try clear y0 Y0);refine zah fun Y0 y0=>?_;refine sqR fun Y1 y1=>?_;simp only[↓bO,go_sem,seval];refine y1 _ ?_;(try clear y1 Y1);refine zap ?_;refine zaJ (σ:=Nat) (mB 89 26) (fun s=>s≤T.ps.length∧∀(i:Nat) (p:Ty),i<s→T.ps[i]?=some p→p.right=true) (fun s=>[(4,.v (.int .i64 (s:Int)))]) (fun s=>[]) (fun s=>T.ps.length-s) 0 (⟨by omega,fun i p hi=>by omega⟩) ?_ (fun s hs=>?_)
  ·
   simp only[zat,zau,zam,zay,mB,zc,zb,seval];exact zbj
  simp only[zat,zau,zam,zay,mB,zc,zb,seval];refine zah fun Y1 y1=>?_;refine sqR fun Y2 y2=>?_;refine chS 2 ?_;simp only[go_sem];simp only[↓bO,go_sem,seval];refine y2 _ ?_;(try clear y2 Y2);refine zak rfl (fun hb79=>?_) (fun hb79=>?_)
  ·
   (have hk:s<T.ps.length:=by simpa using hb79);obtain ⟨p,hp⟩:∃p,T.ps[s]?=some p:=⟨_,ze hk⟩;have hw:IntKind.i64.wrap ((s:Int)+1)=(s:Int)+1:=zaM tz1 (by have:=hm1.len;simp only[maxLen] at this;omega);refine zaq ?_;(try simp only[zag,zaf,zae]);refine y1 _ ?_;(try clear y1 Y1);refine zah fun Y1 y1=>?_;refine zap ?_;refine sqR fun Y2 y2=>?_;(iterate 2 (refine zad 2 fun Q0 q0=>?_;simp only[↓bO,go_sem,seval,hk,gM hp,za,hw];refine q0 _ ?_;clear q0 Q0;simp only[go_sem]));refine zad 1 fun Q0 q0=>?_;simp only[↓bO,go_sem,seval,hk,gM hp,za,hw];refine q0 _ ?_;clear q0 Q0;simp only[go_sem];refine zad 1 fun Q0 q0=>?_;simp only[↓bO,go_sem,seval,hk,gM hp,za,hw];refine APure.call (ih p (zm hp)) ?_;(try simp only[bS,bA,zag,zaf,zae]);refine q0 _ ?_;clear q0 Q0;simp only[go_sem];simp only[↓bO,go_sem,seval,hk,gM hp,za,hw];refine y2 _ ?_;(try clear y2 Y2);refine zak rfl (fun hb88=>?_) (fun hb88=>?_)
   ·
    refine sqR fun Y2 y2=>?_;simp only[↓bO,go_sem,seval,hk,gM hp,za,hw];refine y2 _ ?_;(try clear y2 Y2);refine zal ?_;(try simp only[zag,zaf,zae,zaY,zaV,zaD,bS,bA]);refine Le.of_eq ?_;rw[Ty.right_eq];(all_goals try simp only[zl,zn] at hb8);(all_goals try simp only[zl,zn] at hb26);(all_goals try simp only[zl,zn] at hb35);(all_goals try simp only[zl,zn] at hb48);(all_goals try simp only[zl,zn] at hb56);(all_goals try simp only[zl,zn] at hb68);first | (have e1:okN T.k T.n T.ps.length=false:=(by simp only[okN,zn];omega);rw[e1];rfl) | (rw[zbC hp (by simpa using hb88)];simp;done) | (have e1:okN T.k T.n T.ps.length=true:=(by simp only[okN,zl];omega);rw[e1,zbT (f:=Ty.right) (fun i p hi h1=>hs.2 i p tz1 h1)];rfl)
   refine zaq ?_;(try simp only[zag,zaf,zae]);refine y1 _ ?_;(try clear y1 Y1);refine zaj ?_;refine zad 2 fun Q0 q0=>?_;simp only[↓bO,go_sem,seval,hk,gM hp,za,hw];refine q0 _ ?_;clear q0 Q0;simp only[go_sem];simp only[↓bO,go_sem,seval,hk,gM hp,za,hw];refine ⟨(s+1),⟨by omega,fun i p' hi h1=>(by rcases zQ i s with h3 | h3 <;> first | exact hs.2 i p' h3 h1 | (obtain rfl:i=s:=tz1;rw[hp] at h1;cases h1;simpa using hb88))⟩,by omega,?_⟩;simp only[zat,zau,zam,zay,mB,zc,zb,seval,hk,gM hp,za,zC,hw];exact zbj
  (have hk:s=T.ps.length:=by have:=hs.1;simp at hb79;omega);refine zaK ?_;simp only[zag,zaf,zae,bA,Nat.reduceEqDiff,↓reduceIte];refine y0 _ ?_;(try clear y0 Y0);refine sqR fun Y0 y0=>?_;simp only[↓bO,go_sem,seval];refine y0 _ ?_;(try clear y0 Y0);refine zal ?_;(try simp only[zag,zaf,zae,zaY,zaV,zaD,bS,bA]);refine Le.of_eq ?_;rw[Ty.right_eq];(all_goals try simp only[zl,zn] at hb8);(all_goals try simp only[zl,zn] at hb26);(all_goals try simp only[zl,zn] at hb35);(all_goals try simp only[zl,zn] at hb48);(all_goals try simp only[zl,zn] at hb56);(all_goals try simp only[zl,zn] at hb68);first | (have e1:okN T.k T.n T.ps.length=false:=(by simp only[okN,zn];omega);rw[e1];rfl) | (rw[zbC hp (by simpa using hb88)];simp;done) | (have e1:okN T.k T.n T.ps.length=true:=(by simp only[okN,zl];omega);rw[e1,zbT (f:=Ty.right) (fun i p hi h1=>hs.2 i p tz1 h1)];rfl)
theorem zj3 (n:Int):APure Tryz.prog 136 [.v (.int .i64 n)] (.v (.bool (decide (0≤n∧n<1073741824)))):=by
  refine APure.mkL (.cons (.v _) .nil) (.v _) ?_;refine zai Tryz.func136 tz0 rfl (by rw[Tryz.ntmps136];simp) (fun hm=>?_);simp only[Tryz.ntmps136,Tryz.results136,zh,zk,Nat.reduceAdd,Nat.reduceSub,zt,zu,zi,zj];refine sqR fun Y0 y0=>?_;simp only[↓bO,go_sem,seval];refine y0 _ ?_;(try clear y0 Y0);refine sqR fun Y0 y0=>?_;refine chS 3 ?_;simp only[go_sem];refine zaG 5 rfl (fun hc5=>?_) (fun hc5=>?_)
  ·
   simp only[zc,zb];simp only[↓bO,go_sem,seval];refine y0 _ ?_;(try clear y0 Y0);refine zal ?_;(try simp only[zag,zaf,zae,zaY,zaV,zaD,bS,bA]);refine Le.of_eq (congrArg (fun b=>AV.v (.bool b)) ?_);simp at *;omega
  simp only[zc,zb];simp only[↓bO,go_sem,seval];refine y0 _ ?_;(try clear y0 Y0);refine zal ?_;(try simp only[zag,zaf,zae,zaY,zaV,zaD,bS,bA]);refine Le.of_eq (congrArg (fun b=>AV.v (.bool b)) ?_);simp at *;omega
theorem zkc (T:Ty):APure Tryz.prog 105 [.agg T.cells] (.v (.bool (okN T.k T.n T.ps.length))):=by
  refine APure.mkL (.cons T.dataAgg .nil) (.v _) ?_;refine zai Tryz.func105 tz0 rfl (by rw[Tryz.ntmps105];simp) (fun hm=>?_);simp only[Tryz.ntmps105,Tryz.results105,zh,zk,Nat.reduceAdd,Nat.reduceSub,zt,zu,zi,zj];refine sqR fun Y0 y0=>?_;simp only[↓bO,go_sem,seval];refine y0 _ ?_;(try clear y0 Y0);refine sqR fun Y0 y0=>?_;refine chS 3 ?_;simp only[go_sem];simp only[↓bO,go_sem,seval];refine y0 _ ?_;(try clear y0 Y0);refine zah fun Y0 y0=>?_;refine sqR fun Y1 y1=>?_;simp only[↓bO,go_sem,seval];refine y1 _ ?_;(try clear y1 Y1);refine zap ?_;refine sqR fun Y1 y1=>?_;simp only[↓bO,go_sem,seval];refine y1 _ ?_;(try clear y1 Y1);refine zak rfl (fun hb9=>?_) (fun hb9=>?_)
  ·
   refine sqR fun Y1 y1=>?_;refine chS 2 ?_;simp only[go_sem];refine zad 1 fun Q0 q0=>?_;simp only[↓bO,go_sem,seval];refine APure.call (zj3 T.n) ?_;(try simp only[bS,bA,zag,zaf,zae]);refine q0 _ ?_;clear q0 Q0;simp only[go_sem];refine chS 1 ?_;simp only[go_sem];refine zaG 14 rfl (fun hc14=>?_) (fun hc14=>?_)
   ·
    simp only[zc,zb];refine chS 3 ?_;simp only[go_sem];simp only[↓bO,go_sem,seval];refine y1 _ ?_;(try clear y1 Y1);refine zal ?_;(try simp only[zag,zaf,zae,zaY,zaV,zaD,bS,bA]);refine Le.of_eq (congrArg (fun b=>AV.v (.bool b)) ?_);rw[zU];simp only[okN,zl,beq_iff_eq,zW,beq_eq_false_iff_ne,ne_eq,zn,false_iff,true_iff,and_true,true_and] at *;try omega
   simp only[zc,zb];refine chS 3 ?_;simp only[go_sem];simp only[↓bO,go_sem,seval];refine y1 _ ?_;(try clear y1 Y1);refine zal ?_;(try simp only[zag,zaf,zae,zaY,zaV,zaD,bS,bA]);refine Le.of_eq (congrArg (fun b=>AV.v (.bool b)) ?_);rw[zU];simp only[okN,zl,beq_iff_eq,zW,beq_eq_false_iff_ne,ne_eq,zn,false_iff,true_iff,and_true,true_and] at *;try omega
  refine zah fun Y1 y1=>?_;refine sqR fun Y2 y2=>?_;simp only[↓bO,go_sem,seval];refine y2 _ ?_;(try clear y2 Y2);refine zak rfl (fun hb18=>?_) (fun hb18=>?_)
  ·
   refine zaq ?_;(try simp only[zag,zaf,zae]);refine y1 _ ?_;(try clear y1 Y1);refine zak (b:=true) (by first | exact rfl | exact congrArg (fun b=>AV.v (.bool b)) hb18) (fun _=>?_) (fun h=>(by cases h));refine sqR fun Y1 y1=>?_;refine chS 3 ?_;simp only[go_sem];refine chS 1 ?_;simp only[go_sem];refine zaG 24 rfl (fun hc24=>?_) (fun hc24=>?_)
   ·
    simp only[zc,zb];refine chS 3 ?_;simp only[go_sem];simp only[↓bO,go_sem,seval];refine y1 _ ?_;(try clear y1 Y1);refine zal ?_;(try simp only[zag,zaf,zae,zaY,zaV,zaD,bS,bA]);refine Le.of_eq (congrArg (fun b=>AV.v (.bool b)) ?_);rw[zU];simp only[okN,zl,beq_iff_eq,zW,beq_eq_false_iff_ne,ne_eq,zn,false_iff,true_iff,and_true,true_and] at *;try omega
   simp only[zc,zb];refine chS 3 ?_;simp only[go_sem];simp only[↓bO,go_sem,seval];refine y1 _ ?_;(try clear y1 Y1);refine zal ?_;(try simp only[zag,zaf,zae,zaY,zaV,zaD,bS,bA]);refine Le.of_eq (congrArg (fun b=>AV.v (.bool b)) ?_);rw[zU];simp only[okN,zl,beq_iff_eq,zW,beq_eq_false_iff_ne,ne_eq,zn,false_iff,true_iff,and_true,true_and] at *;try omega
  refine zaj ?_;simp only[↓bO,go_sem,seval];refine y1 _ ?_;(try clear y1 Y1);refine zak rfl (fun hb18=>?_) (fun hb18=>?_)
  ·
   refine sqR fun Y1 y1=>?_;refine chS 3 ?_;simp only[go_sem];refine chS 1 ?_;simp only[go_sem];refine zaG 24 rfl (fun hc24=>?_) (fun hc24=>?_)
   ·
    simp only[zc,zb];refine chS 3 ?_;simp only[go_sem];simp only[↓bO,go_sem,seval];refine y1 _ ?_;(try clear y1 Y1);refine zal ?_;(try simp only[zag,zaf,zae,zaY,zaV,zaD,bS,bA]);refine Le.of_eq (congrArg (fun b=>AV.v (.bool b)) ?_);rw[zU];simp only[okN,zl,beq_iff_eq,zW,beq_eq_false_iff_ne,ne_eq,zn,false_iff,true_iff,and_true,true_and] at *;try omega
   simp only[zc,zb];refine chS 3 ?_;simp only[go_sem];simp only[↓bO,go_sem,seval];refine y1 _ ?_;(try clear y1 Y1);refine zal ?_;(try simp only[zag,zaf,zae,zaY,zaV,zaD,bS,bA]);refine Le.of_eq (congrArg (fun b=>AV.v (.bool b)) ?_);rw[zU];simp only[okN,zl,beq_iff_eq,zW,beq_eq_false_iff_ne,ne_eq,zn,false_iff,true_iff,and_true,true_and] at *;try omega
  refine sqR fun Y1 y1=>?_;simp only[↓bO,go_sem,seval];refine y1 _ ?_;(try clear y1 Y1);refine zak rfl (fun hb28=>?_) (fun hb28=>?_)
  ·
   refine sqR fun Y1 y1=>?_;refine chS 3 ?_;simp only[go_sem];refine chS 1 ?_;simp only[go_sem];refine zaG 33 rfl (fun hc33=>?_) (fun hc33=>?_)
   ·
    simp only[zc,zb];refine chS 3 ?_;simp only[go_sem];simp only[↓bO,go_sem,seval];refine y1 _ ?_;(try clear y1 Y1);refine zal ?_;(try simp only[zag,zaf,zae,zaY,zaV,zaD,bS,bA]);refine Le.of_eq (congrArg (fun b=>AV.v (.bool b)) ?_);rw[zU];simp only[okN,zl,beq_iff_eq,zW,beq_eq_false_iff_ne,ne_eq,zn,false_iff,true_iff,and_true,true_and] at *;try omega
   simp only[zc,zb];refine chS 3 ?_;simp only[go_sem];simp only[↓bO,go_sem,seval];refine y1 _ ?_;(try clear y1 Y1);refine zal ?_;(try simp only[zag,zaf,zae,zaY,zaV,zaD,bS,bA]);refine Le.of_eq (congrArg (fun b=>AV.v (.bool b)) ?_);rw[zU];simp only[okN,zl,beq_iff_eq,zW,beq_eq_false_iff_ne,ne_eq,zn,false_iff,true_iff,and_true,true_and] at *;try omega
  refine sqR fun Y1 y1=>?_;simp only[↓bO,go_sem,seval];refine y1 _ ?_;(try clear y1 Y1);refine zak rfl (fun hb37=>?_) (fun hb37=>?_)
  ·
   refine sqR fun Y1 y1=>?_;refine chS 3 ?_;simp only[go_sem];refine chS 1 ?_;simp only[go_sem];refine zaG 42 rfl (fun hc42=>?_) (fun hc42=>?_)
   ·
    simp only[zc,zb];refine chS 3 ?_;simp only[go_sem];refine chS 1 ?_;simp only[go_sem];refine zaG 46 rfl (fun hc46=>?_) (fun hc46=>?_)
    ·
     simp only[zc,zb];refine chS 3 ?_;simp only[go_sem];simp only[↓bO,go_sem,seval];refine y1 _ ?_;(try clear y1 Y1);refine zal ?_;(try simp only[zag,zaf,zae,zaY,zaV,zaD,bS,bA]);refine Le.of_eq (congrArg (fun b=>AV.v (.bool b)) ?_);rw[zU];simp only[okN,zl,beq_iff_eq,zW,beq_eq_false_iff_ne,ne_eq,zn,false_iff,true_iff,and_true,true_and] at *;try omega
    simp only[zc,zb];refine chS 3 ?_;simp only[go_sem];simp only[↓bO,go_sem,seval];refine y1 _ ?_;(try clear y1 Y1);refine zal ?_;(try simp only[zag,zaf,zae,zaY,zaV,zaD,bS,bA]);refine Le.of_eq (congrArg (fun b=>AV.v (.bool b)) ?_);rw[zU];simp only[okN,zl,beq_iff_eq,zW,beq_eq_false_iff_ne,ne_eq,zn,false_iff,true_iff,and_true,true_and] at *;try omega
   simp only[zc,zb];(iterate 2 (refine chS 3 ?_;simp only[go_sem]));simp only[↓bO,go_sem,seval];refine y1 _ ?_;(try clear y1 Y1);refine zal ?_;(try simp only[zag,zaf,zae,zaY,zaV,zaD,bS,bA]);refine Le.of_eq (congrArg (fun b=>AV.v (.bool b)) ?_);rw[zU];simp only[okN,zl,beq_iff_eq,zW,beq_eq_false_iff_ne,ne_eq,zn,false_iff,true_iff,and_true,true_and] at *;try omega
  refine zaq ?_;(try simp only[zag,zaf,zae]);refine y0 _ ?_;(try clear y0 Y0);refine sqR fun Y0 y0=>?_;simp only[↓bO,go_sem,seval];refine y0 _ ?_;(try clear y0 Y0);refine zal ?_;(try simp only[zag,zaf,zae,zaY,zaV,zaD,bS,bA]);refine Le.of_eq (congrArg (fun b=>AV.v (.bool b)) ?_);rw[zU];simp only[okN,zl,beq_iff_eq,zW,beq_eq_false_iff_ne,ne_eq,zn,false_iff,true_iff,and_true,true_and] at *;try omega
theorem zex {α:Type} {f:α→Bool} {ps:List α} {i:Nat} {p:α} (hp:ps[i]?=some p) (h:f p=true):ps.any f=true:=List.any_eq_true.2 ⟨p,zm hp,h⟩
theorem zeU {α:Type} {f:α→Bool} {ps:List α} (h:∀(i:Nat) (p:α),i<ps.length→ps[i]?=some p→f p=false):ps.any f=false:=by
  rw[← Bool.not_eq_true,List.any_eq_true];rintro ⟨p,hp,hf⟩;obtain ⟨i,hi,e⟩:=z7.1 hp;rw[h i p hi (by rw[ze hi,e])] at hf;cases hf
def zb4 {α:Type} (g:α→Bool) (l:List α):Int:=if l.any g then (l.findIdx g:Int) else -1
theorem zb8 {α:Type} {g:α→Bool} {l:List α} {i:Nat} {p:α} (hp:l[i]?=some p) (h:g p=true) (hb:∀(j:Nat) (q:α),j<i→l[j]?=some q→g q=false):zb4 g l=(i:Int):=by
  have hi:i<l.length:=(zf.1 hp).1;have e:l[i]=p:=(zf.1 hp).2;rw[zb4,if_pos (zex hp h)];(congr 1);refine List.findIdx_eq hi |>.2 ⟨by rw[e];exact h,fun j hj=>?_⟩;exact hb j _ hj (ze tz1)
theorem zcI {α:Type} {g:α→Bool} {l:List α} (hb:∀(j:Nat) (q:α),j<l.length→l[j]?=some q→g q=false):zb4 g l=-1:=by
  rw[zb4,zeU hb];rfl
theorem zgT {α:Type} {g:α→Bool} {l:List α}:decide (zb4 g l≥0)=l.any g:=by
  unfold zb4;split;(· rename_i h;rw[h];simp);rename_i h;simp at h;simp;exact h
theorem ze0 (ps:List Ty) (g:Nat) (f:Ty→Bool) (hf:∀p∈ps,APure Tryz.prog g [.agg p.cells] (.v (.bool (f p)))):APure Tryz.prog 137 [.sl 3 (ps.map Ty.cells),.clo g []] (.v (.int .i64 (zb4 f ps))):=by
  refine APure.mkL (.cons (Ty.dataSl ps) (.cons (.clo (fun _ h=>by cases h)) .nil)) (.v _) ?_;refine zai Tryz.func137 tz0 rfl (by rw[Tryz.ntmps137];simp) (fun hm=>?_);simp only[Tryz.ntmps137,Tryz.results137,zh,zk,Nat.reduceAdd,Nat.reduceSub,zt,zu,zi,zj];have hm1:=hm.len (sz:=3) (xs:=ps.map Ty.cells) tz4;rw[zO] at hm1;(have hm2:∀i:Nat,i<ps.length→IntKind.i64.wrap ((i:Int)+1)=(i:Int)+1:=fun i hi=>zaM tz1 (by simp only[maxLen] at hm1;omega));refine sqR fun Y0 y0=>?_;simp only[↓bO,go_sem,seval];refine y0 _ ?_;(try clear y0 Y0);refine zah fun Y0 y0=>?_;refine sqR fun Y1 y1=>?_;simp only[↓bO,go_sem,seval];refine y1 _ ?_;(try clear y1 Y1);refine zap ?_;refine zaJ (σ:=Nat) (mB 19 387) (fun s=>s≤ps.length∧∀(i:Nat) (p:Ty),i<s→ps[i]?=some p→f p=false) (fun s=>[(8,.v (.int .i64 (s:Int)))]) (fun s=>[]) (fun s=>ps.length-s) 0 (⟨by omega,fun i p hi=>by omega⟩) ?_ (fun s hs=>?_)
  ·
   simp only[zat,zau,zam,zay,mB,zc,zb,seval];exact zbj
  simp only[zat,zau,zam,zay,mB,zc,zb,seval];refine sqR fun Y1 y1=>?_;simp only[↓bO,go_sem,seval];refine y1 _ ?_;(try clear y1 Y1);refine zah fun Y1 y1=>?_;refine zak rfl (fun hb9=>?_) (fun hb9=>?_)
  ·
   (have hk:s<ps.length:=by simpa using hb9);obtain ⟨p,hp⟩:∃p,ps[s]?=some p:=⟨_,ze hk⟩;have hw:=hm2 s hk;refine zaq ?_;(try simp only[zag,zaf,zae]);refine y1 _ ?_;(try clear y1 Y1);refine zah fun Y1 y1=>?_;refine zap ?_;refine sqR fun Y2 y2=>?_;simp only[↓bO,go_sem,seval,hk,gM hp,za,hw];refine y2 _ ?_;(try clear y2 Y2);refine sqR fun Y2 y2=>?_;refine zad 4 fun Q0 q0=>?_;simp only[↓bO,go_sem,seval,hk,gM hp,za,hw];refine q0 _ ?_;clear q0 Q0;simp only[go_sem];refine zad 1 fun Q0 q0=>?_;simp only[↓bO,go_sem,seval,hk,gM hp,za,hw];refine q0 _ ?_;clear q0 Q0;simp only[go_sem];simp only[↓bO,go_sem,seval,hk,gM hp,za,hw];refine APure.call (hf p (zm hp)) ?_;(try simp only[bS,bA,zag,zaf,zae]);refine y2 _ ?_;(try clear y2 Y2);refine zak rfl (fun hb16=>?_) (fun hb16=>?_)
   ·
    refine sqR fun Y2 y2=>?_;simp only[↓bO,go_sem,seval,hk,gM hp,za,hw];refine y2 _ ?_;(try clear y2 Y2);refine zal ?_;(try simp only[zag,zaf,zae,zaY,zaV,zaD,bS,bA]);refine Le.of_eq (congrArg (fun n=>AV.v (.int .i64 n)) ?_);first | (rw[zb8 hp (by exact hb16) hs.2];done) | (rw[zcI (fun i p hi h1=>hs.2 i p tz1 h1)];done)
   refine zaq ?_;(try simp only[zag,zaf,zae]);refine y1 _ ?_;(try clear y1 Y1);refine zaj ?_;simp only[↓bO,go_sem,seval,hk,gM hp,za,hw];refine ⟨(s+1),⟨by omega,fun i p' hi h1=>(by rcases zQ i s with h3 | h3 <;> first | exact hs.2 i p' h3 h1 | (obtain rfl:i=s:=tz1;rw[hp] at h1;cases h1;exact hb16))⟩,by omega,?_⟩;simp only[zat,zau,zam,zay,mB,zc,zb,seval,hk,gM hp,za,zC,hw];exact zbj
  (have hk:s=ps.length:=by have:=hs.1;simp at hb9;omega);refine zaK ?_;simp only[zag,zaf,zae,bA,Nat.reduceEqDiff,↓reduceIte];refine y0 _ ?_;(try clear y0 Y0);refine sqR fun Y0 y0=>?_;simp only[↓bO,go_sem,seval];refine y0 _ ?_;(try clear y0 Y0);refine zal ?_;(try simp only[zag,zaf,zae,zaY,zaV,zaD,bS,bA]);refine Le.of_eq (congrArg (fun n=>AV.v (.int .i64 n)) ?_);first | (rw[zb8 hp (by exact hb16) hs.2];done) | (rw[zcI (fun i p hi h1=>hs.2 i p tz1 h1)];done)
theorem zd4 (ps:List Ty) (g:Nat) (f:Ty→Bool) (hf:∀p∈ps,APure Tryz.prog g [.agg p.cells] (.v (.bool (f p)))):APure Tryz.prog 106 [.sl 3 (ps.map Ty.cells),.clo g []] (.v (.bool (ps.any f))):=by
  refine APure.mkL (.cons (Ty.dataSl ps) (.cons (.clo (fun _ h=>by cases h)) .nil)) (.v _) ?_;refine zai Tryz.func106 tz0 rfl (by rw[Tryz.ntmps106];simp) (fun hm=>?_);simp only[Tryz.ntmps106,Tryz.results106,zh,zk,Nat.reduceAdd,Nat.reduceSub,zt,zu,zi,zj];refine sqR fun Y0 y0=>?_;simp only[↓bO,go_sem,seval,zgT];refine y0 _ ?_;(try clear y0 Y0);refine sqR fun Y0 y0=>?_;refine zad 2 fun Q0 q0=>?_;simp only[↓bO,go_sem,seval,zgT];refine q0 _ ?_;clear q0 Q0;simp only[go_sem];refine zad 1 fun Q0 q0=>?_;simp only[↓bO,go_sem,seval,zgT];refine APure.call (ze0 ps g f hf) ?_;(try simp only[bS,bA,zag,zaf,zae]);refine q0 _ ?_;clear q0 Q0;simp only[go_sem];simp only[↓bO,go_sem,seval,zgT];refine y0 _ ?_;(try clear y0 Y0);refine zal ?_;(try simp only[zag,zaf,zae,zaY,zaV,zaD,bS,bA]);exact Le.refl _
theorem ziW {p:Ty} (h:APure Tryz.prog 64 [.agg p.cells] (.v (.bool p.right))):APure Tryz.prog 107 [.agg p.cells] (.v (.bool (!p.right))):=by
  refine APure.mkL (.cons p.dataAgg .nil) (.v _) ?_;refine zai Tryz.func107 tz0 rfl (by rw[Tryz.ntmps107];simp) (fun hm=>?_);simp only[Tryz.ntmps107,Tryz.results107,zh,zk,Nat.reduceAdd,Nat.reduceSub,zt,zu,zi,zj];refine sqR fun Y0 y0=>?_;simp only[↓bO,go_sem,seval];refine y0 _ ?_;(try clear y0 Y0);refine sqR fun Y0 y0=>?_;refine chS 1 ?_;simp only[go_sem];refine zad 1 fun Q0 q0=>?_;simp only[↓bO,go_sem,seval];refine APure.call (h) ?_;(try simp only[bS,bA,zag,zaf,zae]);refine q0 _ ?_;clear q0 Q0;simp only[go_sem];simp only[↓bO,go_sem,seval];refine y0 _ ?_;(try clear y0 Y0);refine zal ?_;(try simp only[zag,zaf,zae,zaY,zaV,zaD,bS,bA]);exact Le.refl _
theorem zcg:∀(T:Ty),APure Tryz.prog 64 [.agg T.cells] (.v (.bool T.right)):=by
  refine Ty.ind fun T ih=>?_;refine APure.mkL (.cons T.dataAgg .nil) (.v _) ?_;refine zai Tryz.func64 tz0 rfl (by rw[Tryz.ntmps64];simp) (fun hm=>?_);simp only[Tryz.ntmps64,Tryz.results64,zh,zk,Nat.reduceAdd,Nat.reduceSub,zt,zu,zi,zj];refine sqR fun Y0 y0=>?_;simp only[↓bO,go_sem,seval];refine y0 _ ?_;(try clear y0 Y0);refine sqR fun Y0 y0=>?_;refine chS 1 ?_;simp only[go_sem];refine zad 1 fun Q0 q0=>?_;simp only[↓bO,go_sem,seval];refine APure.call (zkc T) ?_;(try simp only[bS,bA,zag,zaf,zae]);refine q0 _ ?_;clear q0 Q0;simp only[go_sem];refine chS 1 ?_;simp only[go_sem];refine zaG 5 rfl (fun hc5=>?_) (fun hc5=>?_)
  ·
   simp only[zc,zb];refine chS 2 ?_;simp only[go_sem];refine zad 1 fun Q0 q0=>?_;simp only[↓bO,go_sem,seval];refine APure.call (zd4 T.ps 107 (fun p=>!p.right) (fun p hp=>ziW (ih p hp))) ?_;(try simp only[bS,bA,zag,zaf,zae]);refine q0 _ ?_;clear q0 Q0;simp only[go_sem];simp only[↓bO,go_sem,seval];refine y0 _ ?_;(try clear y0 Y0);refine zal ?_;(try simp only[zag,zaf,zae,zaY,zaV,zaD,bS,bA]);refine Le.of_eq (congrArg (fun b=>AV.v (.bool b)) ?_);rw[Ty.right_eq];first | (simp only[hc5];rfl) | (simp only[hc5,Bool.true_and];simp[List.not_any_eq_all_not])
  simp only[zc,zb];refine chS 4 ?_;simp only[go_sem];simp only[↓bO,go_sem,seval];refine y0 _ ?_;(try clear y0 Y0);refine zal ?_;(try simp only[zag,zaf,zae,zaY,zaV,zaD,bS,bA]);refine Le.of_eq (congrArg (fun b=>AV.v (.bool b)) ?_);rw[Ty.right_eq];first | (simp only[hc5];rfl) | (simp only[hc5,Bool.true_and];simp[List.not_any_eq_all_not])
mutual
/-- a type whose variables have other numbers -/
def Ty.mapV (f:Int→Int):Ty→Ty
  | .mk k n ps=>.mk k (if k=1 then f n else n) (Ty.mapVL f ps)
def Ty.mapVL (f:Int→Int):List Ty→List Ty
  | []=>[]
  | p::ps=>Ty.mapV f p::Ty.mapVL f ps
end
theorem Ty.mapVL_eq (f:Int→Int):∀ps,Ty.mapVL f ps=ps.map (Ty.mapV f)
  | []=>by simp[Ty.mapVL]
  | p::ps=>by simp[Ty.mapVL,Ty.mapVL_eq f ps]
theorem Ty.mapV_eq (f:Int→Int) (t:Ty):t.mapV f=.mk t.k (if t.k=1 then f t.n else t.n) (t.ps.map (Ty.mapV f)):=by
  cases t;rw[Ty.mapV,Ty.mapVL_eq];rfl
theorem Ty.eta (t:Ty):Ty.mk t.k t.n t.ps=t:=by cases t;rfl
theorem Ty.mapV_id:∀t:Ty,t.mapV (fun n=>n)=t:=by
  refine Ty.ind fun t ih=>?_;rw[Ty.mapV_eq];have e:t.ps.map (Ty.mapV fun n=>n)=t.ps:=(List.map_congr_left ih).trans (List.map_id t.ps);rw[e];simp[Ty.eta]
mutual
def Ty.cnt:Ty→Nat
  | .mk _ _ ps=>1+Ty.cntL ps
def Ty.cntL:List Ty→Nat
  | []=>0
  | p::ps=>Ty.cnt p+Ty.cntL ps
end
theorem Ty.cnt_eq (t:Ty):t.cnt=1+Ty.cntL t.ps:=by cases t;simp[Ty.cnt,Ty.ps]
theorem Ty.cntL_append:∀(ps qs:List Ty),Ty.cntL (ps++qs)=Ty.cntL ps+Ty.cntL qs
  | [],qs=>by simp[Ty.cntL]
  | p::ps,qs=>by simp[Ty.cntL,Ty.cntL_append ps qs];omega
theorem Ty.cntL_step {ps:List Ty} {s:Nat} {p:Ty} (hp:ps[s]?=some p):Ty.cntL (ps.take s)+p.cnt≤Ty.cntL ps:=by
  (have h1:Ty.cntL (ps.take (s+1))=Ty.cntL (ps.take s)+p.cnt:=by rw[List.take_add_one,hp,Ty.cntL_append];simp[Ty.cntL]);(have h2:Ty.cntL ps=Ty.cntL (ps.take (s+1))+Ty.cntL (ps.drop (s+1)):=by rw[← Ty.cntL_append,List.take_append_drop]);omega
theorem Ty.cntL_len:∀ps,ps.length≤Ty.cntL ps
  | []=>by simp
  | p::ps=>by
    have:=Ty.cntL_len ps;(have h2:1≤p.cnt:=by rw[Ty.cnt_eq];omega);simp[Ty.cntL];omega
theorem zaF {α β:Type} (f:α→β) {ps:List α} {s:Nat} {p:α} (hp:ps[s]?=some p):(ps.take (s+1)).map f=(ps.take s).map f++[f p]:=by
  rw[List.take_add_one,hp];simp
theorem Ty.cnt_mem {p:Ty}:∀{ps:List Ty},p∈ps→p.cnt≤Ty.cntL ps
  | q::ps,h=>by
    simp only[Ty.cntL];(rcases zR.1 h with rfl | h);(· omega);have:=Ty.cnt_mem h;omega
theorem zhS (n:Int):APure Tryz.prog 41 [.v (.int .i64 n)] (.agg (Ty.mk 1 n []).cells):=by
  refine APure.mkL (.cons (.v _) .nil) ((Ty.dataAgg _)) ?_;refine zai Tryz.func41 tz0 rfl (by rw[Tryz.ntmps41];simp) (fun hm=>?_);simp only[Tryz.ntmps41,Tryz.results41,zh,zk,Nat.reduceAdd,Nat.reduceSub,zt,zu,zi,zj];(iterate 2 (refine zah fun Y0 y0=>?_;refine zaj ?_;simp only[↓bO,go_sem,seval];refine y0 _ ?_;(try clear y0 Y0)));refine zal ?_;(try simp only[zag,zaf,zae,zaY,zaV,zaD,bS,bA,zbO,zaT,zct,bL,Nat.reduceAdd,Nat.reduceLeDiff,Nat.reduceEqDiff,↓reduceIte,zho,tyX]);refine Le.agg ?_;rw[Ty.cells_eq];exact ⟨.refl _,.refl _,Le.slNil 3,trivial⟩
theorem tz5 {p:Prop} (h:p:=by simp only;omega):p:=h
theorem ziR {p:Prop} (h:p:=by exact Weak.mk (by simp only[go_sem,Le.refl,Le.any]) (fun _ _ h=>h) rfl rfl):p:=h
theorem ziJ:∀(T:Ty) (g:Nat) (caps:List AV) (φ:Int→Int) (hd:DataL caps) (hφ:∀n:Int,APure Tryz.prog g (.v (.int .i64 n)::caps) (.v (.int .i64 (φ n)))) (hT:T.cnt≤1099511627776),APure Tryz.prog 100 [.agg T.cells,.clo g caps] (.agg (T.mapV φ).cells):=by
  refine Ty.ind fun T ih=>?_;intro g caps φ hd hφ hT;refine APure.mkL (.cons T.dataAgg (.cons (.clo hd) .nil)) ((Ty.dataAgg _)) ?_;refine zai Tryz.func100 tz0 rfl (by rw[Tryz.ntmps100];simp) (fun hm=>?_);simp only[Tryz.ntmps100,Tryz.results100,zh,zk,Nat.reduceAdd,Nat.reduceSub,zt,zu,zi,zj];have hm1:=hm.wide (t:=T) tz4;have hcn:=T.cnt_eq;have hcl:=Ty.cntL_len T.ps;simp only[Ty.cells_eq T,zi,zj];refine sqR fun Y0 y0=>?_;simp only[↓bO,go_sem,seval];refine y0 _ ?_;(try clear y0 Y0);refine zbS (mB 33 22) ([]) ([(0,.cells 28 [.v (.int .i64 T.k),.v (.int .i64 (if T.k=1 then φ T.n else T.n)),.sl 3 (T.ps.map Ty.cells)])]) ?_ ?_
  ·
   refine sqR fun Y0 y0=>?_;simp only[↓bO,go_sem,seval];refine y0 _ ?_;(try clear y0 Y0);refine zak rfl (fun hb10=>?_) (fun hb10=>?_)
   ·
    refine zaj ?_;refine chS 3 ?_;simp only[go_sem];refine zad 1 fun Q0 q0=>?_;simp only[↓bO,go_sem,seval];refine APure.call ((hφ T.n)) ?_;(try simp only[bS,bA,zag,zaf,zae]);refine q0 _ ?_;clear q0 Q0;simp only[go_sem];simp only[↓bO,go_sem,seval];(try simp only[zat,zau,zam,zay,mB,zc,zb,seval]);(first | rw[if_pos (by simpa using hb10)] | rw[if_neg (by simpa using hb10)]);exact ziR
   refine zaq ?_;(try simp only[zag,zaf,zae]);(try simp only[zat,zau,zam,zay,mB,zc,zb,seval]);(first | rw[if_pos (by simpa using hb10)] | rw[if_neg (by simpa using hb10)]);exact ziR
  simp only[zat,zau,zam,zay,mB,zc,zb,seval];refine sqR fun Y0 y0=>?_;simp only[↓bO,go_sem,seval];refine y0 _ ?_;(try clear y0 Y0);refine zah fun Y0 y0=>?_;refine sqR fun Y1 y1=>?_;simp only[↓bO,go_sem,seval];refine y1 _ ?_;(try clear y1 Y1);refine zap ?_;refine zbb (Weak.tokSlot 5 28 3 rfl) ?_;simp only[zc,zb];refine zaJ (σ:=Nat) (mB 33 917558) (fun s=>s≤T.ps.length) (fun s=>[(5,.osl 2 3 (((T.ps.take s).map (Ty.mapV φ)).map Ty.cells)),(19,.v (.int .i64 (s:Int)))]) (fun s=>[(2,.tok 28 3 s)]) (fun s=>T.ps.length-s) 0 tz1 ?_ (fun s hs=>?_)
  ·
   simp only[zat,zau,zam,zay,mB,zc,zb,seval,bL];exact zbj
  simp only[zat,zau,zam,zay,mB,zc,zb,seval];refine sqR fun Y1 y1=>?_;simp only[↓bO,go_sem,seval];refine y1 _ ?_;(try clear y1 Y1);refine zah fun Y1 y1=>?_;refine zak rfl (fun hb20=>?_) (fun hb20=>?_)
  ·
   (have hk:s<T.ps.length:=by simpa using hb20);obtain ⟨p,hp⟩:∃p,T.ps[s]?=some p:=⟨_,ze hk⟩;have hpm:=Ty.cnt_mem (zm hp);have hw:IntKind.i64.wrap ((s:Int)+1)=(s:Int)+1:=zaM tz1 tz1;(have hln:(((T.ps.take s).map (Ty.mapV φ)).map Ty.cells).length=s:=by simp;omega);(have hb1:(s+1) * 40≤140737488355328:=by omega);(have hb2:s+1≤maxLen:=by simp only[maxLen];omega);refine zaq ?_;(try simp only[zag,zaf,zae]);refine y1 _ ?_;(try clear y1 Y1);refine zah fun Y1 y1=>?_;refine zap ?_;refine sqR fun Y2 y2=>?_;simp only[↓bO,go_sem,seval,hk,gM hp,za,hw,hln,hb1,hb2,zq,zaF (Ty.mapV φ) hp];refine y2 _ ?_;(try clear y2 Y2);refine zaj ?_;refine zad 3 fun Q0 q0=>?_;simp only[↓bO,go_sem,seval,hk,gM hp,za,hw,hln,hb1,hb2,zq,zaF (Ty.mapV φ) hp];refine q0 _ ?_;clear q0 Q0;simp only[go_sem];refine zad 1 fun Q0 q0=>?_;simp only[↓bO,go_sem,seval,hk,gM hp,za,hw,hln,hb1,hb2,zq,zaF (Ty.mapV φ) hp];refine APure.call (ih p (zm hp) g caps φ hd hφ tz1) ?_;(try simp only[bS,bA,zag,zaf,zae]);refine q0 _ ?_;clear q0 Q0;simp only[go_sem];simp only[↓bO,go_sem,seval,↓zbB,↓zbw,↓zbz,↓zbv,↓zbA,↓zbs,↓zby,↓zbt,↓zbx,↓za8,↓za7,↓za9,hk,gM hp,za,hw,hln,hb1,hb2,zq,zaF (Ty.mapV φ) hp];refine y1 _ ?_;(try clear y1 Y1);refine zaj ?_;simp only[↓bO,go_sem,seval,hk,gM hp,za,hw,hln,hb1,hb2,zq,zaF (Ty.mapV φ) hp];refine ⟨(s+1),tz1,by omega,?_⟩;simp only[zat,zau,zam,zay,mB,zc,zb,seval,hk,gM hp,za,zC,hw,hln,hb1,hb2,zq,bL,zaF (Ty.mapV φ) hp];(first | (refine Weak.drops 1 3 rfl rfl tz5 tz5 ?_ ?_ ?_) | (refine Weak.drops 0 3 rfl rfl tz5 tz5 ?_ ?_ ?_));(· simp only[go_sem,Le.refl,Le.any,za,zE,zC]);(· simp only[UndL,UndOs,Ob.Und,and_true,true_and,and_self,Und.v,Und.any,Und.ptr,Und.map,Nat.reduceLT,Nat.zero_lt_succ,Und.tys,Und.tyAgg,Und.oslTys,Und.oslTys1,Und.clo0,Und.ty,Und.data (n:=3) (Data.clo (f:=g) hd)]);simp only[UndL,UndOs,Ob.Und,and_true,true_and,and_self,Und.v,Und.any,Und.ptr,Und.map,Nat.reduceLT,Nat.zero_lt_succ,Und.tys,Und.tyAgg,Und.oslTys,Und.oslTys1,Und.clo0,Und.ty,Und.data (n:=3) (Data.clo (f:=g) hd)]
  (have hk:s=T.ps.length:=by simp at hb20;omega);refine zaK ?_;simp only[zag,zaf,zae,bA,Nat.reduceEqDiff,↓reduceIte];(iterate 2 (refine y0 _ ?_;(try clear y0 Y0);refine zah fun Y0 y0=>?_;refine zaj ?_;simp only[↓bO,go_sem,seval]));refine y0 _ ?_;(try clear y0 Y0);refine zal ?_;(try simp only[zag,zaf,zae,zaY,zaV,zaD,bS,bA,zbO,zaT,zct,bL,Nat.reduceAdd,Nat.reduceLeDiff,Nat.reduceEqDiff,↓reduceIte,zho,tyX]);refine Le.agg ?_;rw[Ty.mapV_eq,Ty.cells_eq,hk,zaa];exact ⟨.refl _,.refl _,Le.oslL,trivial⟩
theorem zkp (n:Int):APure Tryz.prog 101 [.v (.int .i64 n)] (.v (.int .i64 n)):=by
  refine APure.mkL (.cons (.v _) .nil) (.v _) ?_;refine zai Tryz.func101 tz0 rfl (by rw[Tryz.ntmps101];simp) (fun hm=>?_);simp only[Tryz.ntmps101,Tryz.results101,zh,zk,Nat.reduceAdd,Nat.reduceSub,zt,zu,zi,zj];(iterate 2 (refine zah fun Y0 y0=>?_;refine zaj ?_;simp only[↓bO,go_sem,seval];refine y0 _ ?_;(try clear y0 Y0)));refine zal ?_;(try simp only[zag,zaf,zae,zaY,zaV,zaD,bS,bA]);exact Le.refl _
theorem zfk (T:Ty) (hT:T.cnt≤1099511627776):APure Tryz.prog 52 [.agg T.cells] (.agg T.cells):=by
  refine APure.mkL (.cons T.dataAgg .nil) (T.dataAgg) ?_;refine zai Tryz.func52 tz0 rfl (by rw[Tryz.ntmps52];simp) (fun hm=>?_);simp only[Tryz.ntmps52,Tryz.results52,zh,zk,Nat.reduceAdd,Nat.reduceSub,zt,zu,zi,zj];simp only[Ty.cells_eq T,zi,zj];refine sqR fun Y0 y0=>?_;simp only[↓bO,go_sem,seval];refine y0 _ ?_;(try clear y0 Y0);refine sqR fun Y0 y0=>?_;refine chS 1 ?_;simp only[go_sem];refine zad 1 fun Q0 q0=>?_;simp only[↓bO,go_sem,seval];refine APure.call (by have h9:=ziJ T 101 [] (fun n=>n) (fun _ h=>by cases h) (fun n=>zkp n) hT;rw[Ty.mapV_id,Ty.cells_eq T] at h9;exact h9) ?_;(try simp only[bS,bA,zag,zaf,zae]);refine q0 _ ?_;clear q0 Q0;simp only[go_sem];simp only[↓bO,go_sem,seval];refine y0 _ ?_;(try clear y0 Y0);refine zal ?_;(try simp only[zag,zaf,zae,zaY,zaV,zaD,bS,bA,zbO,zaT,zct,bL,Nat.reduceAdd,Nat.reduceLeDiff,Nat.reduceEqDiff,↓reduceIte,zho]);exact Le.refl _
def zfv:List Ty→Ty
  | []=>.mk 0 0 []
  | [t]=>t
  | t::ts=>.mk 4 0 [t,zfv ts]
theorem zkF {ps:List Ty} (h:ps.length=0):zfv ps=.mk 0 0 []:=by rw[List.length_eq_zero_iff.1 h];rfl
theorem zgF {ps:List Ty} {p:Ty} (h:ps.length=1) (hp:ps[0]?=some p):zfv ps=p:=by
  match ps,h,hp with
  | [t],_,hp=>simp at hp;rw[← hp];rfl
theorem zfo {ps:List Ty} {p:Ty} (h:2≤ps.length) (hp:ps[0]?=some p):zfv ps=.mk 4 0 [p,zfv (ps.drop 1)]:=by
  match ps,h,hp with
  | t::u::ts,_,hp=>simp at hp;rw[← hp];rfl
theorem zkz:∀(n:Nat) (ps:List Ty),ps.length=n→Ty.cntL ps≤1099511627776→APure Tryz.prog 42 [.sl 3 (ps.map Ty.cells)] (.agg (zfv ps).cells):=by
  intro n
  induction n with
  | zero =>
    intro ps hn hc;refine APure.mkL (.cons (Ty.dataSl ps) .nil) (Ty.dataAgg _) ?_;(have h0:((ps.length:Int)==0)=true:=by simp;exact List.length_eq_zero_iff.1 hn);refine zai Tryz.func42 tz0 rfl (by rw[Tryz.ntmps42];simp) (fun hm=>?_);simp only[Tryz.ntmps42,Tryz.results42,zh,zk,Nat.reduceAdd,Nat.reduceSub,zt,zu,zi,zj];refine sqR fun Y0 y0=>?_;simp only[↓bO,go_sem,seval,h0];refine y0 _ ?_;(try clear y0 Y0);refine zah fun Y0 y0=>?_;refine sqR fun Y1 y1=>?_;simp only[↓bO,go_sem,seval,h0];refine y1 _ ?_;(try clear y1 Y1);refine zap ?_;refine sqR fun Y1 y1=>?_;simp only[↓bO,go_sem,seval,h0];refine y1 _ ?_;(try clear y1 Y1);refine zak rfl (fun hb5=>?_) (fun hb5=>?_)
    ·
     refine sqR fun Y1 y1=>?_;simp only[↓bO,go_sem,seval,h0];refine y1 _ ?_;(try clear y1 Y1);refine zal ?_;(try simp only[zag,zaf,zae,zaY,zaV,zaD,bS,bA,zbO,zaT,zct,bL,Nat.reduceAdd,Nat.reduceLeDiff,Nat.reduceEqDiff,↓reduceIte,zho,h0]);refine Le.agg ?_;rw[zkF hn,Ty.cells_eq];exact ⟨.refl _,.refl _,Le.slNil 3,trivial⟩
    cases hb5
  | succ n ih =>
    intro ps hn hc;refine APure.mkL (.cons (Ty.dataSl ps) .nil) (Ty.dataAgg _) ?_;obtain ⟨p,hp⟩:∃p,ps[0]?=some p:=⟨_,ze tz1⟩;have hpc:=Ty.cnt_mem (zm hp);(have hlt:(0:Int)<(ps.length:Int):=by omega);(have hle:(1:Int)≤(ps.length:Int):=by omega);(have hdr:(ps.map Ty.cells).drop 1=(ps.drop 1).map Ty.cells:=by rw[List.map_drop]);(have hdc:Ty.cntL (ps.drop 1)≤Ty.cntL ps:=by have h9:=Ty.cntL_append (ps.take 1) (ps.drop 1);rw[List.take_append_drop] at h9;omega);refine zai Tryz.func42 tz0 rfl (by rw[Tryz.ntmps42];simp) (fun hm=>?_);simp only[Tryz.ntmps42,Tryz.results42,zh,zk,Nat.reduceAdd,Nat.reduceSub,zt,zu,zi,zj];refine sqR fun Y0 y0=>?_;simp only[↓bO,go_sem,seval,hlt,hle,hdr,gM hp];refine y0 _ ?_;(try clear y0 Y0);refine zah fun Y0 y0=>?_;refine sqR fun Y1 y1=>?_;simp only[↓bO,go_sem,seval,hlt,hle,hdr,gM hp];refine y1 _ ?_;(try clear y1 Y1);refine zap ?_;refine sqR fun Y1 y1=>?_;simp only[↓bO,go_sem,seval,hlt,hle,hdr,gM hp];refine y1 _ ?_;(try clear y1 Y1);refine zak rfl (fun hb5=>?_) (fun hb5=>?_)
    ·
     exact absurd hb5 (by simp only[AV.v.injEq,Value.bool.injEq,beq_iff_eq];omega)
    refine sqR fun Y1 y1=>?_;simp only[↓bO,go_sem,seval,hlt,hle,hdr,gM hp];refine y1 _ ?_;(try clear y1 Y1);refine zak rfl (fun hb8=>?_) (fun hb8=>?_)
    ·
     (have h1:ps.length=1:=by simp at hb8;omega);refine sqR fun Y1 y1=>?_;refine zad 3 fun Q0 q0=>?_;simp only[↓bO,go_sem,seval,hlt,hle,hdr,gM hp];refine q0 _ ?_;clear q0 Q0;simp only[go_sem];refine zad 1 fun Q0 q0=>?_;simp only[↓bO,go_sem,seval,hlt,hle,hdr,gM hp];refine APure.call (zfk p tz1) ?_;(try simp only[bS,bA,zag,zaf,zae]);refine q0 _ ?_;clear q0 Q0;simp only[go_sem];simp only[↓bO,go_sem,seval,hlt,hle,hdr,gM hp];refine y1 _ ?_;(try clear y1 Y1);refine zal ?_;(try simp only[zag,zaf,zae,zaY,zaV,zaD,bS,bA,zbO,zaT,zct,bL,Nat.reduceAdd,Nat.reduceLeDiff,Nat.reduceEqDiff,↓reduceIte,zho,tyX,hlt,hle,hdr,gM hp]);refine Le.agg ?_;first | (rw[zgF h1 hp];exact LeL.refl _) | (rw[zfo h1 hp,Ty.cells];exact ⟨.refl _,.refl _,Le.of_eq (by simp[Ty.cellsL]),trivial⟩)
    (have h1:2≤ps.length:=by simp at hb8;omega);refine zaq ?_;(try simp only[zag,zaf,zae]);refine y0 _ ?_;(try clear y0 Y0);refine zah fun Y0 y0=>?_;refine za2 9 mixed tz0 fun J0 j0=>?_;simp only[go_sem];refine zaw 3 fun Q0 q0=>?_;simp only[↓za1,↓dOp,↓bO,go_sem,seval,hlt,hle,hdr,gM hp];refine q0 _ ?_;clear q0 Q0;simp only[go_sem];refine zaw 1 fun Q0 q0=>?_;simp only[↓za1,↓dOp,↓bO,go_sem,seval,hlt,hle,hdr,gM hp];refine ⟨_,zfk p tz1,?_⟩;(try simp only[bS,bA,zag,zaf,zae]);refine q0 _ ?_;clear q0 Q0;simp only[go_sem];refine zaw 2 fun Q0 q0=>?_;simp only[↓za1,↓dOp,↓bO,go_sem,seval,hlt,hle,hdr,gM hp];refine q0 _ ?_;clear q0 Q0;simp only[go_sem];refine zaw 1 fun Q0 q0=>?_;simp only[↓za1,↓dOp,↓bO,go_sem,seval,hlt,hle,hdr,gM hp];refine ⟨_,ih (ps.drop 1) tz8 tz1,?_⟩;(try simp only[bS,bA,zag,zaf,zae]);refine q0 _ ?_;clear q0 Q0;simp only[go_sem];simp only[↓za1,↓dOp,↓bO,go_sem,seval,↓bs2_1,↓bs2_2,↓bs2_3,↓bs2_4,↓bs2_5,↓bs2_6,↓bs2_7,↓bs2_8,↓bs2_9,↓bs2_10,↓bs2_11,↓bs2_12,hlt,hle,hdr,gM hp];refine j0 _ ?_;clear j0 J0;simp only[go_sem];simp only[↓bO,go_sem,seval,hlt,hle,hdr,gM hp];refine y0 _ ?_;(try clear y0 Y0);refine zal ?_;(try simp only[zag,zaf,zae,zaY,zaV,zaD,bS,bA,zbO,zaT,zct,bL,Nat.reduceAdd,Nat.reduceLeDiff,Nat.reduceEqDiff,↓reduceIte,zho,tyX,hlt,hle,hdr,gM hp]);refine Le.agg ?_;first | (rw[zgF h1 hp];exact LeL.refl _) | (rw[zfo h1 hp,Ty.cells];exact ⟨.refl _,.refl _,Le.of_eq (by simp[Ty.cellsL]),trivial⟩)
mutual
def Ty.room:Ty→Int→Nat→Int
  | .mk _ _ _,_,0=>-1
  | .mk _ _ ps,n,d+1=>Ty.roomL ps (n-1) d
def Ty.roomL:List Ty→Int→Nat→Int
  | [],n,_=>n
  | p::ps,n,d=>if n<0 then n else Ty.roomL ps (Ty.room p n d) d
end
theorem Ty.room_zero (t:Ty) (n:Int):t.room n 0=-1:=by cases t;simp[Ty.room]
theorem Ty.room_succ (t:Ty) (n:Int) (d:Nat):t.room n (d+1)=Ty.roomL t.ps (n-1) d:=by cases t;simp[Ty.room,Ty.ps]
theorem Ty.roomL_neg:∀(ps:List Ty) {n:Int} {d:Nat},n<0→Ty.roomL ps n d=n
  | [],n,d,h=>by simp[Ty.roomL]
  | p::ps,n,d,h=>by simp[Ty.roomL,h]
theorem Ty.roomL_append:∀(xs bs:List Ty) (n:Int) (d:Nat),Ty.roomL (xs++bs) n d=Ty.roomL bs (Ty.roomL xs n d) d
  | [],bs,n,d=>by simp[Ty.roomL]
  | x::xs,bs,n,d=>by
    simp only[zi,Ty.roomL];split;(· rename_i h;rw[Ty.roomL_neg bs h]);exact Ty.roomL_append xs bs _ d
theorem Ty.room_le:∀(t:Ty) (n:Int) (d:Nat),0≤n→-1≤t.room n d∧t.room n d≤n-1:=by
  refine Ty.ind fun t ih=>?_
  have key:∀(ps:List Ty),(∀p∈ps,∀(n:Int) (d:Nat),0≤n→-1≤p.room n d∧p.room n d≤n-1)→∀(n:Int) (d:Nat),-1≤n→-1≤Ty.roomL ps n d∧Ty.roomL ps n d≤n:=by
    intro ps
    induction ps with
    | nil=>intro _ n d h;simp[Ty.roomL];exact h
    | cons p ps ihp =>
      intro hp n d h;simp only[Ty.roomL];split;(· omega);have h1:=hp p tz4 n d tz1;have h2:=ihp (fun q hq=>hp q (by simp[hq])) (p.room n d) d h1.1;omega
  intro n d h
  cases d with
  | zero=>rw[Ty.room_zero];omega
  | succ d =>
    rw[Ty.room_succ];have:=key t.ps ih (n-1) d tz1;omega
theorem Ty.roomL_le (ps:List Ty) (n:Int) (d:Nat) (h:-1≤n):-1≤Ty.roomL ps n d∧Ty.roomL ps n d≤n:=by
  have:=Ty.room_le (.mk 0 0 ps) (n+1) (d+1) tz1;rw[Ty.room_succ] at this;simp only[Ty.ps] at this;rw[show n+1-1=n by omega] at this;exact this
theorem Ty.roomL_step {ps:List Ty} {s:Nat} {p:Ty} (hp:ps[s]?=some p) (n:Int) (d:Nat) (h:0≤Ty.roomL (ps.take s) n d):Ty.roomL (ps.take (s+1)) n d=p.room (Ty.roomL (ps.take s) n d) d:=by
  rw[List.take_add_one,hp,Ty.roomL_append];simp only[Option.toList_some,Ty.roomL];rw[if_neg tz1]
theorem Ty.roomL_stop (ps:List Ty) (s:Nat) (n:Int) (d:Nat) (h:Ty.roomL (ps.take s) n d<0):Ty.roomL ps n d=Ty.roomL (ps.take s) n d:=by
  conv=>lhs;rw[← List.take_append_drop s ps]
  rw[Ty.roomL_append,Ty.roomL_neg _ h]
def addW (a b:Int):Int:=IntKind.i64.wrap (a+b)
mutual
def Ty.sizeW:Ty→Int
  | .mk _ _ ps=>Ty.sizeWL 1 ps
def Ty.sizeWL:Int→List Ty→Int
  | a,[]=>a
  | a,p::ps=>Ty.sizeWL (addW a (Ty.sizeW p)) ps
end
theorem Ty.sizeW_eq (t:Ty):t.sizeW=Ty.sizeWL 1 t.ps:=by cases t;simp[Ty.sizeW,Ty.ps]
theorem Ty.sizeWL_append:∀(a:Int) (ps qs:List Ty),Ty.sizeWL a (ps++qs)=Ty.sizeWL (Ty.sizeWL a ps) qs
  | a,[],qs=>by simp[Ty.sizeWL]
  | a,p::ps,qs=>by simp[Ty.sizeWL,Ty.sizeWL_append _ ps qs]
theorem Ty.sizeWL_step {ps:List Ty} {s:Nat} {p:Ty} (hp:ps[s]?=some p) (a:Int):Ty.sizeWL a (ps.take (s+1))=addW (Ty.sizeWL a (ps.take s)) p.sizeW:=by
  rw[List.take_add_one,hp,Ty.sizeWL_append];simp[Ty.sizeWL]
theorem zej:∀(T:Ty),APure Tryz.prog 18 [.agg T.cells] (.v (.int .i64 T.sizeW)):=by
  refine Ty.ind fun T ih=>?_;refine APure.mkL (.cons T.dataAgg .nil) (.v _) ?_;refine zai Tryz.func18 tz0 rfl (by rw[Tryz.ntmps18];simp) (fun hm=>?_);simp only[Tryz.ntmps18,Tryz.results18,zh,zk,Nat.reduceAdd,Nat.reduceSub,zt,zu,zi,zj];have hm1:=hm.wide (t:=T) tz4;(iterate 2 (refine zah fun Y0 y0=>?_;refine zaj ?_;simp only[↓bO,go_sem,seval];refine y0 _ ?_;(try clear y0 Y0)));refine zah fun Y0 y0=>?_;refine sqR fun Y1 y1=>?_;simp only[↓bO,go_sem,seval];refine y1 _ ?_;(try clear y1 Y1);refine zap ?_;refine zaJ (σ:=Nat) (mB 21 26) (fun s=>s≤T.ps.length) (fun s=>[(3,.v (.int .i64 (Ty.sizeWL 1 (T.ps.take s)))),(4,.v (.int .i64 (s:Int)))]) (fun s=>[]) (fun s=>T.ps.length-s) 0 tz1 ?_ (fun s hs=>?_)
  ·
   simp only[zat,zau,zam,zay,mB,zc,zb,seval,bL,Ty.sizeWL];exact zbj
  simp only[zat,zau,zam,zay,mB,zc,zb,seval];refine zah fun Y1 y1=>?_;refine sqR fun Y2 y2=>?_;refine chS 4 ?_;simp only[go_sem];simp only[↓bO,go_sem,seval];refine y2 _ ?_;(try clear y2 Y2);refine zak rfl (fun hb9=>?_) (fun hb9=>?_)
  ·
   (have hk:s<T.ps.length:=by simpa using hb9);obtain ⟨p,hp⟩:∃p,T.ps[s]?=some p:=⟨_,ze hk⟩;have hw:IntKind.i64.wrap ((s:Int)+1)=(s:Int)+1:=zaM tz1 (by have:=hm1.len;simp only[maxLen] at this;omega);refine zaq ?_;(try simp only[zag,zaf,zae]);refine y1 _ ?_;(try clear y1 Y1);refine zah fun Y1 y1=>?_;refine zap ?_;refine zaj ?_;refine zad 4 fun Q0 q0=>?_;simp only[↓bO,go_sem,seval,hk,gM hp,za,hw,Ty.sizeWL_step hp,addW];refine q0 _ ?_;clear q0 Q0;simp only[go_sem];refine zad 2 fun Q0 q0=>?_;simp only[↓bO,go_sem,seval,hk,gM hp,za,hw,Ty.sizeWL_step hp,addW];refine q0 _ ?_;clear q0 Q0;simp only[go_sem];refine zad 1 fun Q0 q0=>?_;simp only[↓bO,go_sem,seval,hk,gM hp,za,hw,Ty.sizeWL_step hp,addW];refine APure.call (ih p (zm hp)) ?_;(try simp only[bS,bA,zag,zaf,zae]);refine q0 _ ?_;clear q0 Q0;simp only[go_sem];simp only[↓bO,go_sem,seval,hk,gM hp,za,hw,Ty.sizeWL_step hp,addW];refine y1 _ ?_;(try clear y1 Y1);refine zaj ?_;simp only[↓bO,go_sem,seval,hk,gM hp,za,hw,Ty.sizeWL_step hp,addW];refine ⟨(s+1),tz1,by omega,?_⟩;simp only[zat,zau,zam,zay,mB,zc,zb,seval,hk,gM hp,za,zC,hw,Ty.sizeWL_step hp,addW];exact zbj
  (have hk:s=T.ps.length:=by simp at hb9;omega);refine zaK ?_;simp only[zag,zaf,zae,bA,Nat.reduceEqDiff,↓reduceIte];refine y0 _ ?_;(try clear y0 Y0);refine sqR fun Y0 y0=>?_;simp only[↓bO,go_sem,seval];refine y0 _ ?_;(try clear y0 Y0);refine zal ?_;(try simp only[zag,zaf,zae,zaY,zaV,zaD,bS,bA]);refine Le.of_eq (congrArg (fun n=>AV.v (.int .i64 n)) ?_);rw[Ty.sizeW_eq,hk,zaa]
abbrev intC (x:Int):List AV:=[.v (.int .i64 x)]
theorem zaP (l:List Int):Data (.sl 1 (l.map intC)):=.sl fun x hx=>by
  obtain ⟨y,_,rfl⟩:=zH.1 hx;exact .cons (.v _) .nil
theorem ints_one (l:List Int):((l.map intC).all fun y=>y.all AV.one)=true:=by
  rw[z8];intro y hy;obtain ⟨r,_,rfl⟩:=zH.1 hy;rfl
structure RNode where
  t:Ty
  parts:List Int
def RNode.cells (r:RNode):List AV:=[.v (.int .i64 r.t.k),.v (.int .i64 r.t.n),.sl 3 (r.t.ps.map Ty.cells),.sl 1 (r.parts.map intC)]
theorem Ty.refold (t:Ty):AV.agg [.v (.int .i64 t.k),.v (.int .i64 t.n),.sl 3 (t.ps.map Ty.cells)]=.agg t.cells:=by rw[t.cells_eq]
theorem RNode.data (r:RNode):DataL r.cells:=.cons (.v _) (.cons (.v _) (.cons (Ty.dataSl _) (.cons (zaP _) .nil)))
theorem RNode.dataSl (g:List RNode):Data (.sl 4 (g.map RNode.cells)):=.sl fun x hx=>by
  obtain ⟨y,_,rfl⟩:=zH.1 hx;exact y.data
def RNode.isVar (n:Int) (r:RNode):Bool:=r.t.k==1&&r.t.n==n
mutual
def Ty.radd:Ty→List RNode→List RNode×Int
  | .mk k n ps,g =>
    if k=1∧0≤zb4 (RNode.isVar n) g then (g,zb4 (RNode.isVar n) g)
    else
      let r:=Ty.raddL ps g []
      (r.1++[⟨.mk k n ps,r.2⟩],(r.1.length:Int))
def Ty.raddL:List Ty→List RNode→List Int→List RNode×List Int
  | [],g,l=>(g,l)
  | p::ps,g,l =>
    let r:=Ty.radd p g
    Ty.raddL ps r.1 (l++[r.2])
end
theorem RVar_pure (g:List RNode) (n:Int):APure Tryz.prog 112 [.sl 4 (g.map RNode.cells),.v (.int .i64 n)] (.v (.int .i64 (zb4 (RNode.isVar n) g))):=by
  refine APure.mkL (.cons (RNode.dataSl g) (.cons (.v _) .nil)) (.v _) ?_;refine zai Tryz.func112 tz0 rfl (by rw[Tryz.ntmps112];simp) (fun hm=>?_);simp only[Tryz.ntmps112,Tryz.results112,zh,zk,Nat.reduceAdd,Nat.reduceSub,zt,zu,zi,zj];have hm1:=hm.len (sz:=4) (xs:=g.map RNode.cells) tz4;rw[zO] at hm1;refine sqR fun Y0 y0=>?_;simp only[↓bO,go_sem,seval];refine y0 _ ?_;(try clear y0 Y0);refine zah fun Y0 y0=>?_;refine sqR fun Y1 y1=>?_;simp only[↓bO,go_sem,seval];refine y1 _ ?_;(try clear y1 Y1);refine zap ?_;refine zaJ (σ:=Nat) (mB 30 35) (fun s=>s≤g.length∧∀(i:Nat) (p:RNode),i<s→g[i]?=some p→RNode.isVar n p=false) (fun s=>[(5,.v (.int .i64 (s:Int)))]) (fun s=>[]) (fun s=>g.length-s) 0 (⟨by omega,fun i p hi=>by omega⟩) ?_ (fun s hs=>?_)
  ·
   simp only[zat,zau,zam,zay,mB,zc,zb,seval];exact zbj
  simp only[zat,zau,zam,zay,mB,zc,zb,seval];refine zah fun Y1 y1=>?_;refine sqR fun Y2 y2=>?_;simp only[↓bO,go_sem,seval];refine y2 _ ?_;(try clear y2 Y2);refine zak rfl (fun hb9=>?_) (fun hb9=>?_)
  ·
   (have hk:s<g.length:=by simpa using hb9);obtain ⟨p,hp⟩:∃p,g[s]?=some p:=⟨_,ze hk⟩;have hw:IntKind.i64.wrap ((s:Int)+1)=(s:Int)+1:=zaM tz1 (by simp only[maxLen] at hm1;omega);refine zaq ?_;(try simp only[zag,zaf,zae]);refine y1 _ ?_;(try clear y1 Y1);refine zah fun Y1 y1=>?_;refine zap ?_;refine zbS (mB 30 268435491) ([(28,.v (.bool (RNode.isVar n p)))]) ([]) ?_ ?_
   ·
    refine zaj ?_;(iterate 2 (refine zad 4 fun Q0 q0=>?_;simp only[↓bO,go_sem,seval,hk,gM hp,za,hw,RNode.cells];refine q0 _ ?_;clear q0 Q0;simp only[go_sem]));refine zaG 19 rfl (fun hc19=>?_) (fun hc19=>?_)
    ·
     simp only[zc,zb];(iterate 2 (refine zad 4 fun Q0 q0=>?_;simp only[↓bO,go_sem,seval,hk,gM hp,za,hw,RNode.cells];refine q0 _ ?_;clear q0 Q0;simp only[go_sem]));simp only[↓bO,go_sem,seval,hk,gM hp,za,hw,RNode.cells];(try simp only[zat,zau,zam,zay,mB,zc,zb,seval]);refine Weak.mk ?_ (fun _ _ h=>h) rfl rfl;simp only[go_sem,Le.refl,Le.any];all_goals (refine Le.of_eq (congrArg (fun b=>AV.v (.bool b)) ?_);simp_all [RNode.isVar])
    simp only[zc,zb];(iterate 2 (refine zad 4 fun Q0 q0=>?_;simp only[↓bO,go_sem,seval,hk,gM hp,za,hw,RNode.cells];refine q0 _ ?_;clear q0 Q0;simp only[go_sem]));simp only[↓bO,go_sem,seval,hk,gM hp,za,hw,RNode.cells];(try simp only[zat,zau,zam,zay,mB,zc,zb,seval]);refine Weak.mk ?_ (fun _ _ h=>h) rfl rfl;simp only[go_sem,Le.refl,Le.any];all_goals (refine Le.of_eq (congrArg (fun b=>AV.v (.bool b)) ?_);simp_all [RNode.isVar])
   simp only[zat,zau,zam,zay,mB,zc,zb,seval];refine zak rfl (fun hb28=>?_) (fun hb28=>?_)
   ·
    refine sqR fun Y2 y2=>?_;simp only[↓bO,go_sem,seval,hk,gM hp,za,hw,RNode.cells];refine y2 _ ?_;(try clear y2 Y2);refine zal ?_;(try simp only[zag,zaf,zae,zaY,zaV,zaD,bS,bA]);refine Le.of_eq (congrArg (fun n=>AV.v (.int .i64 n)) ?_);first | (rw[zb8 hp (by exact hb28) hs.2];done) | (rw[zcI (fun i p hi h1=>hs.2 i p tz1 h1)];done)
   refine zaq ?_;(try simp only[zag,zaf,zae]);refine y1 _ ?_;(try clear y1 Y1);refine zaj ?_;simp only[↓bO,go_sem,seval,hk,gM hp,za,hw,RNode.cells];refine ⟨(s+1),⟨by omega,fun i p' hi h1=>(by rcases zQ i s with h3 | h3 <;> first | exact hs.2 i p' h3 h1 | (obtain rfl:i=s:=tz1;rw[hp] at h1;cases h1;exact hb28))⟩,by omega,?_⟩;simp only[zat,zau,zam,zay,mB,zc,zb,seval,hk,gM hp,za,zC,hw,RNode.cells,bL];exact zbj
  (have hk:s=g.length:=by have:=hs.1;simp at hb9;omega);refine zaK ?_;simp only[zag,zaf,zae,bA,Nat.reduceEqDiff,↓reduceIte];refine y0 _ ?_;(try clear y0 Y0);refine sqR fun Y0 y0=>?_;simp only[↓bO,go_sem,seval];refine y0 _ ?_;(try clear y0 Y0);refine zal ?_;(try simp only[zag,zaf,zae,zaY,zaV,zaD,bS,bA]);refine Le.of_eq (congrArg (fun n=>AV.v (.int .i64 n)) ?_);first | (rw[zb8 hp (by exact hb28) hs.2];done) | (rw[zcI (fun i p hi h1=>hs.2 i p tz1 h1)];done)
theorem Ty.radd_eq (t:Ty) (g:List RNode):t.radd g=if t.k=1∧0≤zb4 (RNode.isVar t.n) g then (g,zb4 (RNode.isVar t.n) g) else ((Ty.raddL t.ps g []).1++[⟨t,(Ty.raddL t.ps g []).2⟩],((Ty.raddL t.ps g []).1.length:Int)):=by
  cases t;rw[Ty.radd];rfl
theorem Ty.raddL_append:∀(ps qs:List Ty) (g:List RNode) (l:List Int),Ty.raddL (ps++qs) g l=Ty.raddL qs (Ty.raddL ps g l).1 (Ty.raddL ps g l).2
  | [],qs,g,l=>by simp[Ty.raddL]
  | p::ps,qs,g,l=>by simp[Ty.raddL,Ty.raddL_append ps qs]
theorem Ty.raddL_step {ps:List Ty} {s:Nat} {p:Ty} (hp:ps[s]?=some p) (g:List RNode) (l:List Int) :
    Ty.raddL (ps.take (s+1)) g l=((p.radd (Ty.raddL (ps.take s) g l).1).1,(Ty.raddL (ps.take s) g l).2++[(p.radd (Ty.raddL (ps.take s) g l).1).2]):=by
  rw[List.take_add_one,hp,Ty.raddL_append];simp[Ty.raddL]
theorem Ty.raddL_len2:∀(ps:List Ty) (g:List RNode) (l:List Int),(Ty.raddL ps g l).2.length=l.length+ps.length
  | [],g,l=>by simp[Ty.raddL]
  | p::ps,g,l=>by simp[Ty.raddL,Ty.raddL_len2 ps];omega
theorem Ty.radd_len:∀(t:Ty) (g:List RNode),(t.radd g).1.length≤g.length+t.cnt:=by
  refine Ty.ind fun t ih=>?_
  have key:∀ps:List Ty,(∀p∈ps,∀g:List RNode,(p.radd g).1.length≤g.length+p.cnt)→∀(g:List RNode) (l:List Int),(Ty.raddL ps g l).1.length≤g.length+Ty.cntL ps:=by
    intro ps
    induction ps with
    | nil=>intro _ g l;simp[Ty.raddL,Ty.cntL]
    | cons p ps ihp =>
      intro hp g l;have h1:=hp p tz4 g;have h2:=ihp (fun q hq=>hp q (by simp[hq])) (p.radd g).1 (l++[(p.radd g).2]);simp only[Ty.raddL,Ty.cntL];omega
  intro g;rw[Ty.radd_eq,Ty.cnt_eq];split;(· simp only;omega);have:=key t.ps ih g [];simp only[zd,zh,zk];omega
theorem Ty.raddL_len (ps:List Ty) (g:List RNode) (l:List Int):(Ty.raddL ps g l).1.length≤g.length+Ty.cntL ps:=by
  induction ps generalizing g l with
  | nil=>simp[Ty.raddL,Ty.cntL]
  | cons p ps ihp =>
    have h1:=Ty.radd_len p g;have h2:=ihp (p.radd g).1 (l++[(p.radd g).2]);simp only[Ty.raddL,Ty.cntL];omega
theorem RNode.all_one (l:List RNode):((l.map RNode.cells).all fun y=>y.all AV.one)=true:=by
  rw[z8];intro y hy;obtain ⟨r,_,rfl⟩:=zH.1 hy;rfl
end Go.Proofs.YtpfiliamceimmaaGreatDoor
