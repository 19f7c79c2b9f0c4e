/- Texts of the abstract walk, of the contracts and of the plain laws, packed (part 32 of 50): Right Types Sizes Ref11. Conditions: none. -/
import Derived.Test.YtjjjckjebkmnjaaGreatPk31
set_option linter.unusedVariables false
set_option linter.unusedSimpArgs false
set_option maxRecDepth 100000
set_option maxHeartbeats 4000000
namespace Go.Proofs.YtjjjckjebkmnjaaGreat
open Go Go.RowKit
attribute [local irreducible] aops zaV
def okN (k n:Int) (len:Nat):Bool :=
  decide ((k=1∧0≤n∧n<1073741824∧len=0)∨(n=0∧(((k=2∨k=3)∧len=0)∨(k=4∧len=2)∨(k=5∧2≤len∧len≤8))))
mutual
def Ty.right:Ty→Bool
  | .mk k n ps=>okN k n ps.length&&Ty.rightL ps
def Ty.rightL:List Ty→Bool
  | []=>true
  | p::ps=>Ty.right p&&Ty.rightL ps
end
theorem Ty.rightL_eq:∀ps,Ty.rightL ps=ps.all Ty.right
  | []=>by simp[Ty.rightL]
  | p::ps=>by simp[Ty.rightL,Ty.rightL_eq ps]
theorem Ty.right_eq (t:Ty):t.right=(okN t.k t.n t.ps.length&&t.ps.all Ty.right):=by cases t;simp[Ty.right,Ty.rightL_eq,Ty.k,Ty.n,Ty.ps]
theorem zbO {α:Type} {f:α→Bool} {ps:List α} (h:∀(i:Nat) (p:α),i<ps.length→ps[i]?=some p→f p=true):ps.all f=true:=by
  rw[z8];intro p hp;obtain ⟨i,hi,e⟩:=zX.1 hp;exact h i p hi (by rw[ze hi,e])
theorem zbs {α:Type} {f:α→Bool} {ps:List α} {i:Nat} {p:α} (hp:ps[i]?=some p) (h:f p=false):ps.all f=false:=by
  rw[← Bool.not_eq_true,z8];intro hh;have:=hh p (zn hp);rw[h] at this;cases this
theorem zbl {p:Prop} (h:p:=by exact Weak.mk (by simp only[go_sem,Le.refl,Le.any,Le.slNil,za,zG,zA]) (fun _ _ h=>h) rfl rfl):p:=h
theorem zdJ:∀(T:Ty),APure Tryz.prog 31 [.agg T.cells] (.v (.bool T.right)):=by
  refine Ty.ind fun T ih=>?_;refine APure.mkL (.cons T.dataAgg .nil) (.v _) ?_;refine zaj Tryz.func31 (by kernel_rfl) rfl (by rw[Tryz.ntmps31];simp) (fun hm=>?_);simp only[Tryz.ntmps31,Tryz.results31,zh,zm,Nat.reduceAdd,Nat.reduceSub,zu,zw,zi,zj];have hm1:=hm.wide (t:=T) (by simp);refine zad fun Y0 y0=>?_;refine zac ?_;simp only[↓bO,go_sem,seval];refine y0 _ ?_;(try clear y0 Y0);refine zad fun Y0 y0=>?_;refine zac ?_;refine zab 2 fun Q0 q0=>?_;simp only[↓bO,go_sem,seval];refine q0 _ ?_;clear q0 Q0;simp only[go_sem];simp only[↓bO,go_sem,seval];refine y0 _ ?_;(try clear y0 Y0);refine zad fun Y0 y0=>?_;refine zao ?_;refine zbA (mB 89 266) ([(8,.v (.bool (decide (T.k=1∧(T.n<0∨1073741824≤T.n∨0<T.ps.length)))))]) ([]) ?_ ?_
  ·
   refine zac ?_;(iterate 2 (refine zab 2 fun Q0 q0=>?_;simp only[↓bO,go_sem,seval];refine q0 _ ?_;clear q0 Q0;simp only[go_sem]));refine zaI 12 rfl (fun hc12=>?_) (fun hc12=>?_)
   ·
    simp only[zc,zb];(iterate 2 (refine zab 2 fun Q0 q0=>?_;simp only[↓bO,go_sem,seval];refine q0 _ ?_;clear q0 Q0;simp only[go_sem]));refine zaI 16 rfl (fun hc16=>?_) (fun hc16=>?_)
    ·
     simp only[zc,zb];(iterate 4 (refine zab 2 fun Q0 q0=>?_;simp only[↓bO,go_sem,seval];refine q0 _ ?_;clear q0 Q0;simp only[go_sem]));simp only[↓bO,go_sem,seval];(try simp only[zau,zav,zan,zaA,mB,zc,zb,seval]);refine Weak.mk ?_ (fun _ _ h=>h) rfl rfl;simp only[go_sem,Le.refl,Le.any];all_goals (refine Le.of_eq (congrArg (fun b=>AV.v (.bool b)) ?_);rw[zJ];simp at *;omega)
    ·
     simp only[zc,zb];(iterate 2 (refine zab 2 fun Q0 q0=>?_;simp only[↓bO,go_sem,seval];refine q0 _ ?_;clear q0 Q0;simp only[go_sem]));refine zab 1 fun Q0 q0=>?_;simp only[↓bO,go_sem,seval];refine q0 _ ?_;clear q0 Q0;simp only[go_sem];refine zaI 21 rfl (fun hc21=>?_) (fun hc21=>?_)
     ·
      simp only[zc,zb];(iterate 2 (refine zab 2 fun Q0 q0=>?_;simp only[↓bO,go_sem,seval];refine q0 _ ?_;clear q0 Q0;simp only[go_sem]));simp only[↓bO,go_sem,seval];(try simp only[zau,zav,zan,zaA,mB,zc,zb,seval]);refine Weak.mk ?_ (fun _ _ h=>h) rfl rfl;simp only[go_sem,Le.refl,Le.any];all_goals (refine Le.of_eq (congrArg (fun b=>AV.v (.bool b)) ?_);rw[zJ];simp at *;omega)
     ·
      simp only[zc,zb];(iterate 2 (refine zab 2 fun Q0 q0=>?_;simp only[↓bO,go_sem,seval];refine q0 _ ?_;clear q0 Q0;simp only[go_sem]));simp only[↓bO,go_sem,seval];(try simp only[zau,zav,zan,zaA,mB,zc,zb,seval]);refine Weak.mk ?_ (fun _ _ h=>h) rfl rfl;simp only[go_sem,Le.refl,Le.any];all_goals (refine Le.of_eq (congrArg (fun b=>AV.v (.bool b)) ?_);rw[zJ];simp at *;omega)
   ·
    simp only[zc,zb];refine zab 2 fun Q0 q0=>?_;simp only[↓bO,go_sem,seval];refine q0 _ ?_;clear q0 Q0;simp only[go_sem];refine zab 3 fun Q0 q0=>?_;simp only[↓bO,go_sem,seval];refine q0 _ ?_;clear q0 Q0;simp only[go_sem];refine zab 2 fun Q0 q0=>?_;simp only[↓bO,go_sem,seval];refine q0 _ ?_;clear q0 Q0;simp only[go_sem];refine zab 3 fun Q0 q0=>?_;simp only[↓bO,go_sem,seval];refine q0 _ ?_;clear q0 Q0;simp only[go_sem];refine zab 2 fun Q0 q0=>?_;simp only[↓bO,go_sem,seval];refine q0 _ ?_;clear q0 Q0;simp only[go_sem];simp only[↓bO,go_sem,seval];(try simp only[zau,zav,zan,zaA,mB,zc,zb,seval]);refine Weak.mk ?_ (fun _ _ h=>h) rfl rfl;simp only[go_sem,Le.refl,Le.any];all_goals (refine Le.of_eq (congrArg (fun b=>AV.v (.bool b)) ?_);rw[zJ];simp at *;omega)
  simp only[zau,zav,zan,zaA,mB,zc,zb,seval];refine zak rfl (fun hb8=>?_) (fun hb8=>?_)
  ·
   refine zad fun Y1 y1=>?_;refine zac ?_;simp only[↓bO,go_sem,seval];refine y1 _ ?_;(try clear y1 Y1);refine zaq ?_;(try simp only[zah,zaf,zae,za1,zaZ,zaE,bS,bA]);refine Le.of_eq ?_;rw[Ty.right_eq];(all_goals try simp only[zl,zk] at hb8);(all_goals try simp only[zl,zk] at hb26);(all_goals try simp only[zl,zk] at hb35);(all_goals try simp only[zl,zk] at hb48);(all_goals try simp only[zl,zk] at hb56);(all_goals try simp only[zl,zk] at hb68);first | (have e1:okN T.k T.n T.ps.length=false:=(by simp only[okN,zk];omega);rw[e1];rfl) | (rw[zbs hp (by simpa using hb88)];simp;done) | (have e1:okN T.k T.n T.ps.length=true:=(by simp only[okN,zl];omega);rw[e1,zbO (f:=Ty.right) (fun i p hi h1=>hs.2 i p (by omega) h1)];rfl)
  ·
   refine zbA (mB 89 67108874) ([(26,.v (.bool (decide (T.k≠1∧T.n≠0))))]) ([]) ?_ ?_
   ·
    refine zac ?_;(iterate 2 (refine zab 2 fun Q0 q0=>?_;simp only[↓bO,go_sem,seval];refine q0 _ ?_;clear q0 Q0;simp only[go_sem]));refine zaI 30 rfl (fun hc30=>?_) (fun hc30=>?_)
    ·
     simp only[zc,zb];(iterate 2 (refine zab 2 fun Q0 q0=>?_;simp only[↓bO,go_sem,seval];refine q0 _ ?_;clear q0 Q0;simp only[go_sem]));simp only[↓bO,go_sem,seval];(try simp only[zau,zav,zan,zaA,mB,zc,zb,seval]);refine Weak.mk ?_ (fun _ _ h=>h) rfl rfl;simp only[go_sem,Le.refl,Le.any];all_goals (refine Le.of_eq (congrArg (fun b=>AV.v (.bool b)) ?_);rw[zJ];simp at *;omega)
    ·
     simp only[zc,zb];(iterate 2 (refine zab 2 fun Q0 q0=>?_;simp only[↓bO,go_sem,seval];refine q0 _ ?_;clear q0 Q0;simp only[go_sem]));simp only[↓bO,go_sem,seval];(try simp only[zau,zav,zan,zaA,mB,zc,zb,seval]);refine Weak.mk ?_ (fun _ _ h=>h) rfl rfl;simp only[go_sem,Le.refl,Le.any];all_goals (refine Le.of_eq (congrArg (fun b=>AV.v (.bool b)) ?_);rw[zJ];simp at *;omega)
   simp only[zau,zav,zan,zaA,mB,zc,zb,seval];refine zak rfl (fun hb26=>?_) (fun hb26=>?_)
   ·
    refine zad fun Y1 y1=>?_;refine zac ?_;simp only[↓bO,go_sem,seval];refine y1 _ ?_;(try clear y1 Y1);refine zaq ?_;(try simp only[zah,zaf,zae,za1,zaZ,zaE,bS,bA]);refine Le.of_eq ?_;rw[Ty.right_eq];(all_goals try simp only[zl,zk] at hb8);(all_goals try simp only[zl,zk] at hb26);(all_goals try simp only[zl,zk] at hb35);(all_goals try simp only[zl,zk] at hb48);(all_goals try simp only[zl,zk] at hb56);(all_goals try simp only[zl,zk] at hb68);first | (have e1:okN T.k T.n T.ps.length=false:=(by simp only[okN,zk];omega);rw[e1];rfl) | (rw[zbs hp (by simpa using hb88)];simp;done) | (have e1:okN T.k T.n T.ps.length=true:=(by simp only[okN,zl];omega);rw[e1,zbO (f:=Ty.right) (fun i p hi h1=>hs.2 i p (by omega) h1)];rfl)
   ·
    refine zbA (mB 89 34359738378) ([(35,.v (.bool (decide ((T.k=2∨T.k=3)∧0<T.ps.length))))]) ([]) ?_ ?_
    ·
     refine zac ?_;(iterate 2 (refine zab 2 fun Q0 q0=>?_;simp only[↓bO,go_sem,seval];refine q0 _ ?_;clear q0 Q0;simp only[go_sem]));refine zaI 39 rfl (fun hc39=>?_) (fun hc39=>?_)
     ·
      simp only[zc,zb];(iterate 4 (refine zab 2 fun Q0 q0=>?_;simp only[↓bO,go_sem,seval];refine q0 _ ?_;clear q0 Q0;simp only[go_sem]));simp only[↓bO,go_sem,seval];(try simp only[zau,zav,zan,zaA,mB,zc,zb,seval]);refine Weak.mk ?_ (fun _ _ h=>h) rfl rfl;simp only[go_sem,Le.refl,Le.any];all_goals (refine Le.of_eq (congrArg (fun b=>AV.v (.bool b)) ?_);rw[zJ];simp at *;omega)
     ·
      simp only[zc,zb];(iterate 2 (refine zab 2 fun Q0 q0=>?_;simp only[↓bO,go_sem,seval];refine q0 _ ?_;clear q0 Q0;simp only[go_sem]));refine zab 1 fun Q0 q0=>?_;simp only[↓bO,go_sem,seval];refine q0 _ ?_;clear q0 Q0;simp only[go_sem];refine zaI 44 rfl (fun hc44=>?_) (fun hc44=>?_)
      ·
       simp only[zc,zb];refine zab 2 fun Q0 q0=>?_;simp only[↓bO,go_sem,seval];refine q0 _ ?_;clear q0 Q0;simp only[go_sem];simp only[↓bO,go_sem,seval];(try simp only[zau,zav,zan,zaA,mB,zc,zb,seval]);refine Weak.mk ?_ (fun _ _ h=>h) rfl rfl;simp only[go_sem,Le.refl,Le.any];all_goals (refine Le.of_eq (congrArg (fun b=>AV.v (.bool b)) ?_);rw[zJ];simp at *;omega)
      ·
       simp only[zc,zb];refine zab 2 fun Q0 q0=>?_;simp only[↓bO,go_sem,seval];refine q0 _ ?_;clear q0 Q0;simp only[go_sem];simp only[↓bO,go_sem,seval];(try simp only[zau,zav,zan,zaA,mB,zc,zb,seval]);refine Weak.mk ?_ (fun _ _ h=>h) rfl rfl;simp only[go_sem,Le.refl,Le.any];all_goals (refine Le.of_eq (congrArg (fun b=>AV.v (.bool b)) ?_);rw[zJ];simp at *;omega)
    simp only[zau,zav,zan,zaA,mB,zc,zb,seval];refine zak rfl (fun hb35=>?_) (fun hb35=>?_)
    ·
     refine zad fun Y1 y1=>?_;refine zac ?_;simp only[↓bO,go_sem,seval];refine y1 _ ?_;(try clear y1 Y1);refine zaq ?_;(try simp only[zah,zaf,zae,za1,zaZ,zaE,bS,bA]);refine Le.of_eq ?_;rw[Ty.right_eq];(all_goals try simp only[zl,zk] at hb8);(all_goals try simp only[zl,zk] at hb26);(all_goals try simp only[zl,zk] at hb35);(all_goals try simp only[zl,zk] at hb48);(all_goals try simp only[zl,zk] at hb56);(all_goals try simp only[zl,zk] at hb68);first | (have e1:okN T.k T.n T.ps.length=false:=(by simp only[okN,zk];omega);rw[e1];rfl) | (rw[zbs hp (by simpa using hb88)];simp;done) | (have e1:okN T.k T.n T.ps.length=true:=(by simp only[okN,zl];omega);rw[e1,zbO (f:=Ty.right) (fun i p hi h1=>hs.2 i p (by omega) h1)];rfl)
    ·
     refine zbA (mB 89 281474976710666) ([(48,.v (.bool (decide (T.k=4∧T.ps.length≠2))))]) ([]) ?_ ?_
     ·
      refine zac ?_;(iterate 2 (refine zab 2 fun Q0 q0=>?_;simp only[↓bO,go_sem,seval];refine q0 _ ?_;clear q0 Q0;simp only[go_sem]));refine zaI 52 rfl (fun hc52=>?_) (fun hc52=>?_)
      ·
       simp only[zc,zb];refine zab 2 fun Q0 q0=>?_;simp only[↓bO,go_sem,seval];refine q0 _ ?_;clear q0 Q0;simp only[go_sem];simp only[↓bO,go_sem,seval];(try simp only[zau,zav,zan,zaA,mB,zc,zb,seval]);refine Weak.mk ?_ (fun _ _ h=>h) rfl rfl;simp only[go_sem,Le.refl,Le.any];all_goals (refine Le.of_eq (congrArg (fun b=>AV.v (.bool b)) ?_);rw[zJ];simp at *;omega)
      ·
       simp only[zc,zb];refine zab 2 fun Q0 q0=>?_;simp only[↓bO,go_sem,seval];refine q0 _ ?_;clear q0 Q0;simp only[go_sem];simp only[↓bO,go_sem,seval];(try simp only[zau,zav,zan,zaA,mB,zc,zb,seval]);refine Weak.mk ?_ (fun _ _ h=>h) rfl rfl;simp only[go_sem,Le.refl,Le.any];all_goals (refine Le.of_eq (congrArg (fun b=>AV.v (.bool b)) ?_);rw[zJ];simp at *;omega)
     simp only[zau,zav,zan,zaA,mB,zc,zb,seval];refine zak rfl (fun hb48=>?_) (fun hb48=>?_)
     ·
      refine zad fun Y1 y1=>?_;refine zac ?_;simp only[↓bO,go_sem,seval];refine y1 _ ?_;(try clear y1 Y1);refine zaq ?_;(try simp only[zah,zaf,zae,za1,zaZ,zaE,bS,bA]);refine Le.of_eq ?_;rw[Ty.right_eq];(all_goals try simp only[zl,zk] at hb8);(all_goals try simp only[zl,zk] at hb26);(all_goals try simp only[zl,zk] at hb35);(all_goals try simp only[zl,zk] at hb48);(all_goals try simp only[zl,zk] at hb56);(all_goals try simp only[zl,zk] at hb68);first | (have e1:okN T.k T.n T.ps.length=false:=(by simp only[okN,zk];omega);rw[e1];rfl) | (rw[zbs hp (by simpa using hb88)];simp;done) | (have e1:okN T.k T.n T.ps.length=true:=(by simp only[okN,zl];omega);rw[e1,zbO (f:=Ty.right) (fun i p hi h1=>hs.2 i p (by omega) h1)];rfl)
     ·
      refine zbA (mB 89 72057594037927946) ([(56,.v (.bool (decide (T.k=5∧(T.ps.length<2∨8<T.ps.length)))))]) ([]) ?_ ?_
      ·
       refine zac ?_;(iterate 2 (refine zab 2 fun Q0 q0=>?_;simp only[↓bO,go_sem,seval];refine q0 _ ?_;clear q0 Q0;simp only[go_sem]));refine zaI 60 rfl (fun hc60=>?_) (fun hc60=>?_)
       ·
        simp only[zc,zb];refine zab 2 fun Q0 q0=>?_;simp only[↓bO,go_sem,seval];refine q0 _ ?_;clear q0 Q0;simp only[go_sem];refine zab 1 fun Q0 q0=>?_;simp only[↓bO,go_sem,seval];refine q0 _ ?_;clear q0 Q0;simp only[go_sem];refine zaI 63 rfl (fun hc63=>?_) (fun hc63=>?_)
        ·
         simp only[zc,zb];(iterate 2 (refine zab 2 fun Q0 q0=>?_;simp only[↓bO,go_sem,seval];refine q0 _ ?_;clear q0 Q0;simp only[go_sem]));simp only[↓bO,go_sem,seval];(try simp only[zau,zav,zan,zaA,mB,zc,zb,seval]);refine Weak.mk ?_ (fun _ _ h=>h) rfl rfl;simp only[go_sem,Le.refl,Le.any];all_goals (refine Le.of_eq (congrArg (fun b=>AV.v (.bool b)) ?_);rw[zJ];simp at *;omega)
        ·
         simp only[zc,zb];(iterate 2 (refine zab 2 fun Q0 q0=>?_;simp only[↓bO,go_sem,seval];refine q0 _ ?_;clear q0 Q0;simp only[go_sem]));simp only[↓bO,go_sem,seval];(try simp only[zau,zav,zan,zaA,mB,zc,zb,seval]);refine Weak.mk ?_ (fun _ _ h=>h) rfl rfl;simp only[go_sem,Le.refl,Le.any];all_goals (refine Le.of_eq (congrArg (fun b=>AV.v (.bool b)) ?_);rw[zJ];simp at *;omega)
       ·
        simp only[zc,zb];(iterate 3 (refine zab 2 fun Q0 q0=>?_;simp only[↓bO,go_sem,seval];refine q0 _ ?_;clear q0 Q0;simp only[go_sem]));simp only[↓bO,go_sem,seval];(try simp only[zau,zav,zan,zaA,mB,zc,zb,seval]);refine Weak.mk ?_ (fun _ _ h=>h) rfl rfl;simp only[go_sem,Le.refl,Le.any];all_goals (refine Le.of_eq (congrArg (fun b=>AV.v (.bool b)) ?_);rw[zJ];simp at *;omega)
      simp only[zau,zav,zan,zaA,mB,zc,zb,seval];refine zak rfl (fun hb56=>?_) (fun hb56=>?_)
      ·
       refine zad fun Y1 y1=>?_;refine zac ?_;simp only[↓bO,go_sem,seval];refine y1 _ ?_;(try clear y1 Y1);refine zaq ?_;(try simp only[zah,zaf,zae,za1,zaZ,zaE,bS,bA]);refine Le.of_eq ?_;rw[Ty.right_eq];(all_goals try simp only[zl,zk] at hb8);(all_goals try simp only[zl,zk] at hb26);(all_goals try simp only[zl,zk] at hb35);(all_goals try simp only[zl,zk] at hb48);(all_goals try simp only[zl,zk] at hb56);(all_goals try simp only[zl,zk] at hb68);first | (have e1:okN T.k T.n T.ps.length=false:=(by simp only[okN,zk];omega);rw[e1];rfl) | (rw[zbs hp (by simpa using hb88)];simp;done) | (have e1:okN T.k T.n T.ps.length=true:=(by simp only[okN,zl];omega);rw[e1,zbO (f:=Ty.right) (fun i p hi h1=>hs.2 i p (by omega) h1)];rfl)
      ·
       refine zbA (mB 89 295147905179352825866) ([(68,.v (.bool (decide (T.k<1∨5<T.k))))]) ([]) ?_ ?_
       ·
        refine zac ?_;(iterate 2 (refine zab 2 fun Q0 q0=>?_;simp only[↓bO,go_sem,seval];refine q0 _ ?_;clear q0 Q0;simp only[go_sem]));refine zaI 72 rfl (fun hc72=>?_) (fun hc72=>?_)
        ·
         simp only[zc,zb];(iterate 2 (refine zab 2 fun Q0 q0=>?_;simp only[↓bO,go_sem,seval];refine q0 _ ?_;clear q0 Q0;simp only[go_sem]));simp only[↓bO,go_sem,seval];(try simp only[zau,zav,zan,zaA,mB,zc,zb,seval]);refine Weak.mk ?_ (fun _ _ h=>h) rfl rfl;simp only[go_sem,Le.refl,Le.any];all_goals (refine Le.of_eq (congrArg (fun b=>AV.v (.bool b)) ?_);rw[zJ];simp at *;omega)
        ·
         simp only[zc,zb];(iterate 2 (refine zab 2 fun Q0 q0=>?_;simp only[↓bO,go_sem,seval];refine q0 _ ?_;clear q0 Q0;simp only[go_sem]));simp only[↓bO,go_sem,seval];(try simp only[zau,zav,zan,zaA,mB,zc,zb,seval]);refine Weak.mk ?_ (fun _ _ h=>h) rfl rfl;simp only[go_sem,Le.refl,Le.any];all_goals (refine Le.of_eq (congrArg (fun b=>AV.v (.bool b)) ?_);rw[zJ];simp at *;omega)
       simp only[zau,zav,zan,zaA,mB,zc,zb,seval];refine zak rfl (fun hb68=>?_) (fun hb68=>?_)
       ·
        refine zad fun Y1 y1=>?_;refine zac ?_;simp only[↓bO,go_sem,seval];refine y1 _ ?_;(try clear y1 Y1);refine zaq ?_;(try simp only[zah,zaf,zae,za1,zaZ,zaE,bS,bA]);refine Le.of_eq ?_;rw[Ty.right_eq];(all_goals try simp only[zl,zk] at hb8);(all_goals try simp only[zl,zk] at hb26);(all_goals try simp only[zl,zk] at hb35);(all_goals try simp only[zl,zk] at hb48);(all_goals try simp only[zl,zk] at hb56);(all_goals try simp only[zl,zk] at hb68);first | (have e1:okN T.k T.n T.ps.length=false:=(by simp only[okN,zk];omega);rw[e1];rfl) | (rw[zbs hp (by simpa using hb88)];simp;done) | (have e1:okN T.k T.n T.ps.length=true:=(by simp only[okN,zl];omega);rw[e1,zbO (f:=Ty.right) (fun i p hi h1=>hs.2 i p (by omega) h1)];rfl)
       ·
        refine zap ?_;(try simp only[zah,zaf,zae]);refine y0 _ ?_;(try clear y0 Y0);refine zad fun Y0 y0=>?_;refine zad fun Y1 y1=>?_;refine zac ?_;simp only[↓bO,go_sem,seval];refine y1 _ ?_;(try clear y1 Y1);refine zao ?_;refine zaG (σ:=Nat) (mB 89 26) (fun s=>s≤T.ps.length∧∀(i:Nat) (p:Ty),i<s→T.ps[i]?=some p→p.right=true) (fun s=>[(4,.v (.int .i64 (s:Int)))]) (fun s=>[]) (fun s=>T.ps.length-s) 0 (⟨by omega,fun i p hi=>by omega⟩) ?_ (fun s hs=>?_)
        ·
         simp only[zau,zav,zan,zaA,mB,zc,zb,seval];exact zbl
        simp only[zau,zav,zan,zaA,mB,zc,zb,seval];refine zad fun Y1 y1=>?_;refine zad fun Y2 y2=>?_;refine zac ?_;refine zab 2 fun Q0 q0=>?_;simp only[↓bO,go_sem,seval];refine q0 _ ?_;clear q0 Q0;simp only[go_sem];simp only[↓bO,go_sem,seval];refine y2 _ ?_;(try clear y2 Y2);refine zak rfl (fun hb79=>?_) (fun hb79=>?_)
        ·
         (have hk:s<T.ps.length:=by simpa using hb79);obtain ⟨p,hp⟩:∃p,T.ps[s]?=some p:=⟨_,ze hk⟩;have hw:IntKind.i64.wrap ((s:Int)+1)=(s:Int)+1:=zaO (by omega) (by have:=hm1.len;simp only[maxLen] at this;omega);refine zap ?_;(try simp only[zah,zaf,zae]);refine y1 _ ?_;(try clear y1 Y1);refine zad fun Y1 y1=>?_;refine zao ?_;refine zad fun Y2 y2=>?_;refine zac ?_;(iterate 2 (refine zab 2 fun Q0 q0=>?_;simp only[↓bO,go_sem,seval,hk,gM hp,za,hw];refine q0 _ ?_;clear q0 Q0;simp only[go_sem]));refine zab 1 fun Q0 q0=>?_;simp only[↓bO,go_sem,seval,hk,gM hp,za,hw];refine q0 _ ?_;clear q0 Q0;simp only[go_sem];refine zab 1 fun Q0 q0=>?_;simp only[↓bO,go_sem,seval,hk,gM hp,za,hw];refine APure.call (ih p (zn hp)) ?_;(try simp only[bS,bA,zah,zaf,zae]);refine q0 _ ?_;clear q0 Q0;simp only[go_sem];simp only[↓bO,go_sem,seval,hk,gM hp,za,hw];refine y2 _ ?_;(try clear y2 Y2);refine zak rfl (fun hb88=>?_) (fun hb88=>?_)
         ·
          refine zad fun Y2 y2=>?_;refine zac ?_;simp only[↓bO,go_sem,seval,hk,gM hp,za,hw];refine y2 _ ?_;(try clear y2 Y2);refine zaq ?_;(try simp only[zah,zaf,zae,za1,zaZ,zaE,bS,bA]);refine Le.of_eq ?_;rw[Ty.right_eq];(all_goals try simp only[zl,zk] at hb8);(all_goals try simp only[zl,zk] at hb26);(all_goals try simp only[zl,zk] at hb35);(all_goals try simp only[zl,zk] at hb48);(all_goals try simp only[zl,zk] at hb56);(all_goals try simp only[zl,zk] at hb68);first | (have e1:okN T.k T.n T.ps.length=false:=(by simp only[okN,zk];omega);rw[e1];rfl) | (rw[zbs hp (by simpa using hb88)];simp;done) | (have e1:okN T.k T.n T.ps.length=true:=(by simp only[okN,zl];omega);rw[e1,zbO (f:=Ty.right) (fun i p hi h1=>hs.2 i p (by omega) h1)];rfl)
         ·
          refine zap ?_;(try simp only[zah,zaf,zae]);refine y1 _ ?_;(try clear y1 Y1);refine zac ?_;refine zab 2 fun Q0 q0=>?_;simp only[↓bO,go_sem,seval,hk,gM hp,za,hw];refine q0 _ ?_;clear q0 Q0;simp only[go_sem];simp only[↓bO,go_sem,seval,hk,gM hp,za,hw];refine ⟨(s+1),⟨by omega,fun i p' hi h1=>(by rcases zM i s with h3 | h3 <;> first | exact hs.2 i p' h3 h1 | (obtain rfl:i=s:=(by omega);rw[hp] at h1;cases h1;simpa using hb88))⟩,by omega,?_⟩;simp only[zau,zav,zan,zaA,mB,zc,zb,seval,hk,gM hp,za,zA,hw];exact zbl
        ·
         (have hk:s=T.ps.length:=by have:=hs.1;simp at hb79;omega);refine zaK ?_;simp only[zah,zaf,zae,bA,Nat.reduceEqDiff,↓reduceIte];refine y0 _ ?_;(try clear y0 Y0);refine zad fun Y0 y0=>?_;refine zac ?_;simp only[↓bO,go_sem,seval];refine y0 _ ?_;(try clear y0 Y0);refine zaq ?_;(try simp only[zah,zaf,zae,za1,zaZ,zaE,bS,bA]);refine Le.of_eq ?_;rw[Ty.right_eq];(all_goals try simp only[zl,zk] at hb8);(all_goals try simp only[zl,zk] at hb26);(all_goals try simp only[zl,zk] at hb35);(all_goals try simp only[zl,zk] at hb48);(all_goals try simp only[zl,zk] at hb56);(all_goals try simp only[zl,zk] at hb68);first | (have e1:okN T.k T.n T.ps.length=false:=(by simp only[okN,zk];omega);rw[e1];rfl) | (rw[zbs hp (by simpa using hb88)];simp;done) | (have e1:okN T.k T.n T.ps.length=true:=(by simp only[okN,zl];omega);rw[e1,zbO (f:=Ty.right) (fun i p hi h1=>hs.2 i p (by omega) h1)];rfl)
theorem zig (n:Int):APure Tryz.prog 79 [.v (.int .i64 n)] (.v (.bool (decide (0≤n∧n<1073741824)))):=by
  refine APure.mkL (.cons (.v _) .nil) (.v _) ?_;refine zaj Tryz.func79 (by kernel_rfl) rfl (by rw[Tryz.ntmps79];simp) (fun hm=>?_);simp only[Tryz.ntmps79,Tryz.results79,zh,zm,Nat.reduceAdd,Nat.reduceSub,zu,zw,zi,zj];refine zad fun Y0 y0=>?_;refine zac ?_;simp only[↓bO,go_sem,seval];refine y0 _ ?_;(try clear y0 Y0);refine zad fun Y0 y0=>?_;refine zac ?_;refine zab 3 fun Q0 q0=>?_;simp only[↓bO,go_sem,seval];refine q0 _ ?_;clear q0 Q0;simp only[go_sem];refine zaI 5 rfl (fun hc5=>?_) (fun hc5=>?_)
  ·
   simp only[zc,zb];simp only[↓bO,go_sem,seval];refine y0 _ ?_;(try clear y0 Y0);refine zaq ?_;(try simp only[zah,zaf,zae,za1,zaZ,zaE,bS,bA]);refine Le.of_eq (congrArg (fun b=>AV.v (.bool b)) ?_);simp at *;omega
  ·
   simp only[zc,zb];simp only[↓bO,go_sem,seval];refine y0 _ ?_;(try clear y0 Y0);refine zaq ?_;(try simp only[zah,zaf,zae,za1,zaZ,zaE,bS,bA]);refine Le.of_eq (congrArg (fun b=>AV.v (.bool b)) ?_);simp at *;omega
theorem zim (T:Ty):APure Tryz.prog 62 [.agg T.cells] (.v (.bool (okN T.k T.n T.ps.length))):=by
  refine APure.mkL (.cons T.dataAgg .nil) (.v _) ?_;refine zaj Tryz.func62 (by kernel_rfl) rfl (by rw[Tryz.ntmps62];simp) (fun hm=>?_);simp only[Tryz.ntmps62,Tryz.results62,zh,zm,Nat.reduceAdd,Nat.reduceSub,zu,zw,zi,zj];refine zad fun Y0 y0=>?_;refine zac ?_;simp only[↓bO,go_sem,seval];refine y0 _ ?_;(try clear y0 Y0);refine zad fun Y0 y0=>?_;refine zac ?_;refine zab 3 fun Q0 q0=>?_;simp only[↓bO,go_sem,seval];refine q0 _ ?_;clear q0 Q0;simp only[go_sem];simp only[↓bO,go_sem,seval];refine y0 _ ?_;(try clear y0 Y0);refine zad fun Y0 y0=>?_;refine zad fun Y1 y1=>?_;refine zac ?_;simp only[↓bO,go_sem,seval];refine y1 _ ?_;(try clear y1 Y1);refine zao ?_;refine zad fun Y1 y1=>?_;refine zac ?_;simp only[↓bO,go_sem,seval];refine y1 _ ?_;(try clear y1 Y1);refine zak rfl (fun hb9=>?_) (fun hb9=>?_)
  ·
   refine zad fun Y1 y1=>?_;refine zac ?_;refine zab 2 fun Q0 q0=>?_;simp only[↓bO,go_sem,seval];refine q0 _ ?_;clear q0 Q0;simp only[go_sem];refine zab 1 fun Q0 q0=>?_;simp only[↓bO,go_sem,seval];refine APure.call (zig T.n) ?_;(try simp only[bS,bA,zah,zaf,zae]);refine q0 _ ?_;clear q0 Q0;simp only[go_sem];refine zab 1 fun Q0 q0=>?_;simp only[↓bO,go_sem,seval];refine q0 _ ?_;clear q0 Q0;simp only[go_sem];refine zaI 14 rfl (fun hc14=>?_) (fun hc14=>?_)
   ·
    simp only[zc,zb];refine zab 3 fun Q0 q0=>?_;simp only[↓bO,go_sem,seval];refine q0 _ ?_;clear q0 Q0;simp only[go_sem];simp only[↓bO,go_sem,seval];refine y1 _ ?_;(try clear y1 Y1);refine zaq ?_;(try simp only[zah,zaf,zae,za1,zaZ,zaE,bS,bA]);refine Le.of_eq (congrArg (fun b=>AV.v (.bool b)) ?_);rw[zJ];simp only[okN,zl,beq_iff_eq,zR,beq_eq_false_iff_ne,ne_eq,zk,false_iff,true_iff,and_true,true_and] at *;try omega
   ·
    simp only[zc,zb];refine zab 3 fun Q0 q0=>?_;simp only[↓bO,go_sem,seval];refine q0 _ ?_;clear q0 Q0;simp only[go_sem];simp only[↓bO,go_sem,seval];refine y1 _ ?_;(try clear y1 Y1);refine zaq ?_;(try simp only[zah,zaf,zae,za1,zaZ,zaE,bS,bA]);refine Le.of_eq (congrArg (fun b=>AV.v (.bool b)) ?_);rw[zJ];simp only[okN,zl,beq_iff_eq,zR,beq_eq_false_iff_ne,ne_eq,zk,false_iff,true_iff,and_true,true_and] at *;try omega
  ·
   refine zad fun Y1 y1=>?_;refine zad fun Y2 y2=>?_;refine zac ?_;simp only[↓bO,go_sem,seval];refine y2 _ ?_;(try clear y2 Y2);refine zak rfl (fun hb18=>?_) (fun hb18=>?_)
   ·
    refine zap ?_;(try simp only[zah,zaf,zae]);refine y1 _ ?_;(try clear y1 Y1);refine zak (b:=true) (by first | exact rfl | exact congrArg (fun b=>AV.v (.bool b)) hb18) (fun _=>?_) (fun h=>(by cases h));refine zad fun Y1 y1=>?_;refine zac ?_;refine zab 3 fun Q0 q0=>?_;simp only[↓bO,go_sem,seval];refine q0 _ ?_;clear q0 Q0;simp only[go_sem];refine zab 1 fun Q0 q0=>?_;simp only[↓bO,go_sem,seval];refine q0 _ ?_;clear q0 Q0;simp only[go_sem];refine zaI 24 rfl (fun hc24=>?_) (fun hc24=>?_)
    ·
     simp only[zc,zb];refine zab 3 fun Q0 q0=>?_;simp only[↓bO,go_sem,seval];refine q0 _ ?_;clear q0 Q0;simp only[go_sem];simp only[↓bO,go_sem,seval];refine y1 _ ?_;(try clear y1 Y1);refine zaq ?_;(try simp only[zah,zaf,zae,za1,zaZ,zaE,bS,bA]);refine Le.of_eq (congrArg (fun b=>AV.v (.bool b)) ?_);rw[zJ];simp only[okN,zl,beq_iff_eq,zR,beq_eq_false_iff_ne,ne_eq,zk,false_iff,true_iff,and_true,true_and] at *;try omega
    ·
     simp only[zc,zb];refine zab 3 fun Q0 q0=>?_;simp only[↓bO,go_sem,seval];refine q0 _ ?_;clear q0 Q0;simp only[go_sem];simp only[↓bO,go_sem,seval];refine y1 _ ?_;(try clear y1 Y1);refine zaq ?_;(try simp only[zah,zaf,zae,za1,zaZ,zaE,bS,bA]);refine Le.of_eq (congrArg (fun b=>AV.v (.bool b)) ?_);rw[zJ];simp only[okN,zl,beq_iff_eq,zR,beq_eq_false_iff_ne,ne_eq,zk,false_iff,true_iff,and_true,true_and] at *;try omega
   ·
    refine zac ?_;simp only[↓bO,go_sem,seval];refine y1 _ ?_;(try clear y1 Y1);refine zak rfl (fun hb18=>?_) (fun hb18=>?_)
    ·
     refine zad fun Y1 y1=>?_;refine zac ?_;refine zab 3 fun Q0 q0=>?_;simp only[↓bO,go_sem,seval];refine q0 _ ?_;clear q0 Q0;simp only[go_sem];refine zab 1 fun Q0 q0=>?_;simp only[↓bO,go_sem,seval];refine q0 _ ?_;clear q0 Q0;simp only[go_sem];refine zaI 24 rfl (fun hc24=>?_) (fun hc24=>?_)
     ·
      simp only[zc,zb];refine zab 3 fun Q0 q0=>?_;simp only[↓bO,go_sem,seval];refine q0 _ ?_;clear q0 Q0;simp only[go_sem];simp only[↓bO,go_sem,seval];refine y1 _ ?_;(try clear y1 Y1);refine zaq ?_;(try simp only[zah,zaf,zae,za1,zaZ,zaE,bS,bA]);refine Le.of_eq (congrArg (fun b=>AV.v (.bool b)) ?_);rw[zJ];simp only[okN,zl,beq_iff_eq,zR,beq_eq_false_iff_ne,ne_eq,zk,false_iff,true_iff,and_true,true_and] at *;try omega
     ·
      simp only[zc,zb];refine zab 3 fun Q0 q0=>?_;simp only[↓bO,go_sem,seval];refine q0 _ ?_;clear q0 Q0;simp only[go_sem];simp only[↓bO,go_sem,seval];refine y1 _ ?_;(try clear y1 Y1);refine zaq ?_;(try simp only[zah,zaf,zae,za1,zaZ,zaE,bS,bA]);refine Le.of_eq (congrArg (fun b=>AV.v (.bool b)) ?_);rw[zJ];simp only[okN,zl,beq_iff_eq,zR,beq_eq_false_iff_ne,ne_eq,zk,false_iff,true_iff,and_true,true_and] at *;try omega
    ·
     refine zad fun Y1 y1=>?_;refine zac ?_;simp only[↓bO,go_sem,seval];refine y1 _ ?_;(try clear y1 Y1);refine zak rfl (fun hb28=>?_) (fun hb28=>?_)
     ·
      refine zad fun Y1 y1=>?_;refine zac ?_;refine zab 3 fun Q0 q0=>?_;simp only[↓bO,go_sem,seval];refine q0 _ ?_;clear q0 Q0;simp only[go_sem];refine zab 1 fun Q0 q0=>?_;simp only[↓bO,go_sem,seval];refine q0 _ ?_;clear q0 Q0;simp only[go_sem];refine zaI 33 rfl (fun hc33=>?_) (fun hc33=>?_)
      ·
       simp only[zc,zb];refine zab 3 fun Q0 q0=>?_;simp only[↓bO,go_sem,seval];refine q0 _ ?_;clear q0 Q0;simp only[go_sem];simp only[↓bO,go_sem,seval];refine y1 _ ?_;(try clear y1 Y1);refine zaq ?_;(try simp only[zah,zaf,zae,za1,zaZ,zaE,bS,bA]);refine Le.of_eq (congrArg (fun b=>AV.v (.bool b)) ?_);rw[zJ];simp only[okN,zl,beq_iff_eq,zR,beq_eq_false_iff_ne,ne_eq,zk,false_iff,true_iff,and_true,true_and] at *;try omega
      ·
       simp only[zc,zb];refine zab 3 fun Q0 q0=>?_;simp only[↓bO,go_sem,seval];refine q0 _ ?_;clear q0 Q0;simp only[go_sem];simp only[↓bO,go_sem,seval];refine y1 _ ?_;(try clear y1 Y1);refine zaq ?_;(try simp only[zah,zaf,zae,za1,zaZ,zaE,bS,bA]);refine Le.of_eq (congrArg (fun b=>AV.v (.bool b)) ?_);rw[zJ];simp only[okN,zl,beq_iff_eq,zR,beq_eq_false_iff_ne,ne_eq,zk,false_iff,true_iff,and_true,true_and] at *;try omega
     ·
      refine zad fun Y1 y1=>?_;refine zac ?_;simp only[↓bO,go_sem,seval];refine y1 _ ?_;(try clear y1 Y1);refine zak rfl (fun hb37=>?_) (fun hb37=>?_)
      ·
       refine zad fun Y1 y1=>?_;refine zac ?_;refine zab 3 fun Q0 q0=>?_;simp only[↓bO,go_sem,seval];refine q0 _ ?_;clear q0 Q0;simp only[go_sem];refine zab 1 fun Q0 q0=>?_;simp only[↓bO,go_sem,seval];refine q0 _ ?_;clear q0 Q0;simp only[go_sem];refine zaI 42 rfl (fun hc42=>?_) (fun hc42=>?_)
       ·
        simp only[zc,zb];refine zab 3 fun Q0 q0=>?_;simp only[↓bO,go_sem,seval];refine q0 _ ?_;clear q0 Q0;simp only[go_sem];refine zab 1 fun Q0 q0=>?_;simp only[↓bO,go_sem,seval];refine q0 _ ?_;clear q0 Q0;simp only[go_sem];refine zaI 46 rfl (fun hc46=>?_) (fun hc46=>?_)
        ·
         simp only[zc,zb];refine zab 3 fun Q0 q0=>?_;simp only[↓bO,go_sem,seval];refine q0 _ ?_;clear q0 Q0;simp only[go_sem];simp only[↓bO,go_sem,seval];refine y1 _ ?_;(try clear y1 Y1);refine zaq ?_;(try simp only[zah,zaf,zae,za1,zaZ,zaE,bS,bA]);refine Le.of_eq (congrArg (fun b=>AV.v (.bool b)) ?_);rw[zJ];simp only[okN,zl,beq_iff_eq,zR,beq_eq_false_iff_ne,ne_eq,zk,false_iff,true_iff,and_true,true_and] at *;try omega
        ·
         simp only[zc,zb];refine zab 3 fun Q0 q0=>?_;simp only[↓bO,go_sem,seval];refine q0 _ ?_;clear q0 Q0;simp only[go_sem];simp only[↓bO,go_sem,seval];refine y1 _ ?_;(try clear y1 Y1);refine zaq ?_;(try simp only[zah,zaf,zae,za1,zaZ,zaE,bS,bA]);refine Le.of_eq (congrArg (fun b=>AV.v (.bool b)) ?_);rw[zJ];simp only[okN,zl,beq_iff_eq,zR,beq_eq_false_iff_ne,ne_eq,zk,false_iff,true_iff,and_true,true_and] at *;try omega
       ·
        simp only[zc,zb];(iterate 2 (refine zab 3 fun Q0 q0=>?_;simp only[↓bO,go_sem,seval];refine q0 _ ?_;clear q0 Q0;simp only[go_sem]));simp only[↓bO,go_sem,seval];refine y1 _ ?_;(try clear y1 Y1);refine zaq ?_;(try simp only[zah,zaf,zae,za1,zaZ,zaE,bS,bA]);refine Le.of_eq (congrArg (fun b=>AV.v (.bool b)) ?_);rw[zJ];simp only[okN,zl,beq_iff_eq,zR,beq_eq_false_iff_ne,ne_eq,zk,false_iff,true_iff,and_true,true_and] at *;try omega
      ·
       refine zap ?_;(try simp only[zah,zaf,zae]);refine y0 _ ?_;(try clear y0 Y0);refine zad fun Y0 y0=>?_;refine zac ?_;simp only[↓bO,go_sem,seval];refine y0 _ ?_;(try clear y0 Y0);refine zaq ?_;(try simp only[zah,zaf,zae,za1,zaZ,zaE,bS,bA]);refine Le.of_eq (congrArg (fun b=>AV.v (.bool b)) ?_);rw[zJ];simp only[okN,zl,beq_iff_eq,zR,beq_eq_false_iff_ne,ne_eq,zk,false_iff,true_iff,and_true,true_and] at *;try omega
theorem zd8 {α:Type} {f:α→Bool} {ps:List α} {i:Nat} {p:α} (hp:ps[i]?=some p) (h:f p=true):ps.any f=true:=List.any_eq_true.2 ⟨p,zn hp,h⟩
theorem zek {α:Type} {f:α→Bool} {ps:List α} (h:∀(i:Nat) (p:α),i<ps.length→ps[i]?=some p→f p=false):ps.any f=false:=by
  rw[← Bool.not_eq_true,List.any_eq_true];rintro ⟨p,hp,hf⟩;obtain ⟨i,hi,e⟩:=zX.1 hp;rw[h i p hi (by rw[ze hi,e])] at hf;cases hf
def zb3 {α:Type} (g:α→Bool) (l:List α):Int:=if l.any g then (l.findIdx g:Int) else -1
theorem zco {α:Type} {g:α→Bool} {l:List α} {i:Nat} {p:α} (hp:l[i]?=some p) (h:g p=true) (hb:∀(j:Nat) (q:α),j<i→l[j]?=some q→g q=false):zb3 g l=(i:Int):=by
  have hi:i<l.length:=(zf.1 hp).1;have e:l[i]=p:=(zf.1 hp).2;rw[zb3,if_pos (zd8 hp h)];(congr 1);refine List.findIdx_eq hi |>.2 ⟨by rw[e];exact h,fun j hj=>?_⟩;exact hb j _ hj (ze (by omega))
theorem zc6 {α:Type} {g:α→Bool} {l:List α} (hb:∀(j:Nat) (q:α),j<l.length→l[j]?=some q→g q=false):zb3 g l=-1:=by
  rw[zb3,zek hb];rfl
theorem zf0 {α:Type} {g:α→Bool} {l:List α}:decide (zb3 g l≥0)=l.any g:=by
  unfold zb3;split;(· rename_i h;rw[h];simp);· rename_i h;simp at h;simp;exact h
theorem zel (ps:List Ty) (g:Nat) (f:Ty→Bool) (hf:∀p∈ps,APure Tryz.prog g [.agg p.cells] (.v (.bool (f p)))):APure Tryz.prog 80 [.sl 3 (ps.map Ty.cells),.clo g []] (.v (.int .i64 (zb3 f ps))):=by
  refine APure.mkL (.cons (Ty.dataSl ps) (.cons (.clo (fun _ h=>by cases h)) .nil)) (.v _) ?_;refine zaj Tryz.func80 (by kernel_rfl) rfl (by rw[Tryz.ntmps80];simp) (fun hm=>?_);simp only[Tryz.ntmps80,Tryz.results80,zh,zm,Nat.reduceAdd,Nat.reduceSub,zu,zw,zi,zj];have hm1:=hm.len (sz:=3) (xs:=ps.map Ty.cells) (by simp);rw[zY] at hm1;(have hm2:∀i:Nat,i<ps.length→IntKind.i64.wrap ((i:Int)+1)=(i:Int)+1:=fun i hi=>zaO (by omega) (by simp only[maxLen] at hm1;omega));refine zad fun Y0 y0=>?_;refine zac ?_;simp only[↓bO,go_sem,seval];refine y0 _ ?_;(try clear y0 Y0);refine zad fun Y0 y0=>?_;refine zad fun Y1 y1=>?_;refine zac ?_;simp only[↓bO,go_sem,seval];refine y1 _ ?_;(try clear y1 Y1);refine zao ?_;refine zaG (σ:=Nat) (mB 19 387) (fun s=>s≤ps.length∧∀(i:Nat) (p:Ty),i<s→ps[i]?=some p→f p=false) (fun s=>[(8,.v (.int .i64 (s:Int)))]) (fun s=>[]) (fun s=>ps.length-s) 0 (⟨by omega,fun i p hi=>by omega⟩) ?_ (fun s hs=>?_)
  ·
   simp only[zau,zav,zan,zaA,mB,zc,zb,seval];exact zbl
  simp only[zau,zav,zan,zaA,mB,zc,zb,seval];refine zad fun Y1 y1=>?_;refine zac ?_;simp only[↓bO,go_sem,seval];refine y1 _ ?_;(try clear y1 Y1);refine zad fun Y1 y1=>?_;refine zak rfl (fun hb9=>?_) (fun hb9=>?_)
  ·
   (have hk:s<ps.length:=by simpa using hb9);obtain ⟨p,hp⟩:∃p,ps[s]?=some p:=⟨_,ze hk⟩;have hw:=hm2 s hk;refine zap ?_;(try simp only[zah,zaf,zae]);refine y1 _ ?_;(try clear y1 Y1);refine zad fun Y1 y1=>?_;refine zao ?_;refine zad fun Y2 y2=>?_;refine zac ?_;simp only[↓bO,go_sem,seval,hk,gM hp,za,hw];refine y2 _ ?_;(try clear y2 Y2);refine zad fun Y2 y2=>?_;refine zac ?_;refine zab 4 fun Q0 q0=>?_;simp only[↓bO,go_sem,seval,hk,gM hp,za,hw];refine q0 _ ?_;clear q0 Q0;simp only[go_sem];refine zab 1 fun Q0 q0=>?_;simp only[↓bO,go_sem,seval,hk,gM hp,za,hw];refine q0 _ ?_;clear q0 Q0;simp only[go_sem];simp only[↓bO,go_sem,seval,hk,gM hp,za,hw];refine APure.call (hf p (zn hp)) ?_;(try simp only[bS,bA,zah,zaf,zae]);refine y2 _ ?_;(try clear y2 Y2);refine zak rfl (fun hb16=>?_) (fun hb16=>?_)
   ·
    refine zad fun Y2 y2=>?_;refine zac ?_;simp only[↓bO,go_sem,seval,hk,gM hp,za,hw];refine y2 _ ?_;(try clear y2 Y2);refine zaq ?_;(try simp only[zah,zaf,zae,za1,zaZ,zaE,bS,bA]);refine Le.of_eq (congrArg (fun n=>AV.v (.int .i64 n)) ?_);first | (rw[zco hp (by exact hb16) hs.2];done) | (rw[zc6 (fun i p hi h1=>hs.2 i p (by omega) h1)];done)
   ·
    refine zap ?_;(try simp only[zah,zaf,zae]);refine y1 _ ?_;(try clear y1 Y1);refine zac ?_;simp only[↓bO,go_sem,seval,hk,gM hp,za,hw];refine ⟨(s+1),⟨by omega,fun i p' hi h1=>(by rcases zM i s with h3 | h3 <;> first | exact hs.2 i p' h3 h1 | (obtain rfl:i=s:=(by omega);rw[hp] at h1;cases h1;exact hb16))⟩,by omega,?_⟩;simp only[zau,zav,zan,zaA,mB,zc,zb,seval,hk,gM hp,za,zA,hw];exact zbl
  ·
   (have hk:s=ps.length:=by have:=hs.1;simp at hb9;omega);refine zaK ?_;simp only[zah,zaf,zae,bA,Nat.reduceEqDiff,↓reduceIte];refine y0 _ ?_;(try clear y0 Y0);refine zad fun Y0 y0=>?_;refine zac ?_;simp only[↓bO,go_sem,seval];refine y0 _ ?_;(try clear y0 Y0);refine zaq ?_;(try simp only[zah,zaf,zae,za1,zaZ,zaE,bS,bA]);refine Le.of_eq (congrArg (fun n=>AV.v (.int .i64 n)) ?_);first | (rw[zco hp (by exact hb16) hs.2];done) | (rw[zc6 (fun i p hi h1=>hs.2 i p (by omega) h1)];done)
theorem zdr (ps:List Ty) (g:Nat) (f:Ty→Bool) (hf:∀p∈ps,APure Tryz.prog g [.agg p.cells] (.v (.bool (f p)))):APure Tryz.prog 63 [.sl 3 (ps.map Ty.cells),.clo g []] (.v (.bool (ps.any f))):=by
  refine APure.mkL (.cons (Ty.dataSl ps) (.cons (.clo (fun _ h=>by cases h)) .nil)) (.v _) ?_;refine zaj Tryz.func63 (by kernel_rfl) rfl (by rw[Tryz.ntmps63];simp) (fun hm=>?_);simp only[Tryz.ntmps63,Tryz.results63,zh,zm,Nat.reduceAdd,Nat.reduceSub,zu,zw,zi,zj];refine zad fun Y0 y0=>?_;refine zac ?_;simp only[↓bO,go_sem,seval,zf0];refine y0 _ ?_;(try clear y0 Y0);refine zad fun Y0 y0=>?_;refine zac ?_;refine zab 2 fun Q0 q0=>?_;simp only[↓bO,go_sem,seval,zf0];refine q0 _ ?_;clear q0 Q0;simp only[go_sem];refine zab 1 fun Q0 q0=>?_;simp only[↓bO,go_sem,seval,zf0];refine APure.call (zel ps g f hf) ?_;(try simp only[bS,bA,zah,zaf,zae]);refine q0 _ ?_;clear q0 Q0;simp only[go_sem];simp only[↓bO,go_sem,seval,zf0];refine y0 _ ?_;(try clear y0 Y0);refine zaq ?_;(try simp only[zah,zaf,zae,za1,zaZ,zaE,bS,bA]);exact Le.refl _
theorem zhg {p:Ty} (h:APure Tryz.prog 47 [.agg p.cells] (.v (.bool p.right))):APure Tryz.prog 64 [.agg p.cells] (.v (.bool (!p.right))):=by
  refine APure.mkL (.cons p.dataAgg .nil) (.v _) ?_;refine zaj Tryz.func64 (by kernel_rfl) rfl (by rw[Tryz.ntmps64];simp) (fun hm=>?_);simp only[Tryz.ntmps64,Tryz.results64,zh,zm,Nat.reduceAdd,Nat.reduceSub,zu,zw,zi,zj];refine zad fun Y0 y0=>?_;refine zac ?_;simp only[↓bO,go_sem,seval];refine y0 _ ?_;(try clear y0 Y0);refine zad fun Y0 y0=>?_;refine zac ?_;refine zab 1 fun Q0 q0=>?_;simp only[↓bO,go_sem,seval];refine q0 _ ?_;clear q0 Q0;simp only[go_sem];refine zab 1 fun Q0 q0=>?_;simp only[↓bO,go_sem,seval];refine APure.call (h) ?_;(try simp only[bS,bA,zah,zaf,zae]);refine q0 _ ?_;clear q0 Q0;simp only[go_sem];simp only[↓bO,go_sem,seval];refine y0 _ ?_;(try clear y0 Y0);refine zaq ?_;(try simp only[zah,zaf,zae,za1,zaZ,zaE,bS,bA]);exact Le.refl _
theorem zed:∀(T:Ty),APure Tryz.prog 47 [.agg T.cells] (.v (.bool T.right)):=by
  refine Ty.ind fun T ih=>?_;refine APure.mkL (.cons T.dataAgg .nil) (.v _) ?_;refine zaj Tryz.func47 (by kernel_rfl) rfl (by rw[Tryz.ntmps47];simp) (fun hm=>?_);simp only[Tryz.ntmps47,Tryz.results47,zh,zm,Nat.reduceAdd,Nat.reduceSub,zu,zw,zi,zj];refine zad fun Y0 y0=>?_;refine zac ?_;simp only[↓bO,go_sem,seval];refine y0 _ ?_;(try clear y0 Y0);refine zad fun Y0 y0=>?_;refine zac ?_;refine zab 1 fun Q0 q0=>?_;simp only[↓bO,go_sem,seval];refine q0 _ ?_;clear q0 Q0;simp only[go_sem];refine zab 1 fun Q0 q0=>?_;simp only[↓bO,go_sem,seval];refine APure.call (zim T) ?_;(try simp only[bS,bA,zah,zaf,zae]);refine q0 _ ?_;clear q0 Q0;simp only[go_sem];refine zab 1 fun Q0 q0=>?_;simp only[↓bO,go_sem,seval];refine q0 _ ?_;clear q0 Q0;simp only[go_sem];refine zaI 5 rfl (fun hc5=>?_) (fun hc5=>?_)
  ·
   simp only[zc,zb];refine zab 2 fun Q0 q0=>?_;simp only[↓bO,go_sem,seval];refine q0 _ ?_;clear q0 Q0;simp only[go_sem];refine zab 1 fun Q0 q0=>?_;simp only[↓bO,go_sem,seval];refine APure.call (zdr T.ps 64 (fun p=>!p.right) (fun p hp=>zhg (ih p hp))) ?_;(try simp only[bS,bA,zah,zaf,zae]);refine q0 _ ?_;clear q0 Q0;simp only[go_sem];simp only[↓bO,go_sem,seval];refine y0 _ ?_;(try clear y0 Y0);refine zaq ?_;(try simp only[zah,zaf,zae,za1,zaZ,zaE,bS,bA]);refine Le.of_eq (congrArg (fun b=>AV.v (.bool b)) ?_);rw[Ty.right_eq];first | (simp only[hc5];rfl) | (simp only[hc5,Bool.true_and];simp[List.not_any_eq_all_not])
  ·
   simp only[zc,zb];refine zab 4 fun Q0 q0=>?_;simp only[↓bO,go_sem,seval];refine q0 _ ?_;clear q0 Q0;simp only[go_sem];simp only[↓bO,go_sem,seval];refine y0 _ ?_;(try clear y0 Y0);refine zaq ?_;(try simp only[zah,zaf,zae,za1,zaZ,zaE,bS,bA]);refine Le.of_eq (congrArg (fun b=>AV.v (.bool b)) ?_);rw[Ty.right_eq];first | (simp only[hc5];rfl) | (simp only[hc5,Bool.true_and];simp[List.not_any_eq_all_not])
end Go.Proofs.YtjjjckjebkmnjaaGreat
namespace Go.Proofs.YtjjjckjebkmnjaaGreat
open Go Go.RowKit
attribute [local irreducible] aops zaV
mutual
/-- a type whose variables have other numbers -/
def Ty.mapV (f:Int→Int):Ty→Ty
  | .mk k n ps=>.mk k (if k=1 then f n else n) (Ty.mapVL f ps)
def Ty.mapVL (f:Int→Int):List Ty→List Ty
  | []=>[]
  | p::ps=>Ty.mapV f p::Ty.mapVL f ps
end
theorem Ty.mapVL_eq (f:Int→Int):∀ps,Ty.mapVL f ps=ps.map (Ty.mapV f)
  | []=>by simp[Ty.mapVL]
  | p::ps=>by simp[Ty.mapVL,Ty.mapVL_eq f ps]
theorem Ty.mapV_eq (f:Int→Int) (t:Ty):t.mapV f=.mk t.k (if t.k=1 then f t.n else t.n) (t.ps.map (Ty.mapV f)):=by
  cases t;rw[Ty.mapV,Ty.mapVL_eq];rfl
theorem Ty.eta (t:Ty):Ty.mk t.k t.n t.ps=t:=by cases t;rfl
theorem Ty.mapV_id:∀t:Ty,t.mapV (fun n=>n)=t:=by
  refine Ty.ind fun t ih=>?_;rw[Ty.mapV_eq];have e:t.ps.map (Ty.mapV fun n=>n)=t.ps:=(List.map_congr_left ih).trans (List.map_id t.ps);rw[e];simp[Ty.eta]
mutual
def Ty.cnt:Ty→Nat
  | .mk _ _ ps=>1+Ty.cntL ps
def Ty.cntL:List Ty→Nat
  | []=>0
  | p::ps=>Ty.cnt p+Ty.cntL ps
end
theorem Ty.cnt_eq (t:Ty):t.cnt=1+Ty.cntL t.ps:=by cases t;simp[Ty.cnt,Ty.ps]
theorem Ty.cntL_append:∀(ps qs:List Ty),Ty.cntL (ps++qs)=Ty.cntL ps+Ty.cntL qs
  | [],qs=>by simp[Ty.cntL]
  | p::ps,qs=>by simp[Ty.cntL,Ty.cntL_append ps qs];omega
theorem Ty.cntL_step {ps:List Ty} {s:Nat} {p:Ty} (hp:ps[s]?=some p):Ty.cntL (ps.take s)+p.cnt≤Ty.cntL ps:=by
  (have h1:Ty.cntL (ps.take (s+1))=Ty.cntL (ps.take s)+p.cnt:=by rw[List.take_add_one,hp,Ty.cntL_append];simp[Ty.cntL]);(have h2:Ty.cntL ps=Ty.cntL (ps.take (s+1))+Ty.cntL (ps.drop (s+1)):=by rw[← Ty.cntL_append,List.take_append_drop]);omega
theorem Ty.cntL_len:∀ps,ps.length≤Ty.cntL ps
  | []=>by simp
  | p::ps=>by
    have:=Ty.cntL_len ps;(have h2:1≤p.cnt:=by rw[Ty.cnt_eq];omega);simp[Ty.cntL];omega
theorem zaD {α β:Type} (f:α→β) {ps:List α} {s:Nat} {p:α} (hp:ps[s]?=some p):(ps.take (s+1)).map f=(ps.take s).map f++[f p]:=by
  rw[List.take_add_one,hp];simp
theorem Ty.cnt_mem {p:Ty}:∀{ps:List Ty},p∈ps→p.cnt≤Ty.cntL ps
  | q::ps,h=>by
    simp only[Ty.cntL];(rcases zZ.1 h with rfl | h);(· omega);· have:=Ty.cnt_mem h;omega
theorem TVar_pure (n:Int):APure Tryz.prog 29 [.v (.int .i64 n)] (.agg (Ty.mk 1 n []).cells):=by
  refine APure.mkL (.cons (.v _) .nil) ((Ty.dataAgg _)) ?_;refine zaj Tryz.func29 (by kernel_rfl) rfl (by rw[Tryz.ntmps29];simp) (fun hm=>?_);simp only[Tryz.ntmps29,Tryz.results29,zh,zm,Nat.reduceAdd,Nat.reduceSub,zu,zw,zi,zj];(iterate 2 (refine zad fun Y0 y0=>?_;refine zac ?_;simp only[↓bO,go_sem,seval];refine y0 _ ?_;(try clear y0 Y0)));refine zaq ?_;(try simp only[zah,zaf,zae,za1,zaZ,zaE,bS,bA,zcs,zaQ,zdh,bL,Nat.reduceAdd,Nat.reduceLeDiff,Nat.reduceEqDiff,↓reduceIte,ti47,tyX]);refine Le.agg ?_;rw[Ty.cells_eq];exact ⟨.refl _,.refl _,Le.slNil 3,trivial⟩
theorem zhc {p:Prop} (h:p:=by exact Weak.mk (by simp only[go_sem,Le.refl,Le.any]) (fun _ _ h=>h) rfl rfl):p:=h
theorem zgZ:∀(T:Ty) (g:Nat) (caps:List AV) (φ:Int→Int) (hd:DataL caps) (hφ:∀n:Int,APure Tryz.prog g (.v (.int .i64 n)::caps) (.v (.int .i64 (φ n)))) (hT:T.cnt≤1099511627776),APure Tryz.prog 71 [.agg T.cells,.clo g caps] (.agg (T.mapV φ).cells):=by
  refine Ty.ind fun T ih=>?_;intro g caps φ hd hφ hT;refine APure.mkL (.cons T.dataAgg (.cons (.clo hd) .nil)) ((Ty.dataAgg _)) ?_;refine zaj Tryz.func71 (by kernel_rfl) rfl (by rw[Tryz.ntmps71];simp) (fun hm=>?_);simp only[Tryz.ntmps71,Tryz.results71,zh,zm,Nat.reduceAdd,Nat.reduceSub,zu,zw,zi,zj];have hm1:=hm.wide (t:=T) (by simp);have hcn:=T.cnt_eq;have hcl:=Ty.cntL_len T.ps;simp only[Ty.cells_eq T,zi,zj];refine zad fun Y0 y0=>?_;refine zac ?_;simp only[↓bO,go_sem,seval];refine y0 _ ?_;(try clear y0 Y0);refine zbA (mB 33 22) ([]) ([(0,.cells 47 [.v (.int .i64 T.k),.v (.int .i64 (if T.k=1 then φ T.n else T.n)),.sl 3 (T.ps.map Ty.cells)])]) ?_ ?_
  ·
   refine zad fun Y0 y0=>?_;refine zac ?_;simp only[↓bO,go_sem,seval];refine y0 _ ?_;(try clear y0 Y0);refine zak rfl (fun hb10=>?_) (fun hb10=>?_)
   ·
    refine zac ?_;refine zab 3 fun Q0 q0=>?_;simp only[↓bO,go_sem,seval];refine q0 _ ?_;clear q0 Q0;simp only[go_sem];refine zab 1 fun Q0 q0=>?_;simp only[↓bO,go_sem,seval];refine APure.call ((hφ T.n)) ?_;(try simp only[bS,bA,zah,zaf,zae]);refine q0 _ ?_;clear q0 Q0;simp only[go_sem];simp only[↓bO,go_sem,seval];(try simp only[zau,zav,zan,zaA,mB,zc,zb,seval]);(first | rw[if_pos (by simpa using hb10)] | rw[if_neg (by simpa using hb10)]);exact zhc
   ·
    refine zap ?_;(try simp only[zah,zaf,zae]);(try simp only[zau,zav,zan,zaA,mB,zc,zb,seval]);(first | rw[if_pos (by simpa using hb10)] | rw[if_neg (by simpa using hb10)]);exact zhc
  simp only[zau,zav,zan,zaA,mB,zc,zb,seval];refine zad fun Y0 y0=>?_;refine zac ?_;simp only[↓bO,go_sem,seval];refine y0 _ ?_;(try clear y0 Y0);refine zad fun Y0 y0=>?_;refine zad fun Y1 y1=>?_;refine zac ?_;simp only[↓bO,go_sem,seval];refine y1 _ ?_;(try clear y1 Y1);refine zao ?_;refine zbd (Weak.tokSlot 5 47 3 rfl) ?_;simp only[zc,zb];refine zaG (σ:=Nat) (mB 33 917558) (fun s=>s≤T.ps.length) (fun s=>[(5,.osl 2 3 (((T.ps.take s).map (Ty.mapV φ)).map Ty.cells)),(19,.v (.int .i64 (s:Int)))]) (fun s=>[(2,.tok 47 3 s)]) (fun s=>T.ps.length-s) 0 (by omega) ?_ (fun s hs=>?_)
  ·
   simp only[zau,zav,zan,zaA,mB,zc,zb,seval,bL];exact zbl
  simp only[zau,zav,zan,zaA,mB,zc,zb,seval];refine zad fun Y1 y1=>?_;refine zac ?_;simp only[↓bO,go_sem,seval];refine y1 _ ?_;(try clear y1 Y1);refine zad fun Y1 y1=>?_;refine zak rfl (fun hb20=>?_) (fun hb20=>?_)
  ·
   (have hk:s<T.ps.length:=by simpa using hb20);obtain ⟨p,hp⟩:∃p,T.ps[s]?=some p:=⟨_,ze hk⟩;have hpm:=Ty.cnt_mem (zn hp);have hw:IntKind.i64.wrap ((s:Int)+1)=(s:Int)+1:=zaO (by omega) (by omega);(have hln:(((T.ps.take s).map (Ty.mapV φ)).map Ty.cells).length=s:=by simp;omega);(have hb1:(s+1) * 40≤140737488355328:=by omega);(have hb2:s+1≤maxLen:=by simp only[maxLen];omega);refine zap ?_;(try simp only[zah,zaf,zae]);refine y1 _ ?_;(try clear y1 Y1);refine zad fun Y1 y1=>?_;refine zao ?_;refine zad fun Y2 y2=>?_;refine zac ?_;simp only[↓bO,go_sem,seval,hk,gM hp,za,hw,hln,hb1,hb2,zp,zaD (Ty.mapV φ) hp];refine y2 _ ?_;(try clear y2 Y2);refine zac ?_;refine zab 3 fun Q0 q0=>?_;simp only[↓bO,go_sem,seval,hk,gM hp,za,hw,hln,hb1,hb2,zp,zaD (Ty.mapV φ) hp];refine q0 _ ?_;clear q0 Q0;simp only[go_sem];refine zab 1 fun Q0 q0=>?_;simp only[↓bO,go_sem,seval,hk,gM hp,za,hw,hln,hb1,hb2,zp,zaD (Ty.mapV φ) hp];refine APure.call (ih p (zn hp) g caps φ hd hφ (by omega)) ?_;(try simp only[bS,bA,zah,zaf,zae]);refine q0 _ ?_;clear q0 Q0;simp only[go_sem];simp only[↓bO,go_sem,seval,↓zbE,↓zby,↓zbI,↓zbC,↓zbG,↓zbF,↓zbD,↓zbz,↓zbB,↓zba,↓za9,↓zbb,hk,gM hp,za,hw,hln,hb1,hb2,zp,zaD (Ty.mapV φ) hp];refine y1 _ ?_;(try clear y1 Y1);refine zac ?_;simp only[↓bO,go_sem,seval,hk,gM hp,za,hw,hln,hb1,hb2,zp,zaD (Ty.mapV φ) hp];refine ⟨(s+1),(by omega),by omega,?_⟩;simp only[zau,zav,zan,zaA,mB,zc,zb,seval,hk,gM hp,za,zA,hw,hln,hb1,hb2,zp,bL,zaD (Ty.mapV φ) hp];(first | (refine Weak.drops 1 3 rfl rfl (by simp only;omega) (by simp only;omega) ?_ ?_ ?_) | (refine Weak.drops 0 3 rfl rfl (by simp only;omega) (by simp only;omega) ?_ ?_ ?_));(· simp only[go_sem,Le.refl,Le.any,za,zG,zA]);(· simp only[UndL,UndOs,Ob.Und,and_true,true_and,and_self,Und.v,Und.any,Und.ptr,Und.map,Nat.reduceLT,Nat.zero_lt_succ,Und.tys,Und.tyAgg,Und.oslTys,Und.oslTys1,Und.clo0,Und.ty,Und.data (n:=3) (Data.clo (f:=g) hd)]);· simp only[UndL,UndOs,Ob.Und,and_true,true_and,and_self,Und.v,Und.any,Und.ptr,Und.map,Nat.reduceLT,Nat.zero_lt_succ,Und.tys,Und.tyAgg,Und.oslTys,Und.oslTys1,Und.clo0,Und.ty,Und.data (n:=3) (Data.clo (f:=g) hd)]
  ·
   (have hk:s=T.ps.length:=by simp at hb20;omega);refine zaK ?_;simp only[zah,zaf,zae,bA,Nat.reduceEqDiff,↓reduceIte];(iterate 2 (refine y0 _ ?_;(try clear y0 Y0);refine zad fun Y0 y0=>?_;refine zac ?_;simp only[↓bO,go_sem,seval]));refine y0 _ ?_;(try clear y0 Y0);refine zaq ?_;(try simp only[zah,zaf,zae,za1,zaZ,zaE,bS,bA,zcs,zaQ,zdh,bL,Nat.reduceAdd,Nat.reduceLeDiff,Nat.reduceEqDiff,↓reduceIte,ti47,tyX]);refine Le.agg ?_;rw[Ty.mapV_eq,Ty.cells_eq,hk,zW];exact ⟨.refl _,.refl _,Le.oslL,trivial⟩
theorem zii (n:Int):APure Tryz.prog 72 [.v (.int .i64 n)] (.v (.int .i64 n)):=by
  refine APure.mkL (.cons (.v _) .nil) (.v _) ?_;refine zaj Tryz.func72 (by kernel_rfl) rfl (by rw[Tryz.ntmps72];simp) (fun hm=>?_);simp only[Tryz.ntmps72,Tryz.results72,zh,zm,Nat.reduceAdd,Nat.reduceSub,zu,zw,zi,zj];(iterate 2 (refine zad fun Y0 y0=>?_;refine zac ?_;simp only[↓bO,go_sem,seval];refine y0 _ ?_;(try clear y0 Y0)));refine zaq ?_;(try simp only[zah,zaf,zae,za1,zaZ,zaE,bS,bA]);exact Le.refl _
theorem zgi (T:Ty) (hT:T.cnt≤1099511627776):APure Tryz.prog 52 [.agg T.cells] (.agg T.cells):=by
  refine APure.mkL (.cons T.dataAgg .nil) (T.dataAgg) ?_;refine zaj Tryz.func52 (by kernel_rfl) rfl (by rw[Tryz.ntmps52];simp) (fun hm=>?_);simp only[Tryz.ntmps52,Tryz.results52,zh,zm,Nat.reduceAdd,Nat.reduceSub,zu,zw,zi,zj];simp only[Ty.cells_eq T,zi,zj];refine zad fun Y0 y0=>?_;refine zac ?_;simp only[↓bO,go_sem,seval];refine y0 _ ?_;(try clear y0 Y0);refine zad fun Y0 y0=>?_;refine zac ?_;refine zab 1 fun Q0 q0=>?_;simp only[↓bO,go_sem,seval];refine q0 _ ?_;clear q0 Q0;simp only[go_sem];refine zab 1 fun Q0 q0=>?_;simp only[↓bO,go_sem,seval];refine APure.call (by have h9:=zgZ T 72 [] (fun n=>n) (fun _ h=>by cases h) (fun n=>zii n) hT;rw[Ty.mapV_id,Ty.cells_eq T] at h9;exact h9) ?_;(try simp only[bS,bA,zah,zaf,zae]);refine q0 _ ?_;clear q0 Q0;simp only[go_sem];simp only[↓bO,go_sem,seval];refine y0 _ ?_;(try clear y0 Y0);refine zaq ?_;(try simp only[zah,zaf,zae,za1,zaZ,zaE,bS,bA,zcs,zaQ,zdh,bL,Nat.reduceAdd,Nat.reduceLeDiff,Nat.reduceEqDiff,↓reduceIte,ti47]);exact Le.refl _
def zdp:List Ty→Ty
  | []=>.mk 0 0 []
  | [t]=>t
  | t::ts=>.mk 4 0 [t,zdp ts]
theorem zh2 {ps:List Ty} (h:ps.length=0):zdp ps=.mk 0 0 []:=by rw[List.length_eq_zero_iff.1 h];rfl
theorem zfl {ps:List Ty} {p:Ty} (h:ps.length=1) (hp:ps[0]?=some p):zdp ps=p:=by
  match ps,h,hp with
  | [t],_,hp=>simp at hp;rw[← hp];rfl
theorem zeI {ps:List Ty} {p:Ty} (h:2≤ps.length) (hp:ps[0]?=some p):zdp ps=.mk 4 0 [p,zdp (ps.drop 1)]:=by
  match ps,h,hp with
  | t::u::ts,_,hp=>simp at hp;rw[← hp];rfl
theorem ziy:∀(n:Nat) (ps:List Ty),ps.length=n→Ty.cntL ps≤1099511627776→APure Tryz.prog 30 [.sl 3 (ps.map Ty.cells)] (.agg (zdp ps).cells):=by
  intro n
  induction n with
  | zero =>
    intro ps hn hc;refine APure.mkL (.cons (Ty.dataSl ps) .nil) (Ty.dataAgg _) ?_;(have h0:((ps.length:Int)==0)=true:=by simp;exact List.length_eq_zero_iff.1 hn);refine zaj Tryz.func30 (by kernel_rfl) rfl (by rw[Tryz.ntmps30];simp) (fun hm=>?_);simp only[Tryz.ntmps30,Tryz.results30,zh,zm,Nat.reduceAdd,Nat.reduceSub,zu,zw,zi,zj];refine zad fun Y0 y0=>?_;refine zac ?_;simp only[↓bO,go_sem,seval,h0];refine y0 _ ?_;(try clear y0 Y0);refine zad fun Y0 y0=>?_;refine zad fun Y1 y1=>?_;refine zac ?_;simp only[↓bO,go_sem,seval,h0];refine y1 _ ?_;(try clear y1 Y1);refine zao ?_;refine zad fun Y1 y1=>?_;refine zac ?_;simp only[↓bO,go_sem,seval,h0];refine y1 _ ?_;(try clear y1 Y1);refine zak rfl (fun hb5=>?_) (fun hb5=>?_)
    ·
     refine zad fun Y1 y1=>?_;refine zac ?_;simp only[↓bO,go_sem,seval,h0];refine y1 _ ?_;(try clear y1 Y1);refine zaq ?_;(try simp only[zah,zaf,zae,za1,zaZ,zaE,bS,bA,zcs,zaQ,zdh,bL,Nat.reduceAdd,Nat.reduceLeDiff,Nat.reduceEqDiff,↓reduceIte,ti47,h0]);refine Le.agg ?_;rw[zh2 hn,Ty.cells_eq];exact ⟨.refl _,.refl _,Le.slNil 3,trivial⟩
    ·
     cases hb5
  | succ n ih =>
    intro ps hn hc;refine APure.mkL (.cons (Ty.dataSl ps) .nil) (Ty.dataAgg _) ?_;obtain ⟨p,hp⟩:∃p,ps[0]?=some p:=⟨_,ze (by omega)⟩;have hpc:=Ty.cnt_mem (zn hp);(have hlt:(0:Int)<(ps.length:Int):=by omega);(have hle:(1:Int)≤(ps.length:Int):=by omega);(have hdr:(ps.map Ty.cells).drop 1=(ps.drop 1).map Ty.cells:=by rw[List.map_drop]);(have hdc:Ty.cntL (ps.drop 1)≤Ty.cntL ps:=by have h9:=Ty.cntL_append (ps.take 1) (ps.drop 1);rw[List.take_append_drop] at h9;omega);refine zaj Tryz.func30 (by kernel_rfl) rfl (by rw[Tryz.ntmps30];simp) (fun hm=>?_);simp only[Tryz.ntmps30,Tryz.results30,zh,zm,Nat.reduceAdd,Nat.reduceSub,zu,zw,zi,zj];refine zad fun Y0 y0=>?_;refine zac ?_;simp only[↓bO,go_sem,seval,hlt,hle,hdr,gM hp];refine y0 _ ?_;(try clear y0 Y0);refine zad fun Y0 y0=>?_;refine zad fun Y1 y1=>?_;refine zac ?_;simp only[↓bO,go_sem,seval,hlt,hle,hdr,gM hp];refine y1 _ ?_;(try clear y1 Y1);refine zao ?_;refine zad fun Y1 y1=>?_;refine zac ?_;simp only[↓bO,go_sem,seval,hlt,hle,hdr,gM hp];refine y1 _ ?_;(try clear y1 Y1);refine zak rfl (fun hb5=>?_) (fun hb5=>?_)
    ·
     exact absurd hb5 (by simp only[AV.v.injEq,Value.bool.injEq,beq_iff_eq];omega)
    ·
     refine zad fun Y1 y1=>?_;refine zac ?_;simp only[↓bO,go_sem,seval,hlt,hle,hdr,gM hp];refine y1 _ ?_;(try clear y1 Y1);refine zak rfl (fun hb8=>?_) (fun hb8=>?_)
     ·
      (have h1:ps.length=1:=by simp at hb8;omega);refine zad fun Y1 y1=>?_;refine zac ?_;refine zab 3 fun Q0 q0=>?_;simp only[↓bO,go_sem,seval,hlt,hle,hdr,gM hp];refine q0 _ ?_;clear q0 Q0;simp only[go_sem];refine zab 1 fun Q0 q0=>?_;simp only[↓bO,go_sem,seval,hlt,hle,hdr,gM hp];refine APure.call (zgi p (by omega)) ?_;(try simp only[bS,bA,zah,zaf,zae]);refine q0 _ ?_;clear q0 Q0;simp only[go_sem];simp only[↓bO,go_sem,seval,hlt,hle,hdr,gM hp];refine y1 _ ?_;(try clear y1 Y1);refine zaq ?_;(try simp only[zah,zaf,zae,za1,zaZ,zaE,bS,bA,zcs,zaQ,zdh,bL,Nat.reduceAdd,Nat.reduceLeDiff,Nat.reduceEqDiff,↓reduceIte,ti47,tyX,hlt,hle,hdr,gM hp]);refine Le.agg ?_;first | (rw[zfl h1 hp];exact LeL.refl _) | (rw[zeI h1 hp,Ty.cells];exact ⟨.refl _,.refl _,Le.of_eq (by simp[Ty.cellsL]),trivial⟩)
     ·
      (have h1:2≤ps.length:=by simp at hb8;omega);refine zap ?_;(try simp only[zah,zaf,zae]);refine y0 _ ?_;(try clear y0 Y0);refine zad fun Y0 y0=>?_;refine zaU 9 mixed (by kernel_rfl) fun J0 j0=>?_;simp only[go_sem];refine zaw 3 fun Q0 q0=>?_;simp only[↓zaV,↓dOp,↓bO,go_sem,seval,hlt,hle,hdr,gM hp];refine q0 _ ?_;clear q0 Q0;simp only[go_sem];refine zaw 1 fun Q0 q0=>?_;simp only[↓zaV,↓dOp,↓bO,go_sem,seval,hlt,hle,hdr,gM hp];refine ⟨_,zgi p (by omega),?_⟩;(try simp only[bS,bA,zah,zaf,zae]);refine q0 _ ?_;clear q0 Q0;simp only[go_sem];refine zaw 2 fun Q0 q0=>?_;simp only[↓zaV,↓dOp,↓bO,go_sem,seval,hlt,hle,hdr,gM hp];refine q0 _ ?_;clear q0 Q0;simp only[go_sem];refine zaw 1 fun Q0 q0=>?_;simp only[↓zaV,↓dOp,↓bO,go_sem,seval,hlt,hle,hdr,gM hp];refine ⟨_,ih (ps.drop 1) (by simp;omega) (by omega),?_⟩;(try simp only[bS,bA,zah,zaf,zae]);refine q0 _ ?_;clear q0 Q0;simp only[go_sem];simp only[↓zaV,↓dOp,↓bO,go_sem,seval,↓bs2_1,↓bs2_2,↓bs2_3,↓bs2_4,↓bs2_5,↓bs2_6,↓bs2_7,↓bs2_8,↓bs2_9,↓bs2_10,↓bs2_11,↓bs2_12,hlt,hle,hdr,gM hp];refine j0 _ ?_;clear j0 J0;simp only[go_sem];simp only[↓bO,go_sem,seval,hlt,hle,hdr,gM hp];refine y0 _ ?_;(try clear y0 Y0);refine zaq ?_;(try simp only[zah,zaf,zae,za1,zaZ,zaE,bS,bA,zcs,zaQ,zdh,bL,Nat.reduceAdd,Nat.reduceLeDiff,Nat.reduceEqDiff,↓reduceIte,ti47,tyX,hlt,hle,hdr,gM hp]);refine Le.agg ?_;first | (rw[zfl h1 hp];exact LeL.refl _) | (rw[zeI h1 hp,Ty.cells];exact ⟨.refl _,.refl _,Le.of_eq (by simp[Ty.cellsL]),trivial⟩)
end Go.Proofs.YtjjjckjebkmnjaaGreat
namespace Go.Proofs.YtjjjckjebkmnjaaGreat
open Go Go.RowKit
attribute [local irreducible] aops zaV
mutual
def Ty.room:Ty→Int→Nat→Int
  | .mk _ _ _,_,0=>-1
  | .mk _ _ ps,n,d+1=>Ty.roomL ps (n-1) d
def Ty.roomL:List Ty→Int→Nat→Int
  | [],n,_=>n
  | p::ps,n,d=>if n<0 then n else Ty.roomL ps (Ty.room p n d) d
end
theorem Ty.room_zero (t:Ty) (n:Int):t.room n 0=-1:=by cases t;simp[Ty.room]
theorem Ty.room_succ (t:Ty) (n:Int) (d:Nat):t.room n (d+1)=Ty.roomL t.ps (n-1) d:=by cases t;simp[Ty.room,Ty.ps]
theorem Ty.roomL_neg:∀(ps:List Ty) {n:Int} {d:Nat},n<0→Ty.roomL ps n d=n
  | [],n,d,h=>by simp[Ty.roomL]
  | p::ps,n,d,h=>by simp[Ty.roomL,h]
theorem Ty.roomL_append:∀(xs bs:List Ty) (n:Int) (d:Nat),Ty.roomL (xs++bs) n d=Ty.roomL bs (Ty.roomL xs n d) d
  | [],bs,n,d=>by simp[Ty.roomL]
  | x::xs,bs,n,d=>by
    simp only[zi,Ty.roomL];split;(· rename_i h;rw[Ty.roomL_neg bs h]);· exact Ty.roomL_append xs bs _ d
theorem Ty.room_le:∀(t:Ty) (n:Int) (d:Nat),0≤n→-1≤t.room n d∧t.room n d≤n-1:=by
  refine Ty.ind fun t ih=>?_
  have key:∀(ps:List Ty),(∀p∈ps,∀(n:Int) (d:Nat),0≤n→-1≤p.room n d∧p.room n d≤n-1)→∀(n:Int) (d:Nat),-1≤n→-1≤Ty.roomL ps n d∧Ty.roomL ps n d≤n:=by
    intro ps
    induction ps with
    | nil=>intro _ n d h;simp[Ty.roomL];exact h
    | cons p ps ihp =>
      intro hp n d h;simp only[Ty.roomL];split;· omega
      · have h1:=hp p (by simp) n d (by omega)
        have h2:=ihp (fun q hq=>hp q (by simp[hq])) (p.room n d) d h1.1;omega
  intro n d h
  cases d with
  | zero=>rw[Ty.room_zero];omega
  | succ d =>
    rw[Ty.room_succ];have:=key t.ps ih (n-1) d (by omega);omega
theorem Ty.roomL_le (ps:List Ty) (n:Int) (d:Nat) (h:-1≤n):-1≤Ty.roomL ps n d∧Ty.roomL ps n d≤n:=by
  have:=Ty.room_le (.mk 0 0 ps) (n+1) (d+1) (by omega);rw[Ty.room_succ] at this;simp only[Ty.ps] at this;rw[show n+1-1=n by omega] at this;exact this
theorem Ty.roomL_step {ps:List Ty} {s:Nat} {p:Ty} (hp:ps[s]?=some p) (n:Int) (d:Nat) (h:0≤Ty.roomL (ps.take s) n d):Ty.roomL (ps.take (s+1)) n d=p.room (Ty.roomL (ps.take s) n d) d:=by
  rw[List.take_add_one,hp,Ty.roomL_append];simp only[Option.toList_some,Ty.roomL];rw[if_neg (by omega)]
theorem Ty.roomL_stop (ps:List Ty) (s:Nat) (n:Int) (d:Nat) (h:Ty.roomL (ps.take s) n d<0):Ty.roomL ps n d=Ty.roomL (ps.take s) n d:=by
  conv=>lhs;rw[← List.take_append_drop s ps]
  rw[Ty.roomL_append,Ty.roomL_neg _ h]
def addW (a b:Int):Int:=IntKind.i64.wrap (a+b)
mutual
def Ty.sizeW:Ty→Int
  | .mk _ _ ps=>Ty.sizeWL 1 ps
def Ty.sizeWL:Int→List Ty→Int
  | a,[]=>a
  | a,p::ps=>Ty.sizeWL (addW a (Ty.sizeW p)) ps
end
theorem Ty.sizeW_eq (t:Ty):t.sizeW=Ty.sizeWL 1 t.ps:=by cases t;simp[Ty.sizeW,Ty.ps]
theorem Ty.sizeWL_append:∀(a:Int) (ps qs:List Ty),Ty.sizeWL a (ps++qs)=Ty.sizeWL (Ty.sizeWL a ps) qs
  | a,[],qs=>by simp[Ty.sizeWL]
  | a,p::ps,qs=>by simp[Ty.sizeWL,Ty.sizeWL_append _ ps qs]
theorem Ty.sizeWL_step {ps:List Ty} {s:Nat} {p:Ty} (hp:ps[s]?=some p) (a:Int):Ty.sizeWL a (ps.take (s+1))=addW (Ty.sizeWL a (ps.take s)) p.sizeW:=by
  rw[List.take_add_one,hp,Ty.sizeWL_append];simp[Ty.sizeWL]
theorem zdz:∀(T:Ty),APure Tryz.prog 19 [.agg T.cells] (.v (.int .i64 T.sizeW)):=by
  refine Ty.ind fun T ih=>?_;refine APure.mkL (.cons T.dataAgg .nil) (.v _) ?_;refine zaj Tryz.func19 (by kernel_rfl) rfl (by rw[Tryz.ntmps19];simp) (fun hm=>?_);simp only[Tryz.ntmps19,Tryz.results19,zh,zm,Nat.reduceAdd,Nat.reduceSub,zu,zw,zi,zj];have hm1:=hm.wide (t:=T) (by simp);(iterate 2 (refine zad fun Y0 y0=>?_;refine zac ?_;simp only[↓bO,go_sem,seval];refine y0 _ ?_;(try clear y0 Y0)));refine zad fun Y0 y0=>?_;refine zad fun Y1 y1=>?_;refine zac ?_;simp only[↓bO,go_sem,seval];refine y1 _ ?_;(try clear y1 Y1);refine zao ?_;refine zaG (σ:=Nat) (mB 21 26) (fun s=>s≤T.ps.length) (fun s=>[(3,.v (.int .i64 (Ty.sizeWL 1 (T.ps.take s)))),(4,.v (.int .i64 (s:Int)))]) (fun s=>[]) (fun s=>T.ps.length-s) 0 (by omega) ?_ (fun s hs=>?_)
  ·
   simp only[zau,zav,zan,zaA,mB,zc,zb,seval,bL,Ty.sizeWL];exact zbl
  simp only[zau,zav,zan,zaA,mB,zc,zb,seval];refine zad fun Y1 y1=>?_;refine zad fun Y2 y2=>?_;refine zac ?_;refine zab 4 fun Q0 q0=>?_;simp only[↓bO,go_sem,seval];refine q0 _ ?_;clear q0 Q0;simp only[go_sem];simp only[↓bO,go_sem,seval];refine y2 _ ?_;(try clear y2 Y2);refine zak rfl (fun hb9=>?_) (fun hb9=>?_)
  ·
   (have hk:s<T.ps.length:=by simpa using hb9);obtain ⟨p,hp⟩:∃p,T.ps[s]?=some p:=⟨_,ze hk⟩;have hw:IntKind.i64.wrap ((s:Int)+1)=(s:Int)+1:=zaO (by omega) (by have:=hm1.len;simp only[maxLen] at this;omega);refine zap ?_;(try simp only[zah,zaf,zae]);refine y1 _ ?_;(try clear y1 Y1);refine zad fun Y1 y1=>?_;refine zao ?_;refine zac ?_;refine zab 4 fun Q0 q0=>?_;simp only[↓bO,go_sem,seval,hk,gM hp,za,hw,Ty.sizeWL_step hp,addW];refine q0 _ ?_;clear q0 Q0;simp only[go_sem];refine zab 2 fun Q0 q0=>?_;simp only[↓bO,go_sem,seval,hk,gM hp,za,hw,Ty.sizeWL_step hp,addW];refine q0 _ ?_;clear q0 Q0;simp only[go_sem];refine zab 1 fun Q0 q0=>?_;simp only[↓bO,go_sem,seval,hk,gM hp,za,hw,Ty.sizeWL_step hp,addW];refine APure.call (ih p (zn hp)) ?_;(try simp only[bS,bA,zah,zaf,zae]);refine q0 _ ?_;clear q0 Q0;simp only[go_sem];simp only[↓bO,go_sem,seval,hk,gM hp,za,hw,Ty.sizeWL_step hp,addW];refine y1 _ ?_;(try clear y1 Y1);refine zac ?_;simp only[↓bO,go_sem,seval,hk,gM hp,za,hw,Ty.sizeWL_step hp,addW];refine ⟨(s+1),(by omega),by omega,?_⟩;simp only[zau,zav,zan,zaA,mB,zc,zb,seval,hk,gM hp,za,zA,hw,Ty.sizeWL_step hp,addW];exact zbl
  ·
   (have hk:s=T.ps.length:=by simp at hb9;omega);refine zaK ?_;simp only[zah,zaf,zae,bA,Nat.reduceEqDiff,↓reduceIte];refine y0 _ ?_;(try clear y0 Y0);refine zad fun Y0 y0=>?_;refine zac ?_;simp only[↓bO,go_sem,seval];refine y0 _ ?_;(try clear y0 Y0);refine zaq ?_;(try simp only[zah,zaf,zae,za1,zaZ,zaE,bS,bA]);refine Le.of_eq (congrArg (fun n=>AV.v (.int .i64 n)) ?_);rw[Ty.sizeW_eq,hk,zW]
end Go.Proofs.YtjjjckjebkmnjaaGreat
namespace Go.Proofs.YtjjjckjebkmnjaaGreat
open Go Go.RowKit
attribute [local irreducible] aops zaV
abbrev intC (x:Int):List AV:=[.v (.int .i64 x)]
theorem zaJ (l:List Int):Data (.sl 1 (l.map intC)):=.sl fun x hx=>by
  obtain ⟨y,_,rfl⟩:=zP.1 hx;exact .cons (.v _) .nil
theorem ints_one (l:List Int):((l.map intC).all fun y=>y.all AV.one)=true:=by
  rw[z8];intro y hy;obtain ⟨r,_,rfl⟩:=zP.1 hy;rfl
structure RNode where
  t:Ty
  parts:List Int
def RNode.cells (r:RNode):List AV:=[.v (.int .i64 r.t.k),.v (.int .i64 r.t.n),.sl 3 (r.t.ps.map Ty.cells),.sl 1 (r.parts.map intC)]
theorem Ty.refold (t:Ty):AV.agg [.v (.int .i64 t.k),.v (.int .i64 t.n),.sl 3 (t.ps.map Ty.cells)]=.agg t.cells:=by rw[t.cells_eq]
theorem RNode.data (r:RNode):DataL r.cells:=.cons (.v _) (.cons (.v _) (.cons (Ty.dataSl _) (.cons (zaJ _) .nil)))
theorem RNode.dataSl (g:List RNode):Data (.sl 4 (g.map RNode.cells)):=.sl fun x hx=>by
  obtain ⟨y,_,rfl⟩:=zP.1 hx;exact y.data
def RNode.isVar (n:Int) (r:RNode):Bool:=r.t.k==1&&r.t.n==n
mutual
def Ty.radd:Ty→List RNode→List RNode×Int
  | .mk k n ps,g =>
    if k=1∧0≤zb3 (RNode.isVar n) g then (g,zb3 (RNode.isVar n) g)
    else
      let r:=Ty.raddL ps g []
      (r.1++[⟨.mk k n ps,r.2⟩],(r.1.length:Int))
def Ty.raddL:List Ty→List RNode→List Int→List RNode×List Int
  | [],g,l=>(g,l)
  | p::ps,g,l =>
    let r:=Ty.radd p g
    Ty.raddL ps r.1 (l++[r.2])
end
theorem zgf (A B:List Int):APure Tryz.prog 21 [.sl 1 (A.map intC),.sl 1 (B.map intC)] (.v (.bool (decide (A=B)))):=by
  refine APure.mkL (.cons (zaJ A) (.cons (zaJ B) .nil)) (.v _) ?_;refine zaj Tryz.func21 (by kernel_rfl) rfl (by rw[Tryz.ntmps21];simp) (fun hm=>?_);simp only[Tryz.ntmps21,Tryz.results21,zh,zm,Nat.reduceAdd,Nat.reduceSub,zu,zw,zi,zj];have hm1:=hm.len (sz:=1) (xs:=A.map intC) (by simp);rw[zY] at hm1;refine zad fun Y0 y0=>?_;refine zac ?_;simp only[↓bO,go_sem,seval];refine y0 _ ?_;(try clear y0 Y0);refine zad fun Y0 y0=>?_;refine zad fun Y1 y1=>?_;refine zac ?_;refine zab 4 fun Q0 q0=>?_;simp only[↓bO,go_sem,seval];refine q0 _ ?_;clear q0 Q0;simp only[go_sem];simp only[↓bO,go_sem,seval];refine y1 _ ?_;(try clear y1 Y1);refine zak rfl (fun hb10=>?_) (fun hb10=>?_)
  ·
   refine zad fun Y1 y1=>?_;refine zac ?_;simp only[↓bO,go_sem,seval];refine y1 _ ?_;(try clear y1 Y1);refine zaq ?_;(try simp only[zah,zaf,zae,za1,zaZ,zaE,bS,bA]);refine Le.of_eq (congrArg (fun b=>AV.v (.bool b)) ?_)
   symm
   first | (rw[zk];intro e;subst e;simp at hb10;done) | (rw[zk];intro e;subst e;rw[hp] at hq;cases hq;simp at hb25;done) | (rw[zl];apply List.ext_getElem hAB;intro i h1 h2;exact hs.2 i _ _ (by omega) (ze h1) (ze h2))
  ·
   (have hAB:A.length=B.length:=by simp at hb10;omega);refine zap ?_;(try simp only[zah,zaf,zae]);refine y0 _ ?_;(try clear y0 Y0);refine zad fun Y0 y0=>?_;refine zad fun Y1 y1=>?_;refine zac ?_;simp only[↓bO,go_sem,seval];refine y1 _ ?_;(try clear y1 Y1);refine zao ?_;refine zaG (σ:=Nat) (mB 26 35) (fun s=>s≤A.length∧∀(i:Nat) (p q:Int),i<s→A[i]?=some p→B[i]?=some q→p=q) (fun s=>[(5,.v (.int .i64 (s:Int)))]) (fun s=>[]) (fun s=>A.length-s) 0 (⟨by omega,fun i p q hi=>by omega⟩) ?_ (fun s hs=>?_)
   ·
    simp only[zau,zav,zan,zaA,mB,zc,zb,seval];exact zbl
   simp only[zau,zav,zan,zaA,mB,zc,zb,seval];refine zad fun Y1 y1=>?_;refine zad fun Y2 y2=>?_;refine zac ?_;simp only[↓bO,go_sem,seval];refine y2 _ ?_;(try clear y2 Y2);refine zak rfl (fun hb14=>?_) (fun hb14=>?_)
   ·
    (have hk:s<A.length:=by simpa using hb14);obtain ⟨p,hp⟩:∃p,A[s]?=some p:=⟨_,ze hk⟩;have hw:IntKind.i64.wrap ((s:Int)+1)=(s:Int)+1:=zaO (by omega) (by simp only[maxLen] at hm1;omega);(have hk2:s<B.length:=by omega);obtain ⟨q,hq⟩:∃q,B[s]?=some q:=⟨_,ze hk2⟩;refine zap ?_;(try simp only[zah,zaf,zae]);refine y1 _ ?_;(try clear y1 Y1);refine zad fun Y1 y1=>?_;refine zao ?_;refine zad fun Y2 y2=>?_;refine zaU 9 mixed (by kernel_rfl) fun J0 j0=>?_;(iterate 2 (simp only[go_sem];refine zaw 4 fun Q0 q0=>?_;simp only[↓zaV,↓dOp,↓bO,go_sem,seval,hk,gM hp,za,hw,hk2,gM hq,intC];refine q0 _ ?_;clear q0 Q0));simp only[go_sem];simp only[↓zaV,↓dOp,↓bO,go_sem,seval,hk,gM hp,za,hw,hk2,gM hq,intC];refine j0 _ ?_;clear j0 J0;simp only[bL,aops,zah,zaf,zae];refine y2 _ ?_;(try clear y2 Y2);refine zak rfl (fun hb25=>?_) (fun hb25=>?_)
    ·
     refine zad fun Y2 y2=>?_;refine zac ?_;simp only[↓bO,go_sem,seval,hk,gM hp,za,hw,hk2,gM hq,intC];refine y2 _ ?_;(try clear y2 Y2);refine zaq ?_;(try simp only[zah,zaf,zae,za1,zaZ,zaE,bS,bA]);refine Le.of_eq (congrArg (fun b=>AV.v (.bool b)) ?_)
     symm
     first | (rw[zk];intro e;subst e;simp at hb10;done) | (rw[zk];intro e;subst e;rw[hp] at hq;cases hq;simp at hb25;done) | (rw[zl];apply List.ext_getElem hAB;intro i h1 h2;exact hs.2 i _ _ (by omega) (ze h1) (ze h2))
    ·
     refine zap ?_;(try simp only[zah,zaf,zae]);refine y1 _ ?_;(try clear y1 Y1);refine zac ?_;simp only[↓bO,go_sem,seval,hk,gM hp,za,hw,hk2,gM hq,intC];refine ⟨(s+1),⟨by omega,fun i p' q' hi h1 h2=>(by rcases zM i s with h3 | h3 <;> first | exact hs.2 i p' q' h3 h1 h2 | (obtain rfl:i=s:=(by omega);rw[hp] at h1;rw[hq] at h2;cases h1;cases h2;simpa using hb25))⟩,by omega,?_⟩;simp only[zau,zav,zan,zaA,mB,zc,zb,seval,hk,gM hp,za,zA,hw,hk2,gM hq,intC];exact zbl
   ·
    (have hk:s=A.length:=by have:=hs.1;simp at hb14;omega);refine zaK ?_;simp only[zah,zaf,zae,bA,Nat.reduceEqDiff,↓reduceIte];refine y0 _ ?_;(try clear y0 Y0);refine zad fun Y0 y0=>?_;refine zac ?_;simp only[↓bO,go_sem,seval];refine y0 _ ?_;(try clear y0 Y0);refine zaq ?_;(try simp only[zah,zaf,zae,za1,zaZ,zaE,bS,bA]);refine Le.of_eq (congrArg (fun b=>AV.v (.bool b)) ?_)
    symm
    first | (rw[zk];intro e;subst e;simp at hb10;done) | (rw[zk];intro e;subst e;rw[hp] at hq;cases hq;simp at hb25;done) | (rw[zl];apply List.ext_getElem hAB;intro i h1 h2;exact hs.2 i _ _ (by omega) (ze h1) (ze h2))
theorem zgc (g:List RNode) (n:Int):APure Tryz.prog 15 [.sl 4 (g.map RNode.cells),.v (.int .i64 n)] (.v (.int .i64 (zb3 (RNode.isVar n) g))):=by
  refine APure.mkL (.cons (RNode.dataSl g) (.cons (.v _) .nil)) (.v _) ?_;refine zaj Tryz.func15 (by kernel_rfl) rfl (by rw[Tryz.ntmps15];simp) (fun hm=>?_);simp only[Tryz.ntmps15,Tryz.results15,zh,zm,Nat.reduceAdd,Nat.reduceSub,zu,zw,zi,zj];have hm1:=hm.len (sz:=4) (xs:=g.map RNode.cells) (by simp);rw[zY] at hm1;refine zad fun Y0 y0=>?_;refine zac ?_;simp only[↓bO,go_sem,seval];refine y0 _ ?_;(try clear y0 Y0);refine zad fun Y0 y0=>?_;refine zad fun Y1 y1=>?_;refine zac ?_;simp only[↓bO,go_sem,seval];refine y1 _ ?_;(try clear y1 Y1);refine zao ?_;refine zaG (σ:=Nat) (mB 30 35) (fun s=>s≤g.length∧∀(i:Nat) (p:RNode),i<s→g[i]?=some p→RNode.isVar n p=false) (fun s=>[(5,.v (.int .i64 (s:Int)))]) (fun s=>[]) (fun s=>g.length-s) 0 (⟨by omega,fun i p hi=>by omega⟩) ?_ (fun s hs=>?_)
  ·
   simp only[zau,zav,zan,zaA,mB,zc,zb,seval];exact zbl
  simp only[zau,zav,zan,zaA,mB,zc,zb,seval];refine zad fun Y1 y1=>?_;refine zad fun Y2 y2=>?_;refine zac ?_;simp only[↓bO,go_sem,seval];refine y2 _ ?_;(try clear y2 Y2);refine zak rfl (fun hb9=>?_) (fun hb9=>?_)
  ·
   (have hk:s<g.length:=by simpa using hb9);obtain ⟨p,hp⟩:∃p,g[s]?=some p:=⟨_,ze hk⟩;have hw:IntKind.i64.wrap ((s:Int)+1)=(s:Int)+1:=zaO (by omega) (by simp only[maxLen] at hm1;omega);refine zap ?_;(try simp only[zah,zaf,zae]);refine y1 _ ?_;(try clear y1 Y1);refine zad fun Y1 y1=>?_;refine zao ?_;refine zbA (mB 30 268435491) ([(28,.v (.bool (RNode.isVar n p)))]) ([]) ?_ ?_
   ·
    refine zac ?_;(iterate 2 (refine zab 4 fun Q0 q0=>?_;simp only[↓bO,go_sem,seval,hk,gM hp,za,hw,RNode.cells];refine q0 _ ?_;clear q0 Q0;simp only[go_sem]));refine zaI 19 rfl (fun hc19=>?_) (fun hc19=>?_)
    ·
     simp only[zc,zb];(iterate 2 (refine zab 4 fun Q0 q0=>?_;simp only[↓bO,go_sem,seval,hk,gM hp,za,hw,RNode.cells];refine q0 _ ?_;clear q0 Q0;simp only[go_sem]));simp only[↓bO,go_sem,seval,hk,gM hp,za,hw,RNode.cells];(try simp only[zau,zav,zan,zaA,mB,zc,zb,seval]);refine Weak.mk ?_ (fun _ _ h=>h) rfl rfl;simp only[go_sem,Le.refl,Le.any];all_goals (refine Le.of_eq (congrArg (fun b=>AV.v (.bool b)) ?_);simp_all [RNode.isVar])
    ·
     simp only[zc,zb];(iterate 2 (refine zab 4 fun Q0 q0=>?_;simp only[↓bO,go_sem,seval,hk,gM hp,za,hw,RNode.cells];refine q0 _ ?_;clear q0 Q0;simp only[go_sem]));simp only[↓bO,go_sem,seval,hk,gM hp,za,hw,RNode.cells];(try simp only[zau,zav,zan,zaA,mB,zc,zb,seval]);refine Weak.mk ?_ (fun _ _ h=>h) rfl rfl;simp only[go_sem,Le.refl,Le.any];all_goals (refine Le.of_eq (congrArg (fun b=>AV.v (.bool b)) ?_);simp_all [RNode.isVar])
   simp only[zau,zav,zan,zaA,mB,zc,zb,seval];refine zak rfl (fun hb28=>?_) (fun hb28=>?_)
   ·
    refine zad fun Y2 y2=>?_;refine zac ?_;simp only[↓bO,go_sem,seval,hk,gM hp,za,hw,RNode.cells];refine y2 _ ?_;(try clear y2 Y2);refine zaq ?_;(try simp only[zah,zaf,zae,za1,zaZ,zaE,bS,bA]);refine Le.of_eq (congrArg (fun n=>AV.v (.int .i64 n)) ?_);first | (rw[zco hp (by exact hb28) hs.2];done) | (rw[zc6 (fun i p hi h1=>hs.2 i p (by omega) h1)];done)
   ·
    refine zap ?_;(try simp only[zah,zaf,zae]);refine y1 _ ?_;(try clear y1 Y1);refine zac ?_;simp only[↓bO,go_sem,seval,hk,gM hp,za,hw,RNode.cells];refine ⟨(s+1),⟨by omega,fun i p' hi h1=>(by rcases zM i s with h3 | h3 <;> first | exact hs.2 i p' h3 h1 | (obtain rfl:i=s:=(by omega);rw[hp] at h1;cases h1;exact hb28))⟩,by omega,?_⟩;simp only[zau,zav,zan,zaA,mB,zc,zb,seval,hk,gM hp,za,zA,hw,RNode.cells,bL];exact zbl
  ·
   (have hk:s=g.length:=by have:=hs.1;simp at hb9;omega);refine zaK ?_;simp only[zah,zaf,zae,bA,Nat.reduceEqDiff,↓reduceIte];refine y0 _ ?_;(try clear y0 Y0);refine zad fun Y0 y0=>?_;refine zac ?_;simp only[↓bO,go_sem,seval];refine y0 _ ?_;(try clear y0 Y0);refine zaq ?_;(try simp only[zah,zaf,zae,za1,zaZ,zaE,bS,bA]);refine Le.of_eq (congrArg (fun n=>AV.v (.int .i64 n)) ?_);first | (rw[zco hp (by exact hb28) hs.2];done) | (rw[zc6 (fun i p hi h1=>hs.2 i p (by omega) h1)];done)
theorem Ty.radd_eq (t:Ty) (g:List RNode):t.radd g=if t.k=1∧0≤zb3 (RNode.isVar t.n) g then (g,zb3 (RNode.isVar t.n) g) else ((Ty.raddL t.ps g []).1++[⟨t,(Ty.raddL t.ps g []).2⟩],((Ty.raddL t.ps g []).1.length:Int)):=by
  cases t;rw[Ty.radd];rfl
theorem Ty.raddL_append:∀(ps qs:List Ty) (g:List RNode) (l:List Int),Ty.raddL (ps++qs) g l=Ty.raddL qs (Ty.raddL ps g l).1 (Ty.raddL ps g l).2
  | [],qs,g,l=>by simp[Ty.raddL]
  | p::ps,qs,g,l=>by simp[Ty.raddL,Ty.raddL_append ps qs]
theorem Ty.raddL_step {ps:List Ty} {s:Nat} {p:Ty} (hp:ps[s]?=some p) (g:List RNode) (l:List Int) :
    Ty.raddL (ps.take (s+1)) g l=((p.radd (Ty.raddL (ps.take s) g l).1).1,(Ty.raddL (ps.take s) g l).2++[(p.radd (Ty.raddL (ps.take s) g l).1).2]):=by
  rw[List.take_add_one,hp,Ty.raddL_append];simp[Ty.raddL]
theorem Ty.raddL_len2:∀(ps:List Ty) (g:List RNode) (l:List Int),(Ty.raddL ps g l).2.length=l.length+ps.length
  | [],g,l=>by simp[Ty.raddL]
  | p::ps,g,l=>by simp[Ty.raddL,Ty.raddL_len2 ps];omega
theorem Ty.radd_len:∀(t:Ty) (g:List RNode),(t.radd g).1.length≤g.length+t.cnt:=by
  refine Ty.ind fun t ih=>?_
  have key:∀ps:List Ty,(∀p∈ps,∀g:List RNode,(p.radd g).1.length≤g.length+p.cnt)→∀(g:List RNode) (l:List Int),(Ty.raddL ps g l).1.length≤g.length+Ty.cntL ps:=by
    intro ps
    induction ps with
    | nil=>intro _ g l;simp[Ty.raddL,Ty.cntL]
    | cons p ps ihp =>
      intro hp g l;have h1:=hp p (by simp) g;have h2:=ihp (fun q hq=>hp q (by simp[hq])) (p.radd g).1 (l++[(p.radd g).2]);simp only[Ty.raddL,Ty.cntL];omega
  intro g;rw[Ty.radd_eq,Ty.cnt_eq];split;· simp only;omega
  · have:=key t.ps ih g []
    simp only[zd,zh,zm];omega
theorem Ty.raddL_len (ps:List Ty) (g:List RNode) (l:List Int):(Ty.raddL ps g l).1.length≤g.length+Ty.cntL ps:=by
  induction ps generalizing g l with
  | nil=>simp[Ty.raddL,Ty.cntL]
  | cons p ps ihp =>
    have h1:=Ty.radd_len p g;have h2:=ihp (p.radd g).1 (l++[(p.radd g).2]);simp only[Ty.raddL,Ty.cntL];omega
theorem RNode.all_one (l:List RNode):((l.map RNode.cells).all fun y=>y.all AV.one)=true:=by
  rw[z8];intro y hy;obtain ⟨r,_,rfl⟩:=zP.1 hy;rfl
end Go.Proofs.YtjjjckjebkmnjaaGreat
