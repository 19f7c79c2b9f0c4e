/- Texts of the abstract walk, of the contracts and of the plain laws, packed (part 32 of 50): Same Right Types Sizes Ref11 Rob1 MatchL SolA SolC SchL. Conditions: none. -/
import Derived.Test.YtpfiliamceimmaaGreatDoorPk31
set_option linter.unusedVariables false
set_option linter.unusedSimpArgs false
namespace Go.Proofs.YtpfiliamceimmaaGreatDoor
open Go Go.RowKit
set_option maxRecDepth 100000
set_option maxHeartbeats 1000000
attribute [local irreducible] aops za1
theorem Ty.ind {C:Ty→Prop} (h:∀T,(∀p∈T.ps,C p)→C T):∀T,C T:=by
  have key:∀n,∀T:Ty,SizeOf.sizeOf T≤n→C T:=by
    intro n
    induction n with
    | zero=>intro T hT;cases T;simp at hT
    | succ n ih =>
      intro T hT;refine h T (fun p hp=>ih p ?_)
      cases T with
      | mk k m ps =>
        have:=List.sizeOf_lt_of_mem (show p∈ps from hp);(simp at hT);omega
  exact fun T=>key _ T (zW _)
mutual
def Ty.same:Ty→Ty→Bool
  | .mk k n ps,.mk k' n' ps'=>k==k'&&n==n'&&Ty.sameL ps ps'
def Ty.sameL:List Ty→List Ty→Bool
  | [],[]=>true
  | p::ps,q::qs=>Ty.same p q&&Ty.sameL ps qs
  | _,_=>false
end
theorem Ty.same_eq (a b:Ty):a.same b=(a.k==b.k&&a.n==b.n&&Ty.sameL a.ps b.ps):=by cases a;cases b;simp[Ty.same,Ty.k,Ty.n,Ty.ps]
theorem Ty.sameL_len:∀{ps qs:List Ty},ps.length≠qs.length→Ty.sameL ps qs=false
  | [],[],h=>absurd rfl h
  | [],_::_,_=>by simp[Ty.sameL]
  | _::_,[],_=>by simp[Ty.sameL]
  | p::ps,q::qs,h=>by simp[Ty.sameL,Ty.sameL_len (ps:=ps) (qs:=qs) (by simpa using h)]
theorem Ty.sameL_false:∀{ps qs:List Ty} {k:Nat} {p q:Ty},ps[k]?=some p→qs[k]?=some q→p.same q=false→Ty.sameL ps qs=false
  | p::ps,q::qs,0,_,_,h1,h2,h=>by simp at h1 h2;subst h1;subst h2;simp[Ty.sameL,h]
  | p::ps,q::qs,k+1,_,_,h1,h2,h=>by simp[Ty.sameL,Ty.sameL_false (k:=k) (by simpa using h1) (by simpa using h2) h]
  | [],_,_,_,_,h1,_,_=>by simp at h1
  | _::_,[],_,_,_,_,h2,_=>by simp at h2
theorem Ty.sameL_true:∀{ps qs:List Ty},ps.length=qs.length→(∀(k:Nat) (p q:Ty),ps[k]?=some p→qs[k]?=some q→p.same q=true)→Ty.sameL ps qs=true
  | [],[],_,_=>by simp[Ty.sameL]
  | p::ps,q::qs,hl,h=>by
    have h1:=h 0 p q rfl rfl;have h2:=Ty.sameL_true (ps:=ps) (qs:=qs) (by simpa using hl) (fun k p q hp hq=>h (k+1) p q (by simpa using hp) (by simpa using hq));simp[Ty.sameL,h1,h2]
theorem zcm {p:Prop} (h:p:=by exact Weak.mk (by simp only[go_sem,Le.refl,Le.any,Le.slNil,za,zP,zL]) (fun _ _ h=>h) rfl rfl):p:=h
theorem zg3:∀(T1 T2:Ty),APure Tryz.prog 17 [.agg T1.cells,.agg T2.cells] (.v (.bool (T1.same T2))):=by
  refine Ty.ind fun T1 ih=>?_;intro T2;refine APure.mk (.cons T1.dataAgg (.cons T2.dataAgg .nil)) (.v _) ?_;refine zah Tryz.func17 (by kernel_rfl) rfl (by rw[Tryz.ntmps17];simp) (fun hm=>?_);simp only[Tryz.ntmps17,Tryz.results17,zi,zm,Nat.reduceAdd,Nat.reduceSub,zt,zq,zh,zj];have hm1:=hm.wide (t:=T1) (by simp);refine zab fun Y0 y0=>?_;refine zaa ?_;simp only[↓bO,go_sem,seval];refine y0 _ ?_;(try clear y0 Y0);refine zab fun Y0 y0=>?_;refine zab fun Y1 y1=>?_;refine zaa ?_;(iterate 2 (refine z8 3 fun Q0 q0=>?_;simp only[↓bO,go_sem,seval];refine q0 _ ?_;clear q0 Q0;simp only[go_sem]));refine zaN 11 rfl (fun hc11=>?_) (fun hc11=>?_)
  ·
   simp only[zc,zb];(iterate 4 (refine z8 3 fun Q0 q0=>?_;simp only[↓bO,go_sem,seval];refine q0 _ ?_;clear q0 Q0;simp only[go_sem]));simp only[↓bO,go_sem,seval];refine y1 _ ?_;(try clear y1 Y1);refine zan (b:=true) (by first | exact rfl | exact congrArg (fun b=>AV.v (.bool b)) hb26) (fun _=>?_) (fun h=>(by cases h));refine zab fun Y1 y1=>?_;refine zaa ?_;simp only[↓bO,go_sem,seval];refine y1 _ ?_;(try clear y1 Y1);refine zam ?_;(try simp only[zaf,zad,zac,zaZ,zaW,zaC,bS,bA]);first | (rw[Ty.same_eq];simp_all;done) | (rw[Ty.same_eq];simp at hb45;rw[Ty.sameL_false hp hq hb45];simp;done) | (rw[Ty.same_eq];simp at hb26;rw[Ty.sameL_len (by omega)];simp;done) | (rw[Ty.same_eq,Ty.sameL_true e3 (fun i p q h1 h2=>hs.2 i p q (by have:=(ze.1 h1).1;omega) h1 h2)];simp_all;done) | skip
  ·
   simp only[zc,zb];(iterate 2 (refine z8 3 fun Q0 q0=>?_;simp only[↓bO,go_sem,seval];refine q0 _ ?_;clear q0 Q0;simp only[go_sem]));refine z8 1 fun Q0 q0=>?_;simp only[↓bO,go_sem,seval];refine q0 _ ?_;clear q0 Q0;simp only[go_sem];refine zaN 18 rfl (fun hc18=>?_) (fun hc18=>?_)
   ·
    simp only[zc,zb];(iterate 2 (refine z8 3 fun Q0 q0=>?_;simp only[↓bO,go_sem,seval];refine q0 _ ?_;clear q0 Q0;simp only[go_sem]));simp only[↓bO,go_sem,seval];refine y1 _ ?_;(try clear y1 Y1);refine zan (b:=true) (by first | exact rfl | exact congrArg (fun b=>AV.v (.bool b)) hb26) (fun _=>?_) (fun h=>(by cases h));refine zab fun Y1 y1=>?_;refine zaa ?_;simp only[↓bO,go_sem,seval];refine y1 _ ?_;(try clear y1 Y1);refine zam ?_;(try simp only[zaf,zad,zac,zaZ,zaW,zaC,bS,bA]);first | (rw[Ty.same_eq];simp_all;done) | (rw[Ty.same_eq];simp at hb45;rw[Ty.sameL_false hp hq hb45];simp;done) | (rw[Ty.same_eq];simp at hb26;rw[Ty.sameL_len (by omega)];simp;done) | (rw[Ty.same_eq,Ty.sameL_true e3 (fun i p q h1 h2=>hs.2 i p q (by have:=(ze.1 h1).1;omega) h1 h2)];simp_all;done) | skip
   ·
    simp only[zc,zb];(iterate 2 (refine z8 3 fun Q0 q0=>?_;simp only[↓bO,go_sem,seval];refine q0 _ ?_;clear q0 Q0;simp only[go_sem]));simp only[↓bO,go_sem,seval];refine y1 _ ?_;(try clear y1 Y1);refine zan rfl (fun hb26=>?_) (fun hb26=>?_)
    ·
     refine zab fun Y1 y1=>?_;refine zaa ?_;simp only[↓bO,go_sem,seval];refine y1 _ ?_;(try clear y1 Y1);refine zam ?_;(try simp only[zaf,zad,zac,zaZ,zaW,zaC,bS,bA]);first | (rw[Ty.same_eq];simp_all;done) | (rw[Ty.same_eq];simp at hb45;rw[Ty.sameL_false hp hq hb45];simp;done) | (rw[Ty.same_eq];simp at hb26;rw[Ty.sameL_len (by omega)];simp;done) | (rw[Ty.same_eq,Ty.sameL_true e3 (fun i p q h1 h2=>hs.2 i p q (by have:=(ze.1 h1).1;omega) h1 h2)];simp_all;done) | skip
    ·
     (have e3:T1.ps.length=T2.ps.length   := by simp at hb26;omega);refine zar ?_;(try simp only[zaf,zad,zac]);refine y0 _ ?_;(try clear y0 Y0);refine zab fun Y0 y0=>?_;refine zab fun Y1 y1=>?_;refine zaa ?_;simp only[↓bO,go_sem,seval];refine y1 _ ?_;(try clear y1 Y1);refine zav ?_;refine zaS (σ:=Nat) (mB 46 44) (fun s=>s≤T1.ps.length∧∀(i:Nat) (p q:Ty),i<s→T1.ps[i]?=some p→T2.ps[i]?=some q→p.same q=true) (fun s=>[(5,.v (.int .i64 (s:Int)))]) (fun s=>[]) (fun s=>T1.ps.length-s) 0 (⟨by omega,fun i p q hi=>by omega⟩) ?_ (fun s hs=>?_)
     ·
      simp only[zaA,zaB,zaq,zaz,mB,zc,zb,seval];exact zcm
     simp only[zaA,zaB,zaq,zaz,mB,zc,zb,seval];refine zab fun Y1 y1=>?_;refine zab fun Y2 y2=>?_;refine zaa ?_;refine z8 3 fun Q0 q0=>?_;simp only[↓bO,go_sem,seval];refine q0 _ ?_;clear q0 Q0;simp only[go_sem];simp only[↓bO,go_sem,seval];refine y2 _ ?_;(try clear y2 Y2);refine zan rfl (fun hb31=>?_) (fun hb31=>?_)
     ·
      (have hk:s<T1.ps.length:=by simpa using hb31);(have hk2:s<T2.ps.length:=by omega);obtain ⟨p,hp⟩:∃p,T1.ps[s]?=some p:=⟨_,zd hk⟩;obtain ⟨q,hq⟩:∃q,T2.ps[s]?=some q:=⟨_,zd hk2⟩;have hw:IntKind.i64.wrap ((s:Int)+1)=(s:Int)+1:=zaT (by omega) (by have:=hm1.len;simp only[maxLen] at this;omega);refine zar ?_;(try simp only[zaf,zad,zac]);refine y1 _ ?_;(try clear y1 Y1);refine zab fun Y1 y1=>?_;refine zav ?_;refine zab fun Y2 y2=>?_;refine za8 12 mixed (by kernel_rfl) fun J0 j0=>?_;(iterate 3 (simp only[go_sem];refine zaD 3 fun Q0 q0=>?_;simp only[↓za1,↓dOp,↓bO,go_sem,seval,hk,hk2,gM hp,gM hq,za,hw];refine q0 _ ?_;clear q0 Q0));simp only[go_sem];refine zaD 1 fun Q0 q0=>?_;simp only[↓za1,↓dOp,↓bO,go_sem,seval,hk,hk2,gM hp,gM hq,za,hw];refine q0 _ ?_;clear q0 Q0;simp only[go_sem];refine zaD 1 fun Q0 q0=>?_;simp only[↓za1,↓dOp,↓bO,go_sem,seval,hk,hk2,gM hp,gM hq,za,hw];refine ⟨_,ih p (zl hp) q,?_⟩;(try simp only[bS,bA,zaf,zad,zac]);refine q0 _ ?_;clear q0 Q0;simp only[go_sem];simp only[↓za1,↓dOp,↓bO,go_sem,seval,hk,hk2,gM hp,gM hq,za,hw];refine j0 _ ?_;clear j0 J0;simp only[bL,aops,zaf,zad,zac];refine y2 _ ?_;(try clear y2 Y2);refine zan rfl (fun hb45=>?_) (fun hb45=>?_)
      ·
       refine zab fun Y2 y2=>?_;refine zaa ?_;simp only[↓bO,go_sem,seval,hk,hk2,gM hp,gM hq,za,hw];refine y2 _ ?_;(try clear y2 Y2);refine zam ?_;(try simp only[zaf,zad,zac,zaZ,zaW,zaC,bS,bA]);first | (rw[Ty.same_eq];simp_all;done) | (rw[Ty.same_eq];simp at hb45;rw[Ty.sameL_false hp hq hb45];simp;done) | (rw[Ty.same_eq];simp at hb26;rw[Ty.sameL_len (by omega)];simp;done) | (rw[Ty.same_eq,Ty.sameL_true e3 (fun i p q h1 h2=>hs.2 i p q (by have:=(ze.1 h1).1;omega) h1 h2)];simp_all;done) | skip
      ·
       refine zar ?_;(try simp only[zaf,zad,zac]);refine y1 _ ?_;(try clear y1 Y1);refine zaa ?_;simp only[↓bO,go_sem,seval,hk,hk2,gM hp,gM hq,za,hw];refine ⟨(s+1),⟨by omega,fun i p' q' hi h1 h2=>(by rcases zO i s with h3 | h3 <;> first | exact hs.2 i p' q' h3 h1 h2 | (obtain rfl:i=s:=(by omega);rw[hp] at h1;rw[hq] at h2;cases h1;cases h2;simpa using hb45))⟩,by omega,?_⟩;simp only[zaA,zaB,zaq,zaz,mB,zc,zb,seval,hk,hk2,gM hp,gM hq,za,zL,hw];exact zcm
     ·
      (have hk:s=T1.ps.length:=by have:=hs.1;simp at hb31;omega);refine zaV ?_;simp only[zaf,zad,zac,bA,Nat.reduceEqDiff,↓reduceIte];refine y0 _ ?_;(try clear y0 Y0);refine zab fun Y0 y0=>?_;refine zaa ?_;simp only[↓bO,go_sem,seval];refine y0 _ ?_;(try clear y0 Y0);refine zam ?_;(try simp only[zaf,zad,zac,zaZ,zaW,zaC,bS,bA]);first | (rw[Ty.same_eq];simp_all;done) | (rw[Ty.same_eq];simp at hb45;rw[Ty.sameL_false hp hq hb45];simp;done) | (rw[Ty.same_eq];simp at hb26;rw[Ty.sameL_len (by omega)];simp;done) | (rw[Ty.same_eq,Ty.sameL_true e3 (fun i p q h1 h2=>hs.2 i p q (by have:=(ze.1 h1).1;omega) h1 h2)];simp_all;done) | skip
end Go.Proofs.YtpfiliamceimmaaGreatDoor
namespace Go.Proofs.YtpfiliamceimmaaGreatDoor
open Go Go.RowKit
set_option maxRecDepth 100000
set_option maxHeartbeats 4000000
attribute [local irreducible] aops za1
def okN (k n:Int) (len:Nat):Bool :=
  decide ((k=1∧0≤n∧n<1073741824∧len=0)∨(n=0∧(((k=2∨k=3)∧len=0)∨(k=4∧len=2)∨(k=5∧2≤len∧len≤8))))
mutual
def Ty.right:Ty→Bool
  | .mk k n ps=>okN k n ps.length&&Ty.rightL ps
def Ty.rightL:List Ty→Bool
  | []=>true
  | p::ps=>Ty.right p&&Ty.rightL ps
end
theorem Ty.rightL_eq:∀ps,Ty.rightL ps=ps.all Ty.right
  | []=>by simp[Ty.rightL]
  | p::ps=>by simp[Ty.rightL,Ty.rightL_eq ps]
theorem Ty.right_eq (t:Ty):t.right=(okN t.k t.n t.ps.length&&t.ps.all Ty.right):=by cases t;simp[Ty.right,Ty.rightL_eq,Ty.k,Ty.n,Ty.ps]
theorem zjz (n:Int):APure Tryz.prog 136 [.v (.int .i64 n)] (.v (.bool (decide (0≤n∧n<1073741824)))):=by
  refine APure.mkL (.cons (.v _) .nil) (.v _) ?_;refine zah Tryz.func136 (by kernel_rfl) rfl (by rw[Tryz.ntmps136];simp) (fun hm=>?_);simp only[Tryz.ntmps136,Tryz.results136,zi,zm,Nat.reduceAdd,Nat.reduceSub,zt,zq,zh,zj];refine zab fun Y0 y0=>?_;refine zaa ?_;simp only[↓bO,go_sem,seval];refine y0 _ ?_;(try clear y0 Y0);refine zab fun Y0 y0=>?_;refine zaa ?_;refine z8 3 fun Q0 q0=>?_;simp only[↓bO,go_sem,seval];refine q0 _ ?_;clear q0 Q0;simp only[go_sem];refine zaN 5 rfl (fun hc5=>?_) (fun hc5=>?_)
  ·
   simp only[zc,zb];simp only[↓bO,go_sem,seval];refine y0 _ ?_;(try clear y0 Y0);refine zam ?_;(try simp only[zaf,zad,zac,zaZ,zaW,zaC,bS,bA]);refine Le.of_eq (congrArg (fun b=>AV.v (.bool b)) ?_);simp at *;omega
  ·
   simp only[zc,zb];simp only[↓bO,go_sem,seval];refine y0 _ ?_;(try clear y0 Y0);refine zam ?_;(try simp only[zaf,zad,zac,zaZ,zaW,zaC,bS,bA]);refine Le.of_eq (congrArg (fun b=>AV.v (.bool b)) ?_);simp at *;omega
theorem zjA (T:Ty):APure Tryz.prog 105 [.agg T.cells] (.v (.bool (okN T.k T.n T.ps.length))):=by
  refine APure.mkL (.cons T.dataAgg .nil) (.v _) ?_;refine zah Tryz.func105 (by kernel_rfl) rfl (by rw[Tryz.ntmps105];simp) (fun hm=>?_);simp only[Tryz.ntmps105,Tryz.results105,zi,zm,Nat.reduceAdd,Nat.reduceSub,zt,zq,zh,zj];refine zab fun Y0 y0=>?_;refine zaa ?_;simp only[↓bO,go_sem,seval];refine y0 _ ?_;(try clear y0 Y0);refine zab fun Y0 y0=>?_;refine zaa ?_;refine z8 3 fun Q0 q0=>?_;simp only[↓bO,go_sem,seval];refine q0 _ ?_;clear q0 Q0;simp only[go_sem];simp only[↓bO,go_sem,seval];refine y0 _ ?_;(try clear y0 Y0);refine zab fun Y0 y0=>?_;refine zab fun Y1 y1=>?_;refine zaa ?_;simp only[↓bO,go_sem,seval];refine y1 _ ?_;(try clear y1 Y1);refine zav ?_;refine zab fun Y1 y1=>?_;refine zaa ?_;simp only[↓bO,go_sem,seval];refine y1 _ ?_;(try clear y1 Y1);refine zan rfl (fun hb9=>?_) (fun hb9=>?_)
  ·
   refine zab fun Y1 y1=>?_;refine zaa ?_;refine z8 2 fun Q0 q0=>?_;simp only[↓bO,go_sem,seval];refine q0 _ ?_;clear q0 Q0;simp only[go_sem];refine z8 1 fun Q0 q0=>?_;simp only[↓bO,go_sem,seval];refine APure.call (zjz T.n) ?_;(try simp only[bS,bA,zaf,zad,zac]);refine q0 _ ?_;clear q0 Q0;simp only[go_sem];refine z8 1 fun Q0 q0=>?_;simp only[↓bO,go_sem,seval];refine q0 _ ?_;clear q0 Q0;simp only[go_sem];refine zaN 14 rfl (fun hc14=>?_) (fun hc14=>?_)
   ·
    simp only[zc,zb];refine z8 3 fun Q0 q0=>?_;simp only[↓bO,go_sem,seval];refine q0 _ ?_;clear q0 Q0;simp only[go_sem];simp only[↓bO,go_sem,seval];refine y1 _ ?_;(try clear y1 Y1);refine zam ?_;(try simp only[zaf,zad,zac,zaZ,zaW,zaC,bS,bA]);refine Le.of_eq (congrArg (fun b=>AV.v (.bool b)) ?_);rw[Bool.eq_iff_iff];simp only[okN,zA,beq_iff_eq,zV,beq_eq_false_iff_ne,ne_eq,zQ,false_iff,true_iff,and_true,true_and] at *;try omega
   ·
    simp only[zc,zb];refine z8 3 fun Q0 q0=>?_;simp only[↓bO,go_sem,seval];refine q0 _ ?_;clear q0 Q0;simp only[go_sem];simp only[↓bO,go_sem,seval];refine y1 _ ?_;(try clear y1 Y1);refine zam ?_;(try simp only[zaf,zad,zac,zaZ,zaW,zaC,bS,bA]);refine Le.of_eq (congrArg (fun b=>AV.v (.bool b)) ?_);rw[Bool.eq_iff_iff];simp only[okN,zA,beq_iff_eq,zV,beq_eq_false_iff_ne,ne_eq,zQ,false_iff,true_iff,and_true,true_and] at *;try omega
  ·
   refine zab fun Y1 y1=>?_;refine zab fun Y2 y2=>?_;refine zaa ?_;simp only[↓bO,go_sem,seval];refine y2 _ ?_;(try clear y2 Y2);refine zan rfl (fun hb18=>?_) (fun hb18=>?_)
   ·
    refine zar ?_;(try simp only[zaf,zad,zac]);refine y1 _ ?_;(try clear y1 Y1);refine zan (b:=true) (by first | exact rfl | exact congrArg (fun b=>AV.v (.bool b)) hb18) (fun _=>?_) (fun h=>(by cases h));refine zab fun Y1 y1=>?_;refine zaa ?_;refine z8 3 fun Q0 q0=>?_;simp only[↓bO,go_sem,seval];refine q0 _ ?_;clear q0 Q0;simp only[go_sem];refine z8 1 fun Q0 q0=>?_;simp only[↓bO,go_sem,seval];refine q0 _ ?_;clear q0 Q0;simp only[go_sem];refine zaN 24 rfl (fun hc24=>?_) (fun hc24=>?_)
    ·
     simp only[zc,zb];refine z8 3 fun Q0 q0=>?_;simp only[↓bO,go_sem,seval];refine q0 _ ?_;clear q0 Q0;simp only[go_sem];simp only[↓bO,go_sem,seval];refine y1 _ ?_;(try clear y1 Y1);refine zam ?_;(try simp only[zaf,zad,zac,zaZ,zaW,zaC,bS,bA]);refine Le.of_eq (congrArg (fun b=>AV.v (.bool b)) ?_);rw[Bool.eq_iff_iff];simp only[okN,zA,beq_iff_eq,zV,beq_eq_false_iff_ne,ne_eq,zQ,false_iff,true_iff,and_true,true_and] at *;try omega
    ·
     simp only[zc,zb];refine z8 3 fun Q0 q0=>?_;simp only[↓bO,go_sem,seval];refine q0 _ ?_;clear q0 Q0;simp only[go_sem];simp only[↓bO,go_sem,seval];refine y1 _ ?_;(try clear y1 Y1);refine zam ?_;(try simp only[zaf,zad,zac,zaZ,zaW,zaC,bS,bA]);refine Le.of_eq (congrArg (fun b=>AV.v (.bool b)) ?_);rw[Bool.eq_iff_iff];simp only[okN,zA,beq_iff_eq,zV,beq_eq_false_iff_ne,ne_eq,zQ,false_iff,true_iff,and_true,true_and] at *;try omega
   ·
    refine zaa ?_;simp only[↓bO,go_sem,seval];refine y1 _ ?_;(try clear y1 Y1);refine zan rfl (fun hb18=>?_) (fun hb18=>?_)
    ·
     refine zab fun Y1 y1=>?_;refine zaa ?_;refine z8 3 fun Q0 q0=>?_;simp only[↓bO,go_sem,seval];refine q0 _ ?_;clear q0 Q0;simp only[go_sem];refine z8 1 fun Q0 q0=>?_;simp only[↓bO,go_sem,seval];refine q0 _ ?_;clear q0 Q0;simp only[go_sem];refine zaN 24 rfl (fun hc24=>?_) (fun hc24=>?_)
     ·
      simp only[zc,zb];refine z8 3 fun Q0 q0=>?_;simp only[↓bO,go_sem,seval];refine q0 _ ?_;clear q0 Q0;simp only[go_sem];simp only[↓bO,go_sem,seval];refine y1 _ ?_;(try clear y1 Y1);refine zam ?_;(try simp only[zaf,zad,zac,zaZ,zaW,zaC,bS,bA]);refine Le.of_eq (congrArg (fun b=>AV.v (.bool b)) ?_);rw[Bool.eq_iff_iff];simp only[okN,zA,beq_iff_eq,zV,beq_eq_false_iff_ne,ne_eq,zQ,false_iff,true_iff,and_true,true_and] at *;try omega
     ·
      simp only[zc,zb];refine z8 3 fun Q0 q0=>?_;simp only[↓bO,go_sem,seval];refine q0 _ ?_;clear q0 Q0;simp only[go_sem];simp only[↓bO,go_sem,seval];refine y1 _ ?_;(try clear y1 Y1);refine zam ?_;(try simp only[zaf,zad,zac,zaZ,zaW,zaC,bS,bA]);refine Le.of_eq (congrArg (fun b=>AV.v (.bool b)) ?_);rw[Bool.eq_iff_iff];simp only[okN,zA,beq_iff_eq,zV,beq_eq_false_iff_ne,ne_eq,zQ,false_iff,true_iff,and_true,true_and] at *;try omega
    ·
     refine zab fun Y1 y1=>?_;refine zaa ?_;simp only[↓bO,go_sem,seval];refine y1 _ ?_;(try clear y1 Y1);refine zan rfl (fun hb28=>?_) (fun hb28=>?_)
     ·
      refine zab fun Y1 y1=>?_;refine zaa ?_;refine z8 3 fun Q0 q0=>?_;simp only[↓bO,go_sem,seval];refine q0 _ ?_;clear q0 Q0;simp only[go_sem];refine z8 1 fun Q0 q0=>?_;simp only[↓bO,go_sem,seval];refine q0 _ ?_;clear q0 Q0;simp only[go_sem];refine zaN 33 rfl (fun hc33=>?_) (fun hc33=>?_)
      ·
       simp only[zc,zb];refine z8 3 fun Q0 q0=>?_;simp only[↓bO,go_sem,seval];refine q0 _ ?_;clear q0 Q0;simp only[go_sem];simp only[↓bO,go_sem,seval];refine y1 _ ?_;(try clear y1 Y1);refine zam ?_;(try simp only[zaf,zad,zac,zaZ,zaW,zaC,bS,bA]);refine Le.of_eq (congrArg (fun b=>AV.v (.bool b)) ?_);rw[Bool.eq_iff_iff];simp only[okN,zA,beq_iff_eq,zV,beq_eq_false_iff_ne,ne_eq,zQ,false_iff,true_iff,and_true,true_and] at *;try omega
      ·
       simp only[zc,zb];refine z8 3 fun Q0 q0=>?_;simp only[↓bO,go_sem,seval];refine q0 _ ?_;clear q0 Q0;simp only[go_sem];simp only[↓bO,go_sem,seval];refine y1 _ ?_;(try clear y1 Y1);refine zam ?_;(try simp only[zaf,zad,zac,zaZ,zaW,zaC,bS,bA]);refine Le.of_eq (congrArg (fun b=>AV.v (.bool b)) ?_);rw[Bool.eq_iff_iff];simp only[okN,zA,beq_iff_eq,zV,beq_eq_false_iff_ne,ne_eq,zQ,false_iff,true_iff,and_true,true_and] at *;try omega
     ·
      refine zab fun Y1 y1=>?_;refine zaa ?_;simp only[↓bO,go_sem,seval];refine y1 _ ?_;(try clear y1 Y1);refine zan rfl (fun hb37=>?_) (fun hb37=>?_)
      ·
       refine zab fun Y1 y1=>?_;refine zaa ?_;refine z8 3 fun Q0 q0=>?_;simp only[↓bO,go_sem,seval];refine q0 _ ?_;clear q0 Q0;simp only[go_sem];refine z8 1 fun Q0 q0=>?_;simp only[↓bO,go_sem,seval];refine q0 _ ?_;clear q0 Q0;simp only[go_sem];refine zaN 42 rfl (fun hc42=>?_) (fun hc42=>?_)
       ·
        simp only[zc,zb];refine z8 3 fun Q0 q0=>?_;simp only[↓bO,go_sem,seval];refine q0 _ ?_;clear q0 Q0;simp only[go_sem];refine z8 1 fun Q0 q0=>?_;simp only[↓bO,go_sem,seval];refine q0 _ ?_;clear q0 Q0;simp only[go_sem];refine zaN 46 rfl (fun hc46=>?_) (fun hc46=>?_)
        ·
         simp only[zc,zb];refine z8 3 fun Q0 q0=>?_;simp only[↓bO,go_sem,seval];refine q0 _ ?_;clear q0 Q0;simp only[go_sem];simp only[↓bO,go_sem,seval];refine y1 _ ?_;(try clear y1 Y1);refine zam ?_;(try simp only[zaf,zad,zac,zaZ,zaW,zaC,bS,bA]);refine Le.of_eq (congrArg (fun b=>AV.v (.bool b)) ?_);rw[Bool.eq_iff_iff];simp only[okN,zA,beq_iff_eq,zV,beq_eq_false_iff_ne,ne_eq,zQ,false_iff,true_iff,and_true,true_and] at *;try omega
        ·
         simp only[zc,zb];refine z8 3 fun Q0 q0=>?_;simp only[↓bO,go_sem,seval];refine q0 _ ?_;clear q0 Q0;simp only[go_sem];simp only[↓bO,go_sem,seval];refine y1 _ ?_;(try clear y1 Y1);refine zam ?_;(try simp only[zaf,zad,zac,zaZ,zaW,zaC,bS,bA]);refine Le.of_eq (congrArg (fun b=>AV.v (.bool b)) ?_);rw[Bool.eq_iff_iff];simp only[okN,zA,beq_iff_eq,zV,beq_eq_false_iff_ne,ne_eq,zQ,false_iff,true_iff,and_true,true_and] at *;try omega
       ·
        simp only[zc,zb];(iterate 2 (refine z8 3 fun Q0 q0=>?_;simp only[↓bO,go_sem,seval];refine q0 _ ?_;clear q0 Q0;simp only[go_sem]));simp only[↓bO,go_sem,seval];refine y1 _ ?_;(try clear y1 Y1);refine zam ?_;(try simp only[zaf,zad,zac,zaZ,zaW,zaC,bS,bA]);refine Le.of_eq (congrArg (fun b=>AV.v (.bool b)) ?_);rw[Bool.eq_iff_iff];simp only[okN,zA,beq_iff_eq,zV,beq_eq_false_iff_ne,ne_eq,zQ,false_iff,true_iff,and_true,true_and] at *;try omega
      ·
       refine zar ?_;(try simp only[zaf,zad,zac]);refine y0 _ ?_;(try clear y0 Y0);refine zab fun Y0 y0=>?_;refine zaa ?_;simp only[↓bO,go_sem,seval];refine y0 _ ?_;(try clear y0 Y0);refine zam ?_;(try simp only[zaf,zad,zac,zaZ,zaW,zaC,bS,bA]);refine Le.of_eq (congrArg (fun b=>AV.v (.bool b)) ?_);rw[Bool.eq_iff_iff];simp only[okN,zA,beq_iff_eq,zV,beq_eq_false_iff_ne,ne_eq,zQ,false_iff,true_iff,and_true,true_and] at *;try omega
theorem zeh {α:Type} {f:α→Bool} {ps:List α} {i:Nat} {p:α} (hp:ps[i]?=some p) (h:f p=true):ps.any f=true:=List.any_eq_true.2 ⟨p,zl hp,h⟩
theorem zeH {α:Type} {f:α→Bool} {ps:List α} (h:∀(i:Nat) (p:α),i<ps.length→ps[i]?=some p→f p=false):ps.any f=false:=by
  rw[← Bool.not_eq_true,List.any_eq_true];rintro ⟨p,hp,hf⟩;obtain ⟨i,hi,e⟩:=zZ.1 hp;rw[h i p hi (by rw[zd hi,e])] at hf;cases hf
def zbK {α:Type} (g:α→Bool) (l:List α):Int:=if l.any g then (l.findIdx g:Int) else -1
theorem zcI {α:Type} {g:α→Bool} {l:List α} {i:Nat} {p:α} (hp:l[i]?=some p) (h:g p=true) (hb:∀(j:Nat) (q:α),j<i→l[j]?=some q→g q=false):zbK g l=(i:Int):=by
  have hi:i<l.length:=(ze.1 hp).1;have e:l[i]=p:=(ze.1 hp).2;rw[zbK,if_pos (zeh hp h)];(congr 1);refine List.findIdx_eq hi |>.2 ⟨by rw[e];exact h,fun j hj=>?_⟩;exact hb j _ hj (zd (by omega))
theorem zdX {α:Type} {g:α→Bool} {l:List α} (hb:∀(j:Nat) (q:α),j<l.length→l[j]?=some q→g q=false):zbK g l=-1:=by
  rw[zbK,zeH hb];rfl
theorem zgn {α:Type} {g:α→Bool} {l:List α}:decide (zbK g l≥0)=l.any g:=by
  unfold zbK;split;(· rename_i h;rw[h];simp);· rename_i h;simp at h;simp;exact h
theorem zeM (ps:List Ty) (g:Nat) (f:Ty→Bool) (hf:∀p∈ps,APure Tryz.prog g [.agg p.cells] (.v (.bool (f p)))):APure Tryz.prog 137 [.sl 3 (ps.map Ty.cells),.clo g []] (.v (.int .i64 (zbK f ps))):=by
  refine APure.mkL (.cons (Ty.dataSl ps) (.cons (.clo (fun _ h=>by cases h)) .nil)) (.v _) ?_;refine zah Tryz.func137 (by kernel_rfl) rfl (by rw[Tryz.ntmps137];simp) (fun hm=>?_);simp only[Tryz.ntmps137,Tryz.results137,zi,zm,Nat.reduceAdd,Nat.reduceSub,zt,zq,zh,zj];have hm1:=hm.len (sz:=3) (xs:=ps.map Ty.cells) (by simp);rw[zS] at hm1;(have hm2:∀i:Nat,i<ps.length→IntKind.i64.wrap ((i:Int)+1)=(i:Int)+1:=fun i hi=>zaT (by omega) (by simp only[maxLen] at hm1;omega));refine zab fun Y0 y0=>?_;refine zaa ?_;simp only[↓bO,go_sem,seval];refine y0 _ ?_;(try clear y0 Y0);refine zab fun Y0 y0=>?_;refine zab fun Y1 y1=>?_;refine zaa ?_;simp only[↓bO,go_sem,seval];refine y1 _ ?_;(try clear y1 Y1);refine zav ?_;refine zaS (σ:=Nat) (mB 19 387) (fun s=>s≤ps.length∧∀(i:Nat) (p:Ty),i<s→ps[i]?=some p→f p=false) (fun s=>[(8,.v (.int .i64 (s:Int)))]) (fun s=>[]) (fun s=>ps.length-s) 0 (⟨by omega,fun i p hi=>by omega⟩) ?_ (fun s hs=>?_)
  ·
   simp only[zaA,zaB,zaq,zaz,mB,zc,zb,seval];exact zcm
  simp only[zaA,zaB,zaq,zaz,mB,zc,zb,seval];refine zab fun Y1 y1=>?_;refine zaa ?_;simp only[↓bO,go_sem,seval];refine y1 _ ?_;(try clear y1 Y1);refine zab fun Y1 y1=>?_;refine zan rfl (fun hb9=>?_) (fun hb9=>?_)
  ·
   (have hk:s<ps.length:=by simpa using hb9);obtain ⟨p,hp⟩:∃p,ps[s]?=some p:=⟨_,zd hk⟩;have hw:=hm2 s hk;refine zar ?_;(try simp only[zaf,zad,zac]);refine y1 _ ?_;(try clear y1 Y1);refine zab fun Y1 y1=>?_;refine zav ?_;refine zab fun Y2 y2=>?_;refine zaa ?_;simp only[↓bO,go_sem,seval,hk,gM hp,za,hw];refine y2 _ ?_;(try clear y2 Y2);refine zab fun Y2 y2=>?_;refine zaa ?_;refine z8 4 fun Q0 q0=>?_;simp only[↓bO,go_sem,seval,hk,gM hp,za,hw];refine q0 _ ?_;clear q0 Q0;simp only[go_sem];refine z8 1 fun Q0 q0=>?_;simp only[↓bO,go_sem,seval,hk,gM hp,za,hw];refine q0 _ ?_;clear q0 Q0;simp only[go_sem];simp only[↓bO,go_sem,seval,hk,gM hp,za,hw];refine APure.call (hf p (zl hp)) ?_;(try simp only[bS,bA,zaf,zad,zac]);refine y2 _ ?_;(try clear y2 Y2);refine zan rfl (fun hb16=>?_) (fun hb16=>?_)
   ·
    refine zab fun Y2 y2=>?_;refine zaa ?_;simp only[↓bO,go_sem,seval,hk,gM hp,za,hw];refine y2 _ ?_;(try clear y2 Y2);refine zam ?_;(try simp only[zaf,zad,zac,zaZ,zaW,zaC,bS,bA]);refine Le.of_eq (congrArg (fun n=>AV.v (.int .i64 n)) ?_);first | (rw[zcI hp (by exact hb16) hs.2];done) | (rw[zdX (fun i p hi h1=>hs.2 i p (by omega) h1)];done)
   ·
    refine zar ?_;(try simp only[zaf,zad,zac]);refine y1 _ ?_;(try clear y1 Y1);refine zaa ?_;simp only[↓bO,go_sem,seval,hk,gM hp,za,hw];refine ⟨(s+1),⟨by omega,fun i p' hi h1=>(by rcases zO i s with h3 | h3 <;> first | exact hs.2 i p' h3 h1 | (obtain rfl:i=s:=(by omega);rw[hp] at h1;cases h1;exact hb16))⟩,by omega,?_⟩;simp only[zaA,zaB,zaq,zaz,mB,zc,zb,seval,hk,gM hp,za,zL,hw];exact zcm
  ·
   (have hk:s=ps.length:=by have:=hs.1;simp at hb9;omega);refine zaV ?_;simp only[zaf,zad,zac,bA,Nat.reduceEqDiff,↓reduceIte];refine y0 _ ?_;(try clear y0 Y0);refine zab fun Y0 y0=>?_;refine zaa ?_;simp only[↓bO,go_sem,seval];refine y0 _ ?_;(try clear y0 Y0);refine zam ?_;(try simp only[zaf,zad,zac,zaZ,zaW,zaC,bS,bA]);refine Le.of_eq (congrArg (fun n=>AV.v (.int .i64 n)) ?_);first | (rw[zcI hp (by exact hb16) hs.2];done) | (rw[zdX (fun i p hi h1=>hs.2 i p (by omega) h1)];done)
theorem zdD (ps:List Ty) (g:Nat) (f:Ty→Bool) (hf:∀p∈ps,APure Tryz.prog g [.agg p.cells] (.v (.bool (f p)))):APure Tryz.prog 106 [.sl 3 (ps.map Ty.cells),.clo g []] (.v (.bool (ps.any f))):=by
  refine APure.mkL (.cons (Ty.dataSl ps) (.cons (.clo (fun _ h=>by cases h)) .nil)) (.v _) ?_;refine zah Tryz.func106 (by kernel_rfl) rfl (by rw[Tryz.ntmps106];simp) (fun hm=>?_);simp only[Tryz.ntmps106,Tryz.results106,zi,zm,Nat.reduceAdd,Nat.reduceSub,zt,zq,zh,zj];refine zab fun Y0 y0=>?_;refine zaa ?_;simp only[↓bO,go_sem,seval,zgn];refine y0 _ ?_;(try clear y0 Y0);refine zab fun Y0 y0=>?_;refine zaa ?_;refine z8 2 fun Q0 q0=>?_;simp only[↓bO,go_sem,seval,zgn];refine q0 _ ?_;clear q0 Q0;simp only[go_sem];refine z8 1 fun Q0 q0=>?_;simp only[↓bO,go_sem,seval,zgn];refine APure.call (zeM ps g f hf) ?_;(try simp only[bS,bA,zaf,zad,zac]);refine q0 _ ?_;clear q0 Q0;simp only[go_sem];simp only[↓bO,go_sem,seval,zgn];refine y0 _ ?_;(try clear y0 Y0);refine zam ?_;(try simp only[zaf,zad,zac,zaZ,zaW,zaC,bS,bA]);exact Le.refl _
theorem ziB {p:Ty} (h:APure Tryz.prog 64 [.agg p.cells] (.v (.bool p.right))):APure Tryz.prog 107 [.agg p.cells] (.v (.bool (!p.right))):=by
  refine APure.mkL (.cons p.dataAgg .nil) (.v _) ?_;refine zah Tryz.func107 (by kernel_rfl) rfl (by rw[Tryz.ntmps107];simp) (fun hm=>?_);simp only[Tryz.ntmps107,Tryz.results107,zi,zm,Nat.reduceAdd,Nat.reduceSub,zt,zq,zh,zj];refine zab fun Y0 y0=>?_;refine zaa ?_;simp only[↓bO,go_sem,seval];refine y0 _ ?_;(try clear y0 Y0);refine zab fun Y0 y0=>?_;refine zaa ?_;refine z8 1 fun Q0 q0=>?_;simp only[↓bO,go_sem,seval];refine q0 _ ?_;clear q0 Q0;simp only[go_sem];refine z8 1 fun Q0 q0=>?_;simp only[↓bO,go_sem,seval];refine APure.call (h) ?_;(try simp only[bS,bA,zaf,zad,zac]);refine q0 _ ?_;clear q0 Q0;simp only[go_sem];simp only[↓bO,go_sem,seval];refine y0 _ ?_;(try clear y0 Y0);refine zam ?_;(try simp only[zaf,zad,zac,zaZ,zaW,zaC,bS,bA]);exact Le.refl _
theorem zcG:∀(T:Ty),APure Tryz.prog 64 [.agg T.cells] (.v (.bool T.right)):=by
  refine Ty.ind fun T ih=>?_;refine APure.mkL (.cons T.dataAgg .nil) (.v _) ?_;refine zah Tryz.func64 (by kernel_rfl) rfl (by rw[Tryz.ntmps64];simp) (fun hm=>?_);simp only[Tryz.ntmps64,Tryz.results64,zi,zm,Nat.reduceAdd,Nat.reduceSub,zt,zq,zh,zj];refine zab fun Y0 y0=>?_;refine zaa ?_;simp only[↓bO,go_sem,seval];refine y0 _ ?_;(try clear y0 Y0);refine zab fun Y0 y0=>?_;refine zaa ?_;refine z8 1 fun Q0 q0=>?_;simp only[↓bO,go_sem,seval];refine q0 _ ?_;clear q0 Q0;simp only[go_sem];refine z8 1 fun Q0 q0=>?_;simp only[↓bO,go_sem,seval];refine APure.call (zjA T) ?_;(try simp only[bS,bA,zaf,zad,zac]);refine q0 _ ?_;clear q0 Q0;simp only[go_sem];refine z8 1 fun Q0 q0=>?_;simp only[↓bO,go_sem,seval];refine q0 _ ?_;clear q0 Q0;simp only[go_sem];refine zaN 5 rfl (fun hc5=>?_) (fun hc5=>?_)
  ·
   simp only[zc,zb];refine z8 2 fun Q0 q0=>?_;simp only[↓bO,go_sem,seval];refine q0 _ ?_;clear q0 Q0;simp only[go_sem];refine z8 1 fun Q0 q0=>?_;simp only[↓bO,go_sem,seval];refine APure.call (zdD T.ps 107 (fun p=>!p.right) (fun p hp=>ziB (ih p hp))) ?_;(try simp only[bS,bA,zaf,zad,zac]);refine q0 _ ?_;clear q0 Q0;simp only[go_sem];simp only[↓bO,go_sem,seval];refine y0 _ ?_;(try clear y0 Y0);refine zam ?_;(try simp only[zaf,zad,zac,zaZ,zaW,zaC,bS,bA]);refine Le.of_eq (congrArg (fun b=>AV.v (.bool b)) ?_);rw[Ty.right_eq];first | (simp only[hc5];rfl) | (simp only[hc5,Bool.true_and];simp[List.not_any_eq_all_not])
  ·
   simp only[zc,zb];refine z8 4 fun Q0 q0=>?_;simp only[↓bO,go_sem,seval];refine q0 _ ?_;clear q0 Q0;simp only[go_sem];simp only[↓bO,go_sem,seval];refine y0 _ ?_;(try clear y0 Y0);refine zam ?_;(try simp only[zaf,zad,zac,zaZ,zaW,zaC,bS,bA]);refine Le.of_eq (congrArg (fun b=>AV.v (.bool b)) ?_);rw[Ty.right_eq];first | (simp only[hc5];rfl) | (simp only[hc5,Bool.true_and];simp[List.not_any_eq_all_not])
end Go.Proofs.YtpfiliamceimmaaGreatDoor
namespace Go.Proofs.YtpfiliamceimmaaGreatDoor
open Go Go.RowKit
set_option maxRecDepth 100000
set_option maxHeartbeats 4000000
attribute [local irreducible] aops za1
mutual
/-- a type whose variables have other numbers -/
def Ty.mapV (f:Int→Int):Ty→Ty
  | .mk k n ps=>.mk k (if k=1 then f n else n) (Ty.mapVL f ps)
def Ty.mapVL (f:Int→Int):List Ty→List Ty
  | []=>[]
  | p::ps=>Ty.mapV f p::Ty.mapVL f ps
end
theorem Ty.mapVL_eq (f:Int→Int):∀ps,Ty.mapVL f ps=ps.map (Ty.mapV f)
  | []=>by simp[Ty.mapVL]
  | p::ps=>by simp[Ty.mapVL,Ty.mapVL_eq f ps]
theorem Ty.mapV_eq (f:Int→Int) (t:Ty):t.mapV f=.mk t.k (if t.k=1 then f t.n else t.n) (t.ps.map (Ty.mapV f)):=by
  cases t;rw[Ty.mapV,Ty.mapVL_eq];rfl
theorem Ty.eta (t:Ty):Ty.mk t.k t.n t.ps=t:=by cases t;rfl
theorem Ty.mapV_id:∀t:Ty,t.mapV (fun n=>n)=t:=by
  refine Ty.ind fun t ih=>?_;rw[Ty.mapV_eq];have e:t.ps.map (Ty.mapV fun n=>n)=t.ps:=(List.map_congr_left ih).trans (List.map_id t.ps);rw[e];simp[Ty.eta]
mutual
def Ty.cnt:Ty→Nat
  | .mk _ _ ps=>1+Ty.cntL ps
def Ty.cntL:List Ty→Nat
  | []=>0
  | p::ps=>Ty.cnt p+Ty.cntL ps
end
theorem Ty.cnt_eq (t:Ty):t.cnt=1+Ty.cntL t.ps:=by cases t;simp[Ty.cnt,Ty.ps]
theorem Ty.cntL_append:∀(ps qs:List Ty),Ty.cntL (ps++qs)=Ty.cntL ps+Ty.cntL qs
  | [],qs=>by simp[Ty.cntL]
  | p::ps,qs=>by simp[Ty.cntL,Ty.cntL_append ps qs];omega
theorem Ty.cntL_step {ps:List Ty} {s:Nat} {p:Ty} (hp:ps[s]?=some p):Ty.cntL (ps.take s)+p.cnt≤Ty.cntL ps:=by
  (have h1:Ty.cntL (ps.take (s+1))=Ty.cntL (ps.take s)+p.cnt:=by rw[List.take_add_one,hp,Ty.cntL_append];simp[Ty.cntL]);(have h2:Ty.cntL ps=Ty.cntL (ps.take (s+1))+Ty.cntL (ps.drop (s+1)):=by rw[← Ty.cntL_append,List.take_append_drop]);omega
theorem Ty.cntL_len:∀ps,ps.length≤Ty.cntL ps
  | []=>by simp
  | p::ps=>by
    have:=Ty.cntL_len ps;(have h2:1≤p.cnt:=by rw[Ty.cnt_eq];omega);simp[Ty.cntL];omega
theorem za0 {α β:Type} (f:α→β) {ps:List α} {s:Nat} {p:α} (hp:ps[s]?=some p):(ps.take (s+1)).map f=(ps.take s).map f++[f p]:=by
  rw[List.take_add_one,hp];simp
theorem Ty.cnt_mem {p:Ty}:∀{ps:List Ty},p∈ps→p.cnt≤Ty.cntL ps
  | q::ps,h=>by
    simp only[Ty.cntL];(rcases zM.1 h with rfl | h);(· omega);· have:=Ty.cnt_mem h;omega
theorem zfn (n:Int):APure Tryz.prog 41 [.v (.int .i64 n)] (.agg (Ty.mk 1 n []).cells):=by
  refine APure.mkL (.cons (.v _) .nil) ((Ty.dataAgg _)) ?_;refine zah Tryz.func41 (by kernel_rfl) rfl (by rw[Tryz.ntmps41];simp) (fun hm=>?_);simp only[Tryz.ntmps41,Tryz.results41,zi,zm,Nat.reduceAdd,Nat.reduceSub,zt,zq,zh,zj];(iterate 2 (refine zab fun Y0 y0=>?_;refine zaa ?_;simp only[↓bO,go_sem,seval];refine y0 _ ?_;(try clear y0 Y0)));refine zam ?_;(try simp only[zaf,zad,zac,zaZ,zaW,zaC,bS,bA,zbH,zaJ,zce,bL,Nat.reduceAdd,Nat.reduceLeDiff,Nat.reduceEqDiff,↓reduceIte,zgO,tyX]);refine Le.agg ?_;rw[Ty.cells_eq];exact ⟨.refl _,.refl _,Le.slNil 3,trivial⟩
theorem clz2 {p:Prop} (h:p:=by exact Weak.mk (by simp only[go_sem,Le.refl,Le.any]) (fun _ _ h=>h) rfl rfl):p:=h
theorem zhX:∀(T:Ty) (g:Nat) (caps:List AV) (φ:Int→Int) (hd:DataL caps) (hφ:∀n:Int,APure Tryz.prog g (.v (.int .i64 n)::caps) (.v (.int .i64 (φ n)))) (hT:T.cnt≤1099511627776),APure Tryz.prog 100 [.agg T.cells,.clo g caps] (.agg (T.mapV φ).cells):=by
  refine Ty.ind fun T ih=>?_;intro g caps φ hd hφ hT;refine APure.mkL (.cons T.dataAgg (.cons (.clo hd) .nil)) ((Ty.dataAgg _)) ?_;refine zah Tryz.func100 (by kernel_rfl) rfl (by rw[Tryz.ntmps100];simp) (fun hm=>?_);simp only[Tryz.ntmps100,Tryz.results100,zi,zm,Nat.reduceAdd,Nat.reduceSub,zt,zq,zh,zj];have hm1:=hm.wide (t:=T) (by simp);have hcn:=T.cnt_eq;have hcl:=Ty.cntL_len T.ps;simp only[Ty.cells_eq T,zh,zj];refine zab fun Y0 y0=>?_;refine zaa ?_;simp only[↓bO,go_sem,seval];refine y0 _ ?_;(try clear y0 Y0);refine zdU (mB 33 22) ([]) ([(0,.cells 28 [.v (.int .i64 T.k),.v (.int .i64 (if T.k=1 then φ T.n else T.n)),.sl 3 (T.ps.map Ty.cells)])]) ?_ ?_
  ·
   refine zab fun Y0 y0=>?_;refine zaa ?_;simp only[↓bO,go_sem,seval];refine y0 _ ?_;(try clear y0 Y0);refine zan rfl (fun hb10=>?_) (fun hb10=>?_)
   ·
    refine zaa ?_;refine z8 3 fun Q0 q0=>?_;simp only[↓bO,go_sem,seval];refine q0 _ ?_;clear q0 Q0;simp only[go_sem];refine z8 1 fun Q0 q0=>?_;simp only[↓bO,go_sem,seval];refine APure.call ((hφ T.n)) ?_;(try simp only[bS,bA,zaf,zad,zac]);refine q0 _ ?_;clear q0 Q0;simp only[go_sem];simp only[↓bO,go_sem,seval];(try simp only[zaA,zaB,zaq,zaz,mB,zc,zb,seval]);(first | rw[if_pos (by simpa using hb10)] | rw[if_neg (by simpa using hb10)]);exact clz2
   ·
    refine zar ?_;(try simp only[zaf,zad,zac]);(try simp only[zaA,zaB,zaq,zaz,mB,zc,zb,seval]);(first | rw[if_pos (by simpa using hb10)] | rw[if_neg (by simpa using hb10)]);exact clz2
  simp only[zaA,zaB,zaq,zaz,mB,zc,zb,seval];refine zab fun Y0 y0=>?_;refine zaa ?_;simp only[↓bO,go_sem,seval];refine y0 _ ?_;(try clear y0 Y0);refine zab fun Y0 y0=>?_;refine zab fun Y1 y1=>?_;refine zaa ?_;simp only[↓bO,go_sem,seval];refine y1 _ ?_;(try clear y1 Y1);refine zav ?_;refine zbk (Weak.tokSlot 5 28 3 rfl) ?_;simp only[zc,zb];refine zaS (σ:=Nat) (mB 33 917558) (fun s=>s≤T.ps.length) (fun s=>[(5,.osl 2 3 (((T.ps.take s).map (Ty.mapV φ)).map Ty.cells)),(19,.v (.int .i64 (s:Int)))]) (fun s=>[(2,.tok 28 3 s)]) (fun s=>T.ps.length-s) 0 (by omega) ?_ (fun s hs=>?_)
  ·
   simp only[zaA,zaB,zaq,zaz,mB,zc,zb,seval,bL];exact zcm
  simp only[zaA,zaB,zaq,zaz,mB,zc,zb,seval];refine zab fun Y1 y1=>?_;refine zaa ?_;simp only[↓bO,go_sem,seval];refine y1 _ ?_;(try clear y1 Y1);refine zab fun Y1 y1=>?_;refine zan rfl (fun hb20=>?_) (fun hb20=>?_)
  ·
   (have hk:s<T.ps.length:=by simpa using hb20);obtain ⟨p,hp⟩:∃p,T.ps[s]?=some p:=⟨_,zd hk⟩;have hpm:=Ty.cnt_mem (zl hp);have hw:IntKind.i64.wrap ((s:Int)+1)=(s:Int)+1:=zaT (by omega) (by omega);(have hln:(((T.ps.take s).map (Ty.mapV φ)).map Ty.cells).length=s:=by simp;omega);(have hb1:(s+1) * 40≤140737488355328:=by omega);(have hb2:s+1≤maxLen:=by simp only[maxLen];omega);refine zar ?_;(try simp only[zaf,zad,zac]);refine y1 _ ?_;(try clear y1 Y1);refine zab fun Y1 y1=>?_;refine zav ?_;refine zab fun Y2 y2=>?_;refine zaa ?_;simp only[↓bO,go_sem,seval,hk,gM hp,za,hw,hln,hb1,hb2,zz,za0 (Ty.mapV φ) hp];refine y2 _ ?_;(try clear y2 Y2);refine zaa ?_;refine z8 3 fun Q0 q0=>?_;simp only[↓bO,go_sem,seval,hk,gM hp,za,hw,hln,hb1,hb2,zz,za0 (Ty.mapV φ) hp];refine q0 _ ?_;clear q0 Q0;simp only[go_sem];refine z8 1 fun Q0 q0=>?_;simp only[↓bO,go_sem,seval,hk,gM hp,za,hw,hln,hb1,hb2,zz,za0 (Ty.mapV φ) hp];refine APure.call (ih p (zl hp) g caps φ hd hφ (by omega)) ?_;(try simp only[bS,bA,zaf,zad,zac]);refine q0 _ ?_;clear q0 Q0;simp only[go_sem];simp only[↓bO,go_sem,seval,↓zbX,↓zbT,↓zbY,↓zbW,↓zb0,↓zbS,↓zbR,↓zbQ,↓zbZ,↓zbo,↓zbp,↓zbq,hk,gM hp,za,hw,hln,hb1,hb2,zz,za0 (Ty.mapV φ) hp];refine y1 _ ?_;(try clear y1 Y1);refine zaa ?_;simp only[↓bO,go_sem,seval,hk,gM hp,za,hw,hln,hb1,hb2,zz,za0 (Ty.mapV φ) hp];refine ⟨(s+1),(by omega),by omega,?_⟩;simp only[zaA,zaB,zaq,zaz,mB,zc,zb,seval,hk,gM hp,za,zL,hw,hln,hb1,hb2,zz,bL,za0 (Ty.mapV φ) hp];(first | (refine Weak.drops 1 3 rfl rfl (by simp only;omega) (by simp only;omega) ?_ ?_ ?_) | (refine Weak.drops 0 3 rfl rfl (by simp only;omega) (by simp only;omega) ?_ ?_ ?_));(· simp only[go_sem,Le.refl,Le.any,za,zP,zL]);(· simp only[UndL,UndOs,Ob.Und,and_true,true_and,and_self,Und.v,Und.any,Und.ptr,Und.map,Nat.reduceLT,Nat.zero_lt_succ,Und.tys,Und.tyAgg,Und.oslTys,Und.oslTys1,Und.clo0,Und.ty,Und.data (n:=3) (Data.clo (f:=g) hd)]);· simp only[UndL,UndOs,Ob.Und,and_true,true_and,and_self,Und.v,Und.any,Und.ptr,Und.map,Nat.reduceLT,Nat.zero_lt_succ,Und.tys,Und.tyAgg,Und.oslTys,Und.oslTys1,Und.clo0,Und.ty,Und.data (n:=3) (Data.clo (f:=g) hd)]
  ·
   (have hk:s=T.ps.length:=by simp at hb20;omega);refine zaV ?_;simp only[zaf,zad,zac,bA,Nat.reduceEqDiff,↓reduceIte];(iterate 2 (refine y0 _ ?_;(try clear y0 Y0);refine zab fun Y0 y0=>?_;refine zaa ?_;simp only[↓bO,go_sem,seval]));refine y0 _ ?_;(try clear y0 Y0);refine zam ?_;(try simp only[zaf,zad,zac,zaZ,zaW,zaC,bS,bA,zbH,zaJ,zce,bL,Nat.reduceAdd,Nat.reduceLeDiff,Nat.reduceEqDiff,↓reduceIte,zgO,tyX]);refine Le.agg ?_;rw[Ty.mapV_eq,Ty.cells_eq,hk,z6];exact ⟨.refl _,.refl _,Le.oslL,trivial⟩
theorem zjP (n:Int):APure Tryz.prog 101 [.v (.int .i64 n)] (.v (.int .i64 n)):=by
  refine APure.mkL (.cons (.v _) .nil) (.v _) ?_;refine zah Tryz.func101 (by kernel_rfl) rfl (by rw[Tryz.ntmps101];simp) (fun hm=>?_);simp only[Tryz.ntmps101,Tryz.results101,zi,zm,Nat.reduceAdd,Nat.reduceSub,zt,zq,zh,zj];(iterate 2 (refine zab fun Y0 y0=>?_;refine zaa ?_;simp only[↓bO,go_sem,seval];refine y0 _ ?_;(try clear y0 Y0)));refine zam ?_;(try simp only[zaf,zad,zac,zaZ,zaW,zaC,bS,bA]);exact Le.refl _
theorem zd1 (T:Ty) (hT:T.cnt≤1099511627776):APure Tryz.prog 52 [.agg T.cells] (.agg T.cells):=by
  refine APure.mkL (.cons T.dataAgg .nil) (T.dataAgg) ?_;refine zah Tryz.func52 (by kernel_rfl) rfl (by rw[Tryz.ntmps52];simp) (fun hm=>?_);simp only[Tryz.ntmps52,Tryz.results52,zi,zm,Nat.reduceAdd,Nat.reduceSub,zt,zq,zh,zj];simp only[Ty.cells_eq T,zh,zj];refine zab fun Y0 y0=>?_;refine zaa ?_;simp only[↓bO,go_sem,seval];refine y0 _ ?_;(try clear y0 Y0);refine zab fun Y0 y0=>?_;refine zaa ?_;refine z8 1 fun Q0 q0=>?_;simp only[↓bO,go_sem,seval];refine q0 _ ?_;clear q0 Q0;simp only[go_sem];refine z8 1 fun Q0 q0=>?_;simp only[↓bO,go_sem,seval];refine APure.call (by have h9:=zhX T 101 [] (fun n=>n) (fun _ h=>by cases h) (fun n=>zjP n) hT;rw[Ty.mapV_id,Ty.cells_eq T] at h9;exact h9) ?_;(try simp only[bS,bA,zaf,zad,zac]);refine q0 _ ?_;clear q0 Q0;simp only[go_sem];simp only[↓bO,go_sem,seval];refine y0 _ ?_;(try clear y0 Y0);refine zam ?_;(try simp only[zaf,zad,zac,zaZ,zaW,zaC,bS,bA,zbH,zaJ,zce,bL,Nat.reduceAdd,Nat.reduceLeDiff,Nat.reduceEqDiff,↓reduceIte,zgO]);exact Le.refl _
def zfA:List Ty→Ty
  | []=>.mk 0 0 []
  | [t]=>t
  | t::ts=>.mk 4 0 [t,zfA ts]
theorem zjS {ps:List Ty} (h:ps.length=0):zfA ps=.mk 0 0 []:=by rw[List.length_eq_zero_iff.1 h];rfl
theorem zfV {ps:List Ty} {p:Ty} (h:ps.length=1) (hp:ps[0]?=some p):zfA ps=p:=by
  match ps,h,hp with
  | [t],_,hp=>simp at hp;rw[← hp];rfl
theorem zfd {ps:List Ty} {p:Ty} (h:2≤ps.length) (hp:ps[0]?=some p):zfA ps=.mk 4 0 [p,zfA (ps.drop 1)]:=by
  match ps,h,hp with
  | t::u::ts,_,hp=>simp at hp;rw[← hp];rfl
theorem zjD:∀(n:Nat) (ps:List Ty),ps.length=n→Ty.cntL ps≤1099511627776→APure Tryz.prog 42 [.sl 3 (ps.map Ty.cells)] (.agg (zfA ps).cells):=by
  intro n
  induction n with
  | zero =>
    intro ps hn hc;refine APure.mkL (.cons (Ty.dataSl ps) .nil) (Ty.dataAgg _) ?_;(have h0:((ps.length:Int)==0)=true:=by simp;exact List.length_eq_zero_iff.1 hn);refine zah Tryz.func42 (by kernel_rfl) rfl (by rw[Tryz.ntmps42];simp) (fun hm=>?_);simp only[Tryz.ntmps42,Tryz.results42,zi,zm,Nat.reduceAdd,Nat.reduceSub,zt,zq,zh,zj];refine zab fun Y0 y0=>?_;refine zaa ?_;simp only[↓bO,go_sem,seval,h0];refine y0 _ ?_;(try clear y0 Y0);refine zab fun Y0 y0=>?_;refine zab fun Y1 y1=>?_;refine zaa ?_;simp only[↓bO,go_sem,seval,h0];refine y1 _ ?_;(try clear y1 Y1);refine zav ?_;refine zab fun Y1 y1=>?_;refine zaa ?_;simp only[↓bO,go_sem,seval,h0];refine y1 _ ?_;(try clear y1 Y1);refine zan rfl (fun hb5=>?_) (fun hb5=>?_)
    ·
     refine zab fun Y1 y1=>?_;refine zaa ?_;simp only[↓bO,go_sem,seval,h0];refine y1 _ ?_;(try clear y1 Y1);refine zam ?_;(try simp only[zaf,zad,zac,zaZ,zaW,zaC,bS,bA,zbH,zaJ,zce,bL,Nat.reduceAdd,Nat.reduceLeDiff,Nat.reduceEqDiff,↓reduceIte,zgO,h0]);refine Le.agg ?_;rw[zjS hn,Ty.cells_eq];exact ⟨.refl _,.refl _,Le.slNil 3,trivial⟩
    ·
     cases hb5
  | succ n ih =>
    intro ps hn hc;refine APure.mkL (.cons (Ty.dataSl ps) .nil) (Ty.dataAgg _) ?_;obtain ⟨p,hp⟩:∃p,ps[0]?=some p:=⟨_,zd (by omega)⟩;have hpc:=Ty.cnt_mem (zl hp);(have hlt:(0:Int)<(ps.length:Int):=by omega);(have hle:(1:Int)≤(ps.length:Int):=by omega);(have hdr:(ps.map Ty.cells).drop 1=(ps.drop 1).map Ty.cells:=by rw[List.map_drop]);(have hdc:Ty.cntL (ps.drop 1)≤Ty.cntL ps:=by have h9:=Ty.cntL_append (ps.take 1) (ps.drop 1);rw[List.take_append_drop] at h9;omega);refine zah Tryz.func42 (by kernel_rfl) rfl (by rw[Tryz.ntmps42];simp) (fun hm=>?_);simp only[Tryz.ntmps42,Tryz.results42,zi,zm,Nat.reduceAdd,Nat.reduceSub,zt,zq,zh,zj];refine zab fun Y0 y0=>?_;refine zaa ?_;simp only[↓bO,go_sem,seval,hlt,hle,hdr,gM hp];refine y0 _ ?_;(try clear y0 Y0);refine zab fun Y0 y0=>?_;refine zab fun Y1 y1=>?_;refine zaa ?_;simp only[↓bO,go_sem,seval,hlt,hle,hdr,gM hp];refine y1 _ ?_;(try clear y1 Y1);refine zav ?_;refine zab fun Y1 y1=>?_;refine zaa ?_;simp only[↓bO,go_sem,seval,hlt,hle,hdr,gM hp];refine y1 _ ?_;(try clear y1 Y1);refine zan rfl (fun hb5=>?_) (fun hb5=>?_)
    ·
     exact absurd hb5 (by simp only[AV.v.injEq,Value.bool.injEq,beq_iff_eq];omega)
    ·
     refine zab fun Y1 y1=>?_;refine zaa ?_;simp only[↓bO,go_sem,seval,hlt,hle,hdr,gM hp];refine y1 _ ?_;(try clear y1 Y1);refine zan rfl (fun hb8=>?_) (fun hb8=>?_)
     ·
      (have h1:ps.length=1:=by simp at hb8;omega);refine zab fun Y1 y1=>?_;refine zaa ?_;refine z8 3 fun Q0 q0=>?_;simp only[↓bO,go_sem,seval,hlt,hle,hdr,gM hp];refine q0 _ ?_;clear q0 Q0;simp only[go_sem];refine z8 1 fun Q0 q0=>?_;simp only[↓bO,go_sem,seval,hlt,hle,hdr,gM hp];refine APure.call (zd1 p (by omega)) ?_;(try simp only[bS,bA,zaf,zad,zac]);refine q0 _ ?_;clear q0 Q0;simp only[go_sem];simp only[↓bO,go_sem,seval,hlt,hle,hdr,gM hp];refine y1 _ ?_;(try clear y1 Y1);refine zam ?_;(try simp only[zaf,zad,zac,zaZ,zaW,zaC,bS,bA,zbH,zaJ,zce,bL,Nat.reduceAdd,Nat.reduceLeDiff,Nat.reduceEqDiff,↓reduceIte,zgO,tyX,hlt,hle,hdr,gM hp]);refine Le.agg ?_;first | (rw[zfV h1 hp];exact LeL.refl _) | (rw[zfd h1 hp,Ty.cells];exact ⟨.refl _,.refl _,Le.of_eq (by simp[Ty.cellsL]),trivial⟩)
     ·
      (have h1:2≤ps.length:=by simp at hb8;omega);refine zar ?_;(try simp only[zaf,zad,zac]);refine y0 _ ?_;(try clear y0 Y0);refine zab fun Y0 y0=>?_;refine za8 9 mixed (by kernel_rfl) fun J0 j0=>?_;simp only[go_sem];refine zaD 3 fun Q0 q0=>?_;simp only[↓za1,↓dOp,↓bO,go_sem,seval,hlt,hle,hdr,gM hp];refine q0 _ ?_;clear q0 Q0;simp only[go_sem];refine zaD 1 fun Q0 q0=>?_;simp only[↓za1,↓dOp,↓bO,go_sem,seval,hlt,hle,hdr,gM hp];refine ⟨_,zd1 p (by omega),?_⟩;(try simp only[bS,bA,zaf,zad,zac]);refine q0 _ ?_;clear q0 Q0;simp only[go_sem];refine zaD 2 fun Q0 q0=>?_;simp only[↓za1,↓dOp,↓bO,go_sem,seval,hlt,hle,hdr,gM hp];refine q0 _ ?_;clear q0 Q0;simp only[go_sem];refine zaD 1 fun Q0 q0=>?_;simp only[↓za1,↓dOp,↓bO,go_sem,seval,hlt,hle,hdr,gM hp];refine ⟨_,ih (ps.drop 1) (by simp;omega) (by omega),?_⟩;(try simp only[bS,bA,zaf,zad,zac]);refine q0 _ ?_;clear q0 Q0;simp only[go_sem];simp only[↓za1,↓dOp,↓bO,go_sem,seval,↓bs2_1,↓bs2_2,↓bs2_3,↓bs2_4,↓bs2_5,↓bs2_6,↓bs2_7,↓bs2_8,↓bs2_9,↓bs2_10,↓bs2_11,↓bs2_12,hlt,hle,hdr,gM hp];refine j0 _ ?_;clear j0 J0;simp only[go_sem];simp only[↓bO,go_sem,seval,hlt,hle,hdr,gM hp];refine y0 _ ?_;(try clear y0 Y0);refine zam ?_;(try simp only[zaf,zad,zac,zaZ,zaW,zaC,bS,bA,zbH,zaJ,zce,bL,Nat.reduceAdd,Nat.reduceLeDiff,Nat.reduceEqDiff,↓reduceIte,zgO,tyX,hlt,hle,hdr,gM hp]);refine Le.agg ?_;first | (rw[zfV h1 hp];exact LeL.refl _) | (rw[zfd h1 hp,Ty.cells];exact ⟨.refl _,.refl _,Le.of_eq (by simp[Ty.cellsL]),trivial⟩)
end Go.Proofs.YtpfiliamceimmaaGreatDoor
namespace Go.Proofs.YtpfiliamceimmaaGreatDoor
open Go Go.RowKit
set_option maxRecDepth 100000
set_option maxHeartbeats 4000000
attribute [local irreducible] aops za1
mutual
def Ty.room:Ty→Int→Nat→Int
  | .mk _ _ _,_,0=>-1
  | .mk _ _ ps,n,d+1=>Ty.roomL ps (n-1) d
def Ty.roomL:List Ty→Int→Nat→Int
  | [],n,_=>n
  | p::ps,n,d=>if n<0 then n else Ty.roomL ps (Ty.room p n d) d
end
theorem Ty.room_zero (t:Ty) (n:Int):t.room n 0=-1:=by cases t;simp[Ty.room]
theorem Ty.room_succ (t:Ty) (n:Int) (d:Nat):t.room n (d+1)=Ty.roomL t.ps (n-1) d:=by cases t;simp[Ty.room,Ty.ps]
theorem Ty.roomL_neg:∀(ps:List Ty) {n:Int} {d:Nat},n<0→Ty.roomL ps n d=n
  | [],n,d,h=>by simp[Ty.roomL]
  | p::ps,n,d,h=>by simp[Ty.roomL,h]
theorem Ty.roomL_append:∀(xs bs:List Ty) (n:Int) (d:Nat),Ty.roomL (xs++bs) n d=Ty.roomL bs (Ty.roomL xs n d) d
  | [],bs,n,d=>by simp[Ty.roomL]
  | x::xs,bs,n,d=>by
    simp only[zh,Ty.roomL];split;(· rename_i h;rw[Ty.roomL_neg bs h]);· exact Ty.roomL_append xs bs _ d
theorem Ty.room_le:∀(t:Ty) (n:Int) (d:Nat),0≤n→-1≤t.room n d∧t.room n d≤n-1:=by
  refine Ty.ind fun t ih=>?_
  have key:∀(ps:List Ty),(∀p∈ps,∀(n:Int) (d:Nat),0≤n→-1≤p.room n d∧p.room n d≤n-1)→∀(n:Int) (d:Nat),-1≤n→-1≤Ty.roomL ps n d∧Ty.roomL ps n d≤n:=by
    intro ps
    induction ps with
    | nil=>intro _ n d h;simp[Ty.roomL];exact h
    | cons p ps ihp =>
      intro hp n d h;simp only[Ty.roomL];split;· omega
      · have h1:=hp p (by simp) n d (by omega)
        have h2:=ihp (fun q hq=>hp q (by simp[hq])) (p.room n d) d h1.1;omega
  intro n d h
  cases d with
  | zero=>rw[Ty.room_zero];omega
  | succ d =>
    rw[Ty.room_succ];have:=key t.ps ih (n-1) d (by omega);omega
theorem Ty.roomL_le (ps:List Ty) (n:Int) (d:Nat) (h:-1≤n):-1≤Ty.roomL ps n d∧Ty.roomL ps n d≤n:=by
  have:=Ty.room_le (.mk 0 0 ps) (n+1) (d+1) (by omega);rw[Ty.room_succ] at this;simp only[Ty.ps] at this;rw[show n+1-1=n by omega] at this;exact this
theorem Ty.roomL_step {ps:List Ty} {s:Nat} {p:Ty} (hp:ps[s]?=some p) (n:Int) (d:Nat) (h:0≤Ty.roomL (ps.take s) n d):Ty.roomL (ps.take (s+1)) n d=p.room (Ty.roomL (ps.take s) n d) d:=by
  rw[List.take_add_one,hp,Ty.roomL_append];simp only[Option.toList_some,Ty.roomL];rw[if_neg (by omega)]
theorem Ty.roomL_stop (ps:List Ty) (s:Nat) (n:Int) (d:Nat) (h:Ty.roomL (ps.take s) n d<0):Ty.roomL ps n d=Ty.roomL (ps.take s) n d:=by
  conv=>lhs;rw[← List.take_append_drop s ps]
  rw[Ty.roomL_append,Ty.roomL_neg _ h]
def addW (a b:Int):Int:=IntKind.i64.wrap (a+b)
mutual
def Ty.sizeW:Ty→Int
  | .mk _ _ ps=>Ty.sizeWL 1 ps
def Ty.sizeWL:Int→List Ty→Int
  | a,[]=>a
  | a,p::ps=>Ty.sizeWL (addW a (Ty.sizeW p)) ps
end
theorem Ty.sizeW_eq (t:Ty):t.sizeW=Ty.sizeWL 1 t.ps:=by cases t;simp[Ty.sizeW,Ty.ps]
theorem Ty.sizeWL_append:∀(a:Int) (ps qs:List Ty),Ty.sizeWL a (ps++qs)=Ty.sizeWL (Ty.sizeWL a ps) qs
  | a,[],qs=>by simp[Ty.sizeWL]
  | a,p::ps,qs=>by simp[Ty.sizeWL,Ty.sizeWL_append _ ps qs]
theorem Ty.sizeWL_step {ps:List Ty} {s:Nat} {p:Ty} (hp:ps[s]?=some p) (a:Int):Ty.sizeWL a (ps.take (s+1))=addW (Ty.sizeWL a (ps.take s)) p.sizeW:=by
  rw[List.take_add_one,hp,Ty.sizeWL_append];simp[Ty.sizeWL]
theorem Size_pure:∀(T:Ty),APure Tryz.prog 18 [.agg T.cells] (.v (.int .i64 T.sizeW)):=by
  refine Ty.ind fun T ih=>?_;refine APure.mkL (.cons T.dataAgg .nil) (.v _) ?_;refine zah Tryz.func18 (by kernel_rfl) rfl (by rw[Tryz.ntmps18];simp) (fun hm=>?_);simp only[Tryz.ntmps18,Tryz.results18,zi,zm,Nat.reduceAdd,Nat.reduceSub,zt,zq,zh,zj];have hm1:=hm.wide (t:=T) (by simp);(iterate 2 (refine zab fun Y0 y0=>?_;refine zaa ?_;simp only[↓bO,go_sem,seval];refine y0 _ ?_;(try clear y0 Y0)));refine zab fun Y0 y0=>?_;refine zab fun Y1 y1=>?_;refine zaa ?_;simp only[↓bO,go_sem,seval];refine y1 _ ?_;(try clear y1 Y1);refine zav ?_;refine zaS (σ:=Nat) (mB 21 26) (fun s=>s≤T.ps.length) (fun s=>[(3,.v (.int .i64 (Ty.sizeWL 1 (T.ps.take s)))),(4,.v (.int .i64 (s:Int)))]) (fun s=>[]) (fun s=>T.ps.length-s) 0 (by omega) ?_ (fun s hs=>?_)
  ·
   simp only[zaA,zaB,zaq,zaz,mB,zc,zb,seval,bL,Ty.sizeWL];exact zcm
  simp only[zaA,zaB,zaq,zaz,mB,zc,zb,seval];refine zab fun Y1 y1=>?_;refine zab fun Y2 y2=>?_;refine zaa ?_;refine z8 4 fun Q0 q0=>?_;simp only[↓bO,go_sem,seval];refine q0 _ ?_;clear q0 Q0;simp only[go_sem];simp only[↓bO,go_sem,seval];refine y2 _ ?_;(try clear y2 Y2);refine zan rfl (fun hb9=>?_) (fun hb9=>?_)
  ·
   (have hk:s<T.ps.length:=by simpa using hb9);obtain ⟨p,hp⟩:∃p,T.ps[s]?=some p:=⟨_,zd hk⟩;have hw:IntKind.i64.wrap ((s:Int)+1)=(s:Int)+1:=zaT (by omega) (by have:=hm1.len;simp only[maxLen] at this;omega);refine zar ?_;(try simp only[zaf,zad,zac]);refine y1 _ ?_;(try clear y1 Y1);refine zab fun Y1 y1=>?_;refine zav ?_;refine zaa ?_;refine z8 4 fun Q0 q0=>?_;simp only[↓bO,go_sem,seval,hk,gM hp,za,hw,Ty.sizeWL_step hp,addW];refine q0 _ ?_;clear q0 Q0;simp only[go_sem];refine z8 2 fun Q0 q0=>?_;simp only[↓bO,go_sem,seval,hk,gM hp,za,hw,Ty.sizeWL_step hp,addW];refine q0 _ ?_;clear q0 Q0;simp only[go_sem];refine z8 1 fun Q0 q0=>?_;simp only[↓bO,go_sem,seval,hk,gM hp,za,hw,Ty.sizeWL_step hp,addW];refine APure.call (ih p (zl hp)) ?_;(try simp only[bS,bA,zaf,zad,zac]);refine q0 _ ?_;clear q0 Q0;simp only[go_sem];simp only[↓bO,go_sem,seval,hk,gM hp,za,hw,Ty.sizeWL_step hp,addW];refine y1 _ ?_;(try clear y1 Y1);refine zaa ?_;simp only[↓bO,go_sem,seval,hk,gM hp,za,hw,Ty.sizeWL_step hp,addW];refine ⟨(s+1),(by omega),by omega,?_⟩;simp only[zaA,zaB,zaq,zaz,mB,zc,zb,seval,hk,gM hp,za,zL,hw,Ty.sizeWL_step hp,addW];exact zcm
  ·
   (have hk:s=T.ps.length:=by simp at hb9;omega);refine zaV ?_;simp only[zaf,zad,zac,bA,Nat.reduceEqDiff,↓reduceIte];refine y0 _ ?_;(try clear y0 Y0);refine zab fun Y0 y0=>?_;refine zaa ?_;simp only[↓bO,go_sem,seval];refine y0 _ ?_;(try clear y0 Y0);refine zam ?_;(try simp only[zaf,zad,zac,zaZ,zaW,zaC,bS,bA]);refine Le.of_eq (congrArg (fun n=>AV.v (.int .i64 n)) ?_);rw[Ty.sizeW_eq,hk,z6]
theorem room_pure:∀(T:Ty) (n:Int) (d:Nat) (hn:0≤n) (hn2:n≤1099511627776) (hd:d≤1099511627776),APure Tryz.prog 63 [.agg T.cells,.v (.int .i64 n),.v (.int .i64 d)] (.v (.int .i64 (T.room n d))):=by
  refine Ty.ind fun T ih=>?_;intro n d hn hn2 hd;refine APure.mkL (.cons T.dataAgg (.cons (.v _) (.cons (.v _) .nil))) (.v _) ?_;refine zah Tryz.func63 (by kernel_rfl) rfl (by rw[Tryz.ntmps63];simp) (fun hm=>?_);simp only[Tryz.ntmps63,Tryz.results63,zi,zm,Nat.reduceAdd,Nat.reduceSub,zt,zq,zh,zj];have hm1:=hm.wide (t:=T) (by simp);have hw1:IntKind.i64.wrap (n-1)=n-1:=zaT (by omega) (by omega);(iterate 2 (refine zab fun Y0 y0=>?_;refine zaa ?_;simp only[↓bO,go_sem,seval,hw1];refine y0 _ ?_;(try clear y0 Y0)));refine zab fun Y0 y0=>?_;refine zab fun Y1 y1=>?_;refine zaa ?_;simp only[↓bO,go_sem,seval,hw1];refine y1 _ ?_;(try clear y1 Y1);refine zan rfl (fun hb11=>?_) (fun hb11=>?_)
  ·
   (have hd0:d=0:=by simpa using hb11);refine zab fun Y1 y1=>?_;refine zaa ?_;simp only[↓bO,go_sem,seval,hw1];refine y1 _ ?_;(try clear y1 Y1);refine zam ?_;(try simp only[zaf,zad,zac,zaZ,zaW,zaC,bS,bA]);refine Le.of_eq (congrArg (fun n=>AV.v (.int .i64 n)) ?_);(first | (rw[hd0,Ty.room_zero];done) | skip);all_goals (rw[Ty.room_succ];simp only[zQ] at hb20;rcases zO s T.ps.length with h5 | h5 <;> first | (rw[List.take_of_length_le h5];done) | (rw[Ty.roomL_stop T.ps s _ _ (by omega)];done))
  ·
   obtain ⟨e,rfl⟩:∃e,d=e+1:=⟨d-1,by simp at hb11;omega⟩;(have hw2:IntKind.i64.wrap ((e:Int)+1-1)=(e:Int):=by rw[zaT (by omega) (by omega)];omega);refine zar ?_;(try simp only[zaf,zad,zac]);refine y0 _ ?_;(try clear y0 Y0);refine zab fun Y0 y0=>?_;refine zab fun Y1 y1=>?_;refine zaa ?_;simp only[↓bO,go_sem,seval,hw1];refine y1 _ ?_;(try clear y1 Y1);refine zav ?_;refine zaS (σ:=Nat) (mB 33 142) (fun s=>s≤T.ps.length) (fun s=>[(1,.v (.int .i64 (Ty.roomL (T.ps.take s) (n-1) e))),(7,.v (.int .i64 (s:Int)))]) (fun s=>[]) (fun s=>T.ps.length-s) 0 (by omega) ?_ (fun s hs=>?_)
   ·
    simp only[zaA,zaB,zaq,zaz,mB,zc,zb,seval,bL,Ty.roomL];exact zcm
   simp only[zaA,zaB,zaq,zaz,mB,zc,zb,seval];refine zab fun Y1 y1=>?_;refine zdU (mB 33 1048718) ([(20,.v (.bool (decide (s<T.ps.length∧0≤Ty.roomL (T.ps.take s) (n-1) e))))]) ([]) ?_ ?_
   ·
    refine zaa ?_;refine z8 4 fun Q0 q0=>?_;simp only[↓bO,go_sem,seval,hw1];refine q0 _ ?_;clear q0 Q0;simp only[go_sem];refine z8 2 fun Q0 q0=>?_;simp only[↓bO,go_sem,seval,hw1];refine q0 _ ?_;clear q0 Q0;simp only[go_sem];refine zaN 17 rfl (fun hc17=>?_) (fun hc17=>?_)
    ·
     simp only[zc,zb];simp only[↓bO,go_sem,seval,hw1];(try simp only[zaA,zaB,zaq,zaz,mB,zc,zb,seval]);refine Weak.mk ?_ (fun _ _ h=>h) rfl rfl;simp only[go_sem,Le.refl,Le.any];all_goals (refine Le.of_eq (congrArg (fun b=>AV.v (.bool b)) ?_);rw[Bool.eq_iff_iff];simp only[zA,zQ,ge_iff_le,zV,false_iff,Int.ofNat_lt] at *;omega)
    ·
     simp only[zc,zb];simp only[↓bO,go_sem,seval,hw1];(try simp only[zaA,zaB,zaq,zaz,mB,zc,zb,seval]);refine Weak.mk ?_ (fun _ _ h=>h) rfl rfl;simp only[go_sem,Le.refl,Le.any];all_goals (refine Le.of_eq (congrArg (fun b=>AV.v (.bool b)) ?_);rw[Bool.eq_iff_iff];simp only[zA,zQ,ge_iff_le,zV,false_iff,Int.ofNat_lt] at *;omega)
   simp only[zaA,zaB,zaq,zaz,mB,zc,zb,seval];refine zan rfl (fun hb20=>?_) (fun hb20=>?_)
   ·
    (have hk:s<T.ps.length:=by simp only[zA] at hb20;exact hb20.1);obtain ⟨p,hp⟩:∃p,T.ps[s]?=some p:=⟨_,zd hk⟩;have hw:IntKind.i64.wrap ((s:Int)+1)=(s:Int)+1:=zaT (by omega) (by have:=hm1.len;simp only[maxLen] at this;omega);(have hrm:0≤Ty.roomL (T.ps.take s) (n-1) e:=by simp only[zA] at hb20;exact hb20.2);have hrl:=Ty.roomL_le (T.ps.take s) (n-1) e (by omega);refine zar ?_;(try simp only[zaf,zad,zac]);refine y1 _ ?_;(try clear y1 Y1);refine zab fun Y1 y1=>?_;refine zav ?_;refine zaa ?_;(iterate 2 (refine z8 4 fun Q0 q0=>?_;simp only[↓bO,go_sem,seval,hw1,hk,gM hp,za,hw,Ty.roomL_step hp (n-1) e hrm,hw2];refine q0 _ ?_;clear q0 Q0;simp only[go_sem]));refine z8 1 fun Q0 q0=>?_;simp only[↓bO,go_sem,seval,hw1,hk,gM hp,za,hw,Ty.roomL_step hp (n-1) e hrm,hw2];refine APure.call (ih p (zl hp) _ e hrm (by omega) (by omega)) ?_;(try simp only[bS,bA,zaf,zad,zac]);refine q0 _ ?_;clear q0 Q0;simp only[go_sem];simp only[↓bO,go_sem,seval,hw1,hk,gM hp,za,hw,Ty.roomL_step hp (n-1) e hrm,hw2];refine y1 _ ?_;(try clear y1 Y1);refine zaa ?_;simp only[↓bO,go_sem,seval,hw1,hk,gM hp,za,hw,Ty.roomL_step hp (n-1) e hrm,hw2];refine ⟨(s+1),(by omega),by omega,?_⟩;simp only[zaA,zaB,zaq,zaz,mB,zc,zb,seval,hk,gM hp,za,zL,hw,Ty.roomL_step hp (n-1) e hrm,hw2];exact zcm
   ·
    refine zaV ?_;simp only[zaf,zad,zac,bA,Nat.reduceEqDiff,↓reduceIte];refine y0 _ ?_;(try clear y0 Y0);refine zab fun Y0 y0=>?_;refine zaa ?_;simp only[↓bO,go_sem,seval,hw1];refine y0 _ ?_;(try clear y0 Y0);refine zam ?_;(try simp only[zaf,zad,zac,zaZ,zaW,zaC,bS,bA]);refine Le.of_eq (congrArg (fun n=>AV.v (.int .i64 n)) ?_);(first | (rw[hd0,Ty.room_zero];done) | skip);all_goals (rw[Ty.room_succ];simp only[zQ] at hb20;rcases zO s T.ps.length with h5 | h5 <;> first | (rw[List.take_of_length_le h5];done) | (rw[Ty.roomL_stop T.ps s _ _ (by omega)];done))
end Go.Proofs.YtpfiliamceimmaaGreatDoor
namespace Go.Proofs.YtpfiliamceimmaaGreatDoor
open Go Go.RowKit
set_option maxRecDepth 100000
set_option maxHeartbeats 4000000
attribute [local irreducible] aops za1
abbrev intC (x:Int):List AV:=[.v (.int .i64 x)]
theorem za6 (l:List Int):Data (.sl 1 (l.map intC)):=.sl fun x hx=>by
  obtain ⟨y,_,rfl⟩:=zC.1 hx;exact .cons (.v _) .nil
theorem ints_one (l:List Int):((l.map intC).all fun y=>y.all AV.one)=true:=by
  rw[List.all_eq_true];intro y hy;obtain ⟨r,_,rfl⟩:=zC.1 hy;rfl
structure RNode where
  t:Ty
  parts:List Int
def RNode.cells (r:RNode):List AV:=[.v (.int .i64 r.t.k),.v (.int .i64 r.t.n),.sl 3 (r.t.ps.map Ty.cells),.sl 1 (r.parts.map intC)]
theorem Ty.refold (t:Ty):AV.agg [.v (.int .i64 t.k),.v (.int .i64 t.n),.sl 3 (t.ps.map Ty.cells)]=.agg t.cells:=by rw[t.cells_eq]
theorem RNode.data (r:RNode):DataL r.cells:=.cons (.v _) (.cons (.v _) (.cons (Ty.dataSl _) (.cons (za6 _) .nil)))
theorem RNode.dataSl (g:List RNode):Data (.sl 4 (g.map RNode.cells)):=.sl fun x hx=>by
  obtain ⟨y,_,rfl⟩:=zC.1 hx;exact y.data
def RNode.isVar (n:Int) (r:RNode):Bool:=r.t.k==1&&r.t.n==n
mutual
def Ty.radd:Ty→List RNode→List RNode×Int
  | .mk k n ps,g =>
    if k=1∧0≤zbK (RNode.isVar n) g then (g,zbK (RNode.isVar n) g)
    else
      let r:=Ty.raddL ps g []
      (r.1++[⟨.mk k n ps,r.2⟩],(r.1.length:Int))
def Ty.raddL:List Ty→List RNode→List Int→List RNode×List Int
  | [],g,l=>(g,l)
  | p::ps,g,l =>
    let r:=Ty.radd p g
    Ty.raddL ps r.1 (l++[r.2])
end
theorem Ty.radd_eq (t:Ty) (g:List RNode):t.radd g=if t.k=1∧0≤zbK (RNode.isVar t.n) g then (g,zbK (RNode.isVar t.n) g) else ((Ty.raddL t.ps g []).1++[⟨t,(Ty.raddL t.ps g []).2⟩],((Ty.raddL t.ps g []).1.length:Int)):=by
  cases t;rw[Ty.radd];rfl
end Go.Proofs.YtpfiliamceimmaaGreatDoor
namespace Go.Proofs.YtpfiliamceimmaaGreatDoor
open Go Go.RowKit
set_option maxRecDepth 100000
set_option maxHeartbeats 4000000
attribute [local irreducible] aops za1
def eqLF {α:Type} (f:α→α→Bool):List α→List α→Bool
  | [],[]=>true
  | p::ps,q::qs=>f p q&&eqLF f ps qs
  | _,_=>false
theorem zhp:∀ps qs:List Ty,Ty.sameL ps qs=eqLF Ty.same ps qs
  | [],[]=>by simp[Ty.sameL,eqLF]
  | [],_::_=>by simp[Ty.sameL,eqLF]
  | _::_,[]=>by simp[Ty.sameL,eqLF]
  | p::ps,q::qs=>by simp[Ty.sameL,eqLF,zhp ps qs]
def addV (l:List Int) (n:Int):List Int:=if l.any (fun x=>x==n) then l else l++[n]
mutual
def Ty.rvars:Ty→List Int→List Int
  | .mk k n ps,l=>Ty.rvarsL ps (if k=1 then addV l n else l)
def Ty.rvarsL:List Ty→List Int→List Int
  | [],l=>l
  | p::ps,l=>Ty.rvarsL ps (Ty.rvars p l)
end
theorem Ty.rvars_eq (t:Ty) (l:List Int):t.rvars l=Ty.rvarsL t.ps (if t.k=1 then addV l t.n else l):=by cases t;rw[Ty.rvars];rfl
structure Bd where
  v:Int
  t:Ty
def Bd.cells (b:Bd):List AV:=.v (.int .i64 b.v)::b.t.cells
theorem Bd.cells_eq (b:Bd):b.cells=[.v (.int .i64 b.v),.v (.int .i64 b.t.k),.v (.int .i64 b.t.n),.sl 3 (b.t.ps.map Ty.cells)]:=by rw[Bd.cells,Ty.cells_eq]
theorem Bd.cells_len (b:Bd):b.cells.length=4:=by rw[b.cells_eq];rfl
theorem Bd.data (b:Bd):DataL b.cells:=.cons (.v _) b.t.data
theorem Bd.dataSl (l:List Bd):Data (.sl 4 (l.map Bd.cells)):=.sl fun x hx=>by
  obtain ⟨y,_,rfl⟩:=zC.1 hx;exact y.data
theorem Bd.take1 (b:Bd):b.cells.take 1=[.v (.int .i64 b.v)]:=by rw[b.cells_eq];rfl
theorem Bd.drop1 (b:Bd):b.cells.drop 1=b.t.cells:=rfl
theorem Bd.one (b:Bd):b.cells.all AV.one=true:=by rw[b.cells_eq];rfl
def zfJ (l:List Bd) (n:Int):Int:=zbK (fun b=>b.v==n) l
mutual
/-- what a substitution makes of a type -/
def Ty.sub (l:List Bd):Ty→Ty
  | .mk k n ps=>if k=1∧0≤zfJ l n then ((l[(zfJ l n).toNat]?).map Bd.t).getD (.mk 0 0 []) else .mk k n (Ty.subL l ps)
def Ty.subL (l:List Bd):List Ty→List Ty
  | []=>[]
  | p::ps=>Ty.sub l p::Ty.subL l ps
end
theorem Ty.subL_eq (l:List Bd):∀ps,Ty.subL l ps=ps.map (Ty.sub l)
  | []=>by simp[Ty.subL]
  | p::ps=>by simp[Ty.subL,Ty.subL_eq l ps]
theorem Ty.sub_no {l:List Bd} {t:Ty} (h:¬(t.k=1∧0≤zfJ l t.n)):t.sub l=.mk t.k t.n (t.ps.map (Ty.sub l)):=by
  obtain ⟨k,n,ps⟩:=t;have h:¬(k=1∧0≤zfJ l n):=h;rw[Ty.sub,if_neg h,Ty.subL_eq];rfl
end Go.Proofs.YtpfiliamceimmaaGreatDoor
namespace Go.Proofs.YtpfiliamceimmaaGreatDoor
open Go Go.RowKit
theorem Ty.k_mk (k n:Int) (ps:List Ty):(Ty.mk k n ps).k=k:=rfl
theorem Ty.n_mk (k n:Int) (ps:List Ty):(Ty.mk k n ps).n=n:=rfl
theorem Ty.ps_mk (k n:Int) (ps:List Ty):(Ty.mk k n ps).ps=ps:=rfl
theorem okN_one {n:Int} {len:Nat} (h:okN 1 n len=true):0≤n∧n<1073741824∧len=0:=by
  simp only[okN,zA] at h;omega
theorem okN_more {k n:Int} {len:Nat} (h:okN k n len=true) (hk:¬k=1):n=0:=by
  simp only[okN,zA] at h;omega
theorem Ty.right_part {t p:Ty} (h:t.right=true) (hp:p∈t.ps):p.right=true:=by
  rw[Ty.right_eq,zF] at h;exact List.all_eq_true.1 h.2 p hp
theorem Ty.right_var {t:Ty} (h:t.right=true) (hk:t.k=1):t=.mk 1 t.n []:=by
  obtain ⟨k,n,ps⟩:=t;have hk:k=1:=hk;subst hk;rw[Ty.right_eq,zF] at h;have:=(okN_one h.1).2.2;simp only[Ty.ps,List.length_eq_zero_iff] at this;simp[Ty.n,this]
theorem Ty.right_n {t:Ty} (h:t.right=true) (hk:¬t.k=1):t.n=0:=by
  rw[Ty.right_eq,zF] at h;exact okN_more h.1 hk
theorem ziO {α:Type} {f:α→α→Bool}:∀{ps qs:List α},(∀p∈ps,∀q,f p q=true↔p=q)→(eqLF f ps qs=true↔ps=qs)
  | [],[],_=>by simp[eqLF]
  | [],_::_,_=>by simp[eqLF]
  | _::_,[],_=>by simp[eqLF]
  | p::ps,q::qs,h=>by
    simp only[eqLF,zF,List.cons.injEq];rw[h p (by simp) q,ziO fun p' hp q'=>h p' (by simp[hp]) q']
theorem Ty.same_iff:∀T U:Ty,T.same U=true↔T=U:=by
  (refine Ty.ind fun T ih=>fun U=>?_);rw[Ty.same_eq,zhp,zF,zF,ziO ih];obtain ⟨k,n,ps⟩:=T;obtain ⟨k',n',ps'⟩:=U;simp only[Ty.k,Ty.n,Ty.ps,beq_iff_eq,Ty.mk.injEq];exact ⟨fun h=>⟨h.1.1,h.1.2,h.2⟩,fun h=>⟨⟨h.1,h.2.1⟩,h.2.2⟩⟩
def zcy {α:Type}:List (Int×α)→Int→Option α
  | [],_=>none
  | (k,x)::r,i=>if k=i then some x else zcy r i
def zfD {α:Type}:List (Int×α)→Int→α→List (Int×α)
  | [],k,x=>[(k,x)]
  | (k',y)::r,k,x=>if k'=k then (k,x)::r else (k',y)::zfD r k x
theorem zfR {α:Type} (k:Int) (x:α) (i:Int):∀m:List (Int×α),zcy (zfD m k x) i=if k=i then some x else zcy m i
  | []=>by simp[zfD,zcy]
  | (a,b)::m=>by
    simp only[zfD];split;· rename_i e;subst e;simp only[zcy];split <;> rfl
    · rename_i e
      simp only[zcy,zfR k x i m]
      by_cases h1:k=i
      (· subst h1;simp[e]);· simp[h1]
theorem zgm {α:Type} (f:α→AV) (i:Int):∀m:List (Int×α),zbU (m.map fun p=>(p.1,f p.2)) i=(zcy m i).map f
  | []=>rfl
  | (a,b)::m=>by simp only[zI,zbU,zcy];split <;> simp[zgm f i m]
theorem aSet_p {α:Type} (f:α→AV) (k:Int) (x:α):∀m:List (Int×α),zdR (m.map fun p=>(p.1,f p.2)) k (f x)=(zfD m k x).map fun p=>(p.1,f p.2)
  | []=>rfl
  | (a,b)::m=>by simp only[zI,zdR,zfD];split <;> simp[aSet_p f k x m]
def Ty.occ (v:Int) (t:Ty):Prop:=v∈t.rvars []
theorem ziP {l:List Int} {n v:Int}:v∈addV l n↔v∈l∨v=n:=by
  unfold addV;split
  · rename_i h
    obtain ⟨x,hx,e⟩:=List.any_eq_true.1 h;simp only[beq_iff_eq] at e;subst e;exact ⟨.inl,fun h=>h.elim id fun h=>h▸hx⟩
  · simp
theorem Ty.mem_rvars (v:Int):∀(t:Ty) (l:List Int),v∈t.rvars l↔v∈l∨t.occ v:=by
  have key:∀t:Ty,(∀p∈t.ps,∀l:List Int,v∈p.rvars l↔v∈l∨p.occ v)→∀l,v∈t.rvars l↔v∈l∨(t.k=1∧v=t.n)∨∃p∈t.ps,p.occ v:=by
    intro t ih l
    have hL:∀ps:List Ty,(∀p∈ps,∀l:List Int,v∈p.rvars l↔v∈l∨p.occ v)→∀l:List Int,v∈Ty.rvarsL ps l↔v∈l∨∃p∈ps,p.occ v:=by
      intro ps
      induction ps with
      | nil=>intro _ l;simp[Ty.rvarsL]
      | cons p ps ih2 =>
        intro h l;rw[Ty.rvarsL,ih2 (fun q hq=>h q (by simp[hq])),h p (by simp)];simp only[zM,exists_eq_or_imp,or_assoc]
    rw[Ty.rvars_eq,hL t.ps ih];split;(· rename_i hk;simp only[ziP,hk,true_and,or_assoc]);· rename_i hk;simp only[hk,false_and,false_or]
  refine Ty.ind fun t ih l=>?_;have h1:=key t ih l;have h2:=key t ih [];unfold Ty.occ;rw[h1,h2];simp
theorem Ty.occ_iff (v:Int) (t:Ty):t.occ v↔(t.k=1∧v=t.n)∨∃p∈t.ps,p.occ v:=by
  have hL:∀(ps:List Ty) (l:List Int),v∈Ty.rvarsL ps l↔v∈l∨∃p∈ps,p.occ v:=by
    intro ps
    induction ps with
    | nil=>intro l;simp[Ty.rvarsL]
    | cons p ps ih2 =>
      intro l;rw[Ty.rvarsL,ih2,Ty.mem_rvars];simp only[zM,exists_eq_or_imp,or_assoc]
  rw[Ty.occ,Ty.rvars_eq,hL];split;(· rename_i hk;simp[ziP,hk]);· rename_i hk;simp[hk]
mutual
/-- what a function of variables makes of a type -/
def Ty.subF (σ:Int→Ty):Ty→Ty
  | .mk k n ps=>if k=1 then σ n else .mk k n (Ty.subFL σ ps)
def Ty.subFL (σ:Int→Ty):List Ty→List Ty
  | []=>[]
  | p::ps=>Ty.subF σ p::Ty.subFL σ ps
end
theorem Ty.subFL_eq (σ:Int→Ty):∀ps,Ty.subFL σ ps=ps.map (Ty.subF σ)
  | []=>by simp[Ty.subFL]
  | p::ps=>by simp[Ty.subFL,Ty.subFL_eq σ ps]
theorem Ty.subF_var {σ:Int→Ty} {t:Ty} (h:t.k=1):t.subF σ=σ t.n:=by
  obtain ⟨k,n,ps⟩:=t;have h:k=1:=h;rw[Ty.subF,if_pos h];rfl
theorem Ty.subF_more {σ:Int→Ty} {t:Ty} (h:¬t.k=1):t.subF σ=.mk t.k t.n (t.ps.map (Ty.subF σ)):=by
  obtain ⟨k,n,ps⟩:=t;have h:¬k=1:=h;rw[Ty.subF,if_neg h,Ty.subFL_eq];rfl
theorem Ty.subF_congr {σ τ:Int→Ty}:∀t:Ty,(∀v,t.occ v→σ v=τ v)→t.subF σ=t.subF τ:=by
  refine Ty.ind fun t ih h=>?_
  by_cases hk:t.k=1
  · rw[Ty.subF_var hk,Ty.subF_var hk]
    exact h _ ((Ty.occ_iff _ _).2 (.inl ⟨hk,rfl⟩))
  · rw[Ty.subF_more hk,Ty.subF_more hk]
    (congr 1);exact List.map_congr_left fun p hp=>ih p hp fun v hv=>h v ((Ty.occ_iff _ _).2 (.inr ⟨p,hp,hv⟩))
def bfun (l:List Bd) (n:Int):Ty:=if 0≤zfJ l n then ((l[(zfJ l n).toNat]?).map Bd.t).getD (.mk 0 0 []) else .mk 1 n []
theorem Ty.sub_subF (l:List Bd):∀t:Ty,t.right=true→t.sub l=t.subF (bfun l):=by
  refine Ty.ind fun t ih hr=>?_
  by_cases hk:t.k=1
  · have e:=Ty.right_var hr hk
    rw[Ty.subF_var hk]
    conv=>lhs;rw[e]
    simp only[Ty.sub,bfun,true_and,Ty.subL]
  · rw[Ty.subF_more hk,Ty.sub_no fun h=>hk h.1]
    (congr 1);exact List.map_congr_left fun p hp=>ih p hp (Ty.right_part hr hp)
mutual
/-- matching: what is told behind what was -/
def Ty.match:Ty→Ty→List (Int×Ty)→Bool×List (Int×Ty)
  | .mk k n ps,t,m=>if k=1 then (match zcy m n with | none=>(true,zfD m n t) | some x=>(x.same t,m)) else if k=t.k∧ps.length=t.ps.length then Ty.matchL ps t.ps m else (false,m)
def Ty.matchL:List Ty→List Ty→List (Int×Ty)→Bool×List (Int×Ty)
  | p::ps,q::qs,m=>if (Ty.match p q m).1 then Ty.matchL ps qs (Ty.match p q m).2 else (false,(Ty.match p q m).2)
  | [],_,m=>(true,m)
  | _::_,[],m=>(true,m)
end
theorem Ty.subF_k {σ:Int→Ty} {x:Ty} (h:(x.subF σ).k=1):x.k=1:=by
  by_cases hk:x.k=1
  (· exact hk);· rw[Ty.subF_more hk] at h;exact absurd h hk
theorem Ty.back {σ τ:Int→Ty}:∀p:Ty,p.right=true→(p.subF σ).right=true→(p.subF σ).subF τ=p→∀v,p.occ v→σ v=.mk 1 (σ v).n []∧τ (σ v).n=.mk 1 v []:=by
  refine Ty.ind fun p ih hp hr e v hv=>?_
  by_cases hk:p.k=1
  · have e0:=Ty.right_var hp hk
    have ev:v=p.n:=by
      rw[Ty.occ_iff,e0] at hv;simpa [Ty.k,Ty.n,Ty.ps] using hv
    rw[Ty.subF_var hk] at e hr;have hk2:(σ p.n).k=1:=Ty.subF_k (σ:=τ) (by rw[e];exact hk);rw[Ty.subF_var hk2] at e;rw[ev];exact ⟨Ty.right_var hr hk2,by rw[e];exact e0⟩
  · have hv:∃q∈p.ps,q.occ v:=((Ty.occ_iff _ _).1 hv).elim (fun h=>absurd h.1 hk) id
    obtain ⟨q,hq,hv⟩:=hv;rw[Ty.subF_more hk] at e hr;rw[Ty.subF_more (by exact hk)] at e;have e2:(p.ps.map (Ty.subF σ)).map (Ty.subF τ)=p.ps:=congrArg Ty.ps e;rw[List.map_map] at e2
    have e3:(q.subF σ).subF τ=q:=by
      obtain ⟨j,hj,rfl⟩:=zZ.1 hq;have:=congrArg (fun l=>l[j]?) e2;simpa [hj] using this
    exact ih q hq (Ty.right_part hp hq) (Ty.right_part hr (by exact List.mem_map_of_mem hq)) e3 v hv
end Go.Proofs.YtpfiliamceimmaaGreatDoor
namespace Go.Proofs.YtpfiliamceimmaaGreatDoor
open Go Go.RowKit
abbrev vTy (n:Int):Ty:=.mk 1 n []
theorem Ty.subF_subF (σ τ:Int→Ty):∀t:Ty,(t.subF σ).subF τ=t.subF fun v=>(σ v).subF τ:=by
  refine Ty.ind fun t ih=>?_
  by_cases hk:t.k=1
  · rw[Ty.subF_var hk,Ty.subF_var hk]
  · rw[Ty.subF_more hk,Ty.subF_more (σ:=fun v=>(σ v).subF τ) hk,Ty.subF_more (by exact hk)]
    simp only[Ty.k_mk,Ty.n_mk,Ty.ps_mk,List.map_map];(congr 1);exact List.map_congr_left fun p hp=>ih p hp
theorem Ty.subF_fixed {σ:Int→Ty}:∀t:Ty,t.right=true→(∀v,t.occ v→σ v=vTy v)→t.subF σ=t:=by
  refine Ty.ind fun t ih hr h=>?_
  by_cases hk:t.k=1
  · rw[Ty.subF_var hk,h _ ((Ty.occ_iff _ _).2 (.inl ⟨hk,rfl⟩))]
    exact (Ty.right_var hr hk).symm
  · rw[Ty.subF_more hk]
    have e:t.ps.map (Ty.subF σ)=t.ps:=(List.map_congr_left fun p hp=>ih p hp (Ty.right_part hr hp) fun v hv=>h v ((Ty.occ_iff _ _).2 (.inr ⟨p,hp,hv⟩))).trans (List.map_id t.ps);rw[e,Ty.eta]
theorem zi3 {α:Type} {f:α→α}:∀{l:List α},l.map f=l→∀x∈l,f x=x
  | [],_,x,hx=>by cases hx
  | a::l,h,x,hx=>by
    simp only[zI,List.cons.injEq] at h;(rcases zM.1 hx with rfl | hx);(· exact h.1);· exact zi3 h.2 x hx
theorem Ty.fixed_of {σ:Int→Ty}:∀t:Ty,t.right=true→t.subF σ=t→∀v,t.occ v→σ v=vTy v:=by
  refine Ty.ind fun t ih hr h v hv=>?_
  by_cases hk:t.k=1
  · have e:=Ty.right_var hr hk
    rw[Ty.subF_var hk] at h;(rcases (Ty.occ_iff _ _).1 hv with ⟨_,rfl⟩ | ⟨p,hp,_⟩);(· rw[h];exact e);· rw[e] at hp;cases hp
  · rw[Ty.subF_more hk] at h
    have h2:t.ps.map (Ty.subF σ)=t.ps:=by
      have:=congrArg Ty.ps h;simpa [Ty.ps_mk] using this
    (rcases (Ty.occ_iff _ _).1 hv with ⟨h3,_⟩ | ⟨p,hp,hv2⟩);(· exact absurd h3 hk);· exact ih p hp (Ty.right_part hr hp) (zi3 h2 p hp) v hv2
theorem Ty.occ_vTy {v w:Int}:(vTy v).occ w↔w=v:=by
  rw[Ty.occ_iff];simp[vTy,Ty.k,Ty.n,Ty.ps]
theorem Ty.cnt_lt {t p:Ty} (h:p∈t.ps):p.cnt<t.cnt:=by
  rw[t.cnt_eq];have:=Ty.cnt_mem h;omega
def zbm (σ:Int→Ty) (l:List (Ty×Ty)):Prop:=∀e∈l,e.1.subF σ=e.2.subF σ
structure MG (l:List (Ty×Ty)) (σ:Int→Ty):Prop where
  solves:zbm σ l
  most:∀θ:Int→Ty,zbm θ l→∀v,(σ v).subF θ=θ v
structure Norm (L:List Int) (σ:Int→Ty):Prop where
  right:∀v∈L,(σ v).right=true
  out:∀v,v∉L→σ v=vTy v
  fix:∀v∈L,∀u,(σ v).occ u→u∈L∧σ u=vTy u
  least:∀v∈L,∀u,σ v=vTy u→u≤v
theorem zje {t:Ty} (hr:t.right=true) (hk:t.k=1):t=vTy t.n:=Ty.right_var hr hk
theorem Norm.var {L:List Int} {σ τ:Int→Ty} (h:Norm L σ) (k:Norm L τ) (h1:∀v∈L,(σ v).subF τ=τ v) (h2:∀v∈L,(τ v).subF σ=σ v) {u:Int} (hu:u∈L) (e:σ u=vTy u):τ u=vTy u:=by
  have h3:=h2 u hu;rw[e] at h3;have hk:(τ u).k=1:=Ty.subF_k (σ:=σ) (by rw[h3];rfl);have e2:=zje (k.right u hu) hk;obtain ⟨hw,e3⟩:=k.fix u hu (τ u).n (by rw[e2];exact Ty.occ_vTy.2 rfl);rw[e2,Ty.subF_var rfl] at h3;have h5:=h.least _ hw u h3;have h6:=k.least u hu _ e2;(have:(τ u).n=u:=by omega);rw[e2,this]
theorem Norm.unique {L:List Int} {σ τ:Int→Ty} (h:Norm L σ) (k:Norm L τ) (h1:∀v∈L,(σ v).subF τ=τ v) (h2:∀v∈L,(τ v).subF σ=σ v) (v:Int):σ v=τ v:=by
  by_cases hv:v∈L
  · rw[← h1 v hv]
    refine (Ty.subF_fixed (σ v) (h.right v hv) fun u hu=>?_).symm;obtain ⟨h3,h4⟩:=h.fix v hv u hu;exact h.var k h1 h2 h3 h4
  · rw[h.out v hv,k.out v hv]
theorem MG.unique {L:List Int} {l:List (Ty×Ty)} {σ τ:Int→Ty} (h:Norm L σ) (k:Norm L τ) (hs:MG l σ) (ks:MG l τ):σ=τ :=
  funext fun v=>h.unique k (fun v _=>hs.most τ ks.solves v) (fun v _=>ks.most σ hs.solves v) v
structure Raw (L:List Int) (l:List (Ty×Ty)) (o:Int→Ty):Prop where
  right:∀v∈L,(o v).right=true
  out:∀v,v∉L→o v=vTy v
  rng:∀v∈L,∀u,(o v).occ u→u∈L
  idem:∀v∈L,(o v).subF o=o v
  mg:MG l o
def firstV (L:List Int) (o:Int→Ty) (w:Int):Ty:=match L.find? fun v=>(o v).same (vTy w) with
  | some v=>vTy v
  | none=>vTy w
theorem Raw.told {L:List Int} {l:List (Ty×Ty)} {o σ:Int→Ty} (h:Raw L l o) (k:Norm L σ) (ks:MG l σ) (hL:L.Pairwise (· < ·)) {v:Int} (hv:v∈L):(o v).subF (firstV L o)=σ v:=by
  rw[← h.mg.most σ ks.solves v];refine Ty.subF_congr _ fun w hw=>?_;have hwL:=h.rng v hv w hw;have how:o w=vTy w:=Ty.fixed_of _ (h.right v hv) (h.idem v hv) w hw;have h1:=ks.most o h.mg.solves w;rw[how] at h1;have hk:(σ w).k=1:=Ty.subF_k (σ:=o) (by rw[h1];rfl);have e2:=zje (k.right w hwL) hk;obtain ⟨huL,hu⟩:=k.fix w hwL (σ w).n (by rw[e2];exact Ty.occ_vTy.2 rfl);rw[e2,Ty.subF_var rfl] at h1;unfold firstV
  cases hf:L.find? fun v=>(o v).same (vTy w) with
  | none =>
    have:=List.find?_eq_none.1 hf w hwL
    exact absurd ((Ty.same_iff _ _).2 how) this
  | some x =>
    (simp only);have hx:=List.find?_some hf;have hxL:=List.mem_of_find?_eq_some hf;have hx2:=(Ty.same_iff _ _).1 hx
    have h3:σ x=σ w:=by
      have h4:=h.mg.most σ ks.solves x;rw[hx2,Ty.subF_var rfl] at h4;exact h4.symm
    have h5:(σ w).n≤x:=k.least x hxL _ (by rw[h3];exact e2)
    have h6:¬(σ w).n<x:=fun hlt=>by
      obtain ⟨a,b,e3⟩:∃a b,L=a++x::b∧∀y∈a,¬(o y).same (vTy w)=true:=by
        obtain ⟨_,a,b,e3,e4⟩:=List.find?_eq_some_iff_append.1 hf;exact ⟨a,b,e3,fun y hy=>by simpa using e4 y hy⟩
      have hin:(σ w).n∈a:=by
        have h7:=huL;rw[e3.1] at h7 hL;(rcases zG.1 h7 with h8 | h8);· exact h8
        · exfalso
          have h9:=(List.pairwise_append.1 hL).2.1;(rcases zM.1 h8 with h8 | h8);· omega
          · have:=(List.pairwise_cons.1 h9).1 _ h8
            omega
      exact e3.2 _ hin ((Ty.same_iff _ _).2 h1)
    (have:(σ w).n=x:=by omega);rw[e2,this]
end Go.Proofs.YtpfiliamceimmaaGreatDoor
namespace Go.Proofs.YtpfiliamceimmaaGreatDoor
open Go Go.RowKit
theorem Ty.subF_right {σ:Int→Ty}:∀t:Ty,t.right=true→(∀v,t.occ v→(σ v).right=true)→(t.subF σ).right=true:=by
  refine Ty.ind fun t ih hr h=>?_
  by_cases hk:t.k=1
  · rw[Ty.subF_var hk];exact h _ ((Ty.occ_iff _ _).2 (.inl ⟨hk,rfl⟩))
  · rw[Ty.subF_more hk,Ty.right_eq,zF]
    have hr2:=hr;rw[Ty.right_eq,zF] at hr2;refine ⟨by simp only[Ty.k_mk,Ty.n_mk,Ty.ps_mk,zS];exact hr2.1,List.all_eq_true.2 fun q hq=>?_⟩;obtain ⟨p,hp,rfl⟩:=zC.1 hq;exact ih p hp (Ty.right_part hr hp) fun v hv=>h v ((Ty.occ_iff _ _).2 (.inr ⟨p,hp,hv⟩))
theorem Ty.subF_occ {σ:Int→Ty}:∀(t:Ty) (u:Int),(t.subF σ).occ u→∃v,t.occ v∧(σ v).occ u:=by
  refine Ty.ind fun t ih u h=>?_
  by_cases hk:t.k=1
  · rw[Ty.subF_var hk] at h
    exact ⟨t.n,(Ty.occ_iff _ _).2 (.inl ⟨hk,rfl⟩),h⟩
  · rw[Ty.subF_more hk] at h
    (rcases (Ty.occ_iff _ _).1 h with ⟨h1,_⟩ | ⟨q,hq,h2⟩);· exact absurd h1 hk
    · obtain ⟨p,hp,rfl⟩:=zC.1 hq
      obtain ⟨v,h3,h4⟩:=ih p hp u h2;exact ⟨v,(Ty.occ_iff _ _).2 (.inr ⟨p,hp,h3⟩),h4⟩
theorem Ty.occ_lt {σ:Int→Ty} {v:Int}:∀t:Ty,t.right=true→t.occ v→¬(t.k=1)→(σ v).cnt<(t.subF σ).cnt:=by
  refine Ty.ind fun t ih hr h hk=>?_;(rcases (Ty.occ_iff _ _).1 h with ⟨h1,_⟩ | ⟨p,hp,hv⟩);· exact absurd h1 hk
  · rw[Ty.subF_more hk]
    have h2:(p.subF σ).cnt<(Ty.mk t.k t.n (t.ps.map (Ty.subF σ))).cnt:=Ty.cnt_lt (zC.2 ⟨p,hp,rfl⟩);have hpr:=Ty.right_part hr hp
    by_cases hpk:p.k=1
    · rw[Ty.subF_var hpk] at h2
      rw[Ty.right_var hpr hpk] at hv;rw[Ty.occ_vTy.1 hv];exact h2
    · have:=ih p hp hpr hv hpk
      omega
def OccE (l:List (Ty×Ty)) (v:Int):Prop:=∃e∈l,e.1.occ v∨e.2.occ v
def zdO (l:List (Ty×Ty)):Prop:=∀e∈l,e.1.right=true∧e.2.right=true
theorem bfind_neg {o:List Bd} {v:Int} (h:v∉o.map Bd.v):zfJ o v=-1:=by
  unfold zfJ
  exact zdX fun j q hj hq=>by
    have h1:=zl hq
    cases hb:q.v==v with
    | false=>rfl
    | true=>exact absurd (zC.2 ⟨q,h1,by simpa using hb⟩) h
theorem ziL {o:List Bd} {v:Int} (h:v∉o.map Bd.v):bfun o v=vTy v:=by
  unfold bfun;rw[bfind_neg h,if_neg (by omega)]
theorem bfind_at {o:List Bd} (hn:(o.map Bd.v).Nodup) {i:Nat} {b:Bd} (hb:o[i]?=some b):zfJ o b.v=(i:Int):=by
  unfold zfJ;refine zcI (p:=b) hb (by simp) fun j q hj hq=>?_
  cases hg:q.v==b.v with
  | false=>rfl
  | true =>
    have h1:=List.pairwise_iff_getElem.1 hn j i (by have:=(ze.1 hq).1;simpa using this) (by have:=(ze.1 hb).1;simpa using this) hj;simp only[List.getElem_map] at h1;rw[(ze.1 hq).2,(ze.1 hb).2] at h1;exact absurd (by simpa using hg) h1
theorem bfun_in {o:List Bd} (hn:(o.map Bd.v).Nodup) {b:Bd} (hb:b∈o):bfun o b.v=b.t:=by
  obtain ⟨i,hi⟩:=List.mem_iff_getElem?.1 hb;unfold bfun;rw[bfind_at hn hi,if_pos (by omega),zK,hi];rfl
theorem zgv (n:Int) (b:Ty) (v:Int):bfun [⟨n,b⟩] v=if v=n then b else vTy v:=by
  by_cases h:v=n
  · subst h
    rw[if_pos rfl];exact bfun_in (o:=[⟨v,b⟩]) (by simp) (b:=⟨v,b⟩) (by simp)
  · rw[if_neg h,ziL (by simpa using h)]
theorem zed {n:Int} {b:Ty} {θ:Int→Ty} (hb:b.subF θ=θ n) (t:Ty) (hr:t.right=true):(t.sub [⟨n,b⟩]).subF θ=t.subF θ:=by
  rw[Ty.sub_subF _ _ hr,Ty.subF_subF];refine Ty.subF_congr t fun v _=>?_;rw[zgv]
  by_cases h:v=n
  (· rw[if_pos h,hb,h]);· rw[if_neg h,Ty.subF_var rfl];rfl
theorem Ty.var_right {v:Int}:∀{t:Ty},t.right=true→t.occ v→(vTy v).right=true:=by
  have key:∀t:Ty,t.right=true→t.occ v→(vTy v).right=true:=by
    refine Ty.ind fun t ih hr h=>?_;(rcases (Ty.occ_iff _ _).1 h with ⟨h1,rfl⟩ | ⟨p,hp,hv⟩);(· exact (congrArg Ty.right (Ty.right_var hr h1)).symm.trans hr);· exact ih p hp (Ty.right_part hr hp) hv
  exact fun {t}=>key t
theorem ze2 {n:Int} {b:Ty} (hb:b.right=true) (t:Ty) (hr:t.right=true):(t.sub [⟨n,b⟩]).right=true:=by
  rw[Ty.sub_subF _ _ hr];refine Ty.subF_right t hr fun v hv=>?_;rw[zgv];split;· exact hb
  · rename_i hne
    have h:=Ty.var_right hr hv;exact h
theorem one_occ {n:Int} {b:Ty} (t:Ty) (hr:t.right=true) {u:Int} (h:(t.sub [⟨n,b⟩]).occ u):(t.occ u∧u≠n)∨(t.occ n∧b.occ u):=by
  rw[Ty.sub_subF _ _ hr] at h;obtain ⟨v,h1,h2⟩:=Ty.subF_occ t u h;rw[zgv] at h2
  by_cases he:v=n
  · rw[if_pos he] at h2
    exact .inr ⟨he▸h1,h2⟩
  · rw[if_neg he] at h2
    have:=Ty.occ_vTy.1 h2;subst this;exact .inl ⟨h1,he⟩
structure RInv (l l':List (Ty×Ty)) (o:List Bd):Prop where
  rl:zdO l'
  ro:∀b∈o,b.t.right=true
  nd:(o.map Bd.v).Nodup
  vl:∀v,OccE l' v→OccE l v∧v∉o.map Bd.v
  vo:∀b∈o,OccE l b.v∧∀v,b.t.occ v→OccE l v∧v∉o.map Bd.v
  fwd:∀θ:Int→Ty,zbm θ l→zbm θ l'∧∀b∈o,b.t.subF θ=θ b.v
  bwd:∀θ:Int→Ty,zbm θ l'→(∀b∈o,b.t.subF θ=θ b.v)→zbm θ l
theorem RInv.start {l:List (Ty×Ty)} (h:zdO l):RInv l l [] :=
  ⟨h,by simp,by simp,fun v hv=>⟨hv,by simp⟩,by simp,fun θ hθ=>⟨hθ,by simp⟩,fun θ hθ _=>hθ⟩
section
variable {l l':List (Ty×Ty)} {o:List Bd} {a b:Ty}
theorem RInv.drop (h:RInv l ((a,b)::l') o) (he:a=b):RInv l l' o :=
  ⟨fun e he=>h.rl e (by simp[he]),h.ro,h.nd,fun v ⟨e,he,hv⟩=>h.vl v ⟨e,by simp[he],hv⟩,h.vo,fun θ hθ=>⟨fun e he=>(h.fwd θ hθ).1 e (by simp[he]),(h.fwd θ hθ).2⟩,
    fun θ h1 h2=>h.bwd θ (fun e hm=>by
      (rcases zM.1 hm with rfl | hm);· simp only[he]
      · exact h1 e hm) h2⟩
theorem zgV {ps qs:List Ty} {e:Ty×Ty} (h:e∈ps.zip qs):e.1∈ps∧e.2∈qs:=by
  obtain ⟨x,y⟩:=e;exact ⟨(List.of_mem_zip h).1,(List.of_mem_zip h).2⟩
theorem ziH {θ:Int→Ty}:∀{ps qs:List Ty},ps.length=qs.length→(∀e∈ps.zip qs,e.1.subF θ=e.2.subF θ)→ps.map (Ty.subF θ)=qs.map (Ty.subF θ)
  | [],[],_,_=>rfl
  | p::ps,q::qs,hl,h=>by
    rw[zI,zI,h (p,q) (by simp),ziH (by simpa using hl) fun e he=>h e (by simp[he])]
  | [],_::_,hl,_=>by simp at hl
  | _::_,[],hl,_=>by simp at hl
theorem RInv.split (h:RInv l ((a,b)::l') o) (ha:a.k≠1) (hb:b.k≠1) (hk:a.k=b.k) (hl:a.ps.length=b.ps.length):RInv l (l'++a.ps.zip b.ps) o:=by
  have hab:=h.rl (a,b) (by simp);refine ⟨fun e he=>?_,h.ro,h.nd,fun v ⟨e,he,hv⟩=>?_,h.vo,fun θ hθ=>⟨fun e he=>?_,(h.fwd θ hθ).2⟩,fun θ h1 h2=>h.bwd θ (fun e hm=>?_) h2⟩
  · rcases zG.1 he with he | he
    (· exact h.rl e (by simp[he]));· exact ⟨Ty.right_part hab.1 (zgV he).1,Ty.right_part hab.2 (zgV he).2⟩
  · rcases zG.1 he with he | he
    · exact h.vl v ⟨e,by simp[he],hv⟩
    · refine h.vl v ⟨(a,b),by simp,hv.imp (fun hv=>?_) (fun hv=>?_)⟩
      (· exact (Ty.occ_iff _ _).2 (.inr ⟨_,(zgV he).1,hv⟩));· exact (Ty.occ_iff _ _).2 (.inr ⟨_,(zgV he).2,hv⟩)
  · rcases zG.1 he with he | he
    · exact (h.fwd θ hθ).1 e (by simp[he])
    · have h3:=(h.fwd θ hθ).1 (a,b) (by simp)
      rw[Ty.subF_more ha,Ty.subF_more hb] at h3;have h4:=congrArg Ty.ps h3;simp only[Ty.ps_mk] at h4;obtain ⟨j,hj⟩:=List.mem_iff_getElem?.1 he;obtain ⟨x,y⟩:=e;obtain ⟨h5,h6⟩:=List.getElem?_zip_eq_some.1 hj;have h7:=congrArg (fun l=>l[j]?) h4;simp only[zY,h5,h6,z7,Option.some.injEq] at h7;exact h7
  · rcases zM.1 hm with rfl | hm
    · simp only
      rw[Ty.subF_more ha,Ty.subF_more hb,hk,Ty.right_n hab.1 ha,Ty.right_n hab.2 hb,ziH hl fun e he=>h1 e (by simp[he])]
    · exact h1 e (by simp[hm])
def subE (n:Int) (b:Ty) (l:List (Ty×Ty)):List (Ty×Ty):=l.map fun e=>(e.1.sub [⟨n,b⟩],e.2.sub [⟨n,b⟩])
def subB (n:Int) (b:Ty) (o:List Bd):List Bd:=o.map (fun x=>⟨x.v,x.t.sub [⟨n,b⟩]⟩)++[⟨n,b⟩]
theorem zjf (n:Int) (b:Ty) (o:List Bd):(subB n b o).map Bd.v=o.map Bd.v++[n]:=by simp[subB,Function.comp]
theorem RInv.bind {n:Int} {e:Ty×Ty} (h:RInv l (e::l') o) (he:e=(vTy n,b)∨e=(b,vTy n)) (hn:¬b.occ n):RInv l (subE n b l') (subB n b o):=by
  have hbr:b.right=true:=by
    have:=h.rl e (by simp);(rcases he with rfl | rfl);(· exact this.2);· exact this.1
  have hocc:∀v,(v=n∨b.occ v)→OccE (e::l') v:=fun v hv=>⟨e,by simp,by
    (rcases he with rfl | rfl);· exact hv.imp (fun h=>Ty.occ_vTy.2 h) id
    · exact hv.symm.imp id (fun h=>Ty.occ_vTy.2 h)⟩
  have hnl:=h.vl n (hocc n (.inl rfl))
  have hbl:∀v,b.occ v→OccE l v∧v∉(subB n b o).map Bd.v:=fun v hv=>by
    have h1:=h.vl v (hocc v (.inr hv));refine ⟨h1.1,?_⟩;rw[zjf,zG];rintro (h2 | h2);(· exact h1.2 h2);· simp at h2;subst h2;exact hn hv
  have heq:∀θ:Int→Ty,e.1.subF θ=e.2.subF θ↔b.subF θ=θ n:=fun θ=>by
    (rcases he with rfl | rfl);(· simp only;rw[Ty.subF_var (t:=vTy n) rfl];exact eq_comm);· simp only;rw[Ty.subF_var (t:=vTy n) rfl];rfl
  refine ⟨fun x hx=>?_,fun x hx=>?_,?_,fun v hv=>?_,fun x hx=>?_,fun θ hθ=>?_,fun θ h1 h2=>?_⟩
  · obtain ⟨y,hy,rfl⟩:=zC.1 hx
    have:=h.rl y (by simp[hy]);exact ⟨ze2 hbr _ this.1,ze2 hbr _ this.2⟩
  · rcases zG.1 hx with hx | hx
    · obtain ⟨y,hy,rfl⟩:=zC.1 hx
      exact ze2 hbr _ (h.ro y hy)
    · simp at hx;subst hx;exact hbr
  · rw[zjf,List.nodup_append]
    exact ⟨h.nd,by simp,fun x hx y hy=>by simp at hy;subst hy;exact fun e=>hnl.2 (e▸hx)⟩
  · obtain ⟨x,hx,hv⟩:=hv
    obtain ⟨y,hy,rfl⟩:=zC.1 hx;have hyr:=h.rl y (by simp[hy])
    have key:∀t:Ty,t.right=true→(∀u,t.occ u→OccE (e::l') u)→(t.sub [⟨n,b⟩]).occ v→OccE l v∧v∉(subB n b o).map Bd.v:=fun t ht hto hv=>by
      rcases one_occ t ht hv with ⟨h1,h2⟩ | ⟨_,h2⟩
      · have h3:=h.vl v (hto v h1)
        refine ⟨h3.1,?_⟩;rw[zjf,zG];rintro (h4 | h4);(· exact h3.2 h4);· simp at h4;exact h2 h4
      · exact hbl v h2
    (rcases hv with hv | hv);(· exact key _ hyr.1 (fun u hu=>⟨y,by simp[hy],.inl hu⟩) hv);· exact key _ hyr.2 (fun u hu=>⟨y,by simp[hy],.inr hu⟩) hv
  · rcases zG.1 hx with hx | hx
    · obtain ⟨y,hy,rfl⟩:=zC.1 hx
      have h3:=h.vo y hy;refine ⟨h3.1,fun v hv=>?_⟩;rcases one_occ _ (h.ro y hy) hv with ⟨h1,h2⟩ | ⟨_,h2⟩
      · have h4:=h3.2 v h1
        refine ⟨h4.1,?_⟩;rw[zjf,zG];rintro (h5 | h5);(· exact h4.2 h5);· simp at h5;exact h2 h5
      · exact hbl v h2
    · simp at hx;subst hx
      exact ⟨hnl.1,hbl⟩
  · obtain ⟨h1,h2⟩:=h.fwd θ hθ
    have hb:=(heq θ).1 (h1 e (by simp));refine ⟨fun x hx=>?_,fun x hx=>?_⟩
    · obtain ⟨y,hy,rfl⟩:=zC.1 hx
      have hyr:=h.rl y (by simp[hy]);(simp only);rw[zed hb _ hyr.1,zed hb _ hyr.2];exact h1 y (by simp[hy])
    · rcases zG.1 hx with hx | hx
      · obtain ⟨y,hy,rfl⟩:=zC.1 hx
        (simp only);rw[zed hb _ (h.ro y hy)];exact h2 y hy
      · simp at hx;subst hx;exact hb
  · have hb:b.subF θ=θ n:=h2 ⟨n,b⟩ (by simp[subB])
    refine h.bwd θ (fun x hx=>?_) fun x hx=>?_
    · rcases zM.1 hx with rfl | hx
      · exact (heq θ).2 hb
      · have hyr:=h.rl x (by simp[hx])
        have:=h1 _ (zC.2 ⟨x,hx,rfl⟩);simp only at this
        rwa [zed hb _ hyr.1,zed hb _ hyr.2] at this
    · have:=h2 ⟨x.v,x.t.sub [⟨n,b⟩]⟩ (zG.2 (.inl (zC.2 ⟨x,hx,rfl⟩)))
      simp only at this
      rwa [zed hb _ (h.ro x hx)] at this
theorem RInv.cycle {n:Int} {e:Ty×Ty} (h:RInv l (e::l') o) (he:e=(vTy n,b)∨e=(b,vTy n)) (hne:b≠vTy n) (hn:b.occ n) (θ:Int→Ty):¬zbm θ l:=fun hθ=>by
  have h1:=(h.fwd θ hθ).1 e (by simp)
  have hbr:b.right=true:=by
    have:=h.rl e (by simp);(rcases he with rfl | rfl);(· exact this.2);· exact this.1
  have hk:¬b.k=1:=fun hk=>by
    have e2:=Ty.right_var hbr hk;rw[e2] at hn;rw[← Ty.occ_vTy.1 hn] at e2;exact hne e2
  have h2:=Ty.occ_lt (σ:=θ) b hbr hn hk;rcases he with rfl | rfl
  · simp only at h1
    rw[Ty.subF_var (t:=vTy n) rfl] at h1;have h3:(θ n).cnt=(b.subF θ).cnt:=congrArg Ty.cnt h1;omega
  · simp only at h1
    rw[Ty.subF_var (t:=vTy n) rfl] at h1;have h3:(b.subF θ).cnt=(θ n).cnt:=congrArg Ty.cnt h1;omega
end
end Go.Proofs.YtpfiliamceimmaaGreatDoor
namespace Go.Proofs.YtpfiliamceimmaaGreatDoor
open Go Go.RowKit
structure Sch where
  vs:List Int
  t:Ty
def butL (l m:List Int):List Int:=l.filter fun v=>!decide (v∈m)
def Sch.all (s:Sch):List Int:=s.t.rvars []
def Sch.ok (s:Sch):Bool:=s.t.right&&decide (s.vs=s.all.filter fun v=>decide (v∈s.vs))
def Sch.free (s:Sch):List Int:=butL s.all s.vs
section
variable {s:Sch}
end
mutual
def Ty.mark (p:Int→Bool):Ty→Ty
  | .mk k n ps=>if k=1∧p n=true then .mk (-1) n [] else .mk k n (Ty.markL p ps)
def Ty.markL (p:Int→Bool):List Ty→List Ty
  | []=>[]
  | t::ts=>Ty.mark p t::Ty.markL p ts
end
mutual
/-- does a type come of a general one? what its variables are then -/
def Ty.cov:Ty→Ty→List (Int×Ty)→Bool×List (Int×Ty)
  | .mk k n ps,t,m=>if k=1 then ((match zcy m n with | none=>true | some x=>x.same t),zfD m n t) else if k=t.k∧n=t.n∧ps.length=t.ps.length then Ty.covL ps t.ps m else (false,m)
def Ty.covL:List Ty→List Ty→List (Int×Ty)→Bool×List (Int×Ty)
  | p::ps,q::qs,m=>if (Ty.cov p q m).1 then Ty.covL ps qs (Ty.cov p q m).2 else (false,(Ty.cov p q m).2)
  | [],_,m=>(true,m)
  | _::_,[],m=>(true,m)
end
end Go.Proofs.YtpfiliamceimmaaGreatDoor
