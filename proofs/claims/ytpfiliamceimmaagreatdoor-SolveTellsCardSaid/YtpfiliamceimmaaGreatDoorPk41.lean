/- Texts of the abstract walk, of the contracts and of the plain laws, packed (part 41 of 50): Gr6 Un6 Un7 Un8 Un9. Conditions: none. -/
import Derived.Test.YtpfiliamceimmaaGreatDoorPk40
set_option linter.unusedVariables false
set_option linter.unusedSimpArgs false
set_option maxRecDepth 100000
set_option maxHeartbeats 4000000
namespace Go.Proofs.YtpfiliamceimmaaGreatDoor
open Go Go.RowKit
attribute [local irreducible] aops za1
theorem New_calls:ACalls Tryz.prog 120 [] [] 0 fun r os n=>(r=.ptr 1 0∧os=[(1,.cells 169 [.v (.slice none 0 0),.map 0]),(0,.map [])])∧n=2:=by
  refine ACalls.cleanN (n:=2) (C:=fun r os=>r=_∧os=_) (by omega) ?_;refine zah Tryz.func120 (by kernel_rfl) rfl (by rw[Tryz.ntmps120];simp) (fun hm=>?_);simp only[Tryz.ntmps120,Tryz.results120,zi,zm,Nat.reduceAdd,Nat.reduceSub,zt,zq,zh,zj];(iterate 2 (refine zab fun Y0 y0=>?_;refine zaa ?_;simp only[↓bO,go_sem,seval];refine y0 _ ?_;(try clear y0 Y0)));refine zam ?_;(try simp only[zaf,zad,zac,zaZ,zaW,zaC,bS,bA]);refine ⟨_,_,⟨rfl,rfl⟩,.ptr (by omega),⟨by omega,⟨.v _ _,.map (by omega),trivial⟩,by omega,(by intro p hp;cases hp),trivial⟩,Le.refl _,⟨0,rfl,rfl⟩,by omega⟩
end Go.Proofs.YtpfiliamceimmaaGreatDoor
namespace Go.Proofs.YtpfiliamceimmaaGreatDoor
open Go Go.RowKit
attribute [local irreducible] aops za1
theorem Err_c (S:CS):CCalls (σ:=Unit) 89 [.ptr 0 0] (S) (fun s=>s.1=S) (fun s=>.v (.int .i64 (if S.clash then 7 else 0))):=by
  refine ACalls.clean (C:=fun r os=>∃s:CS×Unit,(s.1=S)∧r=(fun s:Unit=>.v (.int .i64 (if S.clash then 7 else 0))) s.2∧os=zai 0 (zaF s.1)) ?_;refine zah Tryz.func89 (by kernel_rfl) rfl (by rw[Tryz.ntmps89];simp) (fun hm=>?_);simp only[Tryz.ntmps89,Tryz.results89,zi,zm,Nat.reduceAdd,Nat.reduceSub,zt,zq,zh,zj];simp only[zaF,zai,Nat.reduceAdd];refine zab fun Y0 y0=>?_;refine zaa ?_;simp only[↓bO,go_sem,seval];refine y0 _ ?_;(try clear y0 Y0);refine zab fun Y0 y0=>?_;refine zav ?_;refine zab fun Y1 y1=>?_;refine zaa ?_;simp only[↓bO,go_sem,seval];refine y1 _ ?_;(try clear y1 Y1);refine zan rfl (fun hb3=>?_) (fun hb3=>?_)
  ·
   cases hb3
  ·
   refine zab fun Y1 y1=>?_;refine zaa ?_;refine z8 4 fun Q0 q0=>?_;simp only[↓bO,go_sem,seval];refine q0 _ ?_;clear q0 Q0;simp only[go_sem];simp only[↓bO,go_sem,seval];refine y1 _ ?_;(try clear y1 Y1);refine zan rfl (fun hb6=>?_) (fun hb6=>?_)
   ·
    refine zab fun Y1 y1=>?_;refine zaa ?_;simp only[↓bO,go_sem,seval];refine y1 _ ?_;(try clear y1 Y1);refine zam ?_;(try simp only[zaf,zad,zac,zaZ,zaW,zaC,bS,bA]);refine ⟨_,zai 0 (zaF (S)),⟨(S,()),?_,rfl,rfl⟩,.v _ _,zcp (by omega) _,?_,?_,by omega⟩;· rfl
    ·
     rw[show S.clash=true from hb6];exact Le.refl _
    · first | (refine ⟨0,rfl,rfl⟩) | (refine ⟨0,by simp only[zaF,zai,zw,zk,Nat.reduceAdd],rfl⟩)
   ·
    refine zar ?_;(try simp only[zaf,zad,zac]);refine y0 _ ?_;(try clear y0 Y0);refine zab fun Y0 y0=>?_;refine zaa ?_;simp only[↓bO,go_sem,seval];refine y0 _ ?_;(try clear y0 Y0);refine zam ?_;(try simp only[zaf,zad,zac,zaZ,zaW,zaC,bS,bA]);refine ⟨_,zai 0 (zaF (S)),⟨(S,()),?_,rfl,rfl⟩,.v _ _,zcp (by omega) _,?_,?_,by omega⟩;· rfl
    ·
     rw[show S.clash=false from hb6];exact Le.refl _
    · first | (refine ⟨0,rfl,rfl⟩) | (refine ⟨0,by simp only[zaF,zai,zw,zk,Nat.reduceAdd],rfl⟩)
theorem UNew_calls:ACalls Tryz.prog 119 [.v (.int .i64 0)] [] 0 fun r os n=>(r=.tup [.ptr 0 0,.v (.int .i64 0)]∧os=[(0,.cells 184 [.v (.slice none 0 0),.v (.slice none 0 0),.v (.int .i64 0),.v (.int .i64 0)])])∧n=1:=by
  refine ACalls.cleanN (n:=1) (C:=fun r os=>r=_∧os=_) (by omega) ?_;refine zah Tryz.func119 (by kernel_rfl) rfl (by rw[Tryz.ntmps119];simp) (fun hm=>?_);simp only[Tryz.ntmps119,Tryz.results119,zi,zm,Nat.reduceAdd,Nat.reduceSub,zt,zq,zh,zj];refine zab fun Y0 y0=>?_;refine zaa ?_;simp only[↓bO,go_sem,seval];refine y0 _ ?_;(try clear y0 Y0);refine zab fun Y0 y0=>?_;refine zab fun Y1 y1=>?_;refine zaa ?_;refine z8 3 fun Q0 q0=>?_;simp only[↓bO,go_sem,seval];refine q0 _ ?_;clear q0 Q0;simp only[go_sem];refine zaN 7 rfl (fun hc7=>?_) (fun hc7=>?_)
  ·
   simp only[zc,zb];cases hc7
  ·
   simp only[zc,zb];simp only[↓bO,go_sem,seval];refine y1 _ ?_;(try clear y1 Y1);refine zan rfl (fun hb10=>?_) (fun hb10=>?_)
   ·
    cases hb10
   ·
    refine zar ?_;(try simp only[zaf,zad,zac]);refine y0 _ ?_;(try clear y0 Y0);refine zab fun Y0 y0=>?_;refine zaa ?_;simp only[↓bO,go_sem,seval];refine y0 _ ?_;(try clear y0 Y0);refine zab fun Y0 y0=>?_;refine zab fun Y1 y1=>?_;refine zaa ?_;simp only[↓bO,go_sem,seval];refine y1 _ ?_;(try clear y1 Y1);refine zav ?_;refine zaS (σ:=Unit) (mB 20 24592) (fun s=>True) (fun s=>[(14,.v (.int .i64 0))]) (fun s=>[]) (fun s=>0) () (trivial) ?_ (fun s hs=>?_)
    ·
     simp only[zaA,zaB,zaq,zaz,mB,zc,zb,seval];exact zcm
    simp only[zaA,zaB,zaq,zaz,mB,zc,zb,seval];refine zab fun Y1 y1=>?_;refine zaa ?_;simp only[↓bO,go_sem,seval];refine y1 _ ?_;(try clear y1 Y1);refine zab fun Y1 y1=>?_;refine zan rfl (fun hb15=>?_) (fun hb15=>?_)
    ·
     cases hb15
    ·
     refine zaV ?_;simp only[zaf,zad,zac,bA,Nat.reduceEqDiff,↓reduceIte];refine y0 _ ?_;(try clear y0 Y0);refine zab fun Y0 y0=>?_;refine zaa ?_;simp only[↓bO,go_sem,seval];refine y0 _ ?_;(try clear y0 Y0);refine zam ?_;(try simp only[zaf,zad,zac,zaZ,zaW,zaC,bS,bA]);refine ⟨_,_,⟨rfl,rfl⟩,.tup ⟨.ptr (by omega),.v _ _,trivial⟩,⟨by omega,⟨.v _ _,.v _ _,.v _ _,.v _ _,trivial⟩,trivial⟩,Le.refl _,⟨0,rfl,rfl⟩,by omega⟩
end Go.Proofs.YtpfiliamceimmaaGreatDoor
namespace Go.Proofs.YtpfiliamceimmaaGreatDoor
open Go Go.RowKit
attribute [local irreducible] aops za1
theorem ze7 (l:List (Int×Int)):∀x∈l.map pC,DataL x:=fun x hx=>by
  obtain ⟨p,_,rfl⟩:=zC.1 hx;exact .cons (.v _) (.cons (.v _) .nil)
theorem pC_all (l:List (Int×Int)):((l.map pC).all fun y=>y.all AV.one)=true:=by
  simp[pC,AV.one,Value.oneCell']
theorem snoc_of {α:Type} {l:List α} (h:0<l.length):∃w p,l=w++[p]:=by
  (rcases List.eq_nil_or_concat l with e | ⟨w,p,e⟩);(· rw[e] at h;simp at h);· exact ⟨w,p,by rw[e,List.concat_eq_append]⟩
theorem pC_app (l m:List (Int×Int)):l.map pC++m.map pC=(l++m).map pC:=by rw[zz]
theorem zhK (up:List Nat):zbn up≤up.length:=by
  have h:=List.countP_le_length (p:=fun i=>decide (up[i]?=some i)) (l:=List.range up.length);rw[List.length_range] at h;exact h
theorem zc1 (p:Nat→Bool) (a:Nat):∀b,(List.range (a+b)).countP p≤(List.range a).countP p+b
  | 0=>zW _
  | b+1=>by
    rw[← Nat.add_assoc,List.range_succ,List.countP_append];have h1:=zc1 p a b;have h2:=List.countP_le_length (p:=p) (l:=[a+b]);simp only[zi,zm] at h2;omega
theorem zgh {S:CS} {G:GS} {k:Nat} {F:FS} {W:List Int} (h:LayI S G k F W) (hf:S.F.up.length=S.W.length):zbn F.up+S.W.length≤zbn S.F.up+k:=by
  have hge:=h.ge;unfold zbn;rw[h.fl,hf];obtain ⟨b,hb⟩:∃b,k=S.W.length+b:=⟨k-S.W.length,by omega⟩;have h1:=zc1 (fun i=>decide (F.up[i]?=some i)) S.W.length b;rw[← hb] at h1
  have h2:(List.range S.W.length).countP (fun i=>decide (F.up[i]?=some i))≤(List.range S.W.length).countP (fun i=>decide (S.F.up[i]?=some i)):=List.countP_mono_left fun i hi hp=>by
    simp only[zA] at hp ⊢;(have hi2:i<S.W.length:=by simpa using hi);(rcases (h.rt i i).1 (.base hp) with h3 | ⟨h3,_⟩);(· exact h3.root);· omega
  omega
def StepJ (S S2:CS):Prop:=0≤S.steps→S.steps≤549755813888→S2.steps+(S.G.N.length:Int)=S.steps+(S2.G.N.length:Int)∧zbn S2.F.up+S.G.N.length≤zbn S.F.up+S2.G.N.length∧S.G.N.length≤S2.G.N.length
theorem StepJ.of {S S1 S2:CS} (h1:LayI S S1.G S1.G.N.length S1.F S1.W) (h2:LayI S1 S2.G S2.G.N.length S2.F S2.W) (k1:StepsI S S1.G.N.length S1.steps) (k2:StepsI S1 S2.G.N.length S2.steps) (w:S.W.length=S.G.N.length) (w1:S1.W.length=S1.G.N.length) (hf:S.F.up.length=S.W.length) (hm:S1.G.N.length≤1048576):StepJ S S2:=fun p1 p2=>by
  have g1:=h1.ge;have g2:=h2.ge;have a1:=k1 p1 (by omega);have a2:=k2 (by omega) (by omega);have b1:=zgh h1 hf;have b2:=zgh h2 (h1.fl.trans h1.wl.symm);refine ⟨?_,?_,?_⟩ <;> omega
def StepL (S T:CS) (w:Nat):Prop:=0≤S.steps→S.steps≤549755813888→S.steps≤T.steps∧S.G.N.length≤T.G.N.length∧T.steps+9 * (zbn T.F.up:Int)+(w:Int)+10 * (S.G.N.length:Int)≤S.steps+9 * (zbn S.F.up:Int)+10 * (T.G.N.length:Int)+1
theorem StepJ.start {S T:CS} (h:StepJ S T):StepL S T 1:=fun p1 p2=>by
  obtain ⟨h1,h2,h3⟩:=h p1 p2;refine ⟨by omega,h3,?_⟩;omega
theorem StepL.step {S T U:CS} {w v:Nat} (h:StepL S T w) (hn:zbn S.F.up≤1048576) (ht:T.G.N.length≤1048576) (hU:U.steps=IntKind.i64.wrap (T.steps+1)) (hg:U.G=T.G) (hl:9 * zbn U.F.up+v<9 * zbn T.F.up+w):StepL S U v:=fun p1 p2=>by
  obtain ⟨h1,h2,h3⟩:=h p1 p2;rw[hU,hg,zaT (by omega) (by omega)];refine ⟨by omega,h2,?_⟩;omega
def StepR (S T:CS):Prop:=T=S∨StepL S T 0
theorem StepL.last {S T:CS} {w:Nat} (h:StepL S T w):StepR S T:=.inr fun p1 p2=>by
  obtain ⟨h1,h2,h3⟩:=h p1 p2;refine ⟨h1,h2,?_⟩;omega
def EqR (S:CS) (E:List (Nat×Nat)) (m:List RNode) (l u:Ty) (s:CS×Int):Prop :=
  (S.clash=true∧s=(S,7))∨(S.clash=false∧(l.right&&u.right)=false∧s=(S,1)) ∨
  (S.clash=false∧l.right=true∧u.right=true∧s.1.G=(u.gadd (l.gadd S.G).1).1 ∧
    ((s.2=0∧s.1.clash=false∧Good (E++[((l.radd m).2.toNat,(u.radd (l.radd m).1).2.toNat)]) (u.radd (l.radd m).1).1 s.1) ∨
     (s.2=7∧s.1.clash=true∧Clash (shR (u.radd (l.radd m).1).1) (E++[((l.radd m).2.toNat,(u.radd (l.radd m).1).2.toNat)]))))
theorem clz3 {p:Prop} (h:p:=by repeat' first | exact trivial | exact .any _ | exact .ptr (by omega) | exact .own (by omega) | exact .v _ _ | (refine ⟨?_,?_⟩)):p:=h
theorem Equate2_c (S:CS) (E:List (Nat×Nat)) (m:List RNode) (l u:Ty) (h:S.clash=false→Good E m S) (hl:S.G.N.length+l.cnt+u.cnt≤1048576) (hcl:l.cnt≤400) (hcr:u.cnt≤400):CCalls (σ:=Int) 86 [.ptr 0 0,.agg l.cells,.agg u.cells] (S) (fun s=>EqR S E m l u s∧StepR S s.1) (fun s=>.v (.int .i64 s)):=by
  refine ACalls.clean (C:=fun r os=>∃s:CS×Int,(EqR S E m l u s∧StepR S s.1)∧r=(fun s:Int=>.v (.int .i64 s)) s.2∧os=zai 0 (zaF s.1)) ?_;refine zah Tryz.func86 (by kernel_rfl) rfl (by rw[Tryz.ntmps86];simp) (fun hm=>?_);simp only[Tryz.ntmps86,Tryz.results86,zi,zm,Nat.reduceAdd,Nat.reduceSub,zt,zq,zh,zj];simp only[zaF,zai,Nat.reduceAdd];simp only[Ty.cells_eq l,Ty.cells_eq u,zh,zj];refine zab fun Y0 y0=>?_;refine zaa ?_;refine z8 2 fun Q0 q0=>?_;simp only[↓bO,go_sem,seval,zax,zbu,zB,zD,Nat.reduceBEq];refine q0 _ ?_;clear q0 Q0;simp only[go_sem];simp only[↓bO,go_sem,seval,zax,zbu,zB,zD,Nat.reduceBEq];refine y0 _ ?_;(try clear y0 Y0);refine zdP ?_;refine zab fun Y0 y0=>?_;refine zav ?_;refine zab fun Y1 y1=>?_;refine zaa ?_;refine z8 2 fun Q0 q0=>?_;simp only[↓bO,go_sem,seval,zax,zbu,zB,zD,Nat.reduceBEq];refine q0 _ ?_;clear q0 Q0;simp only[go_sem];simp only[↓bO,go_sem,seval,zax,zbu,zB,zD,Nat.reduceBEq];refine y1 _ ?_;(try clear y1 Y1);refine zan rfl (fun hb11=>?_) (fun hb11=>?_)
  ·
   cases hb11
  ·
   refine zab fun Y1 y1=>?_;refine zaa ?_;(iterate 2 (refine z8 2 fun Q0 q0=>?_;simp only[↓bO,go_sem,seval,zax,zbu,zB,zD,Nat.reduceBEq];refine q0 _ ?_;clear q0 Q0;simp only[go_sem]));simp only[↓bO,go_sem,seval,zax,zbu,zB,zD,Nat.reduceBEq];refine y1 _ ?_;(try clear y1 Y1);refine zan rfl (fun hb14=>?_) (fun hb14=>?_)
   ·
    have hcs:S.clash=true:=hb14;refine zab fun Y1 y1=>?_;refine zaa ?_;simp only[↓bO,go_sem,seval,zax,zbu,zB,zD,Nat.reduceBEq];refine y1 _ ?_;(try clear y1 Y1);refine zam ?_;(try simp only[zaf,zad,zac,zaZ,zaW,zaC,bS,bA]);refine ⟨_,zai 0 (zaF (S)),⟨(S,7),?_,rfl,rfl⟩,.v _ _,zcp (by omega) _,?_,?_,by omega⟩;· exact ⟨.inl ⟨hcs,rfl⟩,.inl rfl⟩
    ·
     exact Le.refl _
    · first | (refine ⟨2,rfl,rfl⟩) | (refine ⟨2,by simp only[zaF,zai,zw,zk,Nat.reduceAdd],rfl⟩)
   ·
    have hcs:S.clash=false:=hb14;have hG:=h hcs;refine zab fun Y1 y1=>?_;refine zaa ?_;refine z8 1 fun Q0 q0=>?_;simp only[↓bO,go_sem,seval,zax,zbu,zB,zD,Nat.reduceBEq];refine q0 _ ?_;clear q0 Q0;simp only[go_sem];refine z8 1 fun Q0 q0=>?_;simp only[↓bO,go_sem,seval,zax,zbu,zB,zD,Nat.reduceBEq];refine APure.call (show APure Tryz.prog 64 [.agg [.v (.int .i64 l.k),.v (.int .i64 l.n),.sl 3 (l.ps.map Ty.cells)]] _ from by rw[Ty.refold];exact zcG l) ?_;(try simp only[bS,bA,zaf,zad,zac]);refine q0 _ ?_;clear q0 Q0;simp only[go_sem];refine z8 2 fun Q0 q0=>?_;simp only[↓bO,go_sem,seval,zax,zbu,zB,zD,Nat.reduceBEq];refine q0 _ ?_;clear q0 Q0;simp only[go_sem];refine zaN 23 rfl (fun hc23=>?_) (fun hc23=>?_)
    ·
     simp only[zc,zb];(have hno:(l.right&&u.right)=false:=by (have h9:l.right=false:=by simpa using hc23);rw[h9];rfl);(iterate 2 (refine z8 2 fun Q0 q0=>?_;simp only[↓bO,go_sem,seval,zax,zbu,zB,zD,Nat.reduceBEq];refine q0 _ ?_;clear q0 Q0;simp only[go_sem]));simp only[↓bO,go_sem,seval,zax,zbu,zB,zD,Nat.reduceBEq];refine y1 _ ?_;(try clear y1 Y1);refine zan (b:=true) (by first | exact rfl | exact congrArg (fun b=>AV.v (.bool b)) hb19) (fun _=>?_) (fun h=>(by cases h));refine zab fun Y1 y1=>?_;refine zaa ?_;simp only[↓bO,go_sem,seval,zax,zbu,zB,zD,Nat.reduceBEq];refine y1 _ ?_;(try clear y1 Y1);refine zam ?_;(try simp only[zaf,zad,zac,zaZ,zaW,zaC,bS,bA]);refine ⟨_,zai 0 (zaF (S)),⟨(S,1),?_,rfl,rfl⟩,.v _ _,zcp (by omega) _,?_,?_,by omega⟩;· exact ⟨.inr (.inl ⟨hcs,hno,rfl⟩),.inl rfl⟩
     ·
      exact Le.refl _
     · first | (refine ⟨2,rfl,rfl⟩) | (refine ⟨2,by simp only[zaF,zai,zw,zk,Nat.reduceAdd],rfl⟩)
    ·
     simp only[zc,zb];(have hlr:l.right=true:=by simpa using hc23);refine z8 1 fun Q0 q0=>?_;simp only[↓bO,go_sem,seval,zax,zbu,zB,zD,Nat.reduceBEq];refine q0 _ ?_;clear q0 Q0;simp only[go_sem];refine z8 1 fun Q0 q0=>?_;simp only[↓bO,go_sem,seval,zax,zbu,zB,zD,Nat.reduceBEq];refine APure.call (show APure Tryz.prog 64 [.agg [.v (.int .i64 u.k),.v (.int .i64 u.n),.sl 3 (u.ps.map Ty.cells)]] _ from by rw[Ty.refold];exact zcG u) ?_;(try simp only[bS,bA,zaf,zad,zac]);refine q0 _ ?_;clear q0 Q0;simp only[go_sem];refine z8 2 fun Q0 q0=>?_;simp only[↓bO,go_sem,seval,zax,zbu,zB,zD,Nat.reduceBEq];refine q0 _ ?_;clear q0 Q0;simp only[go_sem];simp only[↓bO,go_sem,seval,zax,zbu,zB,zD,Nat.reduceBEq];refine y1 _ ?_;(try clear y1 Y1);refine zan rfl (fun hb19=>?_) (fun hb19=>?_)
     ·
      (have hno:(l.right&&u.right)=false:=by first | exact hno | ((have h9:u.right=false:=by simpa using hb19);rw[h9,Bool.and_false]));refine zab fun Y1 y1=>?_;refine zaa ?_;simp only[↓bO,go_sem,seval,zax,zbu,zB,zD,Nat.reduceBEq];refine y1 _ ?_;(try clear y1 Y1);refine zam ?_;(try simp only[zaf,zad,zac,zaZ,zaW,zaC,bS,bA]);refine ⟨_,zai 0 (zaF (S)),⟨(S,1),?_,rfl,rfl⟩,.v _ _,zcp (by omega) _,?_,?_,by omega⟩;· exact ⟨.inr (.inl ⟨hcs,hno,rfl⟩),.inl rfl⟩
      ·
       exact Le.refl _
      · first | (refine ⟨2,rfl,rfl⟩) | (refine ⟨2,by simp only[zaF,zai,zw,zk,Nat.reduceAdd],rfl⟩)
     ·
      (have hrr:u.right=true:=by simpa using hb19);refine zar ?_;(try simp only[zaf,zad,zac]);refine y0 _ ?_;(try clear y0 Y0);refine zdT (σ:=CS×Int×Int) (mB 73 129) (fun j=>[(7,.own 10 1)]) (fun j=>[(10,.row 108 2 ([(j.2.1,j.2.2)].map pC)),(0,.cells 127 [.v (.int .i64 j.1.steps),.ptr 1 0,.ptr 4 0,.own 7 j.1.W.length,.v (.bool j.1.clash)]),(1,.cells 169 [.osl 2 4 (j.1.G.N.map GNode.cells),.map 3]),(2,.tok 194 4 j.1.G.N.length),(3,.map (j.1.G.V.map vC)),(4,.cells 184 [.own 5 j.1.F.up.length,.own 6 j.1.F.rank.length,.v (.int .i64 j.1.F.sets),.v (.int .i64 j.1.F.steps)]),(5,.row 3 1 (j.1.F.up.map nC)),(6,.row 3 1 (j.1.F.rank.map intC)),(7,.row 3 1 (j.1.W.map intC))]) 11 (fun j=>Good E (u.radd (l.radd m).1).1 j.1∧j.2.1=(l.radd m).2∧j.2.2=(u.radd (l.radd m).1).2∧(0≤j.2.1∧j.2.1<(j.1.G.N.length:Int))∧(0≤j.2.2∧j.2.2<(j.1.G.N.length:Int))∧j.1.G=(u.gadd (l.gadd S.G).1).1∧j.1.clash=false∧j.1.G.N.length≤1048576∧StepJ S j.1) ?_ (fun j hj=>?_)
      ·
       refine zaP [] 9 rfl mixed (trivial) rfl ?_;dsimp only;refine zae 0 rfl (by kernel_rfl) (by kernel_rfl) (by kernel_rfl) (fun _ _ h=>h) fun Q0 q0=>?_;simp only[↓bO,go_sem,seval,zax,zbu,zB,zD,Nat.reduceBEq];refine q0 _ ?_;clear q0 Q0;refine zae 3 rfl (by kernel_rfl) (by kernel_rfl) (by kernel_rfl) (fun _ _ h=>h) fun Q0 q0=>?_;simp only[↓bO,go_sem,seval,zax,zbu,zB,zD,Nat.reduceBEq];refine q0 _ ?_;clear q0 Q0;refine za4 (i:=1) (j:=4) (by kernel_rfl) ?_ ?_
       ·
        refine zal rfl rfl fun Q0 q0=>?_;simp only[↓bO,go_sem,seval,zax,zbu,zB,zD,Nat.reduceBEq];refine q0 _ ⟨trivial,?_⟩;clear q0 Q0;refine za4 (i:=2) (j:=4) (by kernel_rfl) ?_ ?_
        ·
         refine zal rfl rfl fun Q0 q0=>?_;simp only[↓bO,go_sem,seval,zax,zbu,zB,zD,Nat.reduceBEq];rw[Ty.refold l];refine CCalls.at (zj1 S l hlr hG.w.c.g hG.w.c.f hG.w.c.fl hG.w.c.wl (by omega)) (.cons (Ty.dataAgg l) .nil) (fun _=>.v _) (i0:=0) (i1:=1) (i2:=2) (i3:=3) (i4:=4) (i5:=5) (i6:=6) (i7:=7) (by decide) (by simp) ⟨rfl,rfl,rfl,rfl,rfl,rfl,rfl,rfl,trivial⟩ (fun S1 n1 hL1=>?_);(try dsimp only at hL1);simp only[zaL,zu,zy,zx,zaq,zaz,Nat.reduceEqDiff,↓reduceIte];obtain ⟨hG1,he1,hn1,hn1b,hg1,hc1⟩:=hG.lay hlr hcl hL1.1;have hle1:=(l.gadd_inv S.G hG.w.c.g).1.le;rw[← hg1] at hle1;(try simp only[bS,bA]);refine q0 _ ⟨trivial,?_⟩;clear q0 Q0;refine zag (i:=4) (by kernel_rfl) ?_
         ·
          refine zal rfl rfl fun Q0 q0=>?_;simp only[↓bO,go_sem,seval,zax,zbu,zB,zD,Nat.reduceBEq];refine q0 _ ⟨trivial,?_⟩;clear q0 Q0;refine zag (i:=5) (by kernel_rfl) ?_
          ·
           refine zal rfl rfl fun Q0 q0=>?_;simp only[↓bO,go_sem,seval,zax,zbu,zB,zD,Nat.reduceBEq];rw[Ty.refold u];refine CCalls.at (zj1 S1 u hrr hG1.w.c.g hG1.w.c.f hG1.w.c.fl hG1.w.c.wl (by omega)) (.cons (Ty.dataAgg u) .nil) (fun _=>.v _) (i0:=0) (i1:=1) (i2:=2) (i3:=3) (i4:=4) (i5:=5) (i6:=6) (i7:=7) (by decide) (by simp) ⟨rfl,rfl,rfl,rfl,rfl,rfl,rfl,rfl,trivial⟩ (fun S2 n2 hL2=>?_);(try dsimp only at hL2);simp only[zaL,zu,zy,zx,zaq,zaz,Nat.reduceEqDiff,↓reduceIte];obtain ⟨hG2,he2,hn2,hn2b,hg2,hc2⟩:=hG1.lay hrr hcr hL2.1;have hle2:=(u.gadd_inv S1.G hG1.w.c.g).1.le;have hge2:=(u.gadd_inv S1.G hG1.w.c.g).1.ge;rw[← hg2] at hle2 hge2;have hsj:=StepJ.of hL1.1.lay hL2.1.lay hL1.2 hL2.2 hG.w.c.wl hG1.w.c.wl hG.w.c.fl (by dsimp only at hle1 ⊢;omega);(try simp only[bS,bA]);refine q0 _ ⟨trivial,?_⟩;clear q0 Q0;refine zag (i:=6) (by kernel_rfl) ?_
           ·
            refine zal rfl rfl fun Q0 q0=>?_;simp only[↓bO,go_sem,seval,zax,zbu,zB,zD,Nat.reduceBEq];refine q0 _ ⟨trivial,?_⟩;clear q0 Q0;refine zag (i:=7) (by kernel_rfl) ?_
            ·
             refine zal rfl rfl fun Q0 q0=>?_;simp only[↓bO,go_sem,seval,↓zbX,↓zbT,↓zbY,↓zbW,↓zb0,↓zbS,↓zbR,↓zbQ,↓zbZ,↓zbo,↓zbp,↓zbq,zax,zbu,zB,zD,Nat.reduceBEq];refine q0 _ ⟨trivial,?_⟩;clear q0 Q0;refine zae 8 rfl (by kernel_rfl) (by kernel_rfl) (by kernel_rfl) (fun _ _ h=>h) fun Q0 q0=>?_;simp only[↓bO,go_sem,seval,zax,zbu,zB,zD,Nat.reduceBEq];refine q0 _ ?_;clear q0 Q0;refine zaG (by kernel_rfl) ?_;simp only[zaf,zad,zac];(try simp only[zaA,zaB,zaq,zaz,mB,zc,zb,seval]);refine ⟨(S2,n1,n2),⟨hG2,he1,he2,⟨hn1,by dsimp only;omega⟩,⟨hn2,hn2b⟩,by dsimp only;rw[hg2,hg1],hc2.trans (hc1.trans hcs),by dsimp only;omega,hsj⟩,?_⟩;refine Weak.sub ?_ ⟨rfl,rfl,rfl,rfl,rfl,rfl,rfl,rfl,rfl,trivial⟩ (by first | omega | (simp only;omega)) (by first | omega | (simp only;omega)) ?_ ?_;(· simp only[go_sem,Le.refl,Le.any]);(· exact clz3);· exact ⟨by omega,Und.rowI (ze7 _),zcp (by omega) _⟩
        ·
         refine zal rfl rfl fun Q0 q0=>?_;simp only[↓bO,go_sem,seval,zax,zbu,zB,zD,Nat.reduceBEq];refine q0 _ ⟨trivial,?_⟩;clear q0 Q0;refine zag (i:=2) (by kernel_rfl) ?_
         ·
          refine zal rfl rfl fun Q0 q0=>?_;simp only[↓bO,go_sem,seval,zax,zbu,zB,zD,Nat.reduceBEq];rw[Ty.refold l];refine CCalls.at (zj1 S l hlr hG.w.c.g hG.w.c.f hG.w.c.fl hG.w.c.wl (by omega)) (.cons (Ty.dataAgg l) .nil) (fun _=>.v _) (i0:=0) (i1:=1) (i2:=2) (i3:=3) (i4:=4) (i5:=5) (i6:=6) (i7:=7) (by decide) (by simp) ⟨rfl,rfl,rfl,rfl,rfl,rfl,rfl,rfl,trivial⟩ (fun S1 n1 hL1=>?_);(try dsimp only at hL1);simp only[zaL,zu,zy,zx,zaq,zaz,Nat.reduceEqDiff,↓reduceIte];obtain ⟨hG1,he1,hn1,hn1b,hg1,hc1⟩:=hG.lay hlr hcl hL1.1;have hle1:=(l.gadd_inv S.G hG.w.c.g).1.le;rw[← hg1] at hle1;(try simp only[bS,bA]);refine q0 _ ⟨trivial,?_⟩;clear q0 Q0;refine zag (i:=5) (by kernel_rfl) ?_
          ·
           refine zal rfl rfl fun Q0 q0=>?_;simp only[↓bO,go_sem,seval,zax,zbu,zB,zD,Nat.reduceBEq];rw[Ty.refold u];refine CCalls.at (zj1 S1 u hrr hG1.w.c.g hG1.w.c.f hG1.w.c.fl hG1.w.c.wl (by omega)) (.cons (Ty.dataAgg u) .nil) (fun _=>.v _) (i0:=0) (i1:=1) (i2:=2) (i3:=3) (i4:=4) (i5:=5) (i6:=6) (i7:=7) (by decide) (by simp) ⟨rfl,rfl,rfl,rfl,rfl,rfl,rfl,rfl,trivial⟩ (fun S2 n2 hL2=>?_);(try dsimp only at hL2);simp only[zaL,zu,zy,zx,zaq,zaz,Nat.reduceEqDiff,↓reduceIte];obtain ⟨hG2,he2,hn2,hn2b,hg2,hc2⟩:=hG1.lay hrr hcr hL2.1;have hle2:=(u.gadd_inv S1.G hG1.w.c.g).1.le;have hge2:=(u.gadd_inv S1.G hG1.w.c.g).1.ge;rw[← hg2] at hle2 hge2;have hsj:=StepJ.of hL1.1.lay hL2.1.lay hL1.2 hL2.2 hG.w.c.wl hG1.w.c.wl hG.w.c.fl (by dsimp only at hle1 ⊢;omega);(try simp only[bS,bA]);refine q0 _ ⟨trivial,?_⟩;clear q0 Q0;refine zag (i:=6) (by kernel_rfl) ?_
           ·
            refine zal rfl rfl fun Q0 q0=>?_;simp only[↓bO,go_sem,seval,zax,zbu,zB,zD,Nat.reduceBEq];refine q0 _ ⟨trivial,?_⟩;clear q0 Q0;refine zag (i:=7) (by kernel_rfl) ?_
            ·
             refine zal rfl rfl fun Q0 q0=>?_;simp only[↓bO,go_sem,seval,↓zbX,↓zbT,↓zbY,↓zbW,↓zb0,↓zbS,↓zbR,↓zbQ,↓zbZ,↓zbo,↓zbp,↓zbq,zax,zbu,zB,zD,Nat.reduceBEq];refine q0 _ ⟨trivial,?_⟩;clear q0 Q0;refine zae 8 rfl (by kernel_rfl) (by kernel_rfl) (by kernel_rfl) (fun _ _ h=>h) fun Q0 q0=>?_;simp only[↓bO,go_sem,seval,zax,zbu,zB,zD,Nat.reduceBEq];refine q0 _ ?_;clear q0 Q0;refine zaG (by kernel_rfl) ?_;simp only[zaf,zad,zac];(try simp only[zaA,zaB,zaq,zaz,mB,zc,zb,seval]);refine ⟨(S2,n1,n2),⟨hG2,he1,he2,⟨hn1,by dsimp only;omega⟩,⟨hn2,hn2b⟩,by dsimp only;rw[hg2,hg1],hc2.trans (hc1.trans hcs),by dsimp only;omega,hsj⟩,?_⟩;refine Weak.sub ?_ ⟨rfl,rfl,rfl,rfl,rfl,rfl,rfl,rfl,rfl,trivial⟩ (by first | omega | (simp only;omega)) (by first | omega | (simp only;omega)) ?_ ?_;(· simp only[go_sem,Le.refl,Le.any]);(· exact clz3);· exact ⟨by omega,Und.rowI (ze7 _),zcp (by omega) _⟩
       ·
        refine zal rfl rfl fun Q0 q0=>?_;simp only[↓bO,go_sem,seval,zax,zbu,zB,zD,Nat.reduceBEq];refine q0 _ ⟨trivial,?_⟩;clear q0 Q0;refine zag (i:=1) (by kernel_rfl) ?_
        ·
         refine zal rfl rfl fun Q0 q0=>?_;simp only[↓bO,go_sem,seval,zax,zbu,zB,zD,Nat.reduceBEq];refine q0 _ ⟨trivial,?_⟩;clear q0 Q0;refine zag (i:=2) (by kernel_rfl) ?_
         ·
          refine zal rfl rfl fun Q0 q0=>?_;simp only[↓bO,go_sem,seval,zax,zbu,zB,zD,Nat.reduceBEq];rw[Ty.refold l];refine CCalls.at (zj1 S l hlr hG.w.c.g hG.w.c.f hG.w.c.fl hG.w.c.wl (by omega)) (.cons (Ty.dataAgg l) .nil) (fun _=>.v _) (i0:=0) (i1:=1) (i2:=2) (i3:=3) (i4:=4) (i5:=5) (i6:=6) (i7:=7) (by decide) (by simp) ⟨rfl,rfl,rfl,rfl,rfl,rfl,rfl,rfl,trivial⟩ (fun S1 n1 hL1=>?_);(try dsimp only at hL1);simp only[zaL,zu,zy,zx,zaq,zaz,Nat.reduceEqDiff,↓reduceIte];obtain ⟨hG1,he1,hn1,hn1b,hg1,hc1⟩:=hG.lay hlr hcl hL1.1;have hle1:=(l.gadd_inv S.G hG.w.c.g).1.le;rw[← hg1] at hle1;(try simp only[bS,bA]);refine q0 _ ⟨trivial,?_⟩;clear q0 Q0;refine zag (i:=5) (by kernel_rfl) ?_
          ·
           refine zal rfl rfl fun Q0 q0=>?_;simp only[↓bO,go_sem,seval,zax,zbu,zB,zD,Nat.reduceBEq];rw[Ty.refold u];refine CCalls.at (zj1 S1 u hrr hG1.w.c.g hG1.w.c.f hG1.w.c.fl hG1.w.c.wl (by omega)) (.cons (Ty.dataAgg u) .nil) (fun _=>.v _) (i0:=0) (i1:=1) (i2:=2) (i3:=3) (i4:=4) (i5:=5) (i6:=6) (i7:=7) (by decide) (by simp) ⟨rfl,rfl,rfl,rfl,rfl,rfl,rfl,rfl,trivial⟩ (fun S2 n2 hL2=>?_);(try dsimp only at hL2);simp only[zaL,zu,zy,zx,zaq,zaz,Nat.reduceEqDiff,↓reduceIte];obtain ⟨hG2,he2,hn2,hn2b,hg2,hc2⟩:=hG1.lay hrr hcr hL2.1;have hle2:=(u.gadd_inv S1.G hG1.w.c.g).1.le;have hge2:=(u.gadd_inv S1.G hG1.w.c.g).1.ge;rw[← hg2] at hle2 hge2;have hsj:=StepJ.of hL1.1.lay hL2.1.lay hL1.2 hL2.2 hG.w.c.wl hG1.w.c.wl hG.w.c.fl (by dsimp only at hle1 ⊢;omega);(try simp only[bS,bA]);refine q0 _ ⟨trivial,?_⟩;clear q0 Q0;refine zag (i:=6) (by kernel_rfl) ?_
           ·
            refine zal rfl rfl fun Q0 q0=>?_;simp only[↓bO,go_sem,seval,zax,zbu,zB,zD,Nat.reduceBEq];refine q0 _ ⟨trivial,?_⟩;clear q0 Q0;refine zag (i:=7) (by kernel_rfl) ?_
            ·
             refine zal rfl rfl fun Q0 q0=>?_;simp only[↓bO,go_sem,seval,↓zbX,↓zbT,↓zbY,↓zbW,↓zb0,↓zbS,↓zbR,↓zbQ,↓zbZ,↓zbo,↓zbp,↓zbq,zax,zbu,zB,zD,Nat.reduceBEq];refine q0 _ ⟨trivial,?_⟩;clear q0 Q0;refine zae 8 rfl (by kernel_rfl) (by kernel_rfl) (by kernel_rfl) (fun _ _ h=>h) fun Q0 q0=>?_;simp only[↓bO,go_sem,seval,zax,zbu,zB,zD,Nat.reduceBEq];refine q0 _ ?_;clear q0 Q0;refine zaG (by kernel_rfl) ?_;simp only[zaf,zad,zac];(try simp only[zaA,zaB,zaq,zaz,mB,zc,zb,seval]);refine ⟨(S2,n1,n2),⟨hG2,he1,he2,⟨hn1,by dsimp only;omega⟩,⟨hn2,hn2b⟩,by dsimp only;rw[hg2,hg1],hc2.trans (hc1.trans hcs),by dsimp only;omega,hsj⟩,?_⟩;refine Weak.sub ?_ ⟨rfl,rfl,rfl,rfl,rfl,rfl,rfl,rfl,rfl,trivial⟩ (by first | omega | (simp only;omega)) (by first | omega | (simp only;omega)) ?_ ?_;(· simp only[go_sem,Le.refl,Le.any]);(· exact clz3);· exact ⟨by omega,Und.rowI (ze7 _),zcp (by omega) _⟩
      simp only[zaA,zaB,zaq,zaz,mB,zc,zb,seval];refine zab fun Y0 y0=>?_;refine zdZ ?_;(try simp only[zaf,zad,zac]);refine y0 _ ?_;(try clear y0 Y0);refine zab fun Y0 y0=>?_;refine zav ?_;refine zaS (σ:=CS×List (Int×Int)) (mB 73 129) (fun s=>WInv (E++[(j.2.1.toNat,j.2.2.toNat)]) s.1 s.2∧s.1.clash=false∧s.1.G=j.1.G∧9 * zbn s.1.F.up+s.2.length≤9437185∧StepL S s.1 s.2.length) (fun s=>[(7,.own 10 s.2.length)]) (fun s=>[(10,.row 108 2 (s.2.map pC)),(0,.cells 127 [.v (.int .i64 s.1.steps),.ptr 1 0,.ptr 4 0,.own 7 s.1.W.length,.v (.bool s.1.clash)]),(1,.cells 169 [.osl 2 4 (s.1.G.N.map GNode.cells),.map 3]),(2,.tok 194 4 s.1.G.N.length),(3,.map (s.1.G.V.map vC)),(4,.cells 184 [.own 5 s.1.F.up.length,.own 6 s.1.F.rank.length,.v (.int .i64 s.1.F.sets),.v (.int .i64 s.1.F.steps)]),(5,.row 3 1 (s.1.F.up.map nC)),(6,.row 3 1 (s.1.F.rank.map intC)),(7,.row 3 1 (s.1.W.map intC))]) (fun s=>9 * zbn s.1.F.up+s.2.length) (j.1,[(j.2.1,j.2.2)]) (⟨hj.1.w.begin hj.2.2.2.1 hj.2.2.2.2.1,hj.2.2.2.2.2.2.1,rfl,by have h7:=zhK j.1.F.up;have h8:=hj.1.w.c.fl;have h9:=hj.1.w.c.wl;have h6:=hj.2.2.2.2.2.2.2.1;simp only[zi,zm];omega,hj.2.2.2.2.2.2.2.2.start⟩) ?_ (fun s hs=>?_)
      ·
       simp only[zaA,zaB,zaq,zaz,mB,zc,zb,seval,bL];exact zcm
      simp only[zaA,zaB,zaq,zaz,mB,zc,zb,seval];refine zab fun Y1 y1=>?_;refine zab fun Y2 y2=>?_;refine zaa ?_;refine z8 2 fun Q0 q0=>?_;simp only[↓bO,go_sem,seval,zax,zbu,zB,zD,Nat.reduceBEq];refine q0 _ ?_;clear q0 Q0;simp only[go_sem];simp only[↓bO,go_sem,seval,zax,zbu,zB,zD,Nat.reduceBEq];refine y2 _ ?_;(try clear y2 Y2);refine zan rfl (fun hb38=>?_) (fun hb38=>?_)
      ·
       (have hwl:0<s.2.length:=by simpa using hb38);obtain ⟨w0,p9,hw⟩:∃w0 p,s.2=w0++[p]:=snoc_of hwl;have hwr:=hs.1.wr p9 (by rw[hw];simp);obtain ⟨a,b,rfl⟩:∃a b:Nat,p9=((a:Int),(b:Int)):=⟨p9.1.toNat,p9.2.toNat,by ext <;> simp only <;> omega⟩;(have hw2:WInv (E++[(j.2.1.toNat,j.2.2.toNat)]) s.1 (w0++[((a:Int),(b:Int))]):=by rw[← hw];exact hs.1);have hbd:=hs.2.2.2.1;(have hwl2:s.2.length=w0.length+1:=by rw[hw];simp);(have hwr2:IntKind.i64.wrap ((w0.length:Int)+1-1)=(w0.length:Int):=by rw[zaT (by omega) (by omega)];omega);have hgd:(s.2.map pC).getD w0.length []=pC ((a:Int),(b:Int)):=gM (by rw[hw];simp);(have htk:(s.2.map pC).take w0.length=w0.map pC:=by rw[hw];simp);(have hlt9:(w0.length:Int)<(w0.length:Int)+1:=by omega);(have hle9:(w0.length:Int)≤(w0.length:Int)+1:=by omega);(have h09:(0:Int)≤(w0.length:Int):=by omega);have hlen9:=hs.1.c.fl;have hlen8:=hs.1.c.wl;(have hn1:zbn S.F.up≤1048576:=by (have h7:=zhK S.F.up;have h8:=hG.w.c.fl;have h9:=hG.w.c.wl;omega));(have hn2:s.1.G.N.length≤1048576:=by rw[hs.2.2.1];exact hj.2.2.2.2.2.2.2.1);refine zar ?_;(try simp only[zaf,zad,zac]);refine y1 _ ?_;(try clear y1 Y1);refine zav ?_;refine zab fun Y1 y1=>?_;refine zaa ?_;refine z8 2 fun Q0 q0=>?_;simp only[↓bO,go_sem,seval,zax,zbu,zB,zD,Nat.reduceBEq,hwl2,hwr2,Nat.lt_add_one,Nat.le_add_right,hgd,htk,hlt9,hle9,h09,pC,za];refine q0 _ ?_;clear q0 Q0;simp only[go_sem];refine z8 1 fun Q0 q0=>?_;simp only[↓bO,go_sem,seval,zax,zbu,zB,zD,Nat.reduceBEq,hwl2,hwr2,Nat.lt_add_one,Nat.le_add_right,hgd,htk,hlt9,hle9,h09,pC,za];refine q0 _ ?_;clear q0 Q0;simp only[go_sem];simp only[↓bO,go_sem,seval,zax,zbu,zB,zD,Nat.reduceBEq,hwl2,hwr2,Nat.lt_add_one,Nat.le_add_right,hgd,htk,hlt9,hle9,h09,pC,za];refine tick_at rfl ?_;simp only[zaz,Nat.reduceEqDiff,↓reduceIte];(try simp only[bS,bA,zaf,zad,zac]);refine y1 _ ?_;(try clear y1 Y1);refine zab fun Y1 y1=>?_;refine zaa ?_;(iterate 3 (refine z8 2 fun Q0 q0=>?_;simp only[↓bO,go_sem,seval,zax,zbu,zB,zD,Nat.reduceBEq,hwl2,hwr2,Nat.lt_add_one,Nat.le_add_right,hgd,htk,hlt9,hle9,h09,pC,za];refine q0 _ ?_;clear q0 Q0;simp only[go_sem]));simp only[↓bO,go_sem,seval,zax,zbu,zB,zD,Nat.reduceBEq,hwl2,hwr2,Nat.lt_add_one,Nat.le_add_right,hgd,htk,hlt9,hle9,h09,pC,za];refine y1 _ ?_;(try clear y1 Y1);refine zab fun Y1 y1=>?_;refine zaa ?_;(iterate 2 (refine z8 2 fun Q0 q0=>?_;simp only[↓bO,go_sem,seval,zax,zbu,zB,zD,Nat.reduceBEq,hwl2,hwr2,Nat.lt_add_one,Nat.le_add_right,hgd,htk,hlt9,hle9,h09,pC,za];refine q0 _ ?_;clear q0 Q0;simp only[go_sem]));simp only[↓bO,go_sem,seval,zax,zbu,zB,zD,Nat.reduceBEq,hwl2,hwr2,Nat.lt_add_one,Nat.le_add_right,hgd,htk,hlt9,hle9,h09,pC,za];refine y1 _ ?_;(try clear y1 Y1);refine zab fun Y1 y1=>?_;refine zaa ?_;(iterate 2 (refine z8 2 fun Q0 q0=>?_;simp only[↓bO,go_sem,seval,zax,zbu,zB,zD,Nat.reduceBEq,hwl2,hwr2,Nat.lt_add_one,Nat.le_add_right,hgd,htk,hlt9,hle9,h09,pC,za];refine q0 _ ?_;clear q0 Q0;simp only[go_sem]));refine z8 1 fun Q0 q0=>?_;simp only[↓bO,go_sem,seval,zax,zbu,zB,zD,Nat.reduceBEq,hwl2,hwr2,Nat.lt_add_one,Nat.le_add_right,hgd,htk,hlt9,hle9,h09,pC,za];refine q0 _ ?_;clear q0 Q0;simp only[go_sem];refine z8 1 fun Q0 q0=>?_;simp only[↓bO,go_sem,seval,zax,zbu,zB,zD,Nat.reduceBEq,hwl2,hwr2,Nat.lt_add_one,Nat.le_add_right,hgd,htk,hlt9,hle9,h09,pC,za];refine CCalls.at (join_c {s.1 with steps:=IntKind.i64.wrap (s.1.steps+1)} ⟨hs.1.c.g,hs.1.c.f,hs.1.c.fl,hs.1.c.wl,hs.1.c.wr,hs.1.c.pl,hs.1.c.pr⟩ a b (by dsimp only;omega) (by dsimp only;omega)) (.cons (.v _) (.cons (.v _) .nil)) (fun _=>.tup (.cons (zer _) (.cons (.v _) .nil))) (i0:=0) (i1:=1) (i2:=2) (i3:=3) (i4:=4) (i5:=5) (i6:=6) (i7:=7) (by decide) (by simp) ⟨rfl,rfl,rfl,rfl,rfl,rfl,rfl,rfl,trivial⟩ (fun S3 r3 j0=>?_);(try dsimp only at j0);simp only[zaL,zu,zy,zx,zaq,zaz,Nat.reduceEqDiff,↓reduceIte];have hJ:CJoin s.1 a b (S3,r3):=⟨j0.1.g,j0.1.c,j0.1.ex⟩;(have hsl0:=fun ok (hj:CJoin s.1 a b (S3,(r3.1,ok)))=>hs.2.2.2.2.step hn1 hn2 j0.2 j0.1.g (by have h8:=hw2.less hj;rw[← hw] at h8;exact h8));(try simp only[bS,bA,zaf,zad,zac]);(iterate 2 (refine q0 _ ?_;clear q0 Q0;simp only[go_sem];refine z8 2 fun Q0 q0=>?_;simp only[↓bO,go_sem,seval,zax,zbu,zB,zD,Nat.reduceBEq,hwl2,hwr2,Nat.lt_add_one,Nat.le_add_right,hgd,htk,hlt9,hle9,h09,pC,za]));refine q0 _ ?_;clear q0 Q0;simp only[go_sem];simp only[↓bO,go_sem,seval,zax,zbu,zB,zD,Nat.reduceBEq,hwl2,hwr2,Nat.lt_add_one,Nat.le_add_right,hgd,htk,hlt9,hle9,h09,pC,za];refine y1 _ ?_;(try clear y1 Y1);refine zab fun Y1 y1=>?_;refine zab fun Y2 y2=>?_;refine zaa ?_;simp only[↓bO,go_sem,seval,zax,zbu,zB,zD,Nat.reduceBEq,hwl2,hwr2,Nat.lt_add_one,Nat.le_add_right,hgd,htk,hlt9,hle9,h09,pC,za];refine y2 _ ?_;(try clear y2 Y2);refine zan rfl (fun hb64=>?_) (fun hb64=>?_)
       ·
        (have hJ2:CJoin s.1 a b (S3,(r3.1,false)):=by (have h9:r3.2=false:=by simpa using hb64);rw[← h9];exact hJ);have hfg:S3.G=(u.gadd (l.gadd S.G).1).1:=hJ.g.trans (hs.2.2.1.trans hj.2.2.2.2.2.1);have hbad:=hw2.bad hJ2;rw[hs.2.2.1,hj.1.rel.sh,hj.2.1,hj.2.2.1] at hbad;have hsl:StepL S S3 (w0++r3.1).length:=hsl0 _ hJ2;have hsl2:StepL S {S3 with clash:=true} (w0++r3.1).length:=hsl;refine zab fun Y2 y2=>?_;refine zaa ?_;refine z8 2 fun Q0 q0=>?_;simp only[↓bO,go_sem,seval,zax,zbu,zB,zD,Nat.reduceBEq,hwl2,hwr2,Nat.lt_add_one,Nat.le_add_right,hgd,htk,hlt9,hle9,h09,pC,za];refine q0 _ ?_;clear q0 Q0;simp only[go_sem];simp only[↓bO,go_sem,seval,zax,zbu,zB,zD,Nat.reduceBEq,hwl2,hwr2,Nat.lt_add_one,Nat.le_add_right,hgd,htk,hlt9,hle9,h09,pC,za];refine y2 _ ?_;(try clear y2 Y2);refine zaV ?_;simp only[zaf,zad,zac,bA,Nat.reduceEqDiff,↓reduceIte];refine y0 _ ?_;(try clear y0 Y0);refine zab fun Y0 y0=>?_;refine zaa ?_;refine z8 1 fun Q0 q0=>?_;simp only[↓bO,go_sem,seval,zax,zbu,zB,zD,Nat.reduceBEq];refine q0 _ ?_;clear q0 Q0;simp only[go_sem];refine z8 1 fun Q0 q0=>?_;simp only[↓bO,go_sem,seval,zax,zbu,zB,zD,Nat.reduceBEq];refine CCalls.at (Err_c {S3 with clash:=true}) (.nil) (fun _=>.v _) (i0:=0) (i1:=1) (i2:=2) (i3:=3) (i4:=4) (i5:=5) (i6:=6) (i7:=7) (by decide) (by simp) ⟨rfl,rfl,rfl,rfl,rfl,rfl,rfl,rfl,trivial⟩ (fun Z9 u9 hZ9=>?_);(try dsimp only at hZ9);simp only[zaL,zu,zy,zx,zaq,zaz,Nat.reduceEqDiff,↓reduceIte];subst hZ9;(try simp only[bS,bA,zaf,zad,zac]);refine q0 _ ?_;clear q0 Q0;simp only[go_sem];simp only[↓bO,go_sem,seval,zax,zbu,zB,zD,Nat.reduceBEq];refine y0 _ ?_;(try clear y0 Y0);refine zam ?_;(try simp only[zaf,zad,zac,zaZ,zaW,zaC,bS,bA]);refine ⟨_,zai 0 (zaF ({S3 with clash:=true})),⟨({S3 with clash:=true},7),?_,rfl,rfl⟩,.v _ _,zcp (by omega) _,?_,?_,by omega⟩;· exact ⟨.inr (.inr ⟨hcs,hlr,hrr,hfg,.inr ⟨rfl,rfl,hbad⟩⟩),hsl2.last⟩
        ·
         exact Le.refl _
        · first | (refine ⟨2,rfl,rfl⟩) | (refine ⟨3,rfl,rfl⟩) | (refine ⟨4,rfl,rfl⟩) | (refine ⟨5,rfl,rfl⟩) | (refine ⟨2,by simp only[zaF,zai,zw,zk,Nat.reduceAdd],rfl⟩) | (refine ⟨3,by simp only[zaF,zai,zw,zk,Nat.reduceAdd],rfl⟩) | (refine ⟨4,by simp only[zaF,zai,zw,zk,Nat.reduceAdd],rfl⟩) | (refine ⟨5,by simp only[zaF,zai,zw,zk,Nat.reduceAdd],rfl⟩)
       ·
        (have hJ2:CJoin s.1 a b (S3,(r3.1,true)):=by (have h9:r3.2=true:=by simpa using hb64);rw[← h9];exact hJ);have hst:=hw2.step hJ2;have hsl:StepL S S3 (w0++r3.1).length:=hsl0 _ hJ2;have hls:=hw2.less hJ2;(have hml:r3.1.length≤9437185:=by have:=hs.2.2.2.1;simp only[hw,zf] at this hls;omega);(have hb1:(w0.length+r3.1.length) * 16≤140737488355328:=by omega);(have hb2:w0.length+r3.1.length≤maxLen:=by simp only[maxLen];omega);refine zar ?_;(try simp only[zaf,zad,zac]);refine y1 _ ?_;(try clear y1 Y1);refine zaa ?_;refine z8 2 fun Q0 q0=>?_;simp only[↓bO,go_sem,seval,zax,zbu,zB,zD,Nat.reduceBEq,hwl2,hwr2,Nat.lt_add_one,Nat.le_add_right,hgd,htk,hlt9,hle9,h09,pC,za,hb1,hb2,pC_all,pC_app,zf];refine q0 _ ?_;clear q0 Q0;simp only[go_sem];simp only[↓bO,go_sem,seval,zax,zbu,zB,zD,Nat.reduceBEq,hwl2,hwr2,Nat.lt_add_one,Nat.le_add_right,hgd,htk,hlt9,hle9,h09,pC,za,hb1,hb2,pC_all,pC_app,zf];refine ⟨(S3,w0++r3.1),⟨hst,hJ2.c.trans hs.2.1,hJ2.g.trans hs.2.2.1,by have h9:=hs.2.2.2.1;have h8:=hls;simp only[zf,zi,zm] at h8 ⊢;omega,hsl⟩,(by have h8:=hls;simp only[zf,zi,zm] at h8 ⊢;omega),?_⟩;simp only[zaA,zaB,zaq,zaz,mB,zc,zb,seval,zf];refine Weak.backOwn 10 12 7 (w0.length+r3.1.length) (by first | omega | (simp only;omega)) (by first | omega | (simp only;omega)) (by first | omega | (simp only;omega)) ?_ ?_ ?_ ?_ ?_;· simp only[zc,zb,LeL,Le.refl,Le.any,and_self]
        ·
         simp only[zc,zb];repeat' first | exact trivial | exact .any | exact .ptr rfl | exact .own rfl | exact .v _ | (refine ⟨?_,?_⟩)
        (· exact ⟨⟨_,rfl,.row (ze7 _)⟩,⟨_,rfl,.cells ⟨.v _,.ptr rfl,.ptr rfl,.own rfl,.v _,trivial⟩⟩,⟨_,rfl,.cells ⟨.osl rfl (GNode.dataRows _),.map rfl,trivial⟩⟩,⟨_,rfl,.tok⟩,⟨_,rfl,.map (zbb _)⟩,⟨_,rfl,.cells ⟨.own rfl,.own rfl,.v _,.v _,trivial⟩⟩,⟨_,rfl,.row (zbg _)⟩,⟨_,rfl,.row (za2 _)⟩,⟨_,rfl,.row (za2 _)⟩,trivial⟩);(· exact clz3);· exact ⟨by omega,Und.rowI (ze7 _),zcp (by omega) _⟩
      ·
       (have hwn:s.2=[]:=by have h9:¬((s.2.length:Int) > 0):=of_decide_eq_false hb38;exact List.length_eq_zero_iff.1 (by omega));have hgood:Good (E++[((l.radd m).2.toNat,(u.radd (l.radd m).1).2.toNat)]) (u.radd (l.radd m).1).1 s.1:=⟨by have h9:=hs.1;rw[hwn,hj.2.1,hj.2.2.1] at h9;exact h9,by rw[hs.2.2.1];exact hj.1.rel⟩;refine zaV ?_;simp only[zaf,zad,zac,bA,Nat.reduceEqDiff,↓reduceIte];refine y0 _ ?_;(try clear y0 Y0);refine zab fun Y0 y0=>?_;refine zaa ?_;refine z8 1 fun Q0 q0=>?_;simp only[↓bO,go_sem,seval,zax,zbu,zB,zD,Nat.reduceBEq];refine q0 _ ?_;clear q0 Q0;simp only[go_sem];refine z8 1 fun Q0 q0=>?_;simp only[↓bO,go_sem,seval,zax,zbu,zB,zD,Nat.reduceBEq];refine CCalls.at (Err_c s.1) (.nil) (fun _=>.v _) (i0:=0) (i1:=1) (i2:=2) (i3:=3) (i4:=4) (i5:=5) (i6:=6) (i7:=7) (by decide) (by simp) ⟨rfl,rfl,rfl,rfl,rfl,rfl,rfl,rfl,trivial⟩ (fun Z9 u9 hZ9=>?_);(try dsimp only at hZ9);simp only[zaL,zu,zy,zx,zaq,zaz,Nat.reduceEqDiff,↓reduceIte];subst hZ9;(try simp only[bS,bA,zaf,zad,zac]);refine q0 _ ?_;clear q0 Q0;simp only[go_sem];simp only[↓bO,go_sem,seval,zax,zbu,zB,zD,Nat.reduceBEq];refine y0 _ ?_;(try clear y0 Y0);refine zam ?_;(try simp only[zaf,zad,zac,zaZ,zaW,zaC,bS,bA]);refine ⟨_,zai 0 (zaF (s.1)),⟨(s.1,0),?_,rfl,rfl⟩,.v _ _,zcp (by omega) _,?_,?_,by omega⟩;· exact ⟨.inr (.inr ⟨hcs,hlr,hrr,hs.2.2.1.trans hj.2.2.2.2.2.1,.inl ⟨rfl,hs.2.1,hgood⟩⟩),hs.2.2.2.2.last⟩
       ·
        rw[hs.2.1];exact Le.refl _
       · first | (refine ⟨0,rfl,rfl⟩) | (refine ⟨1,rfl,rfl⟩) | (refine ⟨2,rfl,rfl⟩) | (refine ⟨3,rfl,rfl⟩) | (refine ⟨0,by simp only[zaF,zai,zw,zk,Nat.reduceAdd],rfl⟩) | (refine ⟨1,by simp only[zaF,zai,zw,zk,Nat.reduceAdd],rfl⟩) | (refine ⟨2,by simp only[zaF,zai,zw,zk,Nat.reduceAdd],rfl⟩) | (refine ⟨3,by simp only[zaF,zai,zw,zk,Nat.reduceAdd],rfl⟩)
theorem CCalls.mono {σ:Type} {f:Nat} {args:List AV} {S:CS} {C C':CS×σ→Prop} {R:σ→AV} (h:CCalls f args S C R) (k:∀s,C s→C' s):CCalls f args S C' R:=by
  refine ACalls.mono h ?_;rintro r os n ⟨⟨s,h1,h2,h3⟩,h4⟩;exact ⟨⟨s,k s h1,h2,h3⟩,h4⟩
end Go.Proofs.YtpfiliamceimmaaGreatDoor
namespace Go.Proofs.YtpfiliamceimmaaGreatDoor
open Go Go.RowKit
attribute [local irreducible] aops za1
structure EqT where
  l:Ty
  r:Ty
  a:Int
  b:Int
def EqT.cells (e:EqT):List AV:=[.v (.int .i64 e.l.k),.v (.int .i64 e.l.n),.sl 3 (e.l.ps.map Ty.cells),.v (.int .i64 e.r.k),.v (.int .i64 e.r.n),.sl 3 (e.r.ps.map Ty.cells),.v (.int .i64 e.a),.v (.int .i64 e.b)]
theorem EqT.data (e:EqT):DataL e.cells:=.cons (.v _) (.cons (.v _) (.cons (Ty.dataSl _) (.cons (.v _) (.cons (.v _) (.cons (Ty.dataSl _) (.cons (.v _) (.cons (.v _) .nil)))))))
theorem EqT.dataSl (es:List EqT):Data (.sl 8 (es.map EqT.cells)):=.sl fun x hx=>by
  obtain ⟨y,_,rfl⟩:=zC.1 hx;exact y.data
def EqT.p (e:EqT):Ty×Ty:=(e.l,e.r)
def zcl:List (Ty×Ty)→Nat
  | []=>0
  | e::l=>e.1.cnt+e.2.cnt+zcl l
theorem zdW:∀(l:List (Ty×Ty)) (e:Ty×Ty),zcl (l++[e])=zcl l+(e.1.cnt+e.2.cnt)
  | [],e=>by simp[zcl]
  | x::l,e=>by simp only[zh,zcl,zdW l e];omega
theorem zdf:∀(l:List (Ty×Ty)) (s:Nat),zcl (l.take s)≤zcl l
  | [],s=>by simp
  | x::l,0=>by simp[zcl]
  | x::l,s+1=>by simp only[List.take_succ_cons,zcl];have:=zdf l s;omega
theorem zd0:∀l:List (Ty×Ty),2 * l.length≤zcl l
  | []=>by simp[zcl]
  | x::l=>by
    have:=zd0 l;have:=x.1.cnt_eq;have:=x.2.cnt_eq;simp only[zi,zcl];omega
theorem Holds.step {d:List (Ty×Ty)} {e:Ty×Ty} {S:CS} {s:CS×Int} (h:Holds d S) (hs:EqR S (zcV (eqF d).2) (eqF d).1 e.1 e.2 s) :
    ((e.1.right&&e.2.right)=false∧s.2=1)∨((e.1.right&&e.2.right)=true∧Clashes (d++[e])∧s.2=7) ∨
    ((e.1.right&&e.2.right)=true∧¬Clashes (d++[e])∧s.2=0∧Holds (d++[e]) s.1∧s.1.G.N.length≤S.G.N.length+(e.1.cnt+e.2.cnt)):=by
  have hE:(eqF (d++[e])).1=(e.2.radd (e.1.radd (eqF d).1).1).1∧zcV (eqF (d++[e])).2=zcV (eqF d).2++[((e.1.radd (eqF d).1).2.toNat,(e.2.radd (e.1.radd (eqF d).1).1).2.toNat)]:=by
    rw[zbB];exact ⟨rfl,by simp only[zeE,zcV,zz,zI,List.map_nil]⟩
  (rcases hs with ⟨h1,_⟩ | ⟨_,h1,h2⟩ | ⟨_,h1,h2,h3,h4⟩);(· rw[h.1] at h1;cases h1);· exact .inl ⟨h1,by rw[h2]⟩
  · have hr:(e.1.right&&e.2.right)=true:=by rw[h1,h2];rfl
    rcases h4 with ⟨h4,h5,h6⟩ | ⟨h4,h5,h6⟩
    · have hH:Holds (d++[e]) s.1:=⟨h5,by rw[hE.1,hE.2];exact h6⟩
      refine .inr (.inr ⟨hr,hH.noClash,h4,hH,?_⟩);have g1:=e.1.gadd_inv S.G h.2.w.c.g;have g2:=e.2.gadd_inv _ g1.1.inv;have:=g1.1.le;have:=g2.1.le;rw[h3];omega
    · exact .inr (.inl ⟨hr,by unfold Clashes;rw[hE.1,hE.2];exact h6,h4⟩)
def CS0:CS:=⟨⟨[],[]⟩,⟨[],[],0,0⟩,[],0,false⟩
theorem Rt.none {i r:Nat} (h:Rt [] i r):False:=by have:=h.lt;simp at this
theorem Holds.none:Holds [] CS0:=by
  refine ⟨rfl,⟨⟨⟨.empty,⟨rfl,fun _=>0,⟨by simp[CS0],by simp[CS0]⟩⟩,rfl,rfl,by simp[CS0],by simp[CS0],by simp[CS0]⟩,by simp,fun i k hik=>?_,by simp,by simp[eqF,zcV],?_,?_⟩,.empty⟩⟩
  · rcases hik with rfl | ⟨t,h,_⟩
    (· exact .refl _);· exact (Rt.none h).elim
  · intro r i x c ps h1 h2 h3
    exact (Rt.none h3).elim
  · intro r x h1
    exact (Rt.none h1).elim
end Go.Proofs.YtpfiliamceimmaaGreatDoor
namespace Go.Proofs.YtpfiliamceimmaaGreatDoor
open Go Go.RowKit
attribute [local irreducible] aops za1
theorem vGet (V:List (Int×Int)) (n:Int):((zaM V n).map fun i=>AV.v (.int .i64 i)).getD (.v (.int .i64 0))=.v (.int .i64 ((zaM V n).getD 0)):=by cases zaM V n <;> rfl
theorem vIs (V:List (Int×Int)) (n:Int):((zaM V n).map fun i=>AV.v (.int .i64 i)).isSome=(zaM V n).isSome:=by cases zaM V n <;> rfl
def zea (S:CS) (n:Int):Int×Bool:=if S.clash=true then (0,false) else ((zaM S.G.V n).getD 0,(zaM S.G.V n).isSome)
theorem zek {S:CS} {n:Int} (h:(zea S n).2=true):S.clash=false∧∃k,zaM S.G.V n=some k∧(zea S n).1=k:=by
  unfold zea at h ⊢;(split at h);· cases h
  · rename_i hc
    rw[if_neg hc];refine ⟨by simpa using hc,?_⟩
    cases hv:zaM S.G.V n with
    | none=>rw[hv] at h;cases h
    | some k=>exact ⟨k,rfl,rfl⟩
theorem zeg {S:CS} {n:Int} (h:(zea S n).2=false):S.clash=true∨zaM S.G.V n=none:=by
  unfold zea at h;(split at h);· exact .inl (by assumption)
  · cases hv:zaM S.G.V n with
    | none=>exact .inr rfl
    | some k=>rw[hv] at h;cases h
theorem nodeG_of {S:CS} {n k:Int} (h:S.clash=false) (hv:zaM S.G.V n=some k):zea S n=(k,true):=by
  unfold zea;rw[h,hv];rfl
theorem One.of_rt {up:List Nat} {a b r q:Nat} (ha:Rt up a r) (hb:Rt up b q):One up a b↔r=q:=by
  constructor
  · rintro (rfl | ⟨t,h1,h2⟩)
    · exact Rt.det ha hb
    · cases Rt.det ha h1
      exact (Rt.det hb h2).symm▸rfl
  · rintro rfl
    exact .inr ⟨r,ha,hb⟩
theorem zga (G:GS) (n:Int):GCalls 128 [.ptr 0 0,.v (.int .i64 n)] (G.N) (G.V) (.tup [.v (.int .i64 ((zaM G.V n).getD 0)),.v (.bool (zaM G.V n).isSome)]) (G.N) (G.V):=by
  refine ACalls.clean (C:=fun r os=>r=_∧os=_) ?_;refine zah Tryz.func128 (by kernel_rfl) rfl (by rw[Tryz.ntmps128];simp) (fun hm=>?_);simp only[Tryz.ntmps128,Tryz.results128,zi,zm,Nat.reduceAdd,Nat.reduceSub,zt,zq,zh,zj];simp only[zci,zai,Nat.reduceAdd];refine zab fun Y0 y0=>?_;refine zaa ?_;refine z8 1 fun Q0 q0=>?_;simp only[↓bO,go_sem,seval,zau,vGet,vIs];refine q0 _ ?_;clear q0 Q0;simp only[go_sem];simp only[↓bO,go_sem,seval,zau,vGet,vIs];refine y0 _ ?_;(try clear y0 Y0);refine zab fun Y0 y0=>?_;refine zab fun Y1 y1=>?_;refine zaa ?_;refine z8 1 fun Q0 q0=>?_;simp only[↓bO,go_sem,seval,zau,vGet,vIs];refine q0 _ ?_;clear q0 Q0;simp only[go_sem];simp only[↓bO,go_sem,seval,zau,vGet,vIs];refine y1 _ ?_;(try clear y1 Y1);refine zan rfl (fun hb9=>?_) (fun hb9=>?_)
  ·
   cases hb9
  ·
   refine zar ?_;(try simp only[zaf,zad,zac]);refine y0 _ ?_;(try clear y0 Y0);refine zab fun Y0 y0=>?_;refine zaa ?_;(iterate 10 (refine z8 1 fun Q0 q0=>?_;simp only[↓bO,go_sem,seval,zau,vGet,vIs];refine q0 _ ?_;clear q0 Q0;simp only[go_sem]));simp only[↓bO,go_sem,seval,zau,vGet,vIs];refine y0 _ ?_;(try clear y0 Y0);refine zab fun Y0 y0=>?_;refine zaa ?_;(iterate 3 (refine z8 1 fun Q0 q0=>?_;simp only[↓bO,go_sem,seval,zau,vGet,vIs];refine q0 _ ?_;clear q0 Q0;simp only[go_sem]));simp only[↓bO,go_sem,seval,zau,vGet,vIs];refine y0 _ ?_;(try clear y0 Y0);refine zam ?_;(try simp only[zaf,zad,zac,zaZ,zaW,zaC,bS,bA]);refine ⟨_,zai 0 (zci (G.N) (G.V)),⟨rfl,rfl⟩,.tup ⟨.v _ _,.v _ _,trivial⟩,zhS (by omega) _ _,?_,?_,by omega⟩
   ·
    refine Le.of_eq ?_;rfl
   · first | (refine ⟨0,?_,rfl⟩;first | rfl | (simp only[zci,zai,zk,zw,zz,zI,List.map_nil,zf,zi,zm,GNode.cells,z6,Nat.reduceAdd,zR];done))
theorem zhG (S:CS) (n:Int):CCalls (σ:=Int×Bool) 93 [.ptr 0 0,.v (.int .i64 n)] (S) (fun s=>s.1=S∧s.2=zea S n) (fun s=>.tup [.v (.int .i64 s.1),.v (.bool s.2)]):=by
  refine ACalls.clean (C:=fun r os=>∃s:CS×Int×Bool,(s.1=S∧s.2=zea S n)∧r=(fun s:Int×Bool=>.tup [.v (.int .i64 s.1),.v (.bool s.2)]) s.2∧os=zai 0 (zaF s.1)) ?_;refine zah Tryz.func93 (by kernel_rfl) rfl (by rw[Tryz.ntmps93];simp) (fun hm=>?_);simp only[Tryz.ntmps93,Tryz.results93,zi,zm,Nat.reduceAdd,Nat.reduceSub,zt,zq,zh,zj];simp only[zaF,zai,Nat.reduceAdd];refine zab fun Y0 y0=>?_;refine zaa ?_;simp only[↓bO,go_sem,seval];refine y0 _ ?_;(try clear y0 Y0);refine zab fun Y0 y0=>?_;refine zab fun Y1 y1=>?_;refine zaa ?_;refine z8 1 fun Q0 q0=>?_;simp only[↓bO,go_sem,seval];refine q0 _ ?_;clear q0 Q0;simp only[go_sem];refine z8 1 fun Q0 q0=>?_;simp only[↓bO,go_sem,seval];refine CCalls.at (Err_c S) (.nil) (fun _=>.v _) (i0:=0) (i1:=1) (i2:=2) (i3:=3) (i4:=4) (i5:=5) (i6:=6) (i7:=7) (by decide) (by simp) ⟨rfl,rfl,rfl,rfl,rfl,rfl,rfl,rfl,trivial⟩ (fun Z9 u9 hZ9=>?_);(try dsimp only at hZ9);simp only[zaL,zu,zy,zx,zaq,zaz,Nat.reduceEqDiff,↓reduceIte];obtain rfl:S=Z9:=hZ9.symm;(try simp only[bS,bA,zaf,zad,zac]);refine q0 _ ?_;clear q0 Q0;simp only[go_sem];simp only[↓bO,go_sem,seval];refine y1 _ ?_;(try clear y1 Y1);refine zan rfl (fun hb8=>?_) (fun hb8=>?_)
  ·
   (have hcs:S.clash=true:=by (have h9:=hb8;cases hc:S.clash <;> simp[hc] at h9 ⊢));refine zab fun Y1 y1=>?_;refine zaa ?_;simp only[↓bO,go_sem,seval];refine y1 _ ?_;(try clear y1 Y1);refine zam ?_;(try simp only[zaf,zad,zac,zaZ,zaW,zaC,bS,bA]);refine ⟨_,zai 0 (zaF (S)),⟨(S,(0,false)),?_,rfl,rfl⟩,.tup ⟨.v _ _,.v _ _,trivial⟩,zcp (by omega) _,?_,?_,by omega⟩;· exact ⟨rfl,by rw[zea,hcs];rfl⟩
   ·
    exact Le.refl _
   · first | (refine ⟨0,rfl,rfl⟩) | (refine ⟨0,by simp only[zaF,zai,zw,zk,Nat.reduceAdd],rfl⟩)
  ·
   (have hcs:S.clash=false:=by (have h9:=hb8;cases hc:S.clash <;> simp[hc] at h9 ⊢));refine zar ?_;(try simp only[zaf,zad,zac]);refine y0 _ ?_;(try clear y0 Y0);refine zab fun Y0 y0=>?_;refine zaa ?_;refine z8 4 fun Q0 q0=>?_;(iterate 2 (simp only[↓bO,go_sem,seval];refine q0 _ ?_;clear q0 Q0;simp only[go_sem];refine z8 1 fun Q0 q0=>?_));simp only[↓bO,go_sem,seval];refine GCalls.at (zga S.G n) (.cons (.v _) .nil) (.tup (.cons (.v _) (.cons (.v _) .nil))) (i:=1) (j:=2) (k:=3) rfl rfl rfl (by decide) (by decide) (by decide) (by first | omega | (simp only;omega)) (by first | omega | (simp only;omega)) (by first | omega | (simp only;omega)) ?_;simp only[zaz,Nat.reduceEqDiff,↓reduceIte];(try simp only[bS,bA,zaf,zad,zac]);refine q0 _ ?_;clear q0 Q0;simp only[go_sem];simp only[↓bO,go_sem,seval];refine y0 _ ?_;(try clear y0 Y0);refine zam ?_;(try simp only[zaf,zad,zac,zaZ,zaW,zaC,bS,bA]);refine ⟨_,zai 0 (zaF (S)),⟨(S,((zaM S.G.V n).getD 0,(zaM S.G.V n).isSome)),?_,rfl,rfl⟩,.tup ⟨.v _ _,.v _ _,trivial⟩,zcp (by omega) _,?_,?_,by omega⟩;· exact ⟨rfl,by rw[zea,hcs];rfl⟩
   ·
    exact Le.refl _
   · first | (refine ⟨0,rfl,rfl⟩) | (refine ⟨0,by simp only[zaF,zai,zw,zk,Nat.reduceAdd],rfl⟩)
theorem FSm_f (F:FS) (hF:FInv F) (a b:Nat) (ha:a<F.up.length) (hb:b<F.up.length):FCalls (σ:=Bool) 131 [.ptr 0 0,.v (.int .i64 (a:Int)),.v (.int .i64 (b:Int))] (F) (fun s=>FSame F s.1∧(s.2=true↔One F.up a b)) (fun s=>.v (.bool s)):=by
  refine ACalls.clean (C:=fun r os=>∃s:FS×Bool,(FSame F s.1∧(s.2=true↔One F.up a b))∧r=(fun s:Bool=>.v (.bool s)) s.2∧os=zai 0 (zcK s.1)) ?_;refine zah Tryz.func131 (by kernel_rfl) rfl (by rw[Tryz.ntmps131];simp) (fun hm=>?_);simp only[Tryz.ntmps131,Tryz.results131,zi,zm,Nat.reduceAdd,Nat.reduceSub,zt,zq,zh,zj];simp only[zcK,zai,Nat.reduceAdd];refine zab fun Y0 y0=>?_;refine zaa ?_;simp only[↓bO,go_sem,seval];refine y0 _ ?_;(try clear y0 Y0);refine zab fun Y0 y0=>?_;refine zaa ?_;(iterate 2 (refine z8 1 fun Q0 q0=>?_;simp only[↓bO,go_sem,seval];refine q0 _ ?_;clear q0 Q0;simp only[go_sem]));refine z8 1 fun Q0 q0=>?_;simp only[↓bO,go_sem,seval];refine FCalls.at (zfy F (a:Int)) (.cons (.v _) .nil) (fun _=>.v _) (i:=0) (j:=1) (k:=2) rfl rfl rfl (by decide) (by decide) (by decide) (by first | omega | (simp only;omega)) (by first | omega | (simp only;omega)) (by first | omega | (simp only;omega)) (fun G0 u0 hG0=>?_);(try dsimp only at hG0);simp only[zaz,Nat.reduceEqDiff,↓reduceIte];obtain rfl:F=G0:=hG0.symm;(try simp only[bS,bA,zaf,zad,zac]);refine q0 _ ?_;clear q0 Q0;simp only[go_sem];refine z8 1 fun Q0 q0=>?_;simp only[↓bO,go_sem,seval];refine q0 _ ?_;clear q0 Q0;simp only[go_sem];refine zaN 10 rfl (fun hc10=>?_) (fun hc10=>?_)
  ·
   simp only[zc,zb];(iterate 2 (refine z8 1 fun Q0 q0=>?_;simp only[↓bO,go_sem,seval];refine q0 _ ?_;clear q0 Q0;simp only[go_sem]));refine z8 1 fun Q0 q0=>?_;simp only[↓bO,go_sem,seval];refine FCalls.at (zfy F (b:Int)) (.cons (.v _) .nil) (fun _=>.v _) (i:=0) (j:=1) (k:=2) rfl rfl rfl (by decide) (by decide) (by decide) (by first | omega | (simp only;omega)) (by first | omega | (simp only;omega)) (by first | omega | (simp only;omega)) (fun G0 u0 hG0=>?_);(try dsimp only at hG0);simp only[zaz,Nat.reduceEqDiff,↓reduceIte];obtain rfl:F=G0:=hG0.symm;(try simp only[bS,bA,zaf,zad,zac]);(iterate 2 (refine q0 _ ?_;clear q0 Q0;simp only[go_sem];refine z8 1 fun Q0 q0=>?_;simp only[↓bO,go_sem,seval]));refine q0 _ ?_;clear q0 Q0;simp only[go_sem];refine zaN 15 rfl (fun hc15=>?_) (fun hc15=>?_)
   ·
    simp only[zc,zb];(iterate 2 (refine z8 1 fun Q0 q0=>?_;simp only[↓bO,go_sem,seval];refine q0 _ ?_;clear q0 Q0;simp only[go_sem]));refine z8 1 fun Q0 q0=>?_;simp only[↓bO,go_sem,seval];refine FCalls.at (zg2 F hF a ha) (.cons (.v _) .nil) (fun _=>.v _) (i:=0) (j:=1) (k:=2) rfl rfl rfl (by decide) (by decide) (by decide) (by first | omega | (simp only;omega)) (by first | omega | (simp only;omega)) (by first | omega | (simp only;omega)) (fun G1 r1 hG1=>?_);(try dsimp only at hG1);simp only[zaz,Nat.reduceEqDiff,↓reduceIte];(try simp only[bS,bA,zaf,zad,zac]);(iterate 3 (refine q0 _ ?_;clear q0 Q0;simp only[go_sem];refine z8 1 fun Q0 q0=>?_;simp only[↓bO,go_sem,seval]));refine FCalls.at (zg2 G1 hG1.1.inv b (by rw[hG1.1.len];exact hb)) (.cons (.v _) .nil) (fun _=>.v _) (i:=0) (j:=1) (k:=2) rfl rfl rfl (by decide) (by decide) (by decide) (by first | omega | (simp only;omega)) (by first | omega | (simp only;omega)) (by first | omega | (simp only;omega)) (fun G2 r2 hG2=>?_);(try dsimp only at hG2);simp only[zaz,Nat.reduceEqDiff,↓reduceIte];(try simp only[bS,bA,zaf,zad,zac]);(iterate 2 (refine q0 _ ?_;clear q0 Q0;simp only[go_sem];refine z8 1 fun Q0 q0=>?_;simp only[↓bO,go_sem,seval]));refine q0 _ ?_;clear q0 Q0;simp only[go_sem];simp only[↓bO,go_sem,seval];refine y0 _ ?_;(try clear y0 Y0);refine zam ?_;(try simp only[zaf,zad,zac,zaZ,zaW,zaC,bS,bA]);refine ⟨_,zai 0 (zcK (G2)),⟨(G2,((r1:Int)==(r2:Int))),?_,rfl,rfl⟩,.v _ _,fUnd (by omega) _,?_,?_,by omega⟩;· exact ⟨hG1.1.trans hG2.1,by rw[One.of_rt hG1.2 ((hG1.1.rt _ _).1 hG2.2),beq_iff_eq];omega⟩
    ·
     exact Le.refl _
    · first | (refine ⟨0,rfl,rfl⟩) | (refine ⟨0,by simp only[zcK,zai,zw,zk,Nat.reduceAdd],rfl⟩)
   ·
    simp only[zc,zb];exact absurd hc15 (by simp;omega)
  ·
   simp only[zc,zb];exact absurd hc10 (by simp;omega)
theorem CSame_c (S:CS) (hF:FInv S.F) (hv:∀n k,zaM S.G.V n=some k→0≤k∧k<(S.F.up.length:Int)) (a b:Int):CCalls (σ:=Bool) 96 [.ptr 0 0,.v (.int .i64 a),.v (.int .i64 b)] (S) (fun s=>FSame S.F s.1.F∧s.1={S with F:=s.1.F}∧(s.2=true↔S.clash=false∧∃i k,zaM S.G.V a=some i∧zaM S.G.V b=some k∧One S.F.up i.toNat k.toNat)) (fun s=>.v (.bool s)):=by
  refine ACalls.clean (C:=fun r os=>∃s:CS×Bool,(FSame S.F s.1.F∧s.1={S with F:=s.1.F}∧(s.2=true↔S.clash=false∧∃i k,zaM S.G.V a=some i∧zaM S.G.V b=some k∧One S.F.up i.toNat k.toNat))∧r=(fun s:Bool=>.v (.bool s)) s.2∧os=zai 0 (zaF s.1)) ?_;refine zah Tryz.func96 (by kernel_rfl) rfl (by rw[Tryz.ntmps96];simp) (fun hm=>?_);simp only[Tryz.ntmps96,Tryz.results96,zi,zm,Nat.reduceAdd,Nat.reduceSub,zt,zq,zh,zj];simp only[zaF,zai,Nat.reduceAdd];refine zab fun Y0 y0=>?_;refine zaa ?_;simp only[↓bO,go_sem,seval];refine y0 _ ?_;(try clear y0 Y0);refine zab fun Y0 y0=>?_;refine zaa ?_;(iterate 2 (refine z8 1 fun Q0 q0=>?_;simp only[↓bO,go_sem,seval];refine q0 _ ?_;clear q0 Q0;simp only[go_sem]));refine z8 1 fun Q0 q0=>?_;simp only[↓bO,go_sem,seval];refine CCalls.at (zhG S a) (.cons (.v _) .nil) (fun _=>.tup (.cons (.v _) (.cons (.v _) .nil))) (i0:=0) (i1:=1) (i2:=2) (i3:=3) (i4:=4) (i5:=5) (i6:=6) (i7:=7) (by decide) (by simp) ⟨rfl,rfl,rfl,rfl,rfl,rfl,rfl,rfl,trivial⟩ (fun Z9 u9 hZ9=>?_);(try dsimp only at hZ9);simp only[zaL,zu,zy,zx,zaq,zaz,Nat.reduceEqDiff,↓reduceIte];obtain ⟨hZ,rfl⟩:=hZ9;obtain rfl:S=Z9:=hZ.symm;(try simp only[bS,bA,zaf,zad,zac]);(iterate 4 (refine q0 _ ?_;clear q0 Q0;simp only[go_sem];refine z8 1 fun Q0 q0=>?_;simp only[↓bO,go_sem,seval]));refine q0 _ ?_;clear q0 Q0;simp only[go_sem];simp only[↓bO,go_sem,seval];refine y0 _ ?_;(try clear y0 Y0);refine zab fun Y0 y0=>?_;refine zaa ?_;(iterate 2 (refine z8 1 fun Q0 q0=>?_;simp only[↓bO,go_sem,seval];refine q0 _ ?_;clear q0 Q0;simp only[go_sem]));refine z8 1 fun Q0 q0=>?_;simp only[↓bO,go_sem,seval];refine CCalls.at (zhG S b) (.cons (.v _) .nil) (fun _=>.tup (.cons (.v _) (.cons (.v _) .nil))) (i0:=0) (i1:=1) (i2:=2) (i3:=3) (i4:=4) (i5:=5) (i6:=6) (i7:=7) (by decide) (by simp) ⟨rfl,rfl,rfl,rfl,rfl,rfl,rfl,rfl,trivial⟩ (fun Z9 z9 hZ8=>?_);(try dsimp only at hZ8);simp only[zaL,zu,zy,zx,zaq,zaz,Nat.reduceEqDiff,↓reduceIte];obtain ⟨hZ,rfl⟩:=hZ8;obtain rfl:S=Z9:=hZ.symm;(try simp only[bS,bA,zaf,zad,zac]);(iterate 4 (refine q0 _ ?_;clear q0 Q0;simp only[go_sem];refine z8 1 fun Q0 q0=>?_;simp only[↓bO,go_sem,seval]));refine q0 _ ?_;clear q0 Q0;simp only[go_sem];simp only[↓bO,go_sem,seval];refine y0 _ ?_;(try clear y0 Y0);refine zab fun Y0 y0=>?_;refine zaa ?_;(iterate 2 (refine z8 1 fun Q0 q0=>?_;simp only[↓bO,go_sem,seval];refine q0 _ ?_;clear q0 Q0;simp only[go_sem]));refine zaN 24 rfl (fun hc24=>?_) (fun hc24=>?_)
  ·
   simp only[zc,zb];obtain ⟨hcs,i0,hvi,hi0⟩:=zek hc24;(iterate 3 (refine z8 1 fun Q0 q0=>?_;simp only[↓bO,go_sem,seval];refine q0 _ ?_;clear q0 Q0;simp only[go_sem]));refine zaN 27 rfl (fun hc27=>?_) (fun hc27=>?_)
   ·
    simp only[zc,zb];obtain ⟨_,k0,hvk,hk0⟩:=zek hc27;have hib:=hv _ _ hvi;have hkb:=hv _ _ hvk;obtain ⟨i,rfl⟩:∃i:Nat,i0=(i:Int):=⟨i0.toNat,by omega⟩;obtain ⟨k,rfl⟩:∃k:Nat,k0=(k:Int):=⟨k0.toNat,by omega⟩;(iterate 6 (refine z8 1 fun Q0 q0=>?_;simp only[↓bO,go_sem,seval,hi0,hk0];refine q0 _ ?_;clear q0 Q0;simp only[go_sem]));refine z8 1 fun Q0 q0=>?_;simp only[↓bO,go_sem,seval,hi0,hk0];refine FCalls.at (FSm_f S.F hF i k (by omega) (by omega)) (.cons (.v _) (.cons (.v _) .nil)) (fun _=>.v _) (i:=4) (j:=5) (k:=6) rfl rfl rfl (by decide) (by decide) (by decide) (by first | omega | (simp only;omega)) (by first | omega | (simp only;omega)) (by first | omega | (simp only;omega)) (fun G1 r1 hG1=>?_);(try dsimp only at hG1);simp only[zaz,Nat.reduceEqDiff,↓reduceIte];(try simp only[bS,bA,zaf,zad,zac]);refine q0 _ ?_;clear q0 Q0;simp only[go_sem];refine z8 1 fun Q0 q0=>?_;simp only[↓bO,go_sem,seval,hi0,hk0];refine q0 _ ?_;clear q0 Q0;simp only[go_sem];simp only[↓bO,go_sem,seval,hi0,hk0];refine y0 _ ?_;(try clear y0 Y0);refine zam ?_;(try simp only[zaf,zad,zac,zaZ,zaW,zaC,bS,bA]);refine ⟨_,zai 0 (zaF ({S with F:=G1})),⟨({S with F:=G1},r1),?_,rfl,rfl⟩,.v _ _,zcp (by omega) _,?_,?_,by omega⟩;· exact ⟨hG1.1,rfl,hG1.2.trans ⟨fun h9=>⟨hcs,_,_,hvi,hvk,h9⟩,fun h9=>(by obtain ⟨_,i9,k9,h1,h2,h3⟩:=h9;rw[hvi] at h1;rw[hvk] at h2;cases h1;cases h2;exact h3)⟩⟩
    ·
     exact Le.refl _
    · first | (refine ⟨0,rfl,rfl⟩) | (refine ⟨0,by simp only[zaF,zai,zw,zk,Nat.reduceAdd],rfl⟩)
   ·
    simp only[zc,zb];have hno2:=zeg hc27;(iterate 8 (refine z8 1 fun Q0 q0=>?_;simp only[↓bO,go_sem,seval];refine q0 _ ?_;clear q0 Q0;simp only[go_sem]));simp only[↓bO,go_sem,seval];refine y0 _ ?_;(try clear y0 Y0);refine zam ?_;(try simp only[zaf,zad,zac,zaZ,zaW,zaC,bS,bA]);refine ⟨_,zai 0 (zaF (S)),⟨(S,false),?_,rfl,rfl⟩,.v _ _,zcp (by omega) _,?_,?_,by omega⟩;· exact ⟨FSame.refl hF,rfl,by rcases hno2 with h9 | h9 <;> simp[h9]⟩
    ·
     exact Le.refl _
    · first | (refine ⟨0,rfl,rfl⟩) | (refine ⟨0,by simp only[zaF,zai,zw,zk,Nat.reduceAdd],rfl⟩)
  ·
   simp only[zc,zb];have hno:=zeg hc24;(iterate 11 (refine z8 1 fun Q0 q0=>?_;simp only[↓bO,go_sem,seval];refine q0 _ ?_;clear q0 Q0;simp only[go_sem]));simp only[↓bO,go_sem,seval];refine y0 _ ?_;(try clear y0 Y0);refine zam ?_;(try simp only[zaf,zad,zac,zaZ,zaW,zaC,bS,bA]);refine ⟨_,zai 0 (zaF (S)),⟨(S,false),?_,rfl,rfl⟩,.v _ _,zcp (by omega) _,?_,?_,by omega⟩;· exact ⟨FSame.refl hF,rfl,by rcases hno with h9 | h9 <;> simp[h9]⟩
   ·
    exact Le.refl _
   · first | (refine ⟨0,rfl,rfl⟩) | (refine ⟨0,by simp only[zaF,zai,zw,zk,Nat.reduceAdd],rfl⟩)
theorem PKind_c (S:CS) (hw:∀w∈S.W,w=-1∨(0≤w∧w<(S.G.N.length:Int))) (r:Nat) (x:Int) (hx:S.W[r]?=some x):ACalls Tryz.prog 95 [.agg [.ptr 0 0,.v (.int .i64 (r:Int))]] (zai 0 (zaF S)) 8 fun z os n=>(∃s:CS×Int,(s.1=S∧((x<0∧s.2=0)∨(0≤x∧∃g,S.G.N[x.toNat]?=some g∧s.2=g.k)))∧z=(fun s:Int=>.v (.int .i64 s)) s.2∧os=zai 0 (zaF s.1))∧n=8:=by
  refine ACalls.clean (C:=fun z os=>∃s:CS×Int,(s.1=S∧((x<0∧s.2=0)∨(0≤x∧∃g,S.G.N[x.toNat]?=some g∧s.2=g.k)))∧z=(fun s:Int=>.v (.int .i64 s)) s.2∧os=zai 0 (zaF s.1)) ?_;refine zah Tryz.func95 (by kernel_rfl) rfl (by rw[Tryz.ntmps95];simp) (fun hm=>?_);simp only[Tryz.ntmps95,Tryz.results95,zi,zm,Nat.reduceAdd,Nat.reduceSub,zt,zq,zh,zj];simp only[zaF,zai,Nat.reduceAdd];have hrl:=(ze.1 hx).1;have hwx:=hw x (zl hx);refine zab fun Y0 y0=>?_;refine zaa ?_;refine z8 1 fun Q0 q0=>?_;simp only[↓bO,go_sem,seval,hrl,gM hx,intC];refine q0 _ ?_;clear q0 Q0;simp only[go_sem];simp only[↓bO,go_sem,seval,hrl,gM hx,intC];refine y0 _ ?_;(try clear y0 Y0);refine zab fun Y0 y0=>?_;refine zab fun Y1 y1=>?_;refine za8 15 mixed (by kernel_rfl) fun J0 j0=>?_;(iterate 4 (simp only[go_sem];refine zaD 1 fun Q0 q0=>?_;simp only[↓za1,↓dOp,↓bO,go_sem,seval,hrl,gM hx,intC];refine q0 _ ?_;clear q0 Q0));simp only[go_sem];refine zfr 6 rfl (fun hc6=>?_) (fun hc6=>?_)
  ·
   simp only[zc,zb];cases hc6
  ·
   simp only[zc,zb];(iterate 10 (refine zaD 1 fun Q0 q0=>?_;simp only[↓za1,↓dOp,↓bO,go_sem,seval,hrl,gM hx,intC];refine q0 _ ?_;clear q0 Q0;simp only[go_sem]));simp only[↓za1,↓dOp,↓bO,go_sem,seval,hrl,gM hx,intC];refine j0 _ ?_;clear j0 J0;simp only[bL,aops,zaf,zad,zac];refine y1 _ ?_;(try clear y1 Y1);refine zan rfl (fun hb17=>?_) (fun hb17=>?_)
   ·
    (have hneg:x<0:=by simpa using hb17);refine zab fun Y1 y1=>?_;refine zaa ?_;simp only[↓bO,go_sem,seval,hrl,gM hx,intC];refine y1 _ ?_;(try clear y1 Y1);refine zam ?_;(try simp only[zaf,zad,zac,zaZ,zaW,zaC,bS,bA]);refine ⟨_,zai 0 (zaF (S)),⟨(S,(0:Int)),?_,rfl,rfl⟩,.v _ _,zcp (by omega) _,?_,?_,by omega⟩;· exact ⟨rfl,.inl ⟨hneg,rfl⟩⟩
    ·
     exact Le.refl _
    · first | (refine ⟨1,rfl,rfl⟩) | (refine ⟨0,rfl,rfl⟩) | (refine ⟨1,by simp only[zaF,zai,zw,zk,Nat.reduceAdd],rfl⟩) | (refine ⟨0,by simp only[zaF,zai,zw,zk,Nat.reduceAdd],rfl⟩)
   ·
    (have hpos:0≤x:=by simpa using hb17);obtain ⟨g,hg⟩:∃g,S.G.N[x.toNat]?=some g:=⟨_,zd (by omega)⟩;refine zar ?_;(try simp only[zaf,zad,zac]);refine y0 _ ?_;(try clear y0 Y0);refine zab fun Y0 y0=>?_;refine za8 14 mixed (by kernel_rfl) fun J0 j0=>?_;(iterate 13 (simp only[go_sem];refine zaD 1 fun Q0 q0=>?_;simp only[↓za1,↓dOp,↓bO,go_sem,seval,hrl,gM hx,intC];refine q0 _ ?_;clear q0 Q0));simp only[go_sem];simp only[↓za1,↓dOp,↓bO,go_sem,seval,hrl,gM hx,intC];refine j0 _ ?_;clear j0 J0;simp only[go_sem];refine z8 1 fun Q0 q0=>?_;simp only[↓bO,go_sem,seval,hrl,gM hx,intC];refine GCalls.at (zdj S.G x g hpos hg) (.cons (.v _) .nil) (.v _) (i:=1) (j:=2) (k:=3) rfl rfl rfl (by decide) (by decide) (by decide) (by first | omega | (simp only;omega)) (by first | omega | (simp only;omega)) (by first | omega | (simp only;omega)) ?_;simp only[zaz,Nat.reduceEqDiff,↓reduceIte];(try simp only[bS,bA,zaf,zad,zac]);refine q0 _ ?_;clear q0 Q0;simp only[go_sem];simp only[↓bO,go_sem,seval,hrl,gM hx,intC];refine y0 _ ?_;(try clear y0 Y0);refine zam ?_;(try simp only[zaf,zad,zac,zaZ,zaW,zaC,bS,bA]);refine ⟨_,zai 0 (zaF (S)),⟨(S,g.k),?_,rfl,rfl⟩,.v _ _,zcp (by omega) _,?_,?_,by omega⟩;· exact ⟨rfl,.inr ⟨hpos,g,hg,rfl⟩⟩
    ·
     exact Le.refl _
    · first | (refine ⟨1,rfl,rfl⟩) | (refine ⟨0,rfl,rfl⟩) | (refine ⟨1,by simp only[zaF,zai,zw,zk,Nat.reduceAdd],rfl⟩) | (refine ⟨0,by simp only[zaF,zai,zw,zk,Nat.reduceAdd],rfl⟩)
theorem CKind_c (S:CS) (hF:FInv S.F) (hfl:S.F.up.length=S.W.length) (hw:∀w∈S.W,w=-1∨(0≤w∧w<(S.G.N.length:Int))) (hv:∀n k,zaM S.G.V n=some k→0≤k∧k<(S.F.up.length:Int)) (n:Int):CCalls (σ:=Int) 48 [.ptr 0 0,.v (.int .i64 n)] (S) (fun s=>FSame S.F s.1.F∧s.1={S with F:=s.1.F}∧(((S.clash=true∨zaM S.G.V n=none)∧s.2=0)∨(S.clash=false∧∃(i:Int) (r:Nat) (x:Int),zaM S.G.V n=some i∧Rt S.F.up i.toNat r∧S.W[r]?=some x∧((x<0∧s.2=0)∨(0≤x∧∃g,S.G.N[x.toNat]?=some g∧s.2=g.k))))) (fun s=>.v (.int .i64 s)):=by
  refine ACalls.clean (C:=fun r os=>∃s:CS×Int,(FSame S.F s.1.F∧s.1={S with F:=s.1.F}∧(((S.clash=true∨zaM S.G.V n=none)∧s.2=0)∨(S.clash=false∧∃(i:Int) (r:Nat) (x:Int),zaM S.G.V n=some i∧Rt S.F.up i.toNat r∧S.W[r]?=some x∧((x<0∧s.2=0)∨(0≤x∧∃g,S.G.N[x.toNat]?=some g∧s.2=g.k)))))∧r=(fun s:Int=>.v (.int .i64 s)) s.2∧os=zai 0 (zaF s.1)) ?_;refine zah Tryz.func48 (by kernel_rfl) rfl (by rw[Tryz.ntmps48];simp) (fun hm=>?_);simp only[Tryz.ntmps48,Tryz.results48,zi,zm,Nat.reduceAdd,Nat.reduceSub,zt,zq,zh,zj];simp only[zaF,zai,Nat.reduceAdd];refine zab fun Y0 y0=>?_;refine zaa ?_;simp only[↓bO,go_sem,seval];refine y0 _ ?_;(try clear y0 Y0);refine zab fun Y0 y0=>?_;refine zaa ?_;(iterate 2 (refine z8 1 fun Q0 q0=>?_;simp only[↓bO,go_sem,seval];refine q0 _ ?_;clear q0 Q0;simp only[go_sem]));refine z8 1 fun Q0 q0=>?_;simp only[↓bO,go_sem,seval];refine CCalls.at (zhG S n) (.cons (.v _) .nil) (fun _=>.tup (.cons (.v _) (.cons (.v _) .nil))) (i0:=0) (i1:=1) (i2:=2) (i3:=3) (i4:=4) (i5:=5) (i6:=6) (i7:=7) (by decide) (by simp) ⟨rfl,rfl,rfl,rfl,rfl,rfl,rfl,rfl,trivial⟩ (fun Z9 u9 hZ9=>?_);(try dsimp only at hZ9);simp only[zaL,zu,zy,zx,zaq,zaz,Nat.reduceEqDiff,↓reduceIte];obtain ⟨hZ,rfl⟩:=hZ9;obtain rfl:S=Z9:=hZ.symm;(try simp only[bS,bA,zaf,zad,zac]);(iterate 4 (refine q0 _ ?_;clear q0 Q0;simp only[go_sem];refine z8 1 fun Q0 q0=>?_;simp only[↓bO,go_sem,seval]));refine q0 _ ?_;clear q0 Q0;simp only[go_sem];simp only[↓bO,go_sem,seval];refine y0 _ ?_;(try clear y0 Y0);refine zab fun Y0 y0=>?_;refine zab fun Y1 y1=>?_;refine zaa ?_;refine z8 1 fun Q0 q0=>?_;simp only[↓bO,go_sem,seval];refine q0 _ ?_;clear q0 Q0;simp only[go_sem];simp only[↓bO,go_sem,seval];refine y1 _ ?_;(try clear y1 Y1);refine zan rfl (fun hb14=>?_) (fun hb14=>?_)
  ·
   have hno:=zeg (by simpa using hb14);refine zab fun Y1 y1=>?_;refine zaa ?_;simp only[↓bO,go_sem,seval];refine y1 _ ?_;(try clear y1 Y1);refine zam ?_;(try simp only[zaf,zad,zac,zaZ,zaW,zaC,bS,bA]);refine ⟨_,zai 0 (zaF (S)),⟨(S,(0:Int)),?_,rfl,rfl⟩,.v _ _,zcp (by omega) _,?_,?_,by omega⟩;· exact ⟨FSame.refl hF,rfl,.inl ⟨hno,rfl⟩⟩
   ·
    exact Le.refl _
   · first | (refine ⟨0,rfl,rfl⟩) | (refine ⟨0,by simp only[zaF,zai,zw,zk,Nat.reduceAdd],rfl⟩)
  ·
   obtain ⟨hcs,i0,hvi,hi0⟩:=zek (S:=S) (n:=n) (by simpa using hb14);have hib:=hv _ _ hvi;obtain ⟨i,rfl⟩:∃i:Nat,i0=(i:Int):=⟨i0.toNat,by omega⟩;refine zar ?_;(try simp only[zaf,zad,zac]);refine y0 _ ?_;(try clear y0 Y0);refine zab fun Y0 y0=>?_;refine zaa ?_;(iterate 3 (refine z8 1 fun Q0 q0=>?_;simp only[↓bO,go_sem,seval,hi0];refine q0 _ ?_;clear q0 Q0;simp only[go_sem]));refine z8 1 fun Q0 q0=>?_;simp only[↓bO,go_sem,seval,hi0];refine CCalls.at (zeu S hF i (by omega)) (.cons (.v _) .nil) (fun _=>.v _) (i0:=0) (i1:=1) (i2:=2) (i3:=3) (i4:=4) (i5:=5) (i6:=6) (i7:=7) (by decide) (by simp) ⟨rfl,rfl,rfl,rfl,rfl,rfl,rfl,rfl,trivial⟩ (fun S1 r hS1=>?_);(try dsimp only at hS1);simp only[zaL,zu,zy,zx,zaq,zaz,Nat.reduceEqDiff,↓reduceIte];obtain ⟨hfs,hrt,hS1e⟩:=hS1;have hrl:=hrt.lt';have hrl2:=hrt.lt;obtain ⟨x,hx⟩:∃x,S.W[r]?=some x:=⟨_,zd (by omega)⟩;(have hx1:S1.W[r]?=some x:=by rw[hS1e];exact hx);(try simp only[bS,bA,zaf,zad,zac]);(iterate 2 (refine q0 _ ?_;clear q0 Q0;simp only[go_sem];refine z8 1 fun Q0 q0=>?_;simp only[↓bO,go_sem,seval,hi0]));refine ACalls.mono (show ACalls Tryz.prog 95 _ (zai 0 (zaF S1)) 8 _ from PKind_c S1 (by rw[hS1e];exact hw) r x hx1) ?_;rintro z os' nx' ⟨⟨s9,⟨hs9,hk9⟩,rfl,rfl⟩,rfl⟩;obtain rfl:S1=s9.1:=hs9.symm;simp only[zaF,zai,Nat.reduceAdd];(try simp only[bS,bA,zaf,zad,zac]);refine q0 _ ?_;clear q0 Q0;simp only[go_sem];simp only[↓bO,go_sem,seval,hi0];refine y0 _ ?_;(try clear y0 Y0);refine zam ?_;(try simp only[zaf,zad,zac,zaZ,zaW,zaC,bS,bA]);refine ⟨_,zai 0 (zaF (s9.1)),⟨(s9.1,s9.2),?_,rfl,rfl⟩,.v _ _,zcp (by omega) _,?_,?_,by omega⟩;· exact ⟨hfs,hS1e,.inr ⟨hcs,_,r,x,hvi,hrt,hx,by rw[hS1e] at hk9;exact hk9⟩⟩
   ·
    exact Le.refl _
   · first | (refine ⟨0,rfl,rfl⟩) | (refine ⟨0,by simp only[zaF,zai,zw,zk,Nat.reduceAdd],rfl⟩)
end Go.Proofs.YtpfiliamceimmaaGreatDoor
