/- Texts of the abstract walk, of the contracts and of the plain laws, packed (part 39 of 50): Gr6 Un6 Un7 Un8. Conditions: none. -/
import Derived.Test.YtjjjckjebkmnjaaGreatPk38
set_option linter.unusedVariables false
set_option linter.unusedSimpArgs false
set_option maxRecDepth 100000
set_option maxHeartbeats 4000000
namespace Go.Proofs.YtjjjckjebkmnjaaGreat
open Go Go.RowKit
attribute [local irreducible] aops zaV
theorem New_calls:ACalls Tryz.prog 46 [] [] 0 fun r os n=>(r=.ptr 1 0∧os=[(1,.cells 114 [.v (.slice none 0 0),.map 0]),(0,.map [])])∧n=2:=by
  refine ACalls.cleanN (n:=2) (C:=fun r os=>r=_∧os=_) (by omega) ?_;refine zaj Tryz.func46 (by kernel_rfl) rfl (by rw[Tryz.ntmps46];simp) (fun hm=>?_);simp only[Tryz.ntmps46,Tryz.results46,zh,zm,Nat.reduceAdd,Nat.reduceSub,zu,zw,zi,zj];(iterate 2 (refine zad fun Y0 y0=>?_;refine zac ?_;simp only[↓bO,go_sem,seval];refine y0 _ ?_;(try clear y0 Y0)));refine zaq ?_;(try simp only[zah,zaf,zae,za1,zaZ,zaE,bS,bA]);refine ⟨_,_,⟨rfl,rfl⟩,.ptr (by omega),⟨by omega,⟨.v _ _,.map (by omega),trivial⟩,by omega,(by intro p hp;cases hp),trivial⟩,Le.refl _,⟨0,rfl,rfl⟩,by omega⟩
end Go.Proofs.YtjjjckjebkmnjaaGreat
namespace Go.Proofs.YtjjjckjebkmnjaaGreat
open Go Go.RowKit
attribute [local irreducible] aops zaV
theorem Err_c (S:CS):CCalls (σ:=Unit) 51 [.ptr 0 0] (S) (fun s=>s.1=S) (fun s=>.v (.int .i64 (if S.clash then 7 else 0))):=by
  refine ACalls.clean (C:=fun r os=>∃s:CS×Unit,(s.1=S)∧r=(fun s:Unit=>.v (.int .i64 (if S.clash then 7 else 0))) s.2∧os=zar 0 (zaN s.1)) ?_;refine zaj Tryz.func51 (by kernel_rfl) rfl (by rw[Tryz.ntmps51];simp) (fun hm=>?_);simp only[Tryz.ntmps51,Tryz.results51,zh,zm,Nat.reduceAdd,Nat.reduceSub,zu,zw,zi,zj];simp only[zaN,zar,Nat.reduceAdd];refine zad fun Y0 y0=>?_;refine zac ?_;simp only[↓bO,go_sem,seval];refine y0 _ ?_;(try clear y0 Y0);refine zad fun Y0 y0=>?_;refine zao ?_;refine zad fun Y1 y1=>?_;refine zac ?_;simp only[↓bO,go_sem,seval];refine y1 _ ?_;(try clear y1 Y1);refine zak rfl (fun hb3=>?_) (fun hb3=>?_)
  ·
   cases hb3
  ·
   refine zad fun Y1 y1=>?_;refine zac ?_;refine zab 4 fun Q0 q0=>?_;simp only[↓bO,go_sem,seval];refine q0 _ ?_;clear q0 Q0;simp only[go_sem];simp only[↓bO,go_sem,seval];refine y1 _ ?_;(try clear y1 Y1);refine zak rfl (fun hb6=>?_) (fun hb6=>?_)
   ·
    refine zad fun Y1 y1=>?_;refine zac ?_;simp only[↓bO,go_sem,seval];refine y1 _ ?_;(try clear y1 Y1);refine zaq ?_;(try simp only[zah,zaf,zae,za1,zaZ,zaE,bS,bA]);refine ⟨_,zar 0 (zaN (S)),⟨(S,()),?_,rfl,rfl⟩,.v _ _,zdo (by omega) _,?_,?_,by omega⟩;· rfl
    ·
     rw[show S.clash=true from hb6];exact Le.refl _
    · first | (refine ⟨0,rfl,rfl⟩) | (refine ⟨0,by simp only[zaN,zar,zy,zt,Nat.reduceAdd],rfl⟩)
   ·
    refine zap ?_;(try simp only[zah,zaf,zae]);refine y0 _ ?_;(try clear y0 Y0);refine zad fun Y0 y0=>?_;refine zac ?_;simp only[↓bO,go_sem,seval];refine y0 _ ?_;(try clear y0 Y0);refine zaq ?_;(try simp only[zah,zaf,zae,za1,zaZ,zaE,bS,bA]);refine ⟨_,zar 0 (zaN (S)),⟨(S,()),?_,rfl,rfl⟩,.v _ _,zdo (by omega) _,?_,?_,by omega⟩;· rfl
    ·
     rw[show S.clash=false from hb6];exact Le.refl _
    · first | (refine ⟨0,rfl,rfl⟩) | (refine ⟨0,by simp only[zaN,zar,zy,zt,Nat.reduceAdd],rfl⟩)
theorem UNew_calls:ACalls Tryz.prog 45 [.v (.int .i64 0)] [] 0 fun r os n=>(r=.tup [.ptr 0 0,.v (.int .i64 0)]∧os=[(0,.cells 111 [.v (.slice none 0 0),.v (.slice none 0 0),.v (.int .i64 0),.v (.int .i64 0)])])∧n=1:=by
  refine ACalls.cleanN (n:=1) (C:=fun r os=>r=_∧os=_) (by omega) ?_;refine zaj Tryz.func45 (by kernel_rfl) rfl (by rw[Tryz.ntmps45];simp) (fun hm=>?_);simp only[Tryz.ntmps45,Tryz.results45,zh,zm,Nat.reduceAdd,Nat.reduceSub,zu,zw,zi,zj];refine zad fun Y0 y0=>?_;refine zac ?_;simp only[↓bO,go_sem,seval];refine y0 _ ?_;(try clear y0 Y0);refine zad fun Y0 y0=>?_;refine zad fun Y1 y1=>?_;refine zac ?_;refine zab 3 fun Q0 q0=>?_;simp only[↓bO,go_sem,seval];refine q0 _ ?_;clear q0 Q0;simp only[go_sem];refine zaI 7 rfl (fun hc7=>?_) (fun hc7=>?_)
  ·
   simp only[zc,zb];cases hc7
  ·
   simp only[zc,zb];simp only[↓bO,go_sem,seval];refine y1 _ ?_;(try clear y1 Y1);refine zak rfl (fun hb10=>?_) (fun hb10=>?_)
   ·
    cases hb10
   ·
    refine zap ?_;(try simp only[zah,zaf,zae]);refine y0 _ ?_;(try clear y0 Y0);refine zad fun Y0 y0=>?_;refine zac ?_;simp only[↓bO,go_sem,seval];refine y0 _ ?_;(try clear y0 Y0);refine zad fun Y0 y0=>?_;refine zad fun Y1 y1=>?_;refine zac ?_;simp only[↓bO,go_sem,seval];refine y1 _ ?_;(try clear y1 Y1);refine zao ?_;refine zaG (σ:=Unit) (mB 20 24592) (fun s=>True) (fun s=>[(14,.v (.int .i64 0))]) (fun s=>[]) (fun s=>0) () (trivial) ?_ (fun s hs=>?_)
    ·
     simp only[zau,zav,zan,zaA,mB,zc,zb,seval];exact zbl
    simp only[zau,zav,zan,zaA,mB,zc,zb,seval];refine zad fun Y1 y1=>?_;refine zac ?_;simp only[↓bO,go_sem,seval];refine y1 _ ?_;(try clear y1 Y1);refine zad fun Y1 y1=>?_;refine zak rfl (fun hb15=>?_) (fun hb15=>?_)
    ·
     cases hb15
    ·
     refine zaK ?_;simp only[zah,zaf,zae,bA,Nat.reduceEqDiff,↓reduceIte];refine y0 _ ?_;(try clear y0 Y0);refine zad fun Y0 y0=>?_;refine zac ?_;simp only[↓bO,go_sem,seval];refine y0 _ ?_;(try clear y0 Y0);refine zaq ?_;(try simp only[zah,zaf,zae,za1,zaZ,zaE,bS,bA]);refine ⟨_,_,⟨rfl,rfl⟩,.tup ⟨.ptr (by omega),.v _ _,trivial⟩,⟨by omega,⟨.v _ _,.v _ _,.v _ _,.v _ _,trivial⟩,trivial⟩,Le.refl _,⟨0,rfl,rfl⟩,by omega⟩
end Go.Proofs.YtjjjckjebkmnjaaGreat
namespace Go.Proofs.YtjjjckjebkmnjaaGreat
open Go Go.RowKit
attribute [local irreducible] aops zaV
theorem zeM (l:List (Int×Int)):∀x∈l.map pC,DataL x:=fun x hx=>by
  obtain ⟨p,_,rfl⟩:=zP.1 hx;exact .cons (.v _) (.cons (.v _) .nil)
theorem pC_all (l:List (Int×Int)):((l.map pC).all fun y=>y.all AV.one)=true:=by
  simp[pC,AV.one,Value.oneCell']
theorem snoc_of {α:Type} {l:List α} (h:0<l.length):∃w p,l=w++[p]:=by
  (rcases List.eq_nil_or_concat l with e | ⟨w,p,e⟩);(· rw[e] at h;simp at h);· exact ⟨w,p,by rw[e,List.concat_eq_append]⟩
theorem pC_app (l m:List (Int×Int)):l.map pC++m.map pC=(l++m).map pC:=by rw[zp]
theorem zgq (up:List Nat):zbH up≤up.length:=by
  have h:=List.countP_le_length (p:=fun i=>decide (up[i]?=some i)) (l:=List.range up.length);rw[List.length_range] at h;exact h
theorem zc5 (p:Nat→Bool) (a:Nat):∀b,(List.range (a+b)).countP p≤(List.range a).countP p+b
  | 0=>zS _
  | b+1=>by
    rw[← Nat.add_assoc,List.range_succ,List.countP_append];have h1:=zc5 p a b;have h2:=List.countP_le_length (p:=p) (l:=[a+b]);simp only[zh,zm] at h2;omega
theorem zfe {S:CS} {G:GS} {k:Nat} {F:FS} {W:List Int} (h:LayI S G k F W) (hf:S.F.up.length=S.W.length):zbH F.up+S.W.length≤zbH S.F.up+k:=by
  have hge:=h.ge;unfold zbH;rw[h.fl,hf];obtain ⟨b,hb⟩:∃b,k=S.W.length+b:=⟨k-S.W.length,by omega⟩;have h1:=zc5 (fun i=>decide (F.up[i]?=some i)) S.W.length b;rw[← hb] at h1
  have h2:(List.range S.W.length).countP (fun i=>decide (F.up[i]?=some i))≤(List.range S.W.length).countP (fun i=>decide (S.F.up[i]?=some i)):=List.countP_mono_left fun i hi hp=>by
    simp only[zl] at hp ⊢;(have hi2:i<S.W.length:=by simpa using hi);(rcases (h.rt i i).1 (.base hp) with h3 | ⟨h3,_⟩);(· exact h3.root);· omega
  omega
def StepJ (S S2:CS):Prop:=0≤S.steps→S.steps≤549755813888→S2.steps+(S.G.N.length:Int)=S.steps+(S2.G.N.length:Int)∧zbH S2.F.up+S.G.N.length≤zbH S.F.up+S2.G.N.length∧S.G.N.length≤S2.G.N.length
theorem StepJ.of {S S1 S2:CS} (h1:LayI S S1.G S1.G.N.length S1.F S1.W) (h2:LayI S1 S2.G S2.G.N.length S2.F S2.W) (k1:StepsI S S1.G.N.length S1.steps) (k2:StepsI S1 S2.G.N.length S2.steps) (w:S.W.length=S.G.N.length) (w1:S1.W.length=S1.G.N.length) (hf:S.F.up.length=S.W.length) (hm:S1.G.N.length≤1048576):StepJ S S2:=fun p1 p2=>by
  have g1:=h1.ge;have g2:=h2.ge;have a1:=k1 p1 (by omega);have a2:=k2 (by omega) (by omega);have b1:=zfe h1 hf;have b2:=zfe h2 (h1.fl.trans h1.wl.symm);refine ⟨?_,?_,?_⟩ <;> omega
def StepL (S T:CS) (w:Nat):Prop:=0≤S.steps→S.steps≤549755813888→S.steps≤T.steps∧S.G.N.length≤T.G.N.length∧T.steps+9 * (zbH T.F.up:Int)+(w:Int)+10 * (S.G.N.length:Int)≤S.steps+9 * (zbH S.F.up:Int)+10 * (T.G.N.length:Int)+1
theorem StepJ.start {S T:CS} (h:StepJ S T):StepL S T 1:=fun p1 p2=>by
  obtain ⟨h1,h2,h3⟩:=h p1 p2;refine ⟨by omega,h3,?_⟩;omega
theorem StepL.step {S T U:CS} {w v:Nat} (h:StepL S T w) (hn:zbH S.F.up≤1048576) (ht:T.G.N.length≤1048576) (hU:U.steps=IntKind.i64.wrap (T.steps+1)) (hg:U.G=T.G) (hl:9 * zbH U.F.up+v<9 * zbH T.F.up+w):StepL S U v:=fun p1 p2=>by
  obtain ⟨h1,h2,h3⟩:=h p1 p2;rw[hU,hg,zaO (by omega) (by omega)];refine ⟨by omega,h2,?_⟩;omega
def StepR (S T:CS):Prop:=T=S∨StepL S T 0
theorem StepL.last {S T:CS} {w:Nat} (h:StepL S T w):StepR S T:=.inr fun p1 p2=>by
  obtain ⟨h1,h2,h3⟩:=h p1 p2;refine ⟨h1,h2,?_⟩;omega
def EqR (S:CS) (E:List (Nat×Nat)) (m:List RNode) (l u:Ty) (s:CS×Int):Prop :=
  (S.clash=true∧s=(S,7))∨(S.clash=false∧(l.right&&u.right)=false∧s=(S,1)) ∨
  (S.clash=false∧l.right=true∧u.right=true∧s.1.G=(u.gadd (l.gadd S.G).1).1 ∧
    ((s.2=0∧s.1.clash=false∧Good (E++[((l.radd m).2.toNat,(u.radd (l.radd m).1).2.toNat)]) (u.radd (l.radd m).1).1 s.1) ∨
     (s.2=7∧s.1.clash=true∧Clash (shR (u.radd (l.radd m).1).1) (E++[((l.radd m).2.toNat,(u.radd (l.radd m).1).2.toNat)]))))
theorem clz3 {p:Prop} (h:p:=by repeat' first | exact trivial | exact .any _ | exact .ptr (by omega) | exact .own (by omega) | exact .v _ _ | (refine ⟨?_,?_⟩)):p:=h
theorem Equate2_c (S:CS) (E:List (Nat×Nat)) (m:List RNode) (l u:Ty) (h:S.clash=false→Good E m S) (hl:S.G.N.length+l.cnt+u.cnt≤1048576) (hcl:l.cnt≤400) (hcr:u.cnt≤400):CCalls (σ:=Int) 28 [.ptr 0 0,.agg l.cells,.agg u.cells] (S) (fun s=>EqR S E m l u s∧StepR S s.1) (fun s=>.v (.int .i64 s)):=by
  refine ACalls.clean (C:=fun r os=>∃s:CS×Int,(EqR S E m l u s∧StepR S s.1)∧r=(fun s:Int=>.v (.int .i64 s)) s.2∧os=zar 0 (zaN s.1)) ?_;refine zaj Tryz.func28 (by kernel_rfl) rfl (by rw[Tryz.ntmps28];simp) (fun hm=>?_);simp only[Tryz.ntmps28,Tryz.results28,zh,zm,Nat.reduceAdd,Nat.reduceSub,zu,zw,zi,zj];simp only[zaN,zar,Nat.reduceAdd];simp only[Ty.cells_eq l,Ty.cells_eq u,zi,zj];refine zad fun Y0 y0=>?_;refine zac ?_;refine zab 2 fun Q0 q0=>?_;simp only[↓bO,go_sem,seval,zaB,zbv,zz,zC,Nat.reduceBEq];refine q0 _ ?_;clear q0 Q0;simp only[go_sem];simp only[↓bO,go_sem,seval,zaB,zbv,zz,zC,Nat.reduceBEq];refine y0 _ ?_;(try clear y0 Y0);refine zeK ?_;refine zad fun Y0 y0=>?_;refine zao ?_;refine zad fun Y1 y1=>?_;refine zac ?_;refine zab 2 fun Q0 q0=>?_;simp only[↓bO,go_sem,seval,zaB,zbv,zz,zC,Nat.reduceBEq];refine q0 _ ?_;clear q0 Q0;simp only[go_sem];simp only[↓bO,go_sem,seval,zaB,zbv,zz,zC,Nat.reduceBEq];refine y1 _ ?_;(try clear y1 Y1);refine zak rfl (fun hb11=>?_) (fun hb11=>?_)
  ·
   cases hb11
  ·
   refine zad fun Y1 y1=>?_;refine zac ?_;(iterate 2 (refine zab 2 fun Q0 q0=>?_;simp only[↓bO,go_sem,seval,zaB,zbv,zz,zC,Nat.reduceBEq];refine q0 _ ?_;clear q0 Q0;simp only[go_sem]));simp only[↓bO,go_sem,seval,zaB,zbv,zz,zC,Nat.reduceBEq];refine y1 _ ?_;(try clear y1 Y1);refine zak rfl (fun hb14=>?_) (fun hb14=>?_)
   ·
    have hcs:S.clash=true:=hb14;refine zad fun Y1 y1=>?_;refine zac ?_;simp only[↓bO,go_sem,seval,zaB,zbv,zz,zC,Nat.reduceBEq];refine y1 _ ?_;(try clear y1 Y1);refine zaq ?_;(try simp only[zah,zaf,zae,za1,zaZ,zaE,bS,bA]);refine ⟨_,zar 0 (zaN (S)),⟨(S,7),?_,rfl,rfl⟩,.v _ _,zdo (by omega) _,?_,?_,by omega⟩;· exact ⟨.inl ⟨hcs,rfl⟩,.inl rfl⟩
    ·
     exact Le.refl _
    · first | (refine ⟨2,rfl,rfl⟩) | (refine ⟨2,by simp only[zaN,zar,zy,zt,Nat.reduceAdd],rfl⟩)
   ·
    have hcs:S.clash=false:=hb14;have hG:=h hcs;refine zad fun Y1 y1=>?_;refine zac ?_;refine zab 1 fun Q0 q0=>?_;simp only[↓bO,go_sem,seval,zaB,zbv,zz,zC,Nat.reduceBEq];refine q0 _ ?_;clear q0 Q0;simp only[go_sem];refine zab 1 fun Q0 q0=>?_;simp only[↓bO,go_sem,seval,zaB,zbv,zz,zC,Nat.reduceBEq];refine APure.call (show APure Tryz.prog 47 [.agg [.v (.int .i64 l.k),.v (.int .i64 l.n),.sl 3 (l.ps.map Ty.cells)]] _ from by rw[Ty.refold];exact zed l) ?_;(try simp only[bS,bA,zah,zaf,zae]);refine q0 _ ?_;clear q0 Q0;simp only[go_sem];refine zab 2 fun Q0 q0=>?_;simp only[↓bO,go_sem,seval,zaB,zbv,zz,zC,Nat.reduceBEq];refine q0 _ ?_;clear q0 Q0;simp only[go_sem];refine zaI 23 rfl (fun hc23=>?_) (fun hc23=>?_)
    ·
     simp only[zc,zb];(have hno:(l.right&&u.right)=false:=by (have h9:l.right=false:=by simpa using hc23);rw[h9];rfl);(iterate 2 (refine zab 2 fun Q0 q0=>?_;simp only[↓bO,go_sem,seval,zaB,zbv,zz,zC,Nat.reduceBEq];refine q0 _ ?_;clear q0 Q0;simp only[go_sem]));simp only[↓bO,go_sem,seval,zaB,zbv,zz,zC,Nat.reduceBEq];refine y1 _ ?_;(try clear y1 Y1);refine zak (b:=true) (by first | exact rfl | exact congrArg (fun b=>AV.v (.bool b)) hb19) (fun _=>?_) (fun h=>(by cases h));refine zad fun Y1 y1=>?_;refine zac ?_;simp only[↓bO,go_sem,seval,zaB,zbv,zz,zC,Nat.reduceBEq];refine y1 _ ?_;(try clear y1 Y1);refine zaq ?_;(try simp only[zah,zaf,zae,za1,zaZ,zaE,bS,bA]);refine ⟨_,zar 0 (zaN (S)),⟨(S,1),?_,rfl,rfl⟩,.v _ _,zdo (by omega) _,?_,?_,by omega⟩;· exact ⟨.inr (.inl ⟨hcs,hno,rfl⟩),.inl rfl⟩
     ·
      exact Le.refl _
     · first | (refine ⟨2,rfl,rfl⟩) | (refine ⟨2,by simp only[zaN,zar,zy,zt,Nat.reduceAdd],rfl⟩)
    ·
     simp only[zc,zb];(have hlr:l.right=true:=by simpa using hc23);refine zab 1 fun Q0 q0=>?_;simp only[↓bO,go_sem,seval,zaB,zbv,zz,zC,Nat.reduceBEq];refine q0 _ ?_;clear q0 Q0;simp only[go_sem];refine zab 1 fun Q0 q0=>?_;simp only[↓bO,go_sem,seval,zaB,zbv,zz,zC,Nat.reduceBEq];refine APure.call (show APure Tryz.prog 47 [.agg [.v (.int .i64 u.k),.v (.int .i64 u.n),.sl 3 (u.ps.map Ty.cells)]] _ from by rw[Ty.refold];exact zed u) ?_;(try simp only[bS,bA,zah,zaf,zae]);refine q0 _ ?_;clear q0 Q0;simp only[go_sem];refine zab 2 fun Q0 q0=>?_;simp only[↓bO,go_sem,seval,zaB,zbv,zz,zC,Nat.reduceBEq];refine q0 _ ?_;clear q0 Q0;simp only[go_sem];simp only[↓bO,go_sem,seval,zaB,zbv,zz,zC,Nat.reduceBEq];refine y1 _ ?_;(try clear y1 Y1);refine zak rfl (fun hb19=>?_) (fun hb19=>?_)
     ·
      (have hno:(l.right&&u.right)=false:=by first | exact hno | ((have h9:u.right=false:=by simpa using hb19);rw[h9,Bool.and_false]));refine zad fun Y1 y1=>?_;refine zac ?_;simp only[↓bO,go_sem,seval,zaB,zbv,zz,zC,Nat.reduceBEq];refine y1 _ ?_;(try clear y1 Y1);refine zaq ?_;(try simp only[zah,zaf,zae,za1,zaZ,zaE,bS,bA]);refine ⟨_,zar 0 (zaN (S)),⟨(S,1),?_,rfl,rfl⟩,.v _ _,zdo (by omega) _,?_,?_,by omega⟩;· exact ⟨.inr (.inl ⟨hcs,hno,rfl⟩),.inl rfl⟩
      ·
       exact Le.refl _
      · first | (refine ⟨2,rfl,rfl⟩) | (refine ⟨2,by simp only[zaN,zar,zy,zt,Nat.reduceAdd],rfl⟩)
     ·
      (have hrr:u.right=true:=by simpa using hb19);refine zap ?_;(try simp only[zah,zaf,zae]);refine y0 _ ?_;(try clear y0 Y0);refine zcT (σ:=CS×Int×Int) (mB 73 129) (fun j=>[(7,.own 10 1)]) (fun j=>[(10,.row 69 2 ([(j.2.1,j.2.2)].map pC)),(0,.cells 98 [.v (.int .i64 j.1.steps),.ptr 1 0,.ptr 4 0,.own 7 j.1.W.length,.v (.bool j.1.clash)]),(1,.cells 114 [.osl 2 4 (j.1.G.N.map GNode.cells),.map 3]),(2,.tok 133 4 j.1.G.N.length),(3,.map (j.1.G.V.map vC)),(4,.cells 111 [.own 5 j.1.F.up.length,.own 6 j.1.F.rank.length,.v (.int .i64 j.1.F.sets),.v (.int .i64 j.1.F.steps)]),(5,.row 3 1 (j.1.F.up.map nC)),(6,.row 3 1 (j.1.F.rank.map intC)),(7,.row 3 1 (j.1.W.map intC))]) 11 (fun j=>Good E (u.radd (l.radd m).1).1 j.1∧j.2.1=(l.radd m).2∧j.2.2=(u.radd (l.radd m).1).2∧(0≤j.2.1∧j.2.1<(j.1.G.N.length:Int))∧(0≤j.2.2∧j.2.2<(j.1.G.N.length:Int))∧j.1.G=(u.gadd (l.gadd S.G).1).1∧j.1.clash=false∧j.1.G.N.length≤1048576∧StepJ S j.1) ?_ (fun j hj=>?_)
      ·
       refine zaY [] 9 rfl mixed (trivial) rfl ?_;dsimp only;refine zag 0 rfl (by kernel_rfl) (by kernel_rfl) (by kernel_rfl) (fun _ _ h=>h) fun Q0 q0=>?_;simp only[↓bO,go_sem,seval,zaB,zbv,zz,zC,Nat.reduceBEq];refine q0 _ ?_;clear q0 Q0;refine zag 3 rfl (by kernel_rfl) (by kernel_rfl) (by kernel_rfl) (fun _ _ h=>h) fun Q0 q0=>?_;simp only[↓bO,go_sem,seval,zaB,zbv,zz,zC,Nat.reduceBEq];refine q0 _ ?_;clear q0 Q0;refine za6 (i:=1) (j:=4) (by kernel_rfl) ?_ ?_
       ·
        refine zas rfl rfl fun Q0 q0=>?_;simp only[↓bO,go_sem,seval,zaB,zbv,zz,zC,Nat.reduceBEq];refine q0 _ ⟨trivial,?_⟩;clear q0 Q0;refine za6 (i:=2) (j:=4) (by kernel_rfl) ?_ ?_
        ·
         refine zas rfl rfl fun Q0 q0=>?_;simp only[↓bO,go_sem,seval,zaB,zbv,zz,zC,Nat.reduceBEq];rw[Ty.refold l];refine CCalls.at (zix S l hlr hG.w.c.g hG.w.c.f hG.w.c.fl hG.w.c.wl (by omega)) (.cons (Ty.dataAgg l) .nil) (fun _=>.v _) (i0:=0) (i1:=1) (i2:=2) (i3:=3) (i4:=4) (i5:=5) (i6:=6) (i7:=7) (by decide) (by simp) ⟨rfl,rfl,rfl,rfl,rfl,rfl,rfl,rfl,trivial⟩ (fun S1 n1 hL1=>?_);(try dsimp only at hL1);simp only[zaX,zB,zF,zD,zan,zaA,Nat.reduceEqDiff,↓reduceIte];obtain ⟨hG1,he1,hn1,hn1b,hg1,hc1⟩:=hG.lay hlr hcl hL1.1;have hle1:=(l.gadd_inv S.G hG.w.c.g).1.le;rw[← hg1] at hle1;(try simp only[bS,bA]);refine q0 _ ⟨trivial,?_⟩;clear q0 Q0;refine zai (i:=4) (by kernel_rfl) ?_
         ·
          refine zas rfl rfl fun Q0 q0=>?_;simp only[↓bO,go_sem,seval,zaB,zbv,zz,zC,Nat.reduceBEq];refine q0 _ ⟨trivial,?_⟩;clear q0 Q0;refine zai (i:=5) (by kernel_rfl) ?_
          ·
           refine zas rfl rfl fun Q0 q0=>?_;simp only[↓bO,go_sem,seval,zaB,zbv,zz,zC,Nat.reduceBEq];rw[Ty.refold u];refine CCalls.at (zix S1 u hrr hG1.w.c.g hG1.w.c.f hG1.w.c.fl hG1.w.c.wl (by omega)) (.cons (Ty.dataAgg u) .nil) (fun _=>.v _) (i0:=0) (i1:=1) (i2:=2) (i3:=3) (i4:=4) (i5:=5) (i6:=6) (i7:=7) (by decide) (by simp) ⟨rfl,rfl,rfl,rfl,rfl,rfl,rfl,rfl,trivial⟩ (fun S2 n2 hL2=>?_);(try dsimp only at hL2);simp only[zaX,zB,zF,zD,zan,zaA,Nat.reduceEqDiff,↓reduceIte];obtain ⟨hG2,he2,hn2,hn2b,hg2,hc2⟩:=hG1.lay hrr hcr hL2.1;have hle2:=(u.gadd_inv S1.G hG1.w.c.g).1.le;have hge2:=(u.gadd_inv S1.G hG1.w.c.g).1.ge;rw[← hg2] at hle2 hge2;have hsj:=StepJ.of hL1.1.lay hL2.1.lay hL1.2 hL2.2 hG.w.c.wl hG1.w.c.wl hG.w.c.fl (by dsimp only at hle1 ⊢;omega);(try simp only[bS,bA]);refine q0 _ ⟨trivial,?_⟩;clear q0 Q0;refine zai (i:=6) (by kernel_rfl) ?_
           ·
            refine zas rfl rfl fun Q0 q0=>?_;simp only[↓bO,go_sem,seval,zaB,zbv,zz,zC,Nat.reduceBEq];refine q0 _ ⟨trivial,?_⟩;clear q0 Q0;refine zai (i:=7) (by kernel_rfl) ?_
            ·
             refine zas rfl rfl fun Q0 q0=>?_;simp only[↓bO,go_sem,seval,↓zbE,↓zby,↓zbI,↓zbC,↓zbG,↓zbF,↓zbD,↓zbz,↓zbB,↓zba,↓za9,↓zbb,zaB,zbv,zz,zC,Nat.reduceBEq];refine q0 _ ⟨trivial,?_⟩;clear q0 Q0;refine zag 8 rfl (by kernel_rfl) (by kernel_rfl) (by kernel_rfl) (fun _ _ h=>h) fun Q0 q0=>?_;simp only[↓bO,go_sem,seval,zaB,zbv,zz,zC,Nat.reduceBEq];refine q0 _ ?_;clear q0 Q0;refine zaH (by kernel_rfl) ?_;simp only[zah,zaf,zae];(try simp only[zau,zav,zan,zaA,mB,zc,zb,seval]);refine ⟨(S2,n1,n2),⟨hG2,he1,he2,⟨hn1,by dsimp only;omega⟩,⟨hn2,hn2b⟩,by dsimp only;rw[hg2,hg1],hc2.trans (hc1.trans hcs),by dsimp only;omega,hsj⟩,?_⟩;refine Weak.sub ?_ ⟨rfl,rfl,rfl,rfl,rfl,rfl,rfl,rfl,rfl,trivial⟩ (by first | omega | (simp only;omega)) (by first | omega | (simp only;omega)) ?_ ?_;(· simp only[go_sem,Le.refl,Le.any]);(· exact clz3);· exact ⟨by omega,Und.rowI (zeM _),zdo (by omega) _⟩
        ·
         refine zas rfl rfl fun Q0 q0=>?_;simp only[↓bO,go_sem,seval,zaB,zbv,zz,zC,Nat.reduceBEq];refine q0 _ ⟨trivial,?_⟩;clear q0 Q0;refine zai (i:=2) (by kernel_rfl) ?_
         ·
          refine zas rfl rfl fun Q0 q0=>?_;simp only[↓bO,go_sem,seval,zaB,zbv,zz,zC,Nat.reduceBEq];rw[Ty.refold l];refine CCalls.at (zix S l hlr hG.w.c.g hG.w.c.f hG.w.c.fl hG.w.c.wl (by omega)) (.cons (Ty.dataAgg l) .nil) (fun _=>.v _) (i0:=0) (i1:=1) (i2:=2) (i3:=3) (i4:=4) (i5:=5) (i6:=6) (i7:=7) (by decide) (by simp) ⟨rfl,rfl,rfl,rfl,rfl,rfl,rfl,rfl,trivial⟩ (fun S1 n1 hL1=>?_);(try dsimp only at hL1);simp only[zaX,zB,zF,zD,zan,zaA,Nat.reduceEqDiff,↓reduceIte];obtain ⟨hG1,he1,hn1,hn1b,hg1,hc1⟩:=hG.lay hlr hcl hL1.1;have hle1:=(l.gadd_inv S.G hG.w.c.g).1.le;rw[← hg1] at hle1;(try simp only[bS,bA]);refine q0 _ ⟨trivial,?_⟩;clear q0 Q0;refine zai (i:=5) (by kernel_rfl) ?_
          ·
           refine zas rfl rfl fun Q0 q0=>?_;simp only[↓bO,go_sem,seval,zaB,zbv,zz,zC,Nat.reduceBEq];rw[Ty.refold u];refine CCalls.at (zix S1 u hrr hG1.w.c.g hG1.w.c.f hG1.w.c.fl hG1.w.c.wl (by omega)) (.cons (Ty.dataAgg u) .nil) (fun _=>.v _) (i0:=0) (i1:=1) (i2:=2) (i3:=3) (i4:=4) (i5:=5) (i6:=6) (i7:=7) (by decide) (by simp) ⟨rfl,rfl,rfl,rfl,rfl,rfl,rfl,rfl,trivial⟩ (fun S2 n2 hL2=>?_);(try dsimp only at hL2);simp only[zaX,zB,zF,zD,zan,zaA,Nat.reduceEqDiff,↓reduceIte];obtain ⟨hG2,he2,hn2,hn2b,hg2,hc2⟩:=hG1.lay hrr hcr hL2.1;have hle2:=(u.gadd_inv S1.G hG1.w.c.g).1.le;have hge2:=(u.gadd_inv S1.G hG1.w.c.g).1.ge;rw[← hg2] at hle2 hge2;have hsj:=StepJ.of hL1.1.lay hL2.1.lay hL1.2 hL2.2 hG.w.c.wl hG1.w.c.wl hG.w.c.fl (by dsimp only at hle1 ⊢;omega);(try simp only[bS,bA]);refine q0 _ ⟨trivial,?_⟩;clear q0 Q0;refine zai (i:=6) (by kernel_rfl) ?_
           ·
            refine zas rfl rfl fun Q0 q0=>?_;simp only[↓bO,go_sem,seval,zaB,zbv,zz,zC,Nat.reduceBEq];refine q0 _ ⟨trivial,?_⟩;clear q0 Q0;refine zai (i:=7) (by kernel_rfl) ?_
            ·
             refine zas rfl rfl fun Q0 q0=>?_;simp only[↓bO,go_sem,seval,↓zbE,↓zby,↓zbI,↓zbC,↓zbG,↓zbF,↓zbD,↓zbz,↓zbB,↓zba,↓za9,↓zbb,zaB,zbv,zz,zC,Nat.reduceBEq];refine q0 _ ⟨trivial,?_⟩;clear q0 Q0;refine zag 8 rfl (by kernel_rfl) (by kernel_rfl) (by kernel_rfl) (fun _ _ h=>h) fun Q0 q0=>?_;simp only[↓bO,go_sem,seval,zaB,zbv,zz,zC,Nat.reduceBEq];refine q0 _ ?_;clear q0 Q0;refine zaH (by kernel_rfl) ?_;simp only[zah,zaf,zae];(try simp only[zau,zav,zan,zaA,mB,zc,zb,seval]);refine ⟨(S2,n1,n2),⟨hG2,he1,he2,⟨hn1,by dsimp only;omega⟩,⟨hn2,hn2b⟩,by dsimp only;rw[hg2,hg1],hc2.trans (hc1.trans hcs),by dsimp only;omega,hsj⟩,?_⟩;refine Weak.sub ?_ ⟨rfl,rfl,rfl,rfl,rfl,rfl,rfl,rfl,rfl,trivial⟩ (by first | omega | (simp only;omega)) (by first | omega | (simp only;omega)) ?_ ?_;(· simp only[go_sem,Le.refl,Le.any]);(· exact clz3);· exact ⟨by omega,Und.rowI (zeM _),zdo (by omega) _⟩
       ·
        refine zas rfl rfl fun Q0 q0=>?_;simp only[↓bO,go_sem,seval,zaB,zbv,zz,zC,Nat.reduceBEq];refine q0 _ ⟨trivial,?_⟩;clear q0 Q0;refine zai (i:=1) (by kernel_rfl) ?_
        ·
         refine zas rfl rfl fun Q0 q0=>?_;simp only[↓bO,go_sem,seval,zaB,zbv,zz,zC,Nat.reduceBEq];refine q0 _ ⟨trivial,?_⟩;clear q0 Q0;refine zai (i:=2) (by kernel_rfl) ?_
         ·
          refine zas rfl rfl fun Q0 q0=>?_;simp only[↓bO,go_sem,seval,zaB,zbv,zz,zC,Nat.reduceBEq];rw[Ty.refold l];refine CCalls.at (zix S l hlr hG.w.c.g hG.w.c.f hG.w.c.fl hG.w.c.wl (by omega)) (.cons (Ty.dataAgg l) .nil) (fun _=>.v _) (i0:=0) (i1:=1) (i2:=2) (i3:=3) (i4:=4) (i5:=5) (i6:=6) (i7:=7) (by decide) (by simp) ⟨rfl,rfl,rfl,rfl,rfl,rfl,rfl,rfl,trivial⟩ (fun S1 n1 hL1=>?_);(try dsimp only at hL1);simp only[zaX,zB,zF,zD,zan,zaA,Nat.reduceEqDiff,↓reduceIte];obtain ⟨hG1,he1,hn1,hn1b,hg1,hc1⟩:=hG.lay hlr hcl hL1.1;have hle1:=(l.gadd_inv S.G hG.w.c.g).1.le;rw[← hg1] at hle1;(try simp only[bS,bA]);refine q0 _ ⟨trivial,?_⟩;clear q0 Q0;refine zai (i:=5) (by kernel_rfl) ?_
          ·
           refine zas rfl rfl fun Q0 q0=>?_;simp only[↓bO,go_sem,seval,zaB,zbv,zz,zC,Nat.reduceBEq];rw[Ty.refold u];refine CCalls.at (zix S1 u hrr hG1.w.c.g hG1.w.c.f hG1.w.c.fl hG1.w.c.wl (by omega)) (.cons (Ty.dataAgg u) .nil) (fun _=>.v _) (i0:=0) (i1:=1) (i2:=2) (i3:=3) (i4:=4) (i5:=5) (i6:=6) (i7:=7) (by decide) (by simp) ⟨rfl,rfl,rfl,rfl,rfl,rfl,rfl,rfl,trivial⟩ (fun S2 n2 hL2=>?_);(try dsimp only at hL2);simp only[zaX,zB,zF,zD,zan,zaA,Nat.reduceEqDiff,↓reduceIte];obtain ⟨hG2,he2,hn2,hn2b,hg2,hc2⟩:=hG1.lay hrr hcr hL2.1;have hle2:=(u.gadd_inv S1.G hG1.w.c.g).1.le;have hge2:=(u.gadd_inv S1.G hG1.w.c.g).1.ge;rw[← hg2] at hle2 hge2;have hsj:=StepJ.of hL1.1.lay hL2.1.lay hL1.2 hL2.2 hG.w.c.wl hG1.w.c.wl hG.w.c.fl (by dsimp only at hle1 ⊢;omega);(try simp only[bS,bA]);refine q0 _ ⟨trivial,?_⟩;clear q0 Q0;refine zai (i:=6) (by kernel_rfl) ?_
           ·
            refine zas rfl rfl fun Q0 q0=>?_;simp only[↓bO,go_sem,seval,zaB,zbv,zz,zC,Nat.reduceBEq];refine q0 _ ⟨trivial,?_⟩;clear q0 Q0;refine zai (i:=7) (by kernel_rfl) ?_
            ·
             refine zas rfl rfl fun Q0 q0=>?_;simp only[↓bO,go_sem,seval,↓zbE,↓zby,↓zbI,↓zbC,↓zbG,↓zbF,↓zbD,↓zbz,↓zbB,↓zba,↓za9,↓zbb,zaB,zbv,zz,zC,Nat.reduceBEq];refine q0 _ ⟨trivial,?_⟩;clear q0 Q0;refine zag 8 rfl (by kernel_rfl) (by kernel_rfl) (by kernel_rfl) (fun _ _ h=>h) fun Q0 q0=>?_;simp only[↓bO,go_sem,seval,zaB,zbv,zz,zC,Nat.reduceBEq];refine q0 _ ?_;clear q0 Q0;refine zaH (by kernel_rfl) ?_;simp only[zah,zaf,zae];(try simp only[zau,zav,zan,zaA,mB,zc,zb,seval]);refine ⟨(S2,n1,n2),⟨hG2,he1,he2,⟨hn1,by dsimp only;omega⟩,⟨hn2,hn2b⟩,by dsimp only;rw[hg2,hg1],hc2.trans (hc1.trans hcs),by dsimp only;omega,hsj⟩,?_⟩;refine Weak.sub ?_ ⟨rfl,rfl,rfl,rfl,rfl,rfl,rfl,rfl,rfl,trivial⟩ (by first | omega | (simp only;omega)) (by first | omega | (simp only;omega)) ?_ ?_;(· simp only[go_sem,Le.refl,Le.any]);(· exact clz3);· exact ⟨by omega,Und.rowI (zeM _),zdo (by omega) _⟩
      simp only[zau,zav,zan,zaA,mB,zc,zb,seval];refine zad fun Y0 y0=>?_;refine zeY ?_;(try simp only[zah,zaf,zae]);refine y0 _ ?_;(try clear y0 Y0);refine zad fun Y0 y0=>?_;refine zao ?_;refine zaG (σ:=CS×List (Int×Int)) (mB 73 129) (fun s=>WInv (E++[(j.2.1.toNat,j.2.2.toNat)]) s.1 s.2∧s.1.clash=false∧s.1.G=j.1.G∧9 * zbH s.1.F.up+s.2.length≤9437185∧StepL S s.1 s.2.length) (fun s=>[(7,.own 10 s.2.length)]) (fun s=>[(10,.row 69 2 (s.2.map pC)),(0,.cells 98 [.v (.int .i64 s.1.steps),.ptr 1 0,.ptr 4 0,.own 7 s.1.W.length,.v (.bool s.1.clash)]),(1,.cells 114 [.osl 2 4 (s.1.G.N.map GNode.cells),.map 3]),(2,.tok 133 4 s.1.G.N.length),(3,.map (s.1.G.V.map vC)),(4,.cells 111 [.own 5 s.1.F.up.length,.own 6 s.1.F.rank.length,.v (.int .i64 s.1.F.sets),.v (.int .i64 s.1.F.steps)]),(5,.row 3 1 (s.1.F.up.map nC)),(6,.row 3 1 (s.1.F.rank.map intC)),(7,.row 3 1 (s.1.W.map intC))]) (fun s=>9 * zbH s.1.F.up+s.2.length) (j.1,[(j.2.1,j.2.2)]) (⟨hj.1.w.begin hj.2.2.2.1 hj.2.2.2.2.1,hj.2.2.2.2.2.2.1,rfl,by have h7:=zgq j.1.F.up;have h8:=hj.1.w.c.fl;have h9:=hj.1.w.c.wl;have h6:=hj.2.2.2.2.2.2.2.1;simp only[zh,zm];omega,hj.2.2.2.2.2.2.2.2.start⟩) ?_ (fun s hs=>?_)
      ·
       simp only[zau,zav,zan,zaA,mB,zc,zb,seval,bL];exact zbl
      simp only[zau,zav,zan,zaA,mB,zc,zb,seval];refine zad fun Y1 y1=>?_;refine zad fun Y2 y2=>?_;refine zac ?_;refine zab 2 fun Q0 q0=>?_;simp only[↓bO,go_sem,seval,zaB,zbv,zz,zC,Nat.reduceBEq];refine q0 _ ?_;clear q0 Q0;simp only[go_sem];simp only[↓bO,go_sem,seval,zaB,zbv,zz,zC,Nat.reduceBEq];refine y2 _ ?_;(try clear y2 Y2);refine zak rfl (fun hb38=>?_) (fun hb38=>?_)
      ·
       (have hwl:0<s.2.length:=by simpa using hb38);obtain ⟨w0,p9,hw⟩:∃w0 p,s.2=w0++[p]:=snoc_of hwl;have hwr:=hs.1.wr p9 (by rw[hw];simp);obtain ⟨a,b,rfl⟩:∃a b:Nat,p9=((a:Int),(b:Int)):=⟨p9.1.toNat,p9.2.toNat,by ext <;> simp only <;> omega⟩;(have hw2:WInv (E++[(j.2.1.toNat,j.2.2.toNat)]) s.1 (w0++[((a:Int),(b:Int))]):=by rw[← hw];exact hs.1);have hbd:=hs.2.2.2.1;(have hwl2:s.2.length=w0.length+1:=by rw[hw];simp);(have hwr2:IntKind.i64.wrap ((w0.length:Int)+1-1)=(w0.length:Int):=by rw[zaO (by omega) (by omega)];omega);have hgd:(s.2.map pC).getD w0.length []=pC ((a:Int),(b:Int)):=gM (by rw[hw];simp);(have htk:(s.2.map pC).take w0.length=w0.map pC:=by rw[hw];simp);(have hlt9:(w0.length:Int)<(w0.length:Int)+1:=by omega);(have hle9:(w0.length:Int)≤(w0.length:Int)+1:=by omega);(have h09:(0:Int)≤(w0.length:Int):=by omega);have hlen9:=hs.1.c.fl;have hlen8:=hs.1.c.wl;(have hn1:zbH S.F.up≤1048576:=by (have h7:=zgq S.F.up;have h8:=hG.w.c.fl;have h9:=hG.w.c.wl;omega));(have hn2:s.1.G.N.length≤1048576:=by rw[hs.2.2.1];exact hj.2.2.2.2.2.2.2.1);refine zap ?_;(try simp only[zah,zaf,zae]);refine y1 _ ?_;(try clear y1 Y1);refine zao ?_;refine zad fun Y1 y1=>?_;refine zac ?_;refine zab 2 fun Q0 q0=>?_;simp only[↓bO,go_sem,seval,zaB,zbv,zz,zC,Nat.reduceBEq,hwl2,hwr2,Nat.lt_add_one,Nat.le_add_right,hgd,htk,hlt9,hle9,h09,pC,za];refine q0 _ ?_;clear q0 Q0;simp only[go_sem];refine zab 1 fun Q0 q0=>?_;simp only[↓bO,go_sem,seval,zaB,zbv,zz,zC,Nat.reduceBEq,hwl2,hwr2,Nat.lt_add_one,Nat.le_add_right,hgd,htk,hlt9,hle9,h09,pC,za];refine q0 _ ?_;clear q0 Q0;simp only[go_sem];simp only[↓bO,go_sem,seval,zaB,zbv,zz,zC,Nat.reduceBEq,hwl2,hwr2,Nat.lt_add_one,Nat.le_add_right,hgd,htk,hlt9,hle9,h09,pC,za];refine tick_at rfl ?_;simp only[zaA,Nat.reduceEqDiff,↓reduceIte];(try simp only[bS,bA,zah,zaf,zae]);refine y1 _ ?_;(try clear y1 Y1);refine zad fun Y1 y1=>?_;refine zac ?_;(iterate 3 (refine zab 2 fun Q0 q0=>?_;simp only[↓bO,go_sem,seval,zaB,zbv,zz,zC,Nat.reduceBEq,hwl2,hwr2,Nat.lt_add_one,Nat.le_add_right,hgd,htk,hlt9,hle9,h09,pC,za];refine q0 _ ?_;clear q0 Q0;simp only[go_sem]));simp only[↓bO,go_sem,seval,zaB,zbv,zz,zC,Nat.reduceBEq,hwl2,hwr2,Nat.lt_add_one,Nat.le_add_right,hgd,htk,hlt9,hle9,h09,pC,za];refine y1 _ ?_;(try clear y1 Y1);refine zad fun Y1 y1=>?_;refine zac ?_;(iterate 2 (refine zab 2 fun Q0 q0=>?_;simp only[↓bO,go_sem,seval,zaB,zbv,zz,zC,Nat.reduceBEq,hwl2,hwr2,Nat.lt_add_one,Nat.le_add_right,hgd,htk,hlt9,hle9,h09,pC,za];refine q0 _ ?_;clear q0 Q0;simp only[go_sem]));simp only[↓bO,go_sem,seval,zaB,zbv,zz,zC,Nat.reduceBEq,hwl2,hwr2,Nat.lt_add_one,Nat.le_add_right,hgd,htk,hlt9,hle9,h09,pC,za];refine y1 _ ?_;(try clear y1 Y1);refine zad fun Y1 y1=>?_;refine zac ?_;(iterate 2 (refine zab 2 fun Q0 q0=>?_;simp only[↓bO,go_sem,seval,zaB,zbv,zz,zC,Nat.reduceBEq,hwl2,hwr2,Nat.lt_add_one,Nat.le_add_right,hgd,htk,hlt9,hle9,h09,pC,za];refine q0 _ ?_;clear q0 Q0;simp only[go_sem]));refine zab 1 fun Q0 q0=>?_;simp only[↓bO,go_sem,seval,zaB,zbv,zz,zC,Nat.reduceBEq,hwl2,hwr2,Nat.lt_add_one,Nat.le_add_right,hgd,htk,hlt9,hle9,h09,pC,za];refine q0 _ ?_;clear q0 Q0;simp only[go_sem];refine zab 1 fun Q0 q0=>?_;simp only[↓bO,go_sem,seval,zaB,zbv,zz,zC,Nat.reduceBEq,hwl2,hwr2,Nat.lt_add_one,Nat.le_add_right,hgd,htk,hlt9,hle9,h09,pC,za];refine CCalls.at (join_c {s.1 with steps:=IntKind.i64.wrap (s.1.steps+1)} ⟨hs.1.c.g,hs.1.c.f,hs.1.c.fl,hs.1.c.wl,hs.1.c.wr,hs.1.c.pl,hs.1.c.pr⟩ a b (by dsimp only;omega) (by dsimp only;omega)) (.cons (.v _) (.cons (.v _) .nil)) (fun _=>.tup (.cons (zdt _) (.cons (.v _) .nil))) (i0:=0) (i1:=1) (i2:=2) (i3:=3) (i4:=4) (i5:=5) (i6:=6) (i7:=7) (by decide) (by simp) ⟨rfl,rfl,rfl,rfl,rfl,rfl,rfl,rfl,trivial⟩ (fun S3 r3 j0=>?_);(try dsimp only at j0);simp only[zaX,zB,zF,zD,zan,zaA,Nat.reduceEqDiff,↓reduceIte];have hJ:CJoin s.1 a b (S3,r3):=⟨j0.1.g,j0.1.c,j0.1.ex⟩;(have hsl0:=fun ok (hj:CJoin s.1 a b (S3,(r3.1,ok)))=>hs.2.2.2.2.step hn1 hn2 j0.2 j0.1.g (by have h8:=hw2.less hj;rw[← hw] at h8;exact h8));(try simp only[bS,bA,zah,zaf,zae]);(iterate 2 (refine q0 _ ?_;clear q0 Q0;simp only[go_sem];refine zab 2 fun Q0 q0=>?_;simp only[↓bO,go_sem,seval,zaB,zbv,zz,zC,Nat.reduceBEq,hwl2,hwr2,Nat.lt_add_one,Nat.le_add_right,hgd,htk,hlt9,hle9,h09,pC,za]));refine q0 _ ?_;clear q0 Q0;simp only[go_sem];simp only[↓bO,go_sem,seval,zaB,zbv,zz,zC,Nat.reduceBEq,hwl2,hwr2,Nat.lt_add_one,Nat.le_add_right,hgd,htk,hlt9,hle9,h09,pC,za];refine y1 _ ?_;(try clear y1 Y1);refine zad fun Y1 y1=>?_;refine zad fun Y2 y2=>?_;refine zac ?_;simp only[↓bO,go_sem,seval,zaB,zbv,zz,zC,Nat.reduceBEq,hwl2,hwr2,Nat.lt_add_one,Nat.le_add_right,hgd,htk,hlt9,hle9,h09,pC,za];refine y2 _ ?_;(try clear y2 Y2);refine zak rfl (fun hb64=>?_) (fun hb64=>?_)
       ·
        (have hJ2:CJoin s.1 a b (S3,(r3.1,false)):=by (have h9:r3.2=false:=by simpa using hb64);rw[← h9];exact hJ);have hfg:S3.G=(u.gadd (l.gadd S.G).1).1:=hJ.g.trans (hs.2.2.1.trans hj.2.2.2.2.2.1);have hbad:=hw2.bad hJ2;rw[hs.2.2.1,hj.1.rel.sh,hj.2.1,hj.2.2.1] at hbad;have hsl:StepL S S3 (w0++r3.1).length:=hsl0 _ hJ2;have hsl2:StepL S {S3 with clash:=true} (w0++r3.1).length:=hsl;refine zad fun Y2 y2=>?_;refine zac ?_;refine zab 2 fun Q0 q0=>?_;simp only[↓bO,go_sem,seval,zaB,zbv,zz,zC,Nat.reduceBEq,hwl2,hwr2,Nat.lt_add_one,Nat.le_add_right,hgd,htk,hlt9,hle9,h09,pC,za];refine q0 _ ?_;clear q0 Q0;simp only[go_sem];simp only[↓bO,go_sem,seval,zaB,zbv,zz,zC,Nat.reduceBEq,hwl2,hwr2,Nat.lt_add_one,Nat.le_add_right,hgd,htk,hlt9,hle9,h09,pC,za];refine y2 _ ?_;(try clear y2 Y2);refine zaK ?_;simp only[zah,zaf,zae,bA,Nat.reduceEqDiff,↓reduceIte];refine y0 _ ?_;(try clear y0 Y0);refine zad fun Y0 y0=>?_;refine zac ?_;refine zab 1 fun Q0 q0=>?_;simp only[↓bO,go_sem,seval,zaB,zbv,zz,zC,Nat.reduceBEq];refine q0 _ ?_;clear q0 Q0;simp only[go_sem];refine zab 1 fun Q0 q0=>?_;simp only[↓bO,go_sem,seval,zaB,zbv,zz,zC,Nat.reduceBEq];refine CCalls.at (Err_c {S3 with clash:=true}) (.nil) (fun _=>.v _) (i0:=0) (i1:=1) (i2:=2) (i3:=3) (i4:=4) (i5:=5) (i6:=6) (i7:=7) (by decide) (by simp) ⟨rfl,rfl,rfl,rfl,rfl,rfl,rfl,rfl,trivial⟩ (fun Z9 u9 hZ9=>?_);(try dsimp only at hZ9);simp only[zaX,zB,zF,zD,zan,zaA,Nat.reduceEqDiff,↓reduceIte];subst hZ9;(try simp only[bS,bA,zah,zaf,zae]);refine q0 _ ?_;clear q0 Q0;simp only[go_sem];simp only[↓bO,go_sem,seval,zaB,zbv,zz,zC,Nat.reduceBEq];refine y0 _ ?_;(try clear y0 Y0);refine zaq ?_;(try simp only[zah,zaf,zae,za1,zaZ,zaE,bS,bA]);refine ⟨_,zar 0 (zaN ({S3 with clash:=true})),⟨({S3 with clash:=true},7),?_,rfl,rfl⟩,.v _ _,zdo (by omega) _,?_,?_,by omega⟩;· exact ⟨.inr (.inr ⟨hcs,hlr,hrr,hfg,.inr ⟨rfl,rfl,hbad⟩⟩),hsl2.last⟩
        ·
         exact Le.refl _
        · first | (refine ⟨2,rfl,rfl⟩) | (refine ⟨3,rfl,rfl⟩) | (refine ⟨4,rfl,rfl⟩) | (refine ⟨5,rfl,rfl⟩) | (refine ⟨2,by simp only[zaN,zar,zy,zt,Nat.reduceAdd],rfl⟩) | (refine ⟨3,by simp only[zaN,zar,zy,zt,Nat.reduceAdd],rfl⟩) | (refine ⟨4,by simp only[zaN,zar,zy,zt,Nat.reduceAdd],rfl⟩) | (refine ⟨5,by simp only[zaN,zar,zy,zt,Nat.reduceAdd],rfl⟩)
       ·
        (have hJ2:CJoin s.1 a b (S3,(r3.1,true)):=by (have h9:r3.2=true:=by simpa using hb64);rw[← h9];exact hJ);have hst:=hw2.step hJ2;have hsl:StepL S S3 (w0++r3.1).length:=hsl0 _ hJ2;have hls:=hw2.less hJ2;(have hml:r3.1.length≤9437185:=by have:=hs.2.2.2.1;simp only[hw,zd] at this hls;omega);(have hb1:(w0.length+r3.1.length) * 16≤140737488355328:=by omega);(have hb2:w0.length+r3.1.length≤maxLen:=by simp only[maxLen];omega);refine zap ?_;(try simp only[zah,zaf,zae]);refine y1 _ ?_;(try clear y1 Y1);refine zac ?_;refine zab 2 fun Q0 q0=>?_;simp only[↓bO,go_sem,seval,zaB,zbv,zz,zC,Nat.reduceBEq,hwl2,hwr2,Nat.lt_add_one,Nat.le_add_right,hgd,htk,hlt9,hle9,h09,pC,za,hb1,hb2,pC_all,pC_app,zd];refine q0 _ ?_;clear q0 Q0;simp only[go_sem];simp only[↓bO,go_sem,seval,zaB,zbv,zz,zC,Nat.reduceBEq,hwl2,hwr2,Nat.lt_add_one,Nat.le_add_right,hgd,htk,hlt9,hle9,h09,pC,za,hb1,hb2,pC_all,pC_app,zd];refine ⟨(S3,w0++r3.1),⟨hst,hJ2.c.trans hs.2.1,hJ2.g.trans hs.2.2.1,by have h9:=hs.2.2.2.1;have h8:=hls;simp only[zd,zh,zm] at h8 ⊢;omega,hsl⟩,(by have h8:=hls;simp only[zd,zh,zm] at h8 ⊢;omega),?_⟩;simp only[zau,zav,zan,zaA,mB,zc,zb,seval,zd];refine Weak.backOwn 10 12 7 (w0.length+r3.1.length) (by first | omega | (simp only;omega)) (by first | omega | (simp only;omega)) (by first | omega | (simp only;omega)) ?_ ?_ ?_ ?_ ?_;· simp only[zc,zb,LeL,Le.refl,Le.any,and_self]
        ·
         simp only[zc,zb];repeat' first | exact trivial | exact .any | exact .ptr rfl | exact .own rfl | exact .v _ | (refine ⟨?_,?_⟩)
        (· exact ⟨⟨_,rfl,.row (zeM _)⟩,⟨_,rfl,.cells ⟨.v _,.ptr rfl,.ptr rfl,.own rfl,.v _,trivial⟩⟩,⟨_,rfl,.cells ⟨.osl rfl (GNode.dataRows _),.map rfl,trivial⟩⟩,⟨_,rfl,.tok⟩,⟨_,rfl,.map (zbh _)⟩,⟨_,rfl,.cells ⟨.own rfl,.own rfl,.v _,.v _,trivial⟩⟩,⟨_,rfl,.row (zbm _)⟩,⟨_,rfl,.row (za5 _)⟩,⟨_,rfl,.row (za5 _)⟩,trivial⟩);(· exact clz3);· exact ⟨by omega,Und.rowI (zeM _),zdo (by omega) _⟩
      ·
       (have hwn:s.2=[]:=by have h9:¬((s.2.length:Int) > 0):=of_decide_eq_false hb38;exact List.length_eq_zero_iff.1 (by omega));have hgood:Good (E++[((l.radd m).2.toNat,(u.radd (l.radd m).1).2.toNat)]) (u.radd (l.radd m).1).1 s.1:=⟨by have h9:=hs.1;rw[hwn,hj.2.1,hj.2.2.1] at h9;exact h9,by rw[hs.2.2.1];exact hj.1.rel⟩;refine zaK ?_;simp only[zah,zaf,zae,bA,Nat.reduceEqDiff,↓reduceIte];refine y0 _ ?_;(try clear y0 Y0);refine zad fun Y0 y0=>?_;refine zac ?_;refine zab 1 fun Q0 q0=>?_;simp only[↓bO,go_sem,seval,zaB,zbv,zz,zC,Nat.reduceBEq];refine q0 _ ?_;clear q0 Q0;simp only[go_sem];refine zab 1 fun Q0 q0=>?_;simp only[↓bO,go_sem,seval,zaB,zbv,zz,zC,Nat.reduceBEq];refine CCalls.at (Err_c s.1) (.nil) (fun _=>.v _) (i0:=0) (i1:=1) (i2:=2) (i3:=3) (i4:=4) (i5:=5) (i6:=6) (i7:=7) (by decide) (by simp) ⟨rfl,rfl,rfl,rfl,rfl,rfl,rfl,rfl,trivial⟩ (fun Z9 u9 hZ9=>?_);(try dsimp only at hZ9);simp only[zaX,zB,zF,zD,zan,zaA,Nat.reduceEqDiff,↓reduceIte];subst hZ9;(try simp only[bS,bA,zah,zaf,zae]);refine q0 _ ?_;clear q0 Q0;simp only[go_sem];simp only[↓bO,go_sem,seval,zaB,zbv,zz,zC,Nat.reduceBEq];refine y0 _ ?_;(try clear y0 Y0);refine zaq ?_;(try simp only[zah,zaf,zae,za1,zaZ,zaE,bS,bA]);refine ⟨_,zar 0 (zaN (s.1)),⟨(s.1,0),?_,rfl,rfl⟩,.v _ _,zdo (by omega) _,?_,?_,by omega⟩;· exact ⟨.inr (.inr ⟨hcs,hlr,hrr,hs.2.2.1.trans hj.2.2.2.2.2.1,.inl ⟨rfl,hs.2.1,hgood⟩⟩),hs.2.2.2.2.last⟩
       ·
        rw[hs.2.1];exact Le.refl _
       · first | (refine ⟨0,rfl,rfl⟩) | (refine ⟨1,rfl,rfl⟩) | (refine ⟨2,rfl,rfl⟩) | (refine ⟨3,rfl,rfl⟩) | (refine ⟨0,by simp only[zaN,zar,zy,zt,Nat.reduceAdd],rfl⟩) | (refine ⟨1,by simp only[zaN,zar,zy,zt,Nat.reduceAdd],rfl⟩) | (refine ⟨2,by simp only[zaN,zar,zy,zt,Nat.reduceAdd],rfl⟩) | (refine ⟨3,by simp only[zaN,zar,zy,zt,Nat.reduceAdd],rfl⟩)
theorem CCalls.mono {σ:Type} {f:Nat} {args:List AV} {S:CS} {C C':CS×σ→Prop} {R:σ→AV} (h:CCalls f args S C R) (k:∀s,C s→C' s):CCalls f args S C' R:=by
  refine ACalls.mono h ?_;rintro r os n ⟨⟨s,h1,h2,h3⟩,h4⟩;exact ⟨⟨s,k s h1,h2,h3⟩,h4⟩
theorem zhs (S:CS) (E:List (Nat×Nat)) (m:List RNode) (l u:Ty) (h:S.clash=false→Good E m S) (hl:S.G.N.length+l.cnt+u.cnt≤1048576) (hcl:l.cnt≤400) (hcr:u.cnt≤400):CCalls (σ:=Int) 28 [.ptr 0 0,.agg l.cells,.agg u.cells] S (fun s=>EqR S E m l u s) (fun s=>.v (.int .i64 s)) :=
  CCalls.mono (Equate2_c S E m l u h hl hcl hcr) fun _ h=>h.1
end Go.Proofs.YtjjjckjebkmnjaaGreat
namespace Go.Proofs.YtjjjckjebkmnjaaGreat
open Go Go.RowKit
attribute [local irreducible] aops zaV
structure EqT where
  l:Ty
  r:Ty
  a:Int
  b:Int
def EqT.cells (e:EqT):List AV:=[.v (.int .i64 e.l.k),.v (.int .i64 e.l.n),.sl 3 (e.l.ps.map Ty.cells),.v (.int .i64 e.r.k),.v (.int .i64 e.r.n),.sl 3 (e.r.ps.map Ty.cells),.v (.int .i64 e.a),.v (.int .i64 e.b)]
theorem EqT.data (e:EqT):DataL e.cells:=.cons (.v _) (.cons (.v _) (.cons (Ty.dataSl _) (.cons (.v _) (.cons (.v _) (.cons (Ty.dataSl _) (.cons (.v _) (.cons (.v _) .nil)))))))
theorem EqT.dataSl (es:List EqT):Data (.sl 8 (es.map EqT.cells)):=.sl fun x hx=>by
  obtain ⟨y,_,rfl⟩:=zP.1 hx;exact y.data
def EqT.p (e:EqT):Ty×Ty:=(e.l,e.r)
def zbY:List (Ty×Ty)→Nat
  | []=>0
  | e::l=>e.1.cnt+e.2.cnt+zbY l
theorem zb0:∀(l:List (Ty×Ty)) (e:Ty×Ty),zbY (l++[e])=zbY l+(e.1.cnt+e.2.cnt)
  | [],e=>by simp[zbY]
  | x::l,e=>by simp only[zi,zbY,zb0 l e];omega
theorem zc4:∀(l:List (Ty×Ty)) (s:Nat),zbY (l.take s)≤zbY l
  | [],s=>by simp
  | x::l,0=>by simp[zbY]
  | x::l,s+1=>by simp only[List.take_succ_cons,zbY];have:=zc4 l s;omega
theorem zfV:∀l:List (Ty×Ty),2 * l.length≤zbY l
  | []=>by simp[zbY]
  | x::l=>by
    have:=zfV l;have:=x.1.cnt_eq;have:=x.2.cnt_eq;simp only[zh,zbY];omega
theorem Holds.step {d:List (Ty×Ty)} {e:Ty×Ty} {S:CS} {s:CS×Int} (h:Holds d S) (hs:EqR S (zca (eqF d).2) (eqF d).1 e.1 e.2 s) :
    ((e.1.right&&e.2.right)=false∧s.2=1)∨((e.1.right&&e.2.right)=true∧Clashes (d++[e])∧s.2=7) ∨
    ((e.1.right&&e.2.right)=true∧¬Clashes (d++[e])∧s.2=0∧Holds (d++[e]) s.1∧s.1.G.N.length≤S.G.N.length+(e.1.cnt+e.2.cnt)):=by
  have hE:(eqF (d++[e])).1=(e.2.radd (e.1.radd (eqF d).1).1).1∧zca (eqF (d++[e])).2=zca (eqF d).2++[((e.1.radd (eqF d).1).2.toNat,(e.2.radd (e.1.radd (eqF d).1).1).2.toNat)]:=by
    rw[zbQ];exact ⟨rfl,by simp only[zdl,zca,zp,zL,z7]⟩
  (rcases hs with ⟨h1,_⟩ | ⟨_,h1,h2⟩ | ⟨_,h1,h2,h3,h4⟩);(· rw[h.1] at h1;cases h1);· exact .inl ⟨h1,by rw[h2]⟩
  · have hr:(e.1.right&&e.2.right)=true:=by rw[h1,h2];rfl
    rcases h4 with ⟨h4,h5,h6⟩ | ⟨h4,h5,h6⟩
    · have hH:Holds (d++[e]) s.1:=⟨h5,by rw[hE.1,hE.2];exact h6⟩
      refine .inr (.inr ⟨hr,hH.noClash,h4,hH,?_⟩);have g1:=e.1.gadd_inv S.G h.2.w.c.g;have g2:=e.2.gadd_inv _ g1.1.inv;have:=g1.1.le;have:=g2.1.le;rw[h3];omega
    · exact .inr (.inl ⟨hr,by unfold Clashes;rw[hE.1,hE.2];exact h6,h4⟩)
def CS0:CS:=⟨⟨[],[]⟩,⟨[],[],0,0⟩,[],0,false⟩
theorem Rt.none {i r:Nat} (h:Rt [] i r):False:=by have:=h.lt;simp at this
theorem Holds.none:Holds [] CS0:=by
  refine ⟨rfl,⟨⟨⟨.empty,⟨rfl,fun _=>0,⟨by simp[CS0],by simp[CS0]⟩⟩,rfl,rfl,by simp[CS0],by simp[CS0],by simp[CS0]⟩,by simp,fun i k hik=>?_,by simp,by simp[eqF,zca],?_,?_⟩,.empty⟩⟩
  · rcases hik with rfl | ⟨t,h,_⟩
    (· exact .refl _);· exact (Rt.none h).elim
  · intro r i x c ps h1 h2 h3
    exact (Rt.none h3).elim
  · intro r x h1
    exact (Rt.none h1).elim
end Go.Proofs.YtjjjckjebkmnjaaGreat
