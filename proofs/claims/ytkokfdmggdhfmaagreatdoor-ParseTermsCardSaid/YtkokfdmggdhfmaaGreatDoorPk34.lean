/- packed, part 34 of 45. Conditions: none. -/
import Derived.Test.YtkokfdmggdhfmaaGreatDoorPk33
import Derived.Lib.ItoaLen
import Derived.Lib.AppendIntMem
set_option linter.unusedVariables false
set_option linter.unusedSimpArgs false
namespace Go.Proofs.YtkokfdmggdhfmaaGreatDoor
open Go Go.RowKit
set_option maxRecDepth 100000
set_option maxHeartbeats 1000000
set_option linter.unnecessarySimpa false
attribute [local irreducible] aops zX
theorem Ty.ind {C:Ty->Prop} (h:∀T,(∀p∈T.ps,C p)->C T):∀T,C T:=by
 have key:∀n,∀T:Ty,SizeOf.sizeOf T<=n->C T:=by
  intro n
  induction n with
  | zero=>intro T hT;cases T;simp at hT
  | succ n ih =>
   intro T hT;refine h T (fun p hp=>ih p ?_)
   cases T with
   | mk k m ps =>
    have:=List.sizeOf_lt_of_mem (show p∈ps from hp);(simp at hT);omega
 exact fun T=>key _ T (zh _)
mutual
def Ty.same:Ty->Ty->Bool
 | .mk k n ps,.mk k' n' ps'=>k==k'&&n==n'&&Ty.sameL ps ps'
def Ty.sameL:List Ty->List Ty->Bool
 | [],[]=>true
 | p::ps,q::qs=>Ty.same p q&&Ty.sameL ps qs
 | _,_=>false
end
theorem Ty.same_eq (a b:Ty):a.same b=(a.k==b.k&&a.n==b.n&&Ty.sameL a.ps b.ps):=by cases a;cases b;simp[Ty.same,Ty.k,Ty.n,Ty.ps]
theorem Ty.sameL_len:∀{ps qs:List Ty},ps.length≠qs.length->Ty.sameL ps qs=false
 | [],[],h=>absurd rfl h
 | [],_::_,_=>by simp[Ty.sameL]
 | _::_,[],_=>by simp[Ty.sameL]
 | p::ps,q::qs,h=>by simp[Ty.sameL,Ty.sameL_len (ps:=ps) (qs:=qs) (by simpa using h)]
theorem Ty.sameL_false:∀{ps qs:List Ty} {k:Nat} {p q:Ty},ps[k]?=some p->qs[k]?=some q->p.same q=false->Ty.sameL ps qs=false
 | p::ps,q::qs,0,_,_,h1,h2,h=>by simp at h1 h2;subst h1;subst h2;simp[Ty.sameL,h]
 | p::ps,q::qs,k+1,_,_,h1,h2,h=>by simp[Ty.sameL,Ty.sameL_false (k:=k) (by simpa using h1) (by simpa using h2) h]
 | [],_,_,_,_,h1,_,_=>by simp at h1
 | _::_,[],_,_,_,_,h2,_=>by simp at h2
theorem Ty.sameL_true:∀{ps qs:List Ty},ps.length=qs.length->(∀(k:Nat) (p q:Ty),ps[k]?=some p->qs[k]?=some q->p.same q=true)->Ty.sameL ps qs=true
 | [],[],_,_=>by simp[Ty.sameL]
 | p::ps,q::qs,hl,h=>by
  have h1:=h 0 p q rfl rfl;have h2:=Ty.sameL_true (ps:=ps) (qs:=qs) (by simpa using hl) (fun k p q hp hq=>h (k+1) p q (by simpa using hp) (by simpa using hq));simp[Ty.sameL,h1,h2]
theorem zaH {p:Prop} (h:p:=by exact Weak.mk (by simp only[go_sem,Le.refl,Le.any,Le.slNil,Int.natCast_add,Int.cast_ofNat_Int,Int.natCast_one]) (fun _ _ h=>h) rfl rfl):p:=h
theorem Same_pure:∀(T1 T2:Ty),APure Tryz.prog 51 [.agg T1.cells,.agg T2.cells] (.v (.bool (T1.same T2))):=by
  refine Ty.ind fun T1 ih=>?_;intro T2;refine APure.mk (.cons T1.dataAgg (.cons T2.dataAgg .nil)) (.v _) ?_;refine aIn Tryz.func51 fun hm=>?_;simp only[Tryz.ntmps51,Tryz.results51,go_sem,seval];have hm1:=hm.wide (t:=T1) tz4;refine sqD ?_;refine zu fun _ u=>?_;refine sqR fun _ w=>?_;(iterate 2 (refine chS 3 ?_));refine zC 11 rfl (fun hc11=>?_) (fun hc11=>?_)
  ·
   (iterate 4 (refine chS 3 ?_));simp only[↓bO,go_sem,seval];apply w;refine zt (b:=true) (by first | exact rfl | exact congrArg (fun b=>AV.v (.bool b)) hb26) (fun _=>?_) (fun h=>(by cases h));refine sqD ?_;apply zw;(try simp only[go_sem]);first | (rw[Ty.same_eq];simp_all;done) | (rw[Ty.same_eq];simp at hb45;rw[Ty.sameL_false hp hq hb45];simp;done) | (rw[Ty.same_eq];simp at hb26;rw[Ty.sameL_len tz1];simp;done) | (rw[Ty.same_eq,Ty.sameL_true e3 (fun i p q h1 h2=>hs.2 i p q (by have:=(ze.1 h1).1;omega) h1 h2)];simp_all;done) | skip
  (iterate 2 (refine chS 3 ?_));refine chS 1 ?_;simp only[go_sem];refine zC 18 rfl (fun hc18=>?_) (fun hc18=>?_)
  ·
   (iterate 2 (refine chS 3 ?_));simp only[↓bO,go_sem,seval];apply w;refine zt (b:=true) (by first | exact rfl | exact congrArg (fun b=>AV.v (.bool b)) hb26) (fun _=>?_) (fun h=>(by cases h));refine sqD ?_;apply zw;(try simp only[go_sem]);first | (rw[Ty.same_eq];simp_all;done) | (rw[Ty.same_eq];simp at hb45;rw[Ty.sameL_false hp hq hb45];simp;done) | (rw[Ty.same_eq];simp at hb26;rw[Ty.sameL_len tz1];simp;done) | (rw[Ty.same_eq,Ty.sameL_true e3 (fun i p q h1 h2=>hs.2 i p q (by have:=(ze.1 h1).1;omega) h1 h2)];simp_all;done) | skip
  (iterate 2 (refine chS 3 ?_));simp only[↓bO,go_sem,seval];apply w;apply zt rfl <;> intro hb26
  ·
   refine sqD ?_;apply zw;(try simp only[go_sem]);first | (rw[Ty.same_eq];simp_all;done) | (rw[Ty.same_eq];simp at hb45;rw[Ty.sameL_false hp hq hb45];simp;done) | (rw[Ty.same_eq];simp at hb26;rw[Ty.sameL_len tz1];simp;done) | (rw[Ty.same_eq,Ty.sameL_true e3 (fun i p q h1 h2=>hs.2 i p q (by have:=(ze.1 h1).1;omega) h1 h2)];simp_all;done) | skip
  (have e3:T1.ps.length=T2.ps.length   := by simp at hb26;omega);apply zy;apply u;refine zu fun _ u=>?_;refine sqD ?_;apply zF;refine zV (σ:=Nat) (mB 46 44) (fun s=>s<=T1.ps.length/\∀(i:Nat) (p q:Ty),i<s->T1.ps[i]?=some p->T2.ps[i]?=some q->p.same q=true) (fun s=>[(5,.v (.int .i64 (s:Int)))]) (fun s=>[]) (fun s=>T1.ps.length-s) 0 (⟨by omega,fun i p q hi=>by omega⟩) ?_ (fun s hs=>?_)
  ·
   simp only[go_sem,seval];exact zaH
  simp only[go_sem,seval];refine zu fun _ w=>?_;refine sqR fun _ z=>?_;refine chS 3 ?_;simp only[↓bO,go_sem,seval];apply z;apply zt rfl <;> intro hb31
  ·
   (have hk:s<T1.ps.length:=by simpa using hb31);(have hk2:s<T2.ps.length:=by omega);obtain ⟨p,hp⟩:∃p,T1.ps[s]?=some p:=⟨_,zc hk⟩;obtain ⟨q,hq⟩:∃q,T2.ps[s]?=some q:=⟨_,zc hk2⟩;have hw:IntKind.i64.wrap ((s:Int)+1)=(s:Int)+1:=zI tz1 (by have:=hm1.len;simp only[maxLen] at this;omega);apply zy;apply w;refine zu fun _ w=>?_;apply zF;refine zu fun _ z=>?_;refine zT 12 mixed tz0 fun J0 j0=>?_;(iterate 3 (simp only[go_sem];refine zE 3 fun _ y=>?_;simp only[↓zX,↓dOp,↓bO,go_sem,seval,hk,hk2,gM hp,gM hq,Int.natCast_add,hw];apply y;clear y));simp only[go_sem];refine zE 1 fun _ y=>?_;simp only[↓zX,↓dOp,↓bO,go_sem,seval,hk,hk2,gM hp,gM hq,Int.natCast_add,hw];apply y;clear y;refine zE 1 fun _ y=>?_;simp only[↓zX,↓dOp,↓bO,go_sem,seval,hk,hk2,gM hp,gM hq,Int.natCast_add,hw];refine ⟨_,ih p (zm hp) q,?_⟩;apply y;clear y;simp only[↓zX,↓dOp,↓bO,go_sem,seval,hk,hk2,gM hp,gM hq,Int.natCast_add,hw];refine j0 _ ?_;clear j0 J0;simp only[bL,aops,zD,zB,zz];apply z;apply zt rfl <;> intro hb45
   ·
    refine sqR fun _ z=>?_;simp only[↓bO,go_sem,seval,hk,hk2,gM hp,gM hq,Int.natCast_add,hw];apply z;apply zw;(try simp only[go_sem]);first | (rw[Ty.same_eq];simp_all;done) | (rw[Ty.same_eq];simp at hb45;rw[Ty.sameL_false hp hq hb45];simp;done) | (rw[Ty.same_eq];simp at hb26;rw[Ty.sameL_len tz1];simp;done) | (rw[Ty.same_eq,Ty.sameL_true e3 (fun i p q h1 h2=>hs.2 i p q (by have:=(ze.1 h1).1;omega) h1 h2)];simp_all;done) | skip
   apply zy;apply w;apply zA;simp only[↓bO,go_sem,seval,hk,hk2,gM hp,gM hq,Int.natCast_add,hw];refine ⟨(s+1),⟨by omega,fun i p' q' hi h1 h2=>(by rcases Nat.lt_or_ge i s with h3 | h3 <;> first | exact hs.2 i p' q' h3 h1 h2 | (obtain rfl:i=s:=tz1;rw[hp] at h1;rw[hq] at h2;cases h1;cases h2;simpa using hb45))⟩,by omega,?_⟩;simp only[go_sem,seval,hk,hk2,gM hp,gM hq,Int.natCast_add,Int.natCast_one,hw];exact zaH
  (have hk:s=T1.ps.length:=by have:=hs.1;simp at hb31;omega);apply zO;simp only[zD,zB,zz,bA,Nat.reduceEqDiff,↓reduceIte];apply u;refine sqD ?_;apply zw;(try simp only[go_sem]);first | (rw[Ty.same_eq];simp_all;done) | (rw[Ty.same_eq];simp at hb45;rw[Ty.sameL_false hp hq hb45];simp;done) | (rw[Ty.same_eq];simp at hb26;rw[Ty.sameL_len tz1];simp;done) | (rw[Ty.same_eq,Ty.sameL_true e3 (fun i p q h1 h2=>hs.2 i p q (by have:=(ze.1 h1).1;omega) h1 h2)];simp_all;done) | skip
end Go.Proofs.YtkokfdmggdhfmaaGreatDoor
namespace Go.Proofs.YtkokfdmggdhfmaaGreatDoor
open Go Go.RowKit
set_option maxRecDepth 100000
set_option maxHeartbeats 4000000
set_option linter.unnecessarySimpa false
attribute [local irreducible] aops zX
def okN (k n:Int) (len:Nat):Bool :=
 decide ((k=1/\0<=n/\n<1073741824/\len=0)\/(n=0/\(((k=2\/k=3)/\len=0)\/(k=4/\len=2)\/(k=5/\2<=len/\len<=8))))
mutual
def Ty.right:Ty->Bool
 | .mk k n ps=>okN k n ps.length&&Ty.rightL ps
def Ty.rightL:List Ty->Bool
 | []=>true
 | p::ps=>Ty.right p&&Ty.rightL ps
end
theorem zdB {α:Type} {f:α->Bool} {ps:List α} {i:Nat} {p:α} (hp:ps[i]?=some p) (h:f p=true):ps.any f=true:=List.any_eq_true.2 ⟨p,zm hp,h⟩
theorem zcN {α:Type} {f:α->Bool} {ps:List α} (h:∀(i:Nat) (p:α),i<ps.length->ps[i]?=some p->f p=false):ps.any f=false:=by
 rw[<- Bool.not_eq_true,List.any_eq_true];rintro ⟨p,hp,hf⟩;obtain ⟨i,hi,e⟩:=List.mem_iff_getElem.1 hp;rw[h i p hi (by rw[zc hi,e])] at hf;cases hf
def idxI {α:Type} (g:α->Bool) (l:List α):Int:=if l.any g then (l.findIdx g:Int) else -1
theorem zez {α:Type} {g:α->Bool} {l:List α} {i:Nat} {p:α} (hp:l[i]?=some p) (h:g p=true) (hb:∀(j:Nat) (q:α),j<i->l[j]?=some q->g q=false):idxI g l=(i:Int):=by
 have hi:i<l.length:=(ze.1 hp).1;have e:l[i]=p:=(ze.1 hp).2;rw[idxI,if_pos (zdB hp h)];(congr 1);refine List.findIdx_eq hi |>.2 ⟨by rw[e];exact h,fun j hj=>?_⟩;exact hb j _ hj (zc tz1)
theorem zey {α:Type} {g:α->Bool} {l:List α} (hb:∀(j:Nat) (q:α),j<l.length->l[j]?=some q->g q=false):idxI g l=-1:=by
 rw[idxI,zcN hb];rfl
theorem zdl {α:Type} {g:α->Bool} {l:List α}:decide (idxI g l>=0)=l.any g:=by
 unfold idxI;split;(·rename_i h;rw[h];simp);rename_i h;simp at h;simp;exact h
def joinB (l:List ByteArray) (sep:ByteArray):ByteArray:=⟨(Lib.join (l.map (·.data.toList)) sep.data.toList).toArray⟩
theorem zdv (s:ByteArray) (c:Int):APure Tryz.prog 161 [.v (.string s),.v (.int .u8 c)] (.v (.int .i64 (Lib.indexByte s.data.toList c.toNat.toUInt8))):=by
 refine APure.ofCalls ⟨_,Tryz.func161,by kernel_rfl,by kernel_rfl⟩ (.cons (.v _) (.cons (.v _) .nil)) (.v _) fun E A w vs hgl hA hr=>?_;obtain ⟨u,v,rfl,h1,h2⟩:=hr.two;(cases h1;cases h2);refine (Tryz.strings_IndexByte s c w).mono ?_;rintro e w' ⟨rfl,rfl⟩;exact ⟨_,rfl,Below.refl _ _,.v _⟩
theorem zdx (s p:ByteArray):APure Tryz.prog 162 [.v (.string s),.v (.string p)] (.v (.bool (Lib.hasPrefix s.data.toList p.data.toList))):=by
 refine APure.ofCalls ⟨_,Tryz.func162,by kernel_rfl,by kernel_rfl⟩ (.cons (.v _) (.cons (.v _) .nil)) (.v _) fun E A w vs hgl hA hr=>?_;obtain ⟨u,v,rfl,h1,h2⟩:=hr.two;(cases h1;cases h2);refine (Tryz.strings_HasPrefix s p w).mono ?_;rintro e w' ⟨rfl,rfl⟩;exact ⟨_,rfl,Below.refl _ _,.v _⟩
def kwT:ByteArray:=⟨#[32,102,117,110,32,108,101,116,32,114,101,99,32,105,110,32,105,102,32,116,104,101,110,32,101,108,115,101,32,116,114,117,101,32,102,97,108,115,101,32,105,110,116,32,98,111,111,108,32]⟩
def kwL:List ByteArray:=(Lib.fields kwT.data.toList).map fun l=>⟨l.toArray⟩
theorem kw_ascii:∀(j:Nat) b,kwT.data.toList[j]?=some b->b.toNat<128:=fun j b hj=>by
 (have h:(kwT.data.toList.all fun b=>decide (b.toNat<128))=true:=by kernel_rfl);exact of_decide_eq_true (List.all_eq_true.1 h b (zm hj))
theorem zff:APure Tryz.prog 41 [.v (.string kwT)] (.sl 1 (kwL.map zR)):=by
 refine APure.ofCalls ⟨_,Tryz.func41,by kernel_rfl,by kernel_rfl⟩ (.cons (.v _) .nil) (zdU _) fun E A w vs hgl hA hr=>?_;obtain ⟨u,rfl,h1⟩:=hr.one;obtain rfl:=h1.str;refine (Tryz.strings_Fields_laid kwT w tz3 kw_ascii (hgl.tab gl_mem0 tz0 tz0)).mono ?_;rintro e w' ⟨rfl,rfl⟩;refine ⟨_,rfl,zab w _,?_⟩;exact strs_new kwL hA 9 (of_decide_eq_true tz0)
def eqS (a b:ByteArray):Bool:=a.toList==b.toList
theorem zac {a b:ByteArray}:eqS a b=true↔a=b:=by
 unfold eqS;rw[beq_iff_eq,ByteArray.toList_eq,ByteArray.toList_eq];exact ⟨fun h=>WideShapes.bytes_inj h,fun h=>by rw[h]⟩
theorem eqS_dec (a b:ByteArray):eqS a b=decide (a=b):=by
 rw[Bool.eq_iff_iff,zac,decide_eq_true_eq]
def kwB (s:ByteArray):Bool:=kwL.any fun x=>eqS s x
def smI (c:Int):Bool:=decide (97<=c/\c<=122)
def dgI (c:Int):Bool:=decide (48<=c/\c<=57)
def inI (c:Int):Bool:=smI c||dgI c||c==95
def blI (c:Int):Bool:=c==32||c==9||c==10||c==13
def zax (s:ByteArray) (a:Nat) (p:Int->Bool):Nat:=((s.data.toList.drop a).takeWhile fun b=>p b.toNat).length
theorem za9 {s:ByteArray} {i:Nat} (h:i<s.size):s.data.toList[i]?=some ((s[i]?).getD 0):=by
 have h1:s[i]?=some s[i]:=getElem?_pos s i h;rw[h1];(have h2:i<s.data.toList.length:=by rw[Array.length_toList];exact h);rw[zc h2];rfl
theorem zaN (s:ByteArray) (a:Nat) (p:Int->Bool) (ha:a<=s.size):a+zax s a p<=s.size:=by
 have h1:=List.IsPrefix.length_le (List.takeWhile_prefix (l:=s.data.toList.drop a) (fun b=>p b.toNat));have h2:s.data.toList.length=s.size:=Array.length_toList;rw[List.length_drop,h2] at h1;unfold zax;omega
theorem zca {α:Type} (q:α->Bool):∀(l:List α) (n:Nat),n<=l.length->(∀(i:Nat) (x:α),i<n->l[i]?=some x->q x=true)->(∀x,l[n]?=some x->q x=false)->(l.takeWhile q).length=n
 | [],n,h,_,_=>by simp at h;simp[h]
 | x::l,0,_,_,h2=>by simp[h2 x rfl]
 | x::l,n+1,h,h1,h2=>by
  rw[List.takeWhile_cons,if_pos (h1 0 x tz1 rfl),List.length_cons,zca q l n (by simpa using h) (fun i y hi hy=>h1 (i+1) y tz1 (by simpa using hy)) (fun y hy=>h2 y (by simpa using hy))]
theorem zbz {s:ByteArray} {a n:Nat} {p:Int->Bool} (h0:a+n<=s.size) (h1:∀i,i<n->p ((s[a+i]?).getD 0).toNat=true) (h2:a+n<s.size->p ((s[a+n]?).getD 0).toNat=false):zax s a p=n:=by
 have hsz:s.data.toList.length=s.size:=Array.length_toList;unfold zax;refine zca _ _ _ (by rw[List.length_drop,hsz];omega) (fun i x hi hx=>?_) fun x hx=>?_
 ·rw[List.getElem?_drop,za9 tz1] at hx
  cases hx;exact h1 i hi
 rw[List.getElem?_drop] at hx;(have hlt:a+n<s.size:=by have:=(ze.1 hx).1;omega);rw[za9 hlt] at hx;cases hx;exact h2 hlt
theorem zdM (c:Int):APure Tryz.prog 156 [.v (.int .u8 c)] (.v (.bool (smI c))):=by
  refine APure.mkL (.cons (.v _) .nil) (.v _) ?_;refine aIn Tryz.func156 fun hm=>?_;simp only[Tryz.ntmps156,Tryz.results156,go_sem,seval];refine sqD ?_;refine sqR fun _ q=>?_;(iterate 3 (refine chS 1 ?_));refine zC 5 rfl (fun hc5=>?_) (fun hc5=>?_)
  ·
   (iterate 3 (refine chS 1 ?_));simp only[↓bO,go_sem,seval];apply q;apply zw;(try simp only[go_sem]);refine Le.of_eq (congrArg (fun b=>AV.v (.bool b)) ?_);rw[Bool.eq_iff_iff];simp only[smI,decide_eq_true_eq,decide_eq_false_iff_not,Bool.or_eq_true,beq_iff_eq,zf,beq_eq_false_iff_ne,ne_eq,false_iff,true_iff,iff_true,iff_false,Bool.true_eq_false,not_and,not_or,Int.not_le,ge_iff_le] at *;try omega
  (iterate 3 (refine chS 1 ?_));simp only[↓bO,go_sem,seval];apply q;apply zw;(try simp only[go_sem]);refine Le.of_eq (congrArg (fun b=>AV.v (.bool b)) ?_);rw[Bool.eq_iff_iff];simp only[smI,decide_eq_true_eq,decide_eq_false_iff_not,Bool.or_eq_true,beq_iff_eq,zf,beq_eq_false_iff_ne,ne_eq,false_iff,true_iff,iff_true,iff_false,Bool.true_eq_false,not_and,not_or,Int.not_le,ge_iff_le] at *;try omega
theorem zcE (c:Int):APure Tryz.prog 159 [.v (.int .u8 c)] (.v (.bool (dgI c))):=by
  refine APure.mkL (.cons (.v _) .nil) (.v _) ?_;refine aIn Tryz.func159 fun hm=>?_;simp only[Tryz.ntmps159,Tryz.results159,go_sem,seval];refine sqD ?_;refine sqR fun _ q=>?_;(iterate 3 (refine chS 1 ?_));refine zC 5 rfl (fun hc5=>?_) (fun hc5=>?_)
  ·
   (iterate 3 (refine chS 1 ?_));simp only[↓bO,go_sem,seval];apply q;apply zw;(try simp only[go_sem]);refine Le.of_eq (congrArg (fun b=>AV.v (.bool b)) ?_);rw[Bool.eq_iff_iff];simp only[dgI,decide_eq_true_eq,decide_eq_false_iff_not,Bool.or_eq_true,beq_iff_eq,zf,beq_eq_false_iff_ne,ne_eq,false_iff,true_iff,iff_true,iff_false,Bool.true_eq_false,not_and,not_or,Int.not_le,ge_iff_le] at *;try omega
  (iterate 3 (refine chS 1 ?_));simp only[↓bO,go_sem,seval];apply q;apply zw;(try simp only[go_sem]);refine Le.of_eq (congrArg (fun b=>AV.v (.bool b)) ?_);rw[Bool.eq_iff_iff];simp only[dgI,decide_eq_true_eq,decide_eq_false_iff_not,Bool.or_eq_true,beq_iff_eq,zf,beq_eq_false_iff_ne,ne_eq,false_iff,true_iff,iff_true,iff_false,Bool.true_eq_false,not_and,not_or,Int.not_le,ge_iff_le] at *;try omega
theorem zgm (c:Int):APure Tryz.prog 153 [.v (.int .u8 c)] (.v (.bool (blI c))):=by
  refine APure.mkL (.cons (.v _) .nil) (.v _) ?_;refine aIn Tryz.func153 fun hm=>?_;simp only[Tryz.ntmps153,Tryz.results153,go_sem,seval];refine sqD ?_;refine sqR fun _ q=>?_;(iterate 3 (refine chS 1 ?_));refine zC 5 rfl (fun hc5=>?_) (fun hc5=>?_)
  ·
   (iterate 11 (refine chS 1 ?_));simp only[↓bO,go_sem,seval];apply q;apply zw;(try simp only[go_sem]);refine Le.of_eq (congrArg (fun b=>AV.v (.bool b)) ?_);rw[Bool.eq_iff_iff];simp only[blI,decide_eq_true_eq,decide_eq_false_iff_not,Bool.or_eq_true,beq_iff_eq,zf,beq_eq_false_iff_ne,ne_eq,false_iff,true_iff,iff_true,iff_false,Bool.true_eq_false,not_and,not_or,Int.not_le,ge_iff_le] at *;try omega
  (iterate 4 (refine chS 1 ?_));refine zC 9 rfl (fun hc9=>?_) (fun hc9=>?_)
  ·
   (iterate 7 (refine chS 1 ?_));simp only[↓bO,go_sem,seval];apply q;apply zw;(try simp only[go_sem]);refine Le.of_eq (congrArg (fun b=>AV.v (.bool b)) ?_);rw[Bool.eq_iff_iff];simp only[blI,decide_eq_true_eq,decide_eq_false_iff_not,Bool.or_eq_true,beq_iff_eq,zf,beq_eq_false_iff_ne,ne_eq,false_iff,true_iff,iff_true,iff_false,Bool.true_eq_false,not_and,not_or,Int.not_le,ge_iff_le] at *;try omega
  (iterate 4 (refine chS 1 ?_));refine zC 13 rfl (fun hc13=>?_) (fun hc13=>?_)
  ·
   (iterate 3 (refine chS 1 ?_));simp only[↓bO,go_sem,seval];apply q;apply zw;(try simp only[go_sem]);refine Le.of_eq (congrArg (fun b=>AV.v (.bool b)) ?_);rw[Bool.eq_iff_iff];simp only[blI,decide_eq_true_eq,decide_eq_false_iff_not,Bool.or_eq_true,beq_iff_eq,zf,beq_eq_false_iff_ne,ne_eq,false_iff,true_iff,iff_true,iff_false,Bool.true_eq_false,not_and,not_or,Int.not_le,ge_iff_le] at *;try omega
  (iterate 3 (refine chS 1 ?_));simp only[↓bO,go_sem,seval];apply q;apply zw;(try simp only[go_sem]);refine Le.of_eq (congrArg (fun b=>AV.v (.bool b)) ?_);rw[Bool.eq_iff_iff];simp only[blI,decide_eq_true_eq,decide_eq_false_iff_not,Bool.or_eq_true,beq_iff_eq,zf,beq_eq_false_iff_ne,ne_eq,false_iff,true_iff,iff_true,iff_false,Bool.true_eq_false,not_and,not_or,Int.not_le,ge_iff_le] at *;try omega
theorem zgo (c:Int):APure Tryz.prog 155 [.v (.int .u8 c)] (.v (.bool (c != 10))):=by
 refine APure.mkL (.cons (.v _) .nil) (.v _) ?_;refine aIn Tryz.func155 fun hm=>?_;simp only[Tryz.ntmps155,Tryz.results155,go_sem,seval];refine sqD ?_;refine sqR fun _ q=>?_;(iterate 2 (refine chS 1 ?_));simp only[↓bO,go_sem,seval];apply q;apply zw;exact Le.refl _
theorem zcG (c:Int):APure Tryz.prog 157 [.v (.int .u8 c)] (.v (.bool (inI c))):=by
  refine APure.mkL (.cons (.v _) .nil) (.v _) ?_;refine aIn Tryz.func157 fun hm=>?_;simp only[Tryz.ntmps157,Tryz.results157,go_sem,seval];refine sqD ?_;refine sqR fun _ y=>?_;refine chS 1 ?_;refine zq 1 fun _ q=>?_;simp only[↓bO,go_sem,seval];refine APure.call (zdM c) ?_;apply q;clear q;refine chS 1 ?_;simp only[go_sem];refine zC 5 rfl (fun hc5=>?_) (fun hc5=>?_)
  ·
   (iterate 7 (refine chS 1 ?_));simp only[↓bO,go_sem,seval];apply y;apply zw;(try simp only[go_sem]);refine Le.of_eq (congrArg (fun b=>AV.v (.bool b)) ?_);simp_all [inI]
  refine chS 1 ?_;refine zq 1 fun _ q=>?_;simp only[↓bO,go_sem,seval];refine APure.call (zcE c) ?_;(iterate 2 (apply q;clear q;refine zq 1 fun _ q=>?_;simp only[↓bO,go_sem,seval]));apply q;clear q;refine zC 9 rfl (fun hc9=>?_) (fun hc9=>?_)
  ·
   (iterate 3 (refine chS 1 ?_));simp only[↓bO,go_sem,seval];apply y;apply zw;(try simp only[go_sem]);refine Le.of_eq (congrArg (fun b=>AV.v (.bool b)) ?_);simp_all [inI]
  (iterate 3 (refine chS 1 ?_));simp only[↓bO,go_sem,seval];apply y;apply zw;(try simp only[go_sem]);refine Le.of_eq (congrArg (fun b=>AV.v (.bool b)) ?_);simp_all [inI]
mutual
def Ty.cnt:Ty->Nat
 | .mk _ _ ps=>1+Ty.cntL ps
def Ty.cntL:List Ty->Nat
 | []=>0
 | p::ps=>Ty.cnt p+Ty.cntL ps
end
abbrev intC (x:Int):List AV:=[.v (.int .i64 x)]
structure RNode where
 t:Ty
 parts:List Int
def RNode.cells (r:RNode):List AV:=[.v (.int .i64 r.t.k),.v (.int .i64 r.t.n),.sl 3 (r.t.ps.map Ty.cells),.sl 1 (r.parts.map intC)]
structure Bd where
 v:Int
 t:Ty
def Bd.cells (b:Bd):List AV:=.v (.int .i64 b.v)::b.t.cells
def bfind (l:List Bd) (n:Int):Int:=idxI (fun b=>b.v==n) l
mutual
/-- what a substitution makes of a type -/
def Ty.sub (l:List Bd):Ty->Ty
 | .mk k n ps=>if k=1/\0<=bfind l n then ((l[(bfind l n).toNat]?).map Bd.t).getD (.mk 0 0 []) else .mk k n (Ty.subL l ps)
def Ty.subL (l:List Bd):List Ty->List Ty
 | []=>[]
 | p::ps=>Ty.sub l p::Ty.subL l ps
end
end Go.Proofs.YtkokfdmggdhfmaaGreatDoor
namespace Go.Proofs.YtkokfdmggdhfmaaGreatDoor
open Go Go.RowKit
set_option linter.unnecessarySimpa false
def itB (n:Int):ByteArray:=⟨(Lib.itoa n).toArray⟩
def nmH (n:Int):ByteArray:=(⟨#[39]⟩:ByteArray)++Utf8.encode (97+n % 26)
def nmB (n:Int):ByteArray:=if 26<=n then nmH n++itB (n / 26) else nmH n
def bLp:ByteArray:=⟨#[40]⟩
def bRp:ByteArray:=⟨#[41]⟩
def bAr:ByteArray:=⟨#[32,45,62,32]⟩
def bSt:ByteArray:=⟨#[32,42,32]⟩
def brB (b:Bool) (s:ByteArray):ByteArray:=if b then bLp++s++bRp else s
mutual
/-- a right type's text -/
def Ty.tx:Ty->ByteArray
 | .mk k n ps =>
  if k=1 then nmB n else if k=2 then ⟨#[105,110,116]⟩ else if k=3 then ⟨#[98,111,111,108]⟩
  else if k=4 then (match Ty.txP ps with
   | (ka,a)::(_,b)::_=>brB (ka==4) a++bAr++b
   | _=>ByteArray.empty)
  else bLp++joinB ((Ty.txP ps).map fun p=>brB (p.1==4) p.2) bSt++bRp
def Ty.txP:List Ty->List (Int×ByteArray)
 | []=>[]
 | p::ps=>(p.k,Ty.tx p)::Ty.txP ps
end
def Ty.btx (p:Ty):ByteArray:=brB (p.k==4) p.tx
def rdP (l:List Tok) (most:Int):Nat->Option (List Ty)->Int->Int->Ty×Int×Int
 | 0,_,i,_=>(zTy,i,3)
 | f+1,none,i,lv =>
  if most<lv then (zTy,i,4) else
  let r:=if isT l i 3 zem then (.mk 2 0 [],i+1,0) else if isT l i 3 zbn then (.mk 3 0 [],i+1,0)
   else if isT l i 4 bOpen then
    let p:=rdP l most f none (i+1) (lv+1)
    if p.2.2=0 then rdP l most f (some [p.1]) p.2.1 (lv+1) else p
   else (zTy,i,3)
  if r.2.2=0 then
   if isT l r.2.1 4 zbD then
    let u:=rdP l most f none (r.2.1+1) (lv+1)
    (.mk 4 0 [r.1,u.1],u.2.1,u.2.2)
   else r
  else r
 | f+1,some ps,i,lv =>
  if isT l i 4 zas then (ze8 ps,i+1,0)
  else if isT l i 4 zbm then
   if ps.length=8 then (ze8 ps,i,6) else
   let p:=rdP l most f none (i+1) lv
   if p.2.2=0 then rdP l most f (some (ps++[p.1])) p.2.1 lv else (ze8 (ps++[p.1]),p.2.1,p.2.2)
  else (ze8 ps,i,3)
def lsP (l:List Tok) (m:Int) (f:Nat) (i lv:Int):Ty×Int×Int :=
 if (rdP l m f none i lv).2.2=0 then rdP l m f (some [(rdP l m f none i lv).1]) (rdP l m f none i lv).2.1 lv else rdP l m f none i lv
def bsP (l:List Tok) (m:Int) (f:Nat) (i lv:Int):Ty×Int×Int :=
 if isT l i 3 zem then (.mk 2 0 [],i+1,0) else if isT l i 3 zbn then (.mk 3 0 [],i+1,0)
 else if isT l i 4 bOpen then lsP l m f (i+1) (lv+1) else (zTy,i,3)
def arP (l:List Tok) (m:Int) (f:Nat) (lv:Int) (r:Ty×Int×Int):Ty×Int×Int :=
 if r.2.2=0 then
  if isT l r.2.1 4 zbD then (.mk 4 0 [r.1,(rdP l m f none (r.2.1+1) (lv+1)).1],(rdP l m f none (r.2.1+1) (lv+1)).2.1,(rdP l m f none (r.2.1+1) (lv+1)).2.2)
  else r
 else r
theorem zbE (l:List Tok) (m:Int) (f:Nat) (i lv:Int):rdP l m (f+1) none i lv=if m<lv then (zTy,i,4) else arP l m f lv (bsP l m f i lv):=rfl
theorem zck (l:List Tok) (m:Int) (f:Nat) (ps:List Ty) (i lv:Int):rdP l m (f+1) (some ps) i lv =
  if isT l i 4 zas then (ze8 ps,i+1,0)
  else if isT l i 4 zbm then
   if ps.length=8 then (ze8 ps,i,6) else
   if (rdP l m f none (i+1) lv).2.2=0 then rdP l m f (some (ps++[(rdP l m f none (i+1) lv).1])) (rdP l m f none (i+1) lv).2.1 lv
   else (ze8 (ps++[(rdP l m f none (i+1) lv).1]),(rdP l m f none (i+1) lv).2.1,(rdP l m f none (i+1) lv).2.2)
  else (ze8 ps,i,3):=rfl
def lsR (l:List Tok) (m:Int) (f:Nat) (i lv:Int):Ty×Int×Int :=
 if (rd l m f none i lv).2.2=0 then rd l m f (some [(rd l m f none i lv).1]) (rd l m f none i lv).2.1 lv else (zTy,(rd l m f none i lv).2.1,(rd l m f none i lv).2.2)
def bsR (l:List Tok) (m:Int) (f:Nat) (i lv:Int):Ty×Int×Int :=
 if isT l i 3 zem then (.mk 2 0 [],i+1,0) else if isT l i 3 zbn then (.mk 3 0 [],i+1,0)
 else if isT l i 4 bOpen then lsR l m f (i+1) (lv+1) else (zTy,i,3)
def arR (l:List Tok) (m:Int) (f:Nat) (lv:Int) (r:Ty×Int×Int):Ty×Int×Int :=
 if r.2.2=0 then
  if isT l r.2.1 4 zbD then
   if (rd l m f none (r.2.1+1) (lv+1)).2.2=0 then (.mk 4 0 [r.1,(rd l m f none (r.2.1+1) (lv+1)).1],(rd l m f none (r.2.1+1) (lv+1)).2.1,0)
   else (zTy,(rd l m f none (r.2.1+1) (lv+1)).2.1,(rd l m f none (r.2.1+1) (lv+1)).2.2)
  else r
 else (zTy,r.2.1,r.2.2)
theorem za2 (l:List Tok) (m:Int) (f:Nat) (i lv:Int):rd l m (f+1) none i lv=if m<lv then (zTy,i,4) else arR l m f lv (bsR l m f i lv):=rfl
theorem zcs (l:List Tok) (m:Int) (f:Nat) (ps:List Ty) (i lv:Int):rd l m (f+1) (some ps) i lv =
  if isT l i 4 zas then (ze8 ps,i+1,0)
  else if isT l i 4 zbm then
   if 8<=ps.length then (zTy,i,6) else
   if (rd l m f none (i+1) lv).2.2=0 then rd l m f (some (ps++[(rd l m f none (i+1) lv).1])) (rd l m f none (i+1) lv).2.1 lv
   else (zTy,(rd l m f none (i+1) lv).2.1,(rd l m f none (i+1) lv).2.2)
  else (zTy,i,3):=rfl
def Agree (r q:Ty×Int×Int):Prop:=r.2=q.2/\(q.2.2=0->r=q)
theorem Agree.refl (r:Ty×Int×Int):Agree r r:=⟨rfl,fun _=>rfl⟩
theorem zeq (l:List Tok) (m:Int):∀(f:Nat) (o:Option (List Ty)) (i lv:Int),(∀ps,o=some ps->ps.length<=8)->Agree (rdP l m f o i lv) (rd l m f o i lv)
 | 0,_,i,_,_=>Agree.refl _
 | f+1,none,i,lv,_=>by
  have ih:=zeq l m f;(have hn:=fun i lv=>ih none i lv (fun ps h=>by cases h));rw[zbE,za2];split;·exact Agree.refl _
  have hls:∀i lv,Agree (lsP l m f i lv) (lsR l m f i lv):=fun i lv=>by
   have h1:=hn i lv;unfold lsP lsR
   by_cases h0:(rd l m f none i lv).2.2=0
   ·rw[h1.2 h0,if_pos h0,if_pos h0]
    exact ih _ _ _ fun ps h=>by cases h;simp
   rw[if_neg h0,if_neg (by rw[h1.1];exact h0)];exact ⟨by rw[h1.1],fun h=>absurd h h0⟩
  have hbs:Agree (bsP l m f i lv) (bsR l m f i lv):=by
   unfold bsP bsR;split;(·exact Agree.refl _);split;(·exact Agree.refl _);split;(·exact hls _ _);exact Agree.refl _
  unfold arP arR
  by_cases h0:(bsR l m f i lv).2.2=0
  ·rw[hbs.2 h0,if_pos h0,if_pos h0]
   split
   ·have h1:=hn ((bsR l m f i lv).2.1+1) (lv+1)
    by_cases h2:(rd l m f none ((bsR l m f i lv).2.1+1) (lv+1)).2.2=0
    (·rw[h1.2 h2,if_pos h2,h2];exact Agree.refl _);rw[if_neg h2];exact ⟨by rw[h1.1],fun h=>absurd h h2⟩
   exact Agree.refl _
  rw[if_neg h0,if_neg (by rw[hbs.1];exact h0)]
  exact ⟨by rw[hbs.1],fun h=>absurd h h0⟩
 | f+1,some ps,i,lv,hps=>by
  have ih:=zeq l m f;(have hn:=fun i lv=>ih none i lv (fun ps h=>by cases h));have h8:=hps ps rfl;rw[zck,zcs];split;(·exact Agree.refl _);split
  ·by_cases h:ps.length=8
   ·rw[if_pos h,if_pos (show 8<=ps.length by omega)]
    exact ⟨rfl,fun h=>by simp at h⟩
   rw[if_neg h,if_neg (show ¬8<=ps.length by omega)];have h1:=hn (i+1) lv
   by_cases h2:(rd l m f none (i+1) lv).2.2=0
   ·rw[h1.2 h2,if_pos h2,if_pos h2]
    exact ih _ _ _ fun qs h=>by cases h;simp;omega
   rw[if_neg h2,if_neg (by rw[h1.1];exact h2)];exact ⟨by rw[h1.1],fun h=>absurd h h2⟩
  exact ⟨rfl,fun h=>by simp at h⟩
theorem zei (l:List Tok) (m:Int) (f:Nat) (i lv:Int):(rdP l m f none i lv).2=(rd l m f none i lv).2:=(zeq l m f none i lv (fun ps h=>by cases h)).1
theorem zcP (l:List Tok) (m:Int) (f:Nat) (i lv:Int):i<=(rdP l m f none i lv).2.1:=by rw[zei];exact (zaJ l m f none i lv).1
def lft (l:List Tok) (i:Int):Nat:=((l.length:Int)-max i 0).toNat
theorem zfb (l:List Tok) (i:Int):lft l i<=l.length:=by unfold lft;omega
theorem zah {l:List Tok} {i k:Int} {s:ByteArray} (h:isT l i k s=true):lft l (i+1)<lft l i:=by
 have:=zai h;unfold lft;omega
theorem zbU {l:List Tok} {i j:Int} (h:i<=j):lft l j<=lft l i:=by unfold lft;omega
theorem lsP_mono (l:List Tok) (m:Int) (f:Nat) (i lv:Int):i<=(lsP l m f i lv).2.1:=by
 have h1:=zcP l m f i lv;unfold lsP;split
 ·have h2:=(zeq l m f (some [(rdP l m f none i lv).1]) (rdP l m f none i lv).2.1 lv (fun ps h=>by cases h;simp)).1
  have h3:=(zaJ l m f (some [(rdP l m f none i lv).1]) (rdP l m f none i lv).2.1 lv).1;rw[h2];omega
 exact h1
theorem bsP_mono (l:List Tok) (m:Int) (f:Nat) (i lv:Int):i<=(bsP l m f i lv).2.1:=by
 unfold bsP;split;(·simp only;omega);split;(·simp only;omega);split;(·have:=lsP_mono l m f (i+1) (lv+1);omega);simp
theorem deep_e {m lv e0:Int} (h:(if decide (lv > m)=true/\(0:Int)=0 then (4:Int) else 0)=e0):(m<lv/\e0=4)\/(¬m<lv/\e0=0):=by
 by_cases hd:m<lv
 ·rw[if_pos ⟨by simpa using hd,rfl⟩] at h
  exact .inl ⟨hd,h.symm⟩
 rw[if_neg (by simpa using hd)] at h;exact .inr ⟨hd,h.symm⟩
structure LS where
 f:Nat
 ps:List Ty
 i:Int
 e:Int
def LS.ok (l:List Tok) (m:Int) (f0:Nat) (lv i0:Int) (RES:Ty×Int×Int) (s:LS):Prop :=
 0<s.ps.length/\s.ps.length<=8/\i0<=s.i/\s.f<=f0/\(if s.e=0 then rdP l m s.f (some s.ps) s.i lv=RES/\lft l s.i<s.f else RES=(ze8 s.ps,s.i,s.e))
theorem zek {ps:List Ty} (h:ps.length=1):∃t,ps=[t]/\ze8 ps=t:=by
 match ps,h with
 | [t],_=>exact ⟨t,rfl,rfl⟩
theorem zdm {ps:List Ty} (h:¬ps.length=1):ze8 ps=.mk 5 0 ps:=by
 match ps,h with
 | [],_=>rfl
 | _::_::_,_=>rfl
section
variable {l:List Tok} {m:Int} {f0:Nat} {lv i0:Int} {RES:Ty×Int×Int} {s:LS} {g:Nat}
theorem LS.start (l:List Tok) (m:Int) (f:Nat) (i lv:Int) (h:lft l i<f) :
  LS.ok l m f lv i (lsP l m f i lv) ⟨f,[(rdP l m f none i lv).1],(rdP l m f none i lv).2.1,(rdP l m f none i lv).2.2⟩:=by
 refine ⟨by simp,by simp,zcP _ _ _ _ _,zh _,?_⟩;simp only[lsP];split;(·exact ⟨rfl,Nat.lt_of_le_of_lt (zbU (zcP _ _ _ _ _)) h⟩);rfl
theorem LS.ok.fuel (h:LS.ok l m f0 lv i0 RES s) (he:s.e=0):∃g,s.f=g+1/\g<f0/\lft l s.i<g+1:=by
 obtain ⟨_,_,_,h4,h5⟩:=h;rw[if_pos he] at h5;exact ⟨s.f-1,by omega,by omega,by omega⟩
theorem LS.ok.res (h:LS.ok l m f0 lv i0 RES s) (he:s.e=0) (hg:s.f=g+1):rdP l m (g+1) (some s.ps) s.i lv=RES:=by
 have h5:=h.2.2.2.2;rw[if_pos he,hg] at h5;exact h5.1
theorem LS.ok.stop (h:LS.ok l m f0 lv i0 RES s) (he:¬s.e=0):RES=(ze8 s.ps,s.i,s.e):=by
 have h5:=h.2.2.2.2
 rwa [if_neg he] at h5
theorem LS.ok.close (h:LS.ok l m f0 lv i0 RES s) (he:s.e=0) (hg:s.f=g+1) (h1:isT l s.i 4 zas=true):RES=(ze8 s.ps,s.i+1,0):=by
 rw[<- h.res he hg,zck,if_pos h1]
theorem LS.ok.form (h:LS.ok l m f0 lv i0 RES s) (he:s.e=0) (hg:s.f=g+1) (h1:isT l s.i 4 zas=false) (h2:isT l s.i 4 zbm=false):LS.ok l m f0 lv i0 RES ⟨s.f,s.ps,s.i,3⟩:=by
 refine ⟨h.1,h.2.1,h.2.2.1,h.2.2.2.1,?_⟩;(simp only);rw[if_neg tz3,<- h.res he hg,zck,if_neg (by simp[h1]),if_neg (by simp[h2])]
theorem LS.ok.many (h:LS.ok l m f0 lv i0 RES s) (he:s.e=0) (hg:s.f=g+1) (h1:isT l s.i 4 zas=false) (h2:isT l s.i 4 zbm=true) (h3:s.ps.length=8):LS.ok l m f0 lv i0 RES ⟨s.f,s.ps,s.i,6⟩:=by
 refine ⟨h.1,h.2.1,h.2.2.1,h.2.2.2.1,?_⟩;(simp only);rw[if_neg tz3,<- h.res he hg,zck,if_neg (by simp[h1]),if_pos h2,if_pos h3]
theorem LS.ok.next (h:LS.ok l m f0 lv i0 RES s) (he:s.e=0) (hg:s.f=g+1) (h1:isT l s.i 4 zas=false) (h2:isT l s.i 4 zbm=true) (h3:¬s.ps.length=8) :
  LS.ok l m f0 lv i0 RES ⟨g,s.ps++[(rdP l m g none (s.i+1) lv).1],(rdP l m g none (s.i+1) lv).2.1,(rdP l m g none (s.i+1) lv).2.2⟩:=by
 have hr:=h.res he hg;rw[zck,if_neg (by simp[h1]),if_pos h2,if_neg h3] at hr;have hm:=zcP l m g (s.i+1) lv;obtain ⟨g',hg',_,hl⟩:=h.fuel he;have hn:=zah h2;have hl2:=zbU (l:=l) hm;refine ⟨by simp,?_,?_,?_,?_⟩;(·have:=h.2.1;simp;omega);(·have:=h.2.2.1;simp only;omega);(·have:=h.2.2.2.1;simp only;omega);(simp only);split
 ·rename_i h0
  rw[if_pos h0] at hr;exact ⟨hr,by omega⟩
 (rename_i h0);rw[if_neg h0] at hr;exact hr.symm
end
theorem zfm {l:List Tok} {i k:Int} {a b:ByteArray} (h:isT l i k a=true) (hn:a≠b):isT l i k b=false:=by
 unfold isT at h ⊢;split at h
 ·rename_i t ht
  simp only[Bool.and_eq_true,decide_eq_true_eq] at h;simp only[Bool.and_eq_false_iff,decide_eq_false_iff_not];exact .inr (by rw[h.2];exact hn)
 cases h
theorem lsR_mono (l:List Tok) (m:Int) (f:Nat) (i lv:Int):i<=(lsR l m f i lv).2.1:=by
 have h1:=(zaJ l m f none i lv).1;unfold lsR;split;(·have:=(zaJ l m f (some [(rd l m f none i lv).1]) (rd l m f none i lv).2.1 lv).1;omega);exact h1
theorem bsR_mono (l:List Tok) (m:Int) (f:Nat) (i lv:Int):i<=(bsR l m f i lv).2.1:=by
 unfold bsR;split;(·simp only;omega);split;(·simp only;omega);split;(·have:=lsR_mono l m f (i+1) (lv+1);omega);simp
structure RS where
 f:Nat
 ps:List Ty
 i:Int
 p:Ty
def RS.ok (l:List Tok) (m:Int) (f0:Nat) (lv i0:Int) (RES:Ty×Int×Int) (s:RS):Prop :=
 0<s.ps.length/\i0<=s.i/\s.f<=f0/\rd l m s.f (some s.ps) s.i lv=RES/\lft l s.i<s.f
section
variable {l:List Tok} {m:Int} {f0:Nat} {lv i0:Int} {RES:Ty×Int×Int} {s:RS} {g:Nat}
theorem RS.start (l:List Tok) (m:Int) (f:Nat) (i lv:Int) (h:lft l i<f) (h0:(rd l m f none i lv).2.2=0) :
  RS.ok l m f lv i (lsR l m f i lv) ⟨f,[(rd l m f none i lv).1],(rd l m f none i lv).2.1,(rd l m f none i lv).1⟩:=by
 refine ⟨by simp,(zaJ _ _ _ _ _ _).1,zh _,?_,Nat.lt_of_le_of_lt (zbU (zaJ _ _ _ _ _ _).1) h⟩;rw[lsR,if_pos h0]
theorem RS.ok.fuel (h:RS.ok l m f0 lv i0 RES s):∃g,s.f=g+1/\g<f0/\lft l s.i<g+1:=by
 obtain ⟨_,_,h4,_,h5⟩:=h;exact ⟨s.f-1,by omega,by omega,by omega⟩
theorem RS.ok.res (h:RS.ok l m f0 lv i0 RES s) (hg:s.f=g+1):rd l m (g+1) (some s.ps) s.i lv=RES:=by rw[<- hg];exact h.2.2.2.1
theorem RS.ok.close (h:RS.ok l m f0 lv i0 RES s) (hg:s.f=g+1) (h1:isT l s.i 4 zas=true):RES=(ze8 s.ps,s.i+1,0):=by
 rw[<- h.res hg,zcs,if_pos h1]
theorem RS.ok.form (h:RS.ok l m f0 lv i0 RES s) (hg:s.f=g+1) (h1:isT l s.i 4 zas=false) (h2:isT l s.i 4 zbm=false):RES=(zTy,s.i,3):=by
 rw[<- h.res hg,zcs,if_neg (by simp[h1]),if_neg (by simp[h2])]
theorem RS.ok.many (h:RS.ok l m f0 lv i0 RES s) (hg:s.f=g+1) (h2:isT l s.i 4 zbm=true) (h3:8<=s.ps.length):RES=(zTy,s.i,6):=by
 rw[<- h.res hg,zcs,if_neg (by simp[zfm h2 (b:=zas) tz3]),if_pos h2,if_pos h3]
theorem RS.ok.bad (h:RS.ok l m f0 lv i0 RES s) (hg:s.f=g+1) (h2:isT l s.i 4 zbm=true) (h3:¬8<=s.ps.length) (h4:¬(rd l m g none (s.i+1) lv).2.2=0):RES=(zTy,(rd l m g none (s.i+1) lv).2.1,(rd l m g none (s.i+1) lv).2.2):=by
 rw[<- h.res hg,zcs,if_neg (by simp[zfm h2 (b:=zas) tz3]),if_pos h2,if_neg h3,if_neg h4]
theorem RS.ok.next (h:RS.ok l m f0 lv i0 RES s) (hg:s.f=g+1) (h2:isT l s.i 4 zbm=true) (h3:¬8<=s.ps.length) (h4:(rd l m g none (s.i+1) lv).2.2=0) :
  RS.ok l m f0 lv i0 RES ⟨g,s.ps++[(rd l m g none (s.i+1) lv).1],(rd l m g none (s.i+1) lv).2.1,(rd l m g none (s.i+1) lv).1⟩:=by
 have hr:=h.res hg;rw[zcs,if_neg (by simp[zfm h2 (b:=zas) tz3]),if_pos h2,if_neg h3,if_pos h4] at hr;have hm:=(zaJ l m g none (s.i+1) lv).1;obtain ⟨g',hg',_,hl⟩:=h.fuel;have hn:=zah h2;have hl2:=zbU (l:=l) hm;exact ⟨by simp,by have:=h.2.1;simp only;omega,by have:=h.2.2.1;simp only;omega,hr,by simp only;omega⟩
end
def bt (s:ByteArray) (i:Nat):Int:=(((s[i]?).getD 0).toNat:Int)
theorem bt_range (s:ByteArray) (i:Nat):0<=bt s i/\bt s i<256:=by
 unfold bt;have:=((s[i]?).getD 0).toNat_lt;omega
def zdo (c:Int):Bool:=c==40||c==41||c==44||c==58||c==61||c==42
def nxF (s:ByteArray) (i:Nat):Int×Nat×Int :=
 if smI (bt s i) then
  if kwB (s.extract i (i+zax s i inI)) then (3,zax s i inI,0) else if 20<zax s i inI then (0,0,2) else (1,zax s i inI,0)
 else if dgI (bt s i) then
  if (1<zax s i dgI/\bt s i=48)\/(i+zax s i dgI<s.size/\inI (bt s (i+zax s i dgI))=true) then (0,0,3)
  else if 9<zax s i dgI then (0,0,2) else (2,zax s i dgI,0)
 else if zdo (bt s i) then (4,1,0)
 else if bt s i=45/\i+1<s.size/\bt s (i+1)=62 then (4,2,0)
 else (0,0,3)
def tkOf (s:ByteArray) (i:Nat):Tok:=⟨(nxF s i).1,s.extract i (i+(nxF s i).2.1),i,((i+(nxF s i).2.1:Nat):Int)⟩
def zdi (s:ByteArray):Tok:=⟨0,ByteArray.empty,s.size,s.size⟩
def wdF (s:ByteArray):Nat->Nat->List Tok->List Tok×Int×Int
 | 0,i,out=>([],i,3)
 | f+1,i,out =>
  if i<s.size then
   if blI (bt s i) then wdF s f (i+1) out
   else if bt s i=35 then wdF s f (i+zax s i (fun c=>c != 10)) out
   else if (nxF s i).2.2=0 then wdF s f (i+(nxF s i).2.1) (out++[tkOf s i])
   else ([],i,(nxF s i).2.2)
  else (out++[zdi s],0,0)
def wdA (s:ByteArray):List Tok×Int×Int:=wdF s (s.size+1) 0 []
theorem zaK {s:ByteArray} {i:Nat} {p:Int->Bool} (hi:i<s.size) (h:p (bt s i)=true):0<zax s i p:=by
 have h1:=zaN s i p tz1;rcases Nat.eq_zero_or_pos (zax s i p) with h0 | h0
 ·exfalso
  unfold zax at h0;have hl:s.data.toList.length=s.size:=Array.length_toList
  have hd:s.data.toList.drop i=((s[i]?).getD 0)::s.data.toList.drop (i+1):=by
   (have h2:i<s.data.toList.length:=by omega);rw[List.drop_eq_getElem_cons h2];(congr 1);have:=za9 hi;rw[zc h2] at this;exact Option.some.inj this
  rw[hd,List.takeWhile_cons,if_pos (by exact h)] at h0;simp at h0
 exact h0
section
variable {s:ByteArray} {i n:Nat}
theorem zan (h:smI (bt s i)=true) (hn:zax s i inI=n):nxF s i=if kwB (s.extract i (i+n)) then (3,n,0) else if 20<n then (0,0,2) else (1,n,0):=by
 unfold nxF;rw[if_pos h,hn]
theorem zaY (h0:smI (bt s i)=false) (h:dgI (bt s i)=true) (hn:zax s i dgI=n) :
  nxF s i=if (1<n/\bt s i=48)\/(i+n<s.size/\inI (bt s (i+n))=true) then (0,0,3) else if 9<n then (0,0,2) else (2,n,0):=by
 unfold nxF;rw[if_neg (by simp[h0]),if_pos h,hn]
theorem zcd (h:bt s i=45):nxF s i=if i+1<s.size/\bt s (i+1)=62 then (4,2,0) else (0,0,3):=by
 unfold nxF;rw[if_neg (by rw[h];decide),if_neg (by rw[h];decide),if_neg (by rw[h];decide)]
 by_cases h1:i+1<s.size/\bt s (i+1)=62
 (·rw[if_pos h1,if_pos ⟨h,h1⟩]);rw[if_neg h1,if_neg fun h2=>h1 h2.2]
theorem zda (h0:smI (bt s i)=false) (h1:dgI (bt s i)=false) (h2:¬bt s i=45):nxF s i=if zdo (bt s i) then (4,1,0) else (0,0,3):=by
 unfold nxF;rw[if_neg (by simp[h0]),if_neg (by simp[h1])]
 by_cases h:zdo (bt s i)=true
 (·rw[if_pos h,if_pos h]);rw[if_neg h,if_neg h,if_neg fun h3=>h2 h3.1]
theorem zeA (hi:i<s.size) (h:(nxF s i).2.2=0):0<(nxF s i).2.1/\i+(nxF s i).2.1<=s.size:=by
 by_cases h1:smI (bt s i)=true
 ·have hp:=zaK (p:=inI) hi (by unfold inI;rw[h1];rfl)
  have hl:=zaN s i inI tz1;rw[zan h1 rfl] at h ⊢;split;(·exact ⟨hp,hl⟩);(rename_i h2);rw[if_neg h2] at h;split;(·rename_i h3;rw[if_pos h3] at h;simp at h);exact ⟨hp,hl⟩
 have h1:smI (bt s i)=false:=by simpa using h1
 by_cases h2:dgI (bt s i)=true
 ·have hp:=zaK (p:=dgI) hi h2
  have hl:=zaN s i dgI tz1;rw[zaY h1 h2 rfl] at h ⊢;split;(·rename_i h3;rw[if_pos h3] at h;simp at h);(rename_i h3);rw[if_neg h3] at h;split;(·rename_i h4;rw[if_pos h4] at h;simp at h);exact ⟨hp,hl⟩
 have h2:dgI (bt s i)=false:=by simpa using h2
 by_cases h3:bt s i=45
 ·rw[zcd h3] at h ⊢
  split;(·rename_i h4;simp only;omega);rename_i h4;rw[if_neg h4] at h;simp at h
 rw[zda h1 h2 h3] at h ⊢;split;(·simp only;omega);rename_i h4;rw[if_neg h4] at h;simp at h
end
structure WS where
 f:Nat
 i:Nat
 out:List Tok
def WS.ok (s:ByteArray) (RES:List Tok×Int×Int) (w:WS):Prop:=wdF s w.f w.i w.out=RES/\s.size-w.i<w.f/\w.i<=s.size/\w.out.length<=w.i
theorem WS.start (s:ByteArray):WS.ok s (wdA s) ⟨s.size+1,0,[]⟩:=⟨rfl,by simp,by simp,by simp⟩
section
variable {s:ByteArray} {RES:List Tok×Int×Int} {w:WS}
theorem WS.ok.stop (h:w.ok s RES) (hi:¬w.i<s.size):RES=(w.out++[zdi s],0,0):=by
 obtain ⟨h1,h2,_,_⟩:=h;obtain ⟨g,hg⟩:∃g,w.f=g+1:=⟨w.f-1,by omega⟩;rw[hg,wdF,if_neg hi] at h1;exact h1.symm
theorem WS.ok.blank (h:w.ok s RES) (hi:w.i<s.size) (hb:blI (bt s w.i)=true):WS.ok s RES ⟨w.f-1,w.i+1,w.out⟩:=by
 obtain ⟨h1,h2,h3,h4⟩:=h;obtain ⟨g,hg⟩:∃g,w.f=g+1:=⟨w.f-1,by omega⟩;rw[hg,wdF,if_pos hi,if_pos hb] at h1;exact ⟨by simp only[hg,Nat.add_sub_cancel];exact h1,by simp only;omega,by simp only;omega,by simp only;omega⟩
theorem WS.ok.rem (h:w.ok s RES) (hi:w.i<s.size) (hb:blI (bt s w.i)=false) (hc:bt s w.i=35) {n:Nat} (hn:zax s w.i (fun c=>c != 10)=n):WS.ok s RES ⟨w.f-1,w.i+n,w.out⟩:=by
 obtain ⟨h1,h2,h3,h4⟩:=h;obtain ⟨g,hg⟩:∃g,w.f=g+1:=⟨w.f-1,by omega⟩;rw[hg,wdF,if_pos hi,if_neg (by simp[hb]),if_pos hc,hn] at h1;have hp:0<zax s w.i (fun c=>c != 10):=zaK (p:=fun c=>c != 10) hi (by rw[hc];decide);have hl:w.i+zax s w.i (fun c=>c != 10)<=s.size:=zaN s w.i (fun c=>c != 10) tz1;rw[hn] at hp hl;exact ⟨by simp only[hg,Nat.add_sub_cancel];exact h1,by simp only;omega,by simp only;omega,by simp only;omega⟩
theorem WS.ok.bad (h:w.ok s RES) (hi:w.i<s.size) (hb:blI (bt s w.i)=false) (hc:¬bt s w.i=35) {k:Int} {m:Nat} {e:Int} (hx:nxF s w.i=(k,m,e)) (he:¬e=0):RES=([],(w.i:Int),e):=by
 obtain ⟨h1,h2,_,_⟩:=h;obtain ⟨g,hg⟩:∃g,w.f=g+1:=⟨w.f-1,by omega⟩;rw[hg,wdF,if_pos hi,if_neg (by simp[hb]),if_neg hc,hx,if_neg he] at h1;exact h1.symm
theorem WS.ok.tok (h:w.ok s RES) (hi:w.i<s.size) (hb:blI (bt s w.i)=false) (hc:¬bt s w.i=35) {k:Int} {n:Nat} (hx:nxF s w.i=(k,n,0)) :
  WS.ok s RES ⟨w.f-1,w.i+n,w.out++[⟨k,s.extract w.i (w.i+n),w.i,((w.i+n:Nat):Int)⟩]⟩/\0<n/\w.i+n<=s.size:=by
 obtain ⟨h1,h2,h3,h4⟩:=h;obtain ⟨g,hg⟩:∃g,w.f=g+1:=⟨w.f-1,by omega⟩;have hl:=zeA hi (by rw[hx]);rw[hg,wdF,if_pos hi,if_neg (by simp[hb]),if_neg hc,if_pos (by rw[hx])] at h1;unfold tkOf at h1;rw[hx] at h1 hl;dsimp only at h1 hl;exact ⟨⟨by simp only[hg,Nat.add_sub_cancel];exact h1,by simp only;omega,by simp only;omega,by simp only[za,List.length_cons,List.length_nil];omega⟩,hl⟩
end
inductive Ty.Gd:Ty->Prop where
 | int:Ty.Gd (.mk 2 0 [])
 | bool:Ty.Gd (.mk 3 0 [])
 | fn {a b:Ty} (ha:a.Gd) (hb:b.Gd):Ty.Gd (.mk 4 0 [a,b])
 | tup {ps:List Ty} (h2:2<=ps.length) (h8:ps.length<=8) (h:∀p∈ps,p.Gd):Ty.Gd (.mk 5 0 ps)
abbrev Vw:=Int×ByteArray
def vw (t:Tok):Vw:=(t.k,t.s)
def brT (b:Bool) (l:List Vw):List Vw:=if b then (4,bOpen)::(l++[(4,zas)]) else l
def flT (l:List (List Vw)):List Vw:=l.flatMap fun y=>(4,zbm)::y
def joinT:List (List Vw)->List Vw
 | []=>[]
 | x::l=>x++flT l
mutual
/-- a type's tokens -/
def Ty.tk:Ty->List Vw
 | .mk k n ps =>
  if k=2 then [(3,zem)] else if k=3 then [(3,zbn)]
  else if k=4 then (match Ty.tkP ps with
   | (ka,a)::(_,b)::_=>brT (ka==4) a++(4,zbD)::b
   | _=>[])
  else (4,bOpen)::(joinT ((Ty.tkP ps).map fun p=>brT (p.1==4) p.2)++[(4,zas)])
def Ty.tkP:List Ty->List (Int×List Vw)
 | []=>[]
 | p::ps=>(p.k,Ty.tk p)::Ty.tkP ps
end
end Go.Proofs.YtkokfdmggdhfmaaGreatDoor
namespace Go.Proofs.YtkokfdmggdhfmaaGreatDoor
open Go Go.RowKit
inductive Tm where
 | mk (k:Int) (s:ByteArray) (n:Int) (t:Ty) (ps:List Tm) (a b:Int)
def Tm.k:Tm->Int | .mk k _ _ _ _ _ _=>k
def Tm.s:Tm->ByteArray | .mk _ s _ _ _ _ _=>s
def Tm.n:Tm->Int | .mk _ _ n _ _ _ _=>n
def Tm.t:Tm->Ty | .mk _ _ _ t _ _ _=>t
def Tm.ps:Tm->List Tm | .mk _ _ _ _ ps _ _=>ps
def Tm.a:Tm->Int | .mk _ _ _ _ _ a _=>a
def Tm.b:Tm->Int | .mk _ _ _ _ _ _ b=>b
mutual
def Tm.cells:Tm->List AV
 | .mk k s n t ps a b=>[.v (.int .i64 k),.v (.string s),.v (.int .i64 n),.v (.int .i64 t.k),.v (.int .i64 t.n),.sl 3 (t.ps.map Ty.cells),.sl 9 (Tm.cellsL ps),.v (.int .i64 a),.v (.int .i64 b)]
def Tm.cellsL:List Tm->List (List AV)
 | []=>[]
 | t::ts=>t.cells::Tm.cellsL ts
end
theorem Tm.cellsL_eq:∀ps,Tm.cellsL ps=ps.map Tm.cells
 | []=>by simp[Tm.cellsL]
 | t::ts=>by simp[Tm.cellsL,Tm.cellsL_eq ts]
theorem Tm.cells_mk (k:Int) (s:ByteArray) (n:Int) (t:Ty) (ps:List Tm) (a b:Int):(Tm.mk k s n t ps a b).cells=[.v (.int .i64 k),.v (.string s),.v (.int .i64 n),.v (.int .i64 t.k),.v (.int .i64 t.n),.sl 3 (t.ps.map Ty.cells),.sl 9 (ps.map Tm.cells),.v (.int .i64 a),.v (.int .i64 b)]:=by
 rw[Tm.cells,Tm.cellsL_eq]
theorem Tm.cells_eq (x:Tm):x.cells=[.v (.int .i64 x.k),.v (.string x.s),.v (.int .i64 x.n),.v (.int .i64 x.t.k),.v (.int .i64 x.t.n),.sl 3 (x.t.ps.map Ty.cells),.sl 9 (x.ps.map Tm.cells),.v (.int .i64 x.a),.v (.int .i64 x.b)]:=by
 cases x;exact Tm.cells_mk _ _ _ _ _ _ _
mutual
theorem Tm.data:∀t:Tm,DataL t.cells
 | .mk k s n t ps a b=>by
  rw[Tm.cells];exact .cons (.v _) (.cons (.v _) (.cons (.v _) (.cons (.v _) (.cons (.v _) (.cons (Ty.dataSl _) (.cons (.sl (Tm.dataL ps)) (.cons (.v _) (.cons (.v _) .nil))))))))
theorem Tm.dataL:∀ps:List Tm,∀x∈Tm.cellsL ps,DataL x
 | []=>fun x h=>by simp[Tm.cellsL] at h
 | t::ts=>fun x h=>by
  rw[Tm.cellsL] at h;(rcases List.mem_cons.1 h with rfl | h);(·exact Tm.data t);exact Tm.dataL ts x h
end
theorem Tm.dataAgg (t:Tm):Data (.agg t.cells):=.agg t.data
theorem Tm.dataMap (ps:List Tm):∀x∈ps.map Tm.cells,DataL x:=by rw[<- Tm.cellsL_eq];exact Tm.dataL ps
theorem Tm.dataSl (ps:List Tm):Data (.sl 9 (ps.map Tm.cells)):=.sl (Tm.dataMap ps)
theorem Tm.cells_len (t:Tm):t.cells.length=9:=by rw[t.cells_eq];rfl
theorem Und.tms {n:Nat} {ps:List Tm}:Und n (.sl 9 (ps.map Tm.cells)):=.data (Tm.dataSl ps)
theorem Tm.ind {P:Tm->Prop} (h:∀t:Tm,(∀p∈t.ps,P p)->P t):∀t,P t:=by
 have key:∀(n:Nat) (t:Tm),SizeOf.sizeOf t<=n->P t:=by
  intro n
  induction n with
  | zero=>intro t ht;cases t;simp at ht
  | succ n ih =>
   intro t ht;refine h t fun p hp=>ih p ?_
   cases t with
   | mk k s n' t ps a b =>
    have h1:SizeOf.sizeOf p<SizeOf.sizeOf ps:=List.sizeOf_lt_of_mem hp;simp only[Tm.mk.sizeOf_spec] at ht;omega
 exact fun t=>key _ t (zh _)
def zTm:Tm:=.mk 0 ByteArray.empty 0 (.mk 0 0 []) [] 0 0
theorem zbg:Le (.agg [.v (.int .i64 0),.v (.string ⟨#[]⟩),.v (.int .i64 0),.v (.int .i64 0),.v (.int .i64 0),.v (.slice none 0 0),.v (.slice none 0 0),.v (.int .i64 0),.v (.int .i64 0)]) (.agg zTm.cells):=by
 unfold zTm;rw[Tm.cells_mk];exact Le.agg ⟨.refl _,.refl _,.refl _,.refl _,.refl _,Le.slNil 3,Le.slNil 9,.refl _,.refl _,trivial⟩
end Go.Proofs.YtkokfdmggdhfmaaGreatDoor
namespace Go.Proofs.YtkokfdmggdhfmaaGreatDoor
open Go Go.RowKit
set_option maxRecDepth 100000
set_option maxHeartbeats 4000000
set_option linter.unnecessarySimpa false
attribute [local irreducible] aops zX
theorem run_pure (s:ByteArray) (a g:Nat) (p:Int->Bool) (hg:∀c:Int,APure Tryz.prog g [.v (.int .u8 c)] (.v (.bool (p c)))) (ha:a<=s.size) (hs:s.size<=1099511627776):APure Tryz.prog 154 [.v (.string s),.v (.int .i64 a),.clo g []] (.v (.int .i64 (zax s a p))):=by
  refine APure.mkL (.cons (.v _) (.cons (.v _) (.cons .clo0 .nil))) (.v _) ?_;refine aIn Tryz.func154 fun hm=>?_;simp only[Tryz.ntmps154,Tryz.results154,go_sem,seval];(iterate 2 (refine zu fun _ u=>?_;apply zA;simp only[↓bO,go_sem,seval];apply u));refine zu fun _ u=>?_;apply zF;refine zV (σ:=Nat) (mB 26 135) (fun n=>a+n<=s.size/\∀i,i<n->p ((s[a+i]?).getD 0).toNat=true) (fun n=>[(7,.v (.int .i64 (n:Int)))]) (fun n=>[]) (fun n=>s.size-(a+n)) 0 (⟨by omega,fun i hi=>by omega⟩) ?_ (fun n hn=>?_)
  ·
   (try simp only[go_sem,seval]);exact zaH
  simp only[go_sem,seval];(have hw1:IntKind.i64.wrap ((a:Int)+(n:Int))=((a+n:Nat):Int):=by rw[zI tz1 tz1];omega);(have hw2:IntKind.i64.wrap ((n:Int)+1)=((n+1:Nat):Int):=by rw[zI tz1 tz1];omega);refine zu fun _ w=>?_;refine sqR fun _ z=>?_;(iterate 7 (refine chS 1 ?_ (by intro _ q;simp only[↓bO,go_sem,seval,hw1,hw2];exact q)));refine zC 14 rfl (fun hc14=>?_) (fun hc14=>?_)
  ·
   simp only[go_sem];(have hlt:a+n<s.size:=by simpa using hc14);(iterate 6 (refine chS 1 ?_ (by intro _ q;simp only[↓bO,go_sem,seval,hw1,hw2,hlt];exact q)));refine zq 1 fun _ y=>?_;simp only[↓bO,go_sem,seval,hw1,hw2,hlt];refine APure.call (hg _) ?_;apply y;clear y;simp only[↓bO,go_sem,seval,hw1,hw2,hlt];apply z;apply zt rfl <;> intro hb22
   ·
    apply zy;apply w;apply zF;apply zA;(iterate 2 (refine chS 1 ?_ (by intro _ q;simp only[↓bO,go_sem,seval,hw1,hw2,hlt];exact q)));simp only[↓bO,go_sem,seval,hw1,hw2,hlt];refine ⟨(n+1),⟨by omega,fun i hi=>(by rcases Nat.lt_or_ge i n with h3 | h3 <;> first | exact hn.2 i h3 | (obtain rfl:i=n:=tz1;exact hb22))⟩,by omega,?_⟩;(try simp only[go_sem,seval,hw1,hw2,hlt]);exact zaH
   apply zO;simp only[zD,zB,zz,bA,Nat.reduceEqDiff,↓reduceIte];apply u;refine sqR fun _ u=>?_;refine chS 1 ?_ (by intro _ q;simp only[↓bO,go_sem,seval,hlt];exact q);simp only[↓bO,go_sem,seval,hlt];apply u;apply zw;(try simp only[go_sem]);refine Le.of_eq (congrArg (fun n:Nat=>AV.v (.int .i64 n)) ?_);exact (zbz hn.1 hn.2 fun _=>hb22).symm
  simp only[go_sem];(have hge:¬a+n<s.size:=by simpa using hc14);(iterate 7 (refine chS 1 ?_));simp only[↓bO,go_sem,seval];apply z;refine zt (b:=false) (by first | exact rfl | exact congrArg (fun b=>AV.v (.bool b)) hb22) (fun h=>(by cases h)) (fun _=>?_);apply zO;simp only[zD,zB,zz,bA,Nat.reduceEqDiff,↓reduceIte];apply u;refine sqR fun _ u=>?_;refine chS 1 ?_;simp only[↓bO,go_sem,seval];apply u;apply zw;(try simp only[go_sem]);refine Le.of_eq (congrArg (fun n:Nat=>AV.v (.int .i64 n)) ?_);exact (zbz hn.1 hn.2 fun h=>absurd h hge).symm
theorem IdxS_pure (l:List ByteArray) (v:ByteArray) (hl:l.length<=1099511627776):APure Tryz.prog 211 [.sl 1 (l.map zR),.v (.string v)] (.v (.int .i64 (idxI (fun x=>eqS v x) l))):=by
  refine APure.mkL (.cons (zdU _) (.cons (.v _) .nil)) (.v _) ?_;refine aIn Tryz.func211 fun hm=>?_;simp only[Tryz.ntmps211,Tryz.results211,go_sem,seval];refine sqD ?_;refine zu fun _ y=>?_;refine sqR fun _ u=>?_;(iterate 2 (refine chS 1 ?_));simp only[↓bO,go_sem,seval];apply u;apply zF;refine zV (σ:=Nat) (mB 19 387) (fun s=>s<=l.length/\∀(i:Nat) (p:ByteArray),i<s->l[i]?=some p->eqS v p=false) (fun s=>[(8,.v (.int .i64 (s:Int)))]) (fun s=>[]) (fun s=>l.length-s) 0 (⟨by omega,fun i p hi=>by omega⟩) ?_ (fun s hs=>?_)
  ·
   simp only[go_sem,seval];exact zaH
  simp only[go_sem,seval];refine sqD ?_;refine zu fun _ u=>?_;apply zt rfl <;> intro hb9
  ·
   (have hk:s<l.length:=by simpa using hb9);obtain ⟨p,hp⟩:∃p,l[s]?=some p:=⟨_,zc hk⟩;have hw:IntKind.i64.wrap ((s:Int)+1)=(s:Int)+1:=zI tz1 tz1;apply zy;apply u;refine zu fun _ u=>?_;apply zF;refine sqR fun _ w=>?_;refine chS 1 ?_ (by intro _ q;simp only[↓bO,go_sem,seval,hk,gM hp,Int.natCast_add,hw,zR];exact q);simp only[↓bO,go_sem,seval,hk,gM hp,Int.natCast_add,hw,zR];apply w;refine sqR fun _ w=>?_;(iterate 5 (refine chS 1 ?_ (by intro _ q;simp only[↓bO,go_sem,seval,hk,gM hp,Int.natCast_add,hw,zR];exact q)));simp only[↓bO,go_sem,seval,hk,gM hp,Int.natCast_add,hw,zR];apply w;apply zt rfl <;> intro hb16
   ·
    refine sqR fun _ w=>?_;refine chS 1 ?_ (by intro _ q;simp only[↓bO,go_sem,seval,hk,gM hp,Int.natCast_add,hw,zR];exact q);simp only[↓bO,go_sem,seval,hk,gM hp,Int.natCast_add,hw,zR];apply w;apply zw;(try simp only[go_sem]);refine Le.of_eq (congrArg (fun n=>AV.v (.int .i64 n)) ?_);first | (rw[zez hp (by exact hb16) hs.2];done) | (rw[zey (fun i p hi h1=>hs.2 i p tz1 h1)];done)
   apply zy;apply u;apply zA;refine chS 1 ?_ (by intro _ q;simp only[↓bO,go_sem,seval,hk,gM hp,Int.natCast_add,hw,zR];exact q);simp only[↓bO,go_sem,seval,hk,gM hp,Int.natCast_add,hw,zR];refine ⟨(s+1),⟨by omega,fun i p' hi h1=>(by rcases Nat.lt_or_ge i s with h3 | h3 <;> first | exact hs.2 i p' h3 h1 | (obtain rfl:i=s:=tz1;rw[hp] at h1;cases h1;exact hb16))⟩,by omega,?_⟩;simp only[go_sem,seval,hk,gM hp,Int.natCast_add,Int.natCast_one,hw,zR];exact zaH
  (have hk:s=l.length:=by have:=hs.1;simp at hb9;omega);apply zO;simp only[zD,zB,zz,bA,Nat.reduceEqDiff,↓reduceIte];apply y;refine sqD ?_;apply zw;(try simp only[go_sem]);refine Le.of_eq (congrArg (fun n=>AV.v (.int .i64 n)) ?_);first | (rw[zez hp (by exact hb16) hs.2];done) | (rw[zey (fun i p hi h1=>hs.2 i p tz1 h1)];done)
theorem zgw (l:List ByteArray) (v:ByteArray) (hl:l.length<=1099511627776):APure Tryz.prog 190 [.sl 1 (l.map zR),.v (.string v)] (.v (.bool (l.any fun x=>eqS v x))):=by
 refine APure.mkL (.cons (zdU _) (.cons (.v _) .nil)) (.v _) ?_;refine aIn Tryz.func190 fun hm=>?_;simp only[Tryz.ntmps190,Tryz.results190,go_sem,seval];refine sqR fun _ u=>?_;simp only[↓bO,go_sem,seval,zdl];apply u;refine sqR fun _ u=>?_;(iterate 2 (refine chS 1 ?_ (by intro _ q;simp only[↓bO,go_sem,seval,zdl];exact q)));refine zq 1 fun _ y=>?_;simp only[↓bO,go_sem,seval,zdl];refine APure.call (IdxS_pure l v hl) ?_;apply y;clear y;refine chS 1 ?_ (by intro _ q;simp only[↓bO,go_sem,seval,zdl];exact q);simp only[↓bO,go_sem,seval,zdl];apply u;apply zw;exact Le.refl _
theorem zev (s:ByteArray):APure Tryz.prog 158 [.v (.string s)] (.v (.bool (kwB s))):=by
 refine APure.mkL (.cons (.v _) .nil) (.v _) ?_;refine aIn Tryz.func158 fun hm=>?_;simp only[Tryz.ntmps158,Tryz.results158,go_sem,seval];refine sqD ?_;refine sqR fun _ y=>?_;refine zq 1 fun _ q=>?_;simp only[↓bO,go_sem,seval];refine APure.call (zff) ?_;(iterate 2 (apply q;clear q;refine zq 1 fun _ q=>?_;simp only[↓bO,go_sem,seval]));refine APure.call (zgw kwL s (of_decide_eq_true tz0)) ?_;apply q;clear q;simp only[↓bO,go_sem,seval];apply y;apply zw;exact Le.refl _
theorem ze0 {l:List Tok} {i k:Int} {s:ByteArray} {t:Tok} (h0:0<=i) (ht:l[i.toNat]?=some t) (h:¬t.k=k):isT l i k s=false:=by
 rw[isT_at h0 ht];simp[h]
theorem zcD {l:List Tok} {i k:Int} {s:ByteArray} {t:Tok} (h0:0<=i) (ht:l[i.toNat]?=some t) (h:t.k=k):isT l i k s=eqS t.s s:=by
 rw[isT_at h0 ht,eqS_dec];simp[h]
theorem zby (l:List Tok) (i k:Int) (s:ByteArray):APure Tryz.prog 169 [.sl 4 (l.map Tok.cells),.v (.int .i64 i),.v (.int .i64 k),.v (.string s)] (.v (.bool (isT l i k s))):=by
  refine APure.mkL (.cons (Tok.dataSl l) (.cons (.v _) (.cons (.v _) (.cons (.v _) .nil)))) (.v _) ?_;refine aIn Tryz.func169 fun hm=>?_;simp only[Tryz.ntmps169,Tryz.results169,go_sem,seval];refine sqR fun _ y=>?_;simp only[↓bO,go_sem,seval,Tok.cells];apply y;refine sqR fun _ y=>?_;(iterate 3 (refine chS 1 ?_ (by intro _ q;simp only[↓bO,go_sem,seval,Tok.cells];exact q)));refine zC 11 rfl (fun hc11=>?_) (fun hc11=>?_)
  ·
   simp only[go_sem];(have h0:0<=i:=by simpa using hc11);(iterate 6 (refine chS 1 ?_ (by intro _ q;simp only[↓bO,go_sem,seval,Tok.cells,h0];exact q)));refine zC 17 rfl (fun hc17=>?_) (fun hc17=>?_)
   ·
    simp only[go_sem];(have h1:i<(l.length:Int):=by simpa using hc17);obtain ⟨n,rfl⟩:∃n:Nat,i=(n:Int):=⟨i.toNat,by omega⟩;(have hn:n<l.length:=by omega);obtain ⟨t,ht⟩:∃t,l[n]?=some t:=⟨_,zc hn⟩;(iterate 9 (refine chS 1 ?_ (by intro _ q;simp only[↓bO,go_sem,seval,Tok.cells,h0,hn,gM ht];exact q)));refine zC 26 rfl (fun hc26=>?_) (fun hc26=>?_)
    ·
     simp only[go_sem];(have h2:t.k=k:=by simpa using hc26);(iterate 8 (refine chS 1 ?_ (by intro _ q;simp only[↓bO,go_sem,seval,Tok.cells,h0,hn,gM ht];exact q)));simp only[↓bO,go_sem,seval,Tok.cells,h0,hn,gM ht];apply y;apply zw;(try simp only[go_sem]);refine Le.of_eq (congrArg (fun b=>AV.v (.bool b)) ?_);exact (zcD tz1 (by simpa using ht) h2).symm
    simp only[go_sem];(have h2:¬t.k=k:=by simpa using hc26);(iterate 8 (refine chS 1 ?_ (by intro _ q;simp only[↓bO,go_sem,seval,Tok.cells,h0,hn,gM ht];exact q)));simp only[↓bO,go_sem,seval,Tok.cells,h0,hn,gM ht];apply y;apply zw;(try simp only[go_sem]);refine Le.of_eq (congrArg (fun b=>AV.v (.bool b)) ?_);exact (ze0 tz1 (by simpa using ht) h2).symm
   simp only[go_sem];(have h1:¬i<(l.length:Int):=by simpa using hc17);(iterate 17 (refine chS 1 ?_ (by intro _ q;simp only[↓bO,go_sem,seval,Tok.cells,h0];exact q)));simp only[↓bO,go_sem,seval,Tok.cells,h0];apply y;apply zw;(try simp only[go_sem]);refine Le.of_eq (congrArg (fun b=>AV.v (.bool b)) ?_);exact (zcx fun h=>h1 h.2).symm
  simp only[go_sem];(have h0:¬0<=i:=by simpa using hc11);(iterate 23 (refine chS 1 ?_ (by intro _ q;simp only[↓bO,go_sem,seval,Tok.cells];exact q)));simp only[↓bO,go_sem,seval,Tok.cells];apply y;apply zw;(try simp only[go_sem]);refine Le.of_eq (congrArg (fun b=>AV.v (.bool b)) ?_);exact (zcx fun h=>h0 h.1).symm
end Go.Proofs.YtkokfdmggdhfmaaGreatDoor
