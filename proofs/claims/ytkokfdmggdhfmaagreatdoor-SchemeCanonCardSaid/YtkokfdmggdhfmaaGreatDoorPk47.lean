/- packed, part 47 of 47. Conditions: none. -/
import Derived.Test.YtkokfdmggdhfmaaGreatDoorPk46
import Derived.Shelf.LaysM
import Derived.Shelf.LaysC
import Derived.Shelf.Strings.Cut
import Derived.Shelf.Strings.Prefix
import Derived.Shelf.Strings.FieldsAny
import Derived.Test.YtkokfdmggdhfmaaGreatDoorProg
import Derived.Lib.FrozenHead
import Derived.WalkSmall
import Derived.Handed
import Derived.HandedShaped
import Derived.Test.YtkokfdmggdhfmaaGreatDoorCards
import Derived.Test.YtkokfdmggdhfmaaGreatDoorTie
import Derived.LaidSub
import Derived.Lib.LaidTab
import Derived.Stop.LaidErr
import Derived.OpenShut
import Derived.ChangeOld
import Derived.Below
import Derived.Lib.LaidU8
import Derived.Shelf.Vars
import Derived.LaidMore
import Derived.Lay
import Derived.SevenTiedAt
set_option linter.unusedVariables false
set_option linter.unusedSimpArgs false
set_option linter.unnecessarySimpa false
set_option maxRecDepth 100000
set_option maxHeartbeats 4000000
namespace Go.Proofs.YtkokfdmggdhfmaaGreatDoor
open Go Go.RowKit
def bSp:ByteArray:=⟨#[32]⟩
def bDs:ByteArray:=⟨#[46,32]⟩
def jnB:List Int->ByteArray
 | []=>ByteArray.empty
 | [v]=>nmB v
 | v::l=>nmB v++(bSp++jnB l)
theorem zgX (v w:Int) (l:List Int):jnB (v::w::l)=nmB v++(bSp++jnB (w::l)):=rfl
def Sch.txt (s:Sch):ByteArray:=if s.vs=[] then s.t.tx else jnB s.vs++(bDs++s.t.tx)
theorem bl_bSp:bl bSp=[32]:=rfl
theorem bl_bDs:bl bDs=[46,32]:=rfl
def nmL (l:List Int):List UInt8:=l.flatMap fun v=>bl (nmB v)++[32]
theorem jn_bl:∀l:List Int,l≠[]->bl (jnB l)++[32]=nmL l
 | [],h=>absurd rfl h
 | [v],_=>by simp[jnB,nmL]
 | v::w::l,_=>by
  have ih:=jn_bl (w::l) tz4;rw[zgX,zaq,zaq,bl_bSp,List.append_assoc,List.append_assoc,ih];simp[nmL]
theorem cat_bl (l:List Int):bl (zhw nmB l)=nmL l:=by
 have key:∀(l:List Int) (b:ByteArray),bl (l.foldl (fun b v=>b++(nmB v++⟨#[32]⟩)) b)=bl b++nmL l:=by
  intro l
  induction l with
  | nil=>intro b;simp[nmL]
  | cons v l ih =>
   intro b;rw[List.foldl_cons,ih,zaq,zaq];(show bl b++(bl (nmB v)++[32])++nmL l=_);simp[nmL]
 unfold zhw;rw[key];rfl
theorem trim_jn {l:List Int} (h:l≠[]):(⟨(Lib.trimSuffix (bl (zhw nmB l)) (bl (⟨#[32]⟩:ByteArray))).toArray⟩:ByteArray)=jnB l:=by
 apply zcF;(show Lib.trimSuffix (bl (zhw nmB l)) [32]=_);rw[cat_bl,<- jn_bl l h]
 have e:Lib.hasSuffix (bl (jnB l)++[32]) [32]=true:=by
  unfold Lib.hasSuffix;rw[List.isSuffixOf_iff_suffix];exact ⟨_,rfl⟩
 unfold Lib.trimSuffix;rw[if_pos e];simp
def zdb (l:List Int):Nat->ByteArray
 | 0=>ByteArray.empty
 | k+1=>match l[k]? with
  | some v=>(if 0<k then zdb l k++bSp else zdb l k)++nmB v
  | none=>zdb l k
theorem zfs {l:List Int} {k:Nat} {v:Int} (h:l[k]?=some v):zdb l (k+1)=(if 0<k then zdb l k++bSp else zdb l k)++nmB v:=by rw[zdb,h]
theorem accN_bl (l:List Int):∀k,k<l.length->bl (zdb l (k+1))++[32]=nmL (l.take (k+1))
 | 0,h=>by
  obtain ⟨v,hv⟩:∃v,l[0]?=some v:=⟨_,zb h⟩;rw[zfs hv,if_neg tz1,List.take_add_one,hv,zaq]
  simp[zdb,nmL,ziB]
 | k+1,h=>by
  obtain ⟨v,hv⟩:∃v,l[k+1]?=some v:=⟨_,zb h⟩;have ih:=accN_bl l k tz1;rw[zfs hv,if_pos tz1,zaq,zaq,bl_bSp,ih,List.take_add_one (i:=k+1),hv];simp[nmL]
theorem accN_all {l:List Int} (h:l≠[]):zdb l l.length=jnB l:=by
 have h0:0<l.length:=List.length_pos_iff.2 h;have h1:=accN_bl l (l.length-1) tz1;rw[show l.length-1+1=l.length by omega,zp,<- jn_bl l h] at h1;exact zcF (List.append_cancel_right h1)
theorem jn_size {l:List Int} (h:∀v∈l,0<=v/\v<1073741824):(jnB l).size<=24 * l.length:=by
 induction l with
 | nil=>simp[jnB]
 | cons v l ih =>
  have h1:=zcZ (h v tz4).1 (h v tz4).2;have h2:=ih fun x hx=>h x (by simp[hx])
  cases l with
  | nil=>simp only[jnB,zJ,zz];omega
  | cons w l =>
   rw[zgX,ByteArray.size_append,ByteArray.size_append];have:bSp.size=1:=rfl;simp only[zJ] at h2 ⊢;omega
theorem zhB {l:List Int} (h:∀v∈l,0<=v/\v<1073741824):∀k,(zdb l k).size<=24 * k
 | 0=>by simp[zdb]
 | k+1=>by
  have ih:=zhB h k;rw[zdb];split
  ·rename_i v hv
   have h1:=h v (zg hv);have h2:=zcZ h1.1 h1.2;rw[ByteArray.size_append];split
   ·rw[ByteArray.size_append]
    have:bSp.size=1:=rfl;omega
   omega
  omega
theorem ze3 {v:Int} (h0:0<=v) (h1:v<1073741824):(∀c∈bl (nmB v),zeb c.toNat=true)/\(bl (nmB v)).head?=some 39/\nuR (nmB v)=v:=by
 (have e:((v.toNat:Nat):Int)=v:=by omega);have a:=zkB (n:=v.toNat) tz1;have b:=nm_head v.toNat tz1;have c:=nuR_nm (n:=v.toNat) tz1;rw[e] at a b c;exact ⟨a,b,c⟩
def TxIn (c:UInt8):Prop:=zeb c.toNat=true\/c=40\/c=41\/c=32\/c=45\/c=62\/c=42
theorem tx_bytes:∀T:Ty,T.right=true->(∀c∈bl T.tx,TxIn c)/\∀c∈bl T.btx,TxIn c:=by
 refine Ty.ind fun T ih=>?_;intro hr;have hok:=zcu hr;have hp:=right_part hr
 have br:(∀c∈bl T.tx,TxIn c)->(∀c∈bl T.tx,TxIn c)/\∀c∈bl T.btx,TxIn c:=fun h=>by
  refine ⟨h,fun c hc=>?_⟩;unfold Ty.btx brB at hc;split at hc
  ·rw[zaq,zaq] at hc
   rcases List.mem_append.1 hc with hc | hc
   ·rcases List.mem_append.1 hc with hc | hc
    ·obtain rfl:c=40:=by simpa [bl,bLp] using hc
     exact .inr (.inl rfl)
    exact h c hc
   (obtain rfl:c=41:=by simpa [bl,bRp] using hc);exact .inr (.inr (.inl rfl))
  exact h c hc
 refine br ?_
 by_cases h1:T.k=1
 ·have hv:=right_var hr h1
  (have e0:T.tx=nmB T.n:=by rw[T.tx_eq,if_pos h1]);rw[e0];exact fun c hc=>.inl ((ze3 hv.1 hv.2).1 c hc)
 by_cases h2:T.k=2
 ·have e0:T.tx=zkw:=by rw[T.tx_eq,if_neg h1,if_pos h2];rfl
  rw[e0];exact fun c hc=>.inl (int_in c hc)
 by_cases h3:T.k=3
 ·have e0:T.tx=zdy:=by rw[T.tx_eq,if_neg h1,if_neg h2,if_pos h3];rfl
  rw[e0];exact fun c hc=>.inl (bool_in c hc)
 by_cases h4:T.k=4
 ·obtain ⟨a,b,hps⟩:=zck hr h4
  have ha:=ih a (by rw[hps];simp) (hp a (by rw[hps];simp));have hb:=ih b (by rw[hps];simp) (hp b (by rw[hps];simp));(have e2:T=.mk 4 0 [a,b]:=by rw[zgu T,h4,show T.n=0 by omega,hps]);(have e0:T.tx=a.btx++bAr++b.tx:=by rw[e2];rfl);rw[e0,zaq,zaq];intro c hc;rcases List.mem_append.1 hc with hc | hc
  ·rcases List.mem_append.1 hc with hc | hc
   (·exact ha.2 c hc);(have hc:c=32\/c=45\/c=62\/c=32:=by simpa [bl,bAr] using hc);unfold TxIn;rcases hc with h | h | h | h <;> simp[h]
  exact hb.1 c hc
 have e0:T.tx=bLp++zbV (T.ps.map Ty.btx) bSt++bRp:=by rw[T.tx_eq,if_neg h1,if_neg h2,if_neg h3,if_neg h4]
 have hj:∀ps:List Ty,(∀p∈ps,∀c∈bl p.btx,TxIn c)->∀c∈bl (jt ps),TxIn c:=by
  intro ps
  induction ps with
  | nil=>intro _ c hc;cases hc
  | cons p ps ihp =>
   intro h c hc;rw[jt,zaq,zaq] at hc;rcases List.mem_append.1 hc with hc | hc
   ·have hc:c=32\/c=42\/c=32:=by simpa [bl,bSt] using hc
    unfold TxIn;rcases hc with h | h | h <;> simp[h]
   (rcases List.mem_append.1 hc with hc | hc);(·exact h p tz4 c hc);exact ihp (fun q hq=>h q (by simp[hq])) c hc
 rw[e0,zaq,zaq];intro c hc;rcases List.mem_append.1 hc with hc | hc
 ·rcases List.mem_append.1 hc with hc | hc
  ·obtain rfl:c=40:=by simpa [bl,bLp] using hc
   exact .inr (.inl rfl)
  cases hps:T.ps with
  | nil=>rw[hps,zz] at hok;omega
  | cons q qs =>
   rw[hps,zi5,zaq] at hc;(have hq:∀p∈q::qs,∀c∈bl p.btx,TxIn c:=fun p hpm=>by rw[<- hps] at hpm;exact (ih p hpm (hp p hpm)).2);(rcases List.mem_append.1 hc with hc | hc);(·exact hq q tz4 c hc);exact hj qs (fun p hp2=>hq p (by simp[hp2])) c hc
 (obtain rfl:c=41:=by simpa [bl,bRp] using hc);exact .inr (.inr (.inl rfl))
theorem txIn_dot {c:UInt8} (h:TxIn c):c≠46:=by
 rintro rfl;(rcases h with h | h | h | h | h | h | h);(·cases h);all_goals exact absurd h tz3
theorem zkA {l:List Int} (h:∀v∈l,0<=v/\v<1073741824):∀c∈bl (jnB l),zeb c.toNat=true\/c=32:=by
 intro c hc
 cases hl:l with
 | nil=>rw[hl] at hc;cases hc
 | cons v m =>
  (have h2:c∈nmL l:=by rw[<- jn_bl l (by rw[hl];simp)];exact List.mem_append_left _ hc);obtain ⟨v,hv,hcv⟩:=List.mem_flatMap.1 h2;(rcases List.mem_append.1 hcv with h3 | h3);(·exact .inl ((ze3 (h v hv).1 (h v hv).2).1 c h3));exact .inr (by simpa using h3)
theorem pwIn_dot {c:UInt8} (h:zeb c.toNat=true\/c=32):c≠46:=by
 rintro rfl;(rcases h with h | h);(·cases h);exact absurd h tz3
theorem pwIn_sp {c:UInt8} (h:zeb c.toNat=true):Lib.isSp c=false/\c.toNat<128:=by
 unfold zeb at h;rw[ze] at h;constructor
 ·unfold Lib.isSp
  (have e:∀d:UInt8,c.toNat≠d.toNat->(c==d)=false:=fun d hd=>by rw[beq_eq_false_iff_ne];rintro rfl;exact hd rfl);rw[e 9 (by show c.toNat≠9;omega),e 10 (by show c.toNat≠10;omega),e 11 (by show c.toNat≠11;omega),e 12 (by show c.toNat≠12;omega),e 13 (by show c.toNat≠13;omega),e 32 (by show c.toNat≠32;omega)];rfl
 omega
theorem zfk {x:List UInt8} (h:∀c∈x,Lib.isSp c=false):∀(cur r:List UInt8),Lib.fieldsGo cur (x++r)=Lib.fieldsGo (cur++x) r:=by
 induction x with
 | nil=>intro cur r;simp
 | cons c x ih =>
  intro cur r;rw[zC,Lib.fieldsGo_more _ _ _ (h c tz4),ih (fun y hy=>h y (by simp[hy]))];simp
theorem zis:∀l:List Int,(∀v∈l,0<=v/\v<1073741824)->Lib.fieldsGo [] (bl (jnB l))=l.map fun v=>bl (nmB v)
 | [],_=>rfl
 | v::l,h=>by
  have hk:=ze3 (h v tz4).1 (h v tz4).2;(have hs:∀c∈bl (nmB v),Lib.isSp c=false:=fun c hc=>(pwIn_sp (hk.1 c hc)).1);have hne:bl (nmB v)≠[]:=fun e=>by have:=hk.2.1;rw[e] at this;cases this
  cases l with
  | nil =>
   have:=zfk hs [] [];rw[List.append_nil] at this;(show Lib.fieldsGo [] (bl (nmB v))=_);rw[this];simp only[List.nil_append,Lib.fieldsGo]
   rw[if_neg (by simpa using hne)];rfl
  | cons w l =>
   (have ih:=zis (w::l) fun x hx=>h x (by simp[hx]));rw[zgX,zaq,zaq,bl_bSp,zfk hs,List.nil_append,List.singleton_append,Lib.fieldsGo_end _ _ _ tz3 hne,ih];rfl
def zcb (s:ByteArray):ByteArray×ByteArray:=if (Lib.cut (bl s) [46,32]).2.2=true then (⟨(Lib.cut (bl s) [46,32]).1.toArray⟩,⟨(Lib.cut (bl s) [46,32]).2.1.toArray⟩) else (ByteArray.empty,s)
def zh5 (s:ByteArray):List ByteArray:=(Lib.fieldsD (bl s)).map fun x=>⟨x.toArray⟩
def spVs (s:ByteArray):List Int:=(zh5 (zcb s).1).map zbS
def spS (s:ByteArray):Sch:=⟨spVs s,(zbJ (zcb s).2).1⟩
def Sch.ptxt (c:Sch):ByteArray:=if 0<c.vs.length then jnB c.vs++⟨#[46,32]⟩++c.t.ptx else c.t.ptx
theorem occ_no {l:List UInt8} (h:∀c∈l,c≠46) (i:Nat):Lib.occAt l [46,32] i=false:=by
 unfold Lib.occAt;rw[Bool.eq_false_iff];intro h9;rw[List.isPrefixOf_iff_prefix] at h9;have h1:(46:UInt8)∈l.drop i:=h9.subset tz4;exact h 46 (List.mem_of_mem_drop h1) rfl
theorem cut_none {l:List UInt8} (h:∀c∈l,c≠46):Lib.cut l [46,32]=(l,[],false):=by
 unfold Lib.cut;rw[Lib.index_none fun j _=>occ_no h j,if_neg tz3]
theorem cut_at {x r:List UInt8} (h:∀c∈x,c≠46):Lib.cut (x++([46,32]++r)) [46,32]=(x,r,true):=by
 have hi:Lib.index (x++([46,32]++r)) [46,32]=x.length:=by
  refine Lib.index_first tz4 ?_ fun j hj=>?_
  ·unfold Lib.occAt
   rw[List.drop_left',List.isPrefixOf_iff_prefix];(·exact ⟨r,rfl⟩);rfl
  unfold Lib.occAt;rw[List.drop_append_of_le_length tz1,Bool.eq_false_iff];intro h9;rw[List.isPrefixOf_iff_prefix] at h9;have hd:x.drop j=x[j]::x.drop (j+1):=List.drop_eq_getElem_cons hj;rw[hd,zC] at h9;obtain ⟨t,ht⟩:=h9;rw[zC] at ht;exact h _ (List.getElem_mem hj) (List.cons.inj ht).1.symm
 unfold Lib.cut;rw[hi,if_pos tz1];simp
theorem mkL (s:ByteArray):(⟨(bl s).toArray⟩:ByteArray)=s:=zcF rfl
section
variable {c:Sch}
theorem spCut_txt (h:c.ok=true):zcb c.txt=(jnB c.vs,c.t.tx):=by
 have hr:=(Sch.ok_iff.1 h).1;(have hv:∀v∈c.vs,0<=v/\v<1073741824:=fun v hm=>Sch.vs_known h hm);unfold zcb Sch.txt
 by_cases hn:c.vs=[]
 (·rw[if_pos hn,cut_none fun x hx=>txIn_dot ((tx_bytes c.t hr).1 x hx),if_neg tz4,hn];rfl);(have e:bl (jnB c.vs++(bDs++c.t.tx))=bl (jnB c.vs)++([46,32]++bl c.t.tx):=by rw[zaq,zaq,bl_bDs]);rw[if_neg hn,e,cut_at fun x hx=>pwIn_dot (zkA hv x hx),if_pos rfl,mkL,mkL]
theorem spVs_jn {l:List Int} (hv:∀v∈l,0<=v/\v<1073741824):(zh5 (jnB l)).map zbS=l:=by
 have ha:∀b∈bl (jnB l),b.toNat<128:=fun b hb=>by
  (rcases zkA hv b hb with h | rfl);(·exact (pwIn_sp h).2);decide
 unfold zh5;rw[Lib.fieldsD_ascii _ ha];unfold Lib.fields;rw[zis l hv,List.map_map,List.map_map]
 have:l.map ((zbS ∘ fun x:List UInt8=>(⟨x.toArray⟩:ByteArray)) ∘ fun v=>bl (nmB v))=l.map id:=List.map_congr_left fun v hm=>by
  simp only[Function.comp,mkL,id];unfold zbS;rw[(ze3 (hv v hm).1 (hv v hm).2).2.2,if_pos (hv v hm).1]
 rw[this,List.map_id]
theorem spS_txt (h:c.ok=true):spS c.txt=c/\(zbJ (zcb c.txt).2).2=0:=by
 have hr:=(Sch.ok_iff.1 h).1;(have hv:∀v∈c.vs,0<=v/\v<1073741824:=fun v hm=>Sch.vs_known h hm);have h1:=pw_tx hr;have g1:=zdz (s:=c.t.tx) (by rw[h1];exact ⟨rfl,rfl,zgJ hr⟩);have e:=spCut_txt h;constructor
 ·unfold spS spVs
  rw[e];(simp only);rw[spVs_jn hv,g1,h1]
 rw[e];(simp only);rw[g1]
theorem zdR (h:c.ok=true):c.ptxt=c.txt:=by
 have hr:=(Sch.ok_iff.1 h).1;unfold Sch.ptxt Sch.txt;rw[zgJ hr]
 by_cases hn:c.vs=[]
 (·rw[if_pos hn,hn,if_neg tz4]);rw[if_neg hn,if_pos (List.length_pos_iff.2 hn)];exact zcy _ _ _
end
abbrev ziM (s:ByteArray):Prop:=(zbJ (zcb s).2).2=0/\(z1 (spS s)).ptxt=s/\(z1 (spS s)).vs=(spS s).vs/\(z1 (spS s)).t.same (spS s).t=true
def dotF (s:ByteArray):Nat->Nat->Nat
 | 0,_=>0
 | f+1,i=>if i+1<s.size then (if bt s i=46/\bt s (i+1)=32 then i+2 else dotF s f (i+1)) else 0
def dotN (s:ByteArray):Nat:=dotF s s.size 0
section
variable {c:Sch}
end
theorem same_eq {a b:Sch} (h1:a.vs=b.vs) (h2:a.t.same b.t=true):a=b:=by
 have h3:=(Ty.same_iff _ _).1 h2;(cases a;cases b);(simp only at h1 h3);rw[h1,h3]
theorem zk6 (s:ByteArray):ziM s↔∃c:Sch,c.ok=true/\z1 c=c/\c.txt=s:=by
 constructor
 ·rintro ⟨h1,h2,h3,h4⟩
  have he:=same_eq h3 h4
  have hr:(spS s).t.right=true:=by
   have g:=h1;unfold spS;simp only
   by_cases hy:(pwF ((zcb s).2.size+1) (zcb s).2).2.2=false/\(pwF ((zcb s).2.size+1) (zcb s).2).2.1=ByteArray.empty/\(pwF ((zcb s).2.size+1) (zcb s).2).1.ptx=(zcb s).2
   ·rw[zdz hy]
    simp only
    cases hrr:(pwF ((zcb s).2.size+1) (zcb s).2).1.right with
    | true=>rfl
    | false =>
     exfalso;obtain ⟨a1,a2,a3⟩:=hy;rw[ptx_no hrr] at a3;rw[<- a3] at a1
     revert a1
     decide +kernel
   rw[zc2 hy] at g;cases g
  have hok:(spS s).ok=true:=by
   cases hb:(spS s).ok with
   | true=>rfl
   | false =>
    exfalso;(have:z1 (spS s)=zSch:=by unfold z1;rw[if_neg (by simp[hb])]);rw[this] at he;rw[<- he] at hr
    revert hr;decide
  rw[he] at h2;exact ⟨spS s,hok,he,(zdR hok).symm.trans h2⟩
 rintro ⟨c,h1,h2,rfl⟩;obtain ⟨g1,g2⟩:=spS_txt h1;refine ⟨g2,?_,?_,?_⟩;(·rw[g1,h2,zdR h1]);(·rw[g1,h2]);rw[g1,h2];exact Ty.same_refl _
end Go.Proofs.YtkokfdmggdhfmaaGreatDoor
namespace Go.Proofs.YtkokfdmggdhfmaaGreatDoor
open Go Go.Shelf
def Tryz.lays102_ren:Go.Shelf.Ren:=⟨fun | 102=>54 | 209=>101 | 207=>145 | n=>n,fun | 9=>9 | 4=>4 | 3=>3 | n=>n,fun | n=>n⟩
theorem Tryz.lays102:Go.Proofs.Lays.n102 Tryz.prog Tryz.lays102_ren:={
 mixed:=by kernel_rfl
 f102:=Tryz.func54.trans (congrArg some tz0)
 f207:=Tryz.func145.trans (congrArg some tz0)
 f209:=Tryz.func101.trans (congrArg some tz0)
 t3:=Tryz.underlying3
 a3:=Tryz.isAgg3
 z3:=Tryz.sizeOf3
 v3:=Tryz.zeroValue3
 t4:=Tryz.underlying4
 a4:=Tryz.isAgg4
 z4:=Tryz.sizeOf4
 v4:=Tryz.zeroValue4
 t9:=Tryz.underlying9
 a9:=Tryz.isAgg9
 z9:=Tryz.sizeOf9
 v9:=Tryz.zeroValue9}
open Go.RowKit Go.Lib in
theorem Tryz.strings_TrimSuffix (s p:ByteArray) (w:World) (hs:s.size<=9223372036854775807) :
  Calls Tryz.prog 54 #[.string s,.string p] w fun e w'=>e=.returned (.string ⟨(Lib.trimSuffix s.data.toList p.data.toList).toArray⟩)/\w'=w:=Any.strings_TrimSuffix Tryz.lays102 s p w hs
def Tryz.lays145_ren:Go.Shelf.Ren:=⟨fun | 145=>40 | 220=>90 | 219=>134 | 217=>172 | 225=>173 | 224=>174 | 267=>175 | 266=>199 | 314=>200 | n=>n,fun | 9=>9 | 4=>4 | 59=>74 | 3=>3 | 5=>5 | 46=>205 | 146=>234 | 51=>176 | n=>n,fun | 1=>2 | n=>n⟩
theorem Tryz.lays145:Go.Proofs.Lays.n145 Tryz.prog Tryz.lays145_ren:={
 mixed:=by kernel_rfl
 f145:=Tryz.func40.trans (congrArg some tz0)
 f217:=Tryz.func172.trans (congrArg some tz0)
 f219:=Tryz.func134.trans (congrArg some tz0)
 f220:=Tryz.func90.trans (congrArg some tz0)
 f224:=Tryz.func174.trans (congrArg some tz0)
 f225:=Tryz.func173.trans (congrArg some tz0)
 f266:=Tryz.func199.trans (congrArg some tz0)
 f267:=Tryz.func175.trans (congrArg some tz0)
 f314:=Tryz.func200.trans (congrArg some tz0)
 t3:=Tryz.underlying3
 a3:=Tryz.isAgg3
 z3:=Tryz.sizeOf3
 v3:=Tryz.zeroValue3
 t4:=Tryz.underlying4
 a4:=Tryz.isAgg4
 z4:=Tryz.sizeOf4
 v4:=Tryz.zeroValue4
 t5:=Tryz.underlying5
 a5:=Tryz.isAgg5
 z5:=Tryz.sizeOf5
 v5:=Tryz.zeroValue5
 t9:=Tryz.underlying9
 a9:=Tryz.isAgg9
 z9:=Tryz.sizeOf9
 v9:=Tryz.zeroValue9
 t46:=Tryz.underlying205
 a46:=Tryz.isAgg205
 z46:=Tryz.sizeOf205
 v46:=Tryz.zeroValue205
 t51:=Tryz.underlying176
 a51:=Tryz.isAgg176
 z51:=Tryz.sizeOf176
 v51:=Tryz.zeroValue176
 t59:=Tryz.underlying74
 a59:=Tryz.isAgg74
 z59:=Tryz.sizeOf74
 v59:=Tryz.zeroValue74
 t146:=Tryz.underlying234
 a146:=Tryz.isAgg234
 z146:=Tryz.sizeOf234
 v146:=Tryz.zeroValue234
 g1:=by kernel_rfl}
open Go.RowKit Go.Lib in
theorem Tryz.strings_Cut (s sep:ByteArray) (m:Int) (w:World) (hs:s.size<4294967281) (hm:w.cell? ⟨2,0,none⟩=some (.int .i64 m)) :
  Calls Tryz.prog 40 #[.string s,.string sep] w fun e w'=>e=.returned (.tuple #[.string ⟨(Lib.cut s.data.toList sep.data.toList).1.toArray⟩,.string ⟨(Lib.cut s.data.toList sep.data.toList).2.1.toArray⟩,.bool (Lib.cut s.data.toList sep.data.toList).2.2])/\∃n,w'=w.drewN n:=Any.strings_Cut Tryz.lays145 s sep m w hs hm
def Tryz.lays157_ren:Go.Shelf.Ren:=⟨fun | 157=>41 | 229=>91 | 199=>92 | 261=>135 | 311=>176 | 312=>177 | n=>n,fun | 9=>9 | 31=>76 | 3=>3 | 5=>5 | 4=>4 | 119=>136 | 0=>0 | 40=>138 | 152=>173 | 21=>21 | 154=>175 | 51=>176 | 141=>178 | 196=>209 | 193=>206 | 198=>212 | 49=>210 | 194=>207 | 201=>215 | 226=>236 | 46=>205 | 227=>237 | n=>n,fun | 0=>0 | 6=>1 | n=>n⟩
theorem Tryz.lays157:Go.Proofs.Lays.n157 Tryz.prog Tryz.lays157_ren:={
 mixed:=by kernel_rfl
 f157:=Tryz.func41.trans (congrArg some tz0)
 f199:=Tryz.func92.trans (congrArg some tz0)
 f229:=Tryz.func91.trans (congrArg some tz0)
 f261:=Tryz.func135.trans (congrArg some tz0)
 f311:=Tryz.func176.trans (congrArg some tz0)
 f312:=Tryz.func177.trans (congrArg some tz0)
 t0:=Tryz.underlying0
 a0:=Tryz.isAgg0
 z0:=Tryz.sizeOf0
 v0:=Tryz.zeroValue0
 t3:=Tryz.underlying3
 a3:=Tryz.isAgg3
 z3:=Tryz.sizeOf3
 v3:=Tryz.zeroValue3
 t4:=Tryz.underlying4
 a4:=Tryz.isAgg4
 z4:=Tryz.sizeOf4
 v4:=Tryz.zeroValue4
 t5:=Tryz.underlying5
 a5:=Tryz.isAgg5
 z5:=Tryz.sizeOf5
 v5:=Tryz.zeroValue5
 t9:=Tryz.underlying9
 a9:=Tryz.isAgg9
 z9:=Tryz.sizeOf9
 v9:=Tryz.zeroValue9
 t21:=Tryz.underlying21
 a21:=Tryz.isAgg21
 z21:=Tryz.sizeOf21
 v21:=Tryz.zeroValue21
 t31:=Tryz.underlying76
 a31:=Tryz.isAgg76
 z31:=Tryz.sizeOf76
 v31:=Tryz.zeroValue76
 t40:=Tryz.underlying138
 a40:=Tryz.isAgg138
 z40:=Tryz.sizeOf138
 v40:=Tryz.zeroValue138
 t46:=Tryz.underlying205
 a46:=Tryz.isAgg205
 z46:=Tryz.sizeOf205
 v46:=Tryz.zeroValue205
 t49:=Tryz.underlying210
 a49:=Tryz.isAgg210
 z49:=Tryz.sizeOf210
 v49:=Tryz.zeroValue210
 t51:=Tryz.underlying176
 a51:=Tryz.isAgg176
 z51:=Tryz.sizeOf176
 v51:=Tryz.zeroValue176
 t119:=Tryz.underlying136
 a119:=Tryz.isAgg136
 z119:=Tryz.sizeOf136
 t141:=Tryz.underlying178
 a141:=Tryz.isAgg178
 z141:=Tryz.sizeOf178
 v141:=Tryz.zeroValue178
 t152:=Tryz.underlying173
 a152:=Tryz.isAgg173
 z152:=Tryz.sizeOf173
 v152:=Tryz.zeroValue173
 t154:=Tryz.underlying175
 a154:=Tryz.isAgg175
 z154:=Tryz.sizeOf175
 v154:=Tryz.zeroValue175
 t193:=Tryz.underlying206
 a193:=Tryz.isAgg206
 z193:=Tryz.sizeOf206
 v193:=Tryz.zeroValue206
 t194:=Tryz.underlying207
 a194:=Tryz.isAgg207
 z194:=Tryz.sizeOf207
 v194:=Tryz.zeroValue207
 t196:=Tryz.underlying209
 a196:=Tryz.isAgg209
 z196:=Tryz.sizeOf209
 v196:=Tryz.zeroValue209
 t198:=Tryz.underlying212
 a198:=Tryz.isAgg212
 z198:=Tryz.sizeOf212
 v198:=Tryz.zeroValue212
 t201:=Tryz.underlying215
 a201:=Tryz.isAgg215
 z201:=Tryz.sizeOf215
 v201:=Tryz.zeroValue215
 t226:=Tryz.underlying236
 a226:=Tryz.isAgg236
 z226:=Tryz.sizeOf236
 v226:=Tryz.zeroValue236
 t227:=Tryz.underlying237
 a227:=Tryz.isAgg237
 z227:=Tryz.sizeOf237
 v227:=Tryz.zeroValue237
 g0:=by kernel_rfl
 g6:=by kernel_rfl}
open Go.RowKit Go.Lib in
theorem Tryz.strings_Fields_any (s:ByteArray) (w:World) (hs:s.size<4294967281) (htab:Lib.TabIs Tryz.prog w "strings.asciiSpace" .u8 Lib.asciiSpaceTab) (hW:Lib.WhiteTab 1 w) :
  Calls Tryz.prog 41 #[.string s] w fun e w'=>∃A,e=.returned (.slice (some ⟨A,0,none⟩) (Lib.fieldsD s.data.toList).length (Lib.fieldsD s.data.toList).length)/\w.heap.size<=A /\
   w'.ownsRow w.heap.size 9 1 (.slice (some ⟨A,0,none⟩) (Lib.fieldsD s.data.toList).length (Lib.fieldsD s.data.toList).length) (Lib.fieldsD s.data.toList).length ((Lib.fieldsD s.data.toList).map fun x=>Value.string ⟨x.toArray⟩)/\Below w.heap.size w w':=Any.strings_Fields_any Tryz.lays157 tz0 tz0 tz0 s w hs htab hW
end Go.Proofs.YtkokfdmggdhfmaaGreatDoor
namespace Go.Proofs.YtkokfdmggdhfmaaGreatDoor
open Go Go.RowKit
attribute [local irreducible] aops zaE
theorem Trim_pure (s p:ByteArray) (hs:s.size<=1099511627776):APure Tryz.prog 54 [.v (.string s),.v (.string p)] (.v (.string ⟨(Lib.trimSuffix (bl s) (bl p)).toArray⟩)):=by
 refine APure.ofCalls ⟨_,Tryz.func54,by kernel_rfl,by kernel_rfl⟩ (.cons (.v _) (.cons (.v _) .nil)) (.v _) fun E A w vs hgl hA hr=>?_;obtain ⟨u,v,rfl,h1,h2⟩:=hr.two;(cases h1;cases h2);refine (Tryz.strings_TrimSuffix s p w tz1).mono ?_;rintro e w' ⟨rfl,rfl⟩;exact ⟨_,rfl,Below.refl _ _,.v _⟩
theorem rp_three {E:Env} {A:Nat->Nat->Prop} {w:World} (a b c:Value):Rp E A w (.tup [.v a,.v b,.v c]) (.tuple #[a,b,c]):=by
 refine .tup rfl fun i x u hc hu=>?_
 match i,hc,hu with
 | 0,hc,hu=>cases hc;cases hu;exact .v _
 | 1,hc,hu=>cases hc;cases hu;exact .v _
 | 2,hc,hu=>cases hc;cases hu;exact .v _
theorem zkX (a b c:Value):Data (.tup [.v a,.v b,.v c]):=.tup (.cons (.v _) (.cons (.v _) (.cons (.v _) .nil)))
theorem Cut_pure (s p:ByteArray) (hs:s.size<=1048576):APure Tryz.prog 40 [.v (.string s),.v (.string p)] (.tup [.v (.string ⟨(Lib.cut (bl s) (bl p)).1.toArray⟩),.v (.string ⟨(Lib.cut (bl s) (bl p)).2.1.toArray⟩),.v (.bool (Lib.cut (bl s) (bl p)).2.2)]):=by
 refine APure.ofCalls ⟨_,Tryz.func40,by kernel_rfl,by kernel_rfl⟩ (.cons (.v _) (.cons (.v _) .nil)) (zkX _ _ _) fun E A w vs hgl hA hr=>?_;obtain ⟨u,v,rfl,h1,h2⟩:=hr.two;(cases h1;cases h2);obtain ⟨m,hm⟩:=hgl.has gw_MaxLen;refine (Tryz.strings_Cut s p m w tz1 hm).mono ?_;rintro e w' ⟨rfl,n,rfl⟩;exact ⟨_,rfl,⟨rfl,rfl,rfl,zw _,fun _ _=>rfl⟩,rp_three _ _ _⟩
theorem fl_bnd:∀(f:Nat) (cur l:List UInt8),(Lib.fieldsGoD f cur l).length<=f+1/\∀x∈Lib.fieldsGoD f cur l,x.length<=cur.length+l.length
 | 0,cur,l=>by
  rw[Lib.fieldsGoD];split;·exact ⟨by simp,fun x hx=>by cases hx⟩
  exact ⟨by simp,fun x hx=>by obtain rfl:=List.mem_singleton.1 hx;omega⟩
 | f+1,cur,l=>by
  rw[Lib.fieldsGoD];split
  ·split
   (·exact ⟨by simp,fun x hx=>by cases hx⟩);exact ⟨by simp,fun x hx=>by obtain rfl:=List.mem_singleton.1 hx;omega⟩
  split
  ·have ih:=fl_bnd f [] (l.drop (Lib.decodeL l).2)
   (have hd:(l.drop (Lib.decodeL l).2).length<=l.length:=by rw[List.length_drop];omega);split;(·exact ⟨by rw[List.nil_append];omega,fun x hx=>by have:=ih.2 x (by simpa using hx);simp only[zz] at this;omega⟩);refine ⟨by rw[zj];simp only[zJ,zz];omega,fun x hx=>?_⟩;(rcases List.mem_append.1 hx with hx | hx);(·obtain rfl:=List.mem_singleton.1 hx;omega);have:=ih.2 x hx;simp only[zz] at this;omega
  have ih:=fl_bnd f (cur++l.take (Lib.decodeL l).2) (l.drop (Lib.decodeL l).2);refine ⟨by omega,fun x hx=>?_⟩;have:=ih.2 x hx;(have e:(l.take (Lib.decodeL l).2).length+(l.drop (Lib.decodeL l).2).length=l.length:=by rw[List.length_take,List.length_drop];omega);rw[zj] at this;omega
theorem zj4 (s:ByteArray):(zh5 s).length<=s.size+2/\∀x∈zh5 s,x.size<=s.size:=by
 have h:=fl_bnd ((bl s).length+1) [] (bl s);unfold zh5 Lib.fieldsD;rw[zi];rw[zbz] at h ⊢;refine ⟨h.1,fun x hx=>?_⟩;obtain ⟨y,hy,rfl⟩:=zA.1 hx;have:=h.2 y hy;(show y.toArray.size<=_);simpa using this
theorem ziC (s:ByteArray) (hs:s.size<=1048576):APure Tryz.prog 41 [.v (.string s)] (.sl 1 ((zh5 s).map zaJ)):=by
 refine APure.ofCalls ⟨_,Tryz.func41,by kernel_rfl,by kernel_rfl⟩ (.cons (.v _) .nil) (zgM _) fun E A w vs hgl hA hr=>?_;obtain ⟨u,rfl,h1⟩:=hr.one;(cases h1);refine (Tryz.strings_Fields_any s w tz1 (hgl.tab gl_mem0 tz0 tz0) (hgl.has gw_white)).mono ?_;rintro e w' ⟨a,rfl,ha,ho,hb⟩;refine ⟨_,rfl,hb,?_⟩;have hc:=(World.ownsRowF_of ho).cells (g:=a) rfl;(have hn:(Lib.fieldsD s.data.toList).length=(zh5 s).length:=by unfold zh5;rw[zi]);(have hmx:(zh5 s).length<=maxLen:=by have:=(zj4 s).1;simp only[maxLen];omega);rw[hn];refine .sl (fun j=>((zh5 s).map Value.string).getD j undef) (by rw[zi]) (zw _) hmx (fun x hx=>by obtain ⟨y,_,rfl⟩:=zA.1 hx;rfl) (fun j hj=>⟨?_,fun h9=>?_⟩) fun j c hj=>?_
 ·rw[zd0,zi] at hj
  (have h5:((Lib.fieldsD s.data.toList).map fun x=>Value.string ⟨x.toArray⟩)=(zh5 s).map Value.string:=by unfold zh5;rw[List.map_map];rfl);rw[h5] at hc;have h6:=hc j (((zh5 s).map Value.string).getD j undef) (by rw[zx,zh,zx,zb hj];rfl);rw[<- h6];cases j <;> simp[Addr.add]
 (·have:=hA _ _ h9;omega);rw[zd0,zx] at hj
 cases hx:(zh5 s)[j]? with
 | none=>rw[hx] at hj;cases hj
 | some y =>
  rw[hx] at hj;(cases hj);(have:((zh5 s).map Value.string).getD j undef=.string y:=by rw[zh,zx,hx];rfl);rw[this];exact .v _
theorem subF_cnt (ρ:Int->Int):∀T:Ty,(T.subF fun v=>vTy (ρ v)).cnt<=T.cnt:=by
 refine Ty.ind fun T ih=>?_;have h:=T.cnt_eq
 by_cases h1:T.k=1
 (·rw[Ty.subF_var h1];unfold vTy;rw[zdM];simp only[Ty.cntL];omega);rw[Ty.subF_more h1,zdM]
 have key:∀ps:List Ty,(∀p∈ps,p∈T.ps)->Ty.cntL (ps.map (Ty.subF fun v=>vTy (ρ v)))<=Ty.cntL ps:=by
  intro ps
  induction ps with
  | nil=>intro _;exact zw _
  | cons p ps ihp =>
   intro hm;have h2:=ih p (hm p tz4);(have h3:=ihp fun q hq=>hm q (by simp[hq]));simp only[zo,Ty.cntL];omega
 (have:=key T.ps fun p h=>h);omega
theorem zdX (s:Sch):(z1 s).t.cnt<=s.t.cnt:=by
 by_cases h:s.ok=true
 ·have hnd:=Sch.vs_nodup h
  unfold z1;rw[if_pos h];(simp only);rw[Ty.sub_subF _ _ (Sch.ok_iff.1 h).1,Ty.subF_congr (σ:=bfun _) (τ:=fun v=>vTy (zeM s.vs (zaX s.free s.vs.length) v)) _ fun v _=>zfN hnd (zbO _ _).symm v];exact subF_cnt _ _
 unfold z1;rw[if_neg h];exact zhc _
theorem zdL (s:Sch):(z1 s).vs.length<=s.vs.length:=by
 unfold z1;split;(·exact Nat.le_of_eq (zbO _ _));simp[zSch]
theorem zfM {s:Sch} (hc:s.t.cnt<=400000) (hv:s.vs.length<=16000):∀v∈(z1 s).vs,0<=v/\v<1073741824:=by
 intro v hm;have hfl:=s.free_len;unfold z1 at hm;split at hm
 ·have:=ziE hm
  omega
 cases hm
theorem zkb {T:Ty}:T.ptx.size<=30 * T.cnt:=by
 cases h:T.right with
 | true=>rw[zgJ h];have:=zb6 h;omega
 | false=>rw[ptx_no h];show 0<=_;omega
theorem ziJ (s:Sch) (hc:s.t.cnt<=400000) (hv:s.vs.length<=16000):APure Tryz.prog 12 [.agg s.cells] (.v (.string (z1 s).ptxt)):=by
 have hk:=zfM hc hv;have hl:=zdL s;have hcc:=zdX s;have hj:=jn_size hk;have hp:=@zkb (z1 s).t
 have h:=zj9 s (z1 s) nmB (jnB (z1 s).vs) (z1 s).t.ptx (zak s tz1 tz1) (fun v hm=>zfg v (hk v hm).1 (hk v hm).2) (fun v hm=>by have:=zcZ (hk v hm).1 (hk v hm).2;omega) tz1
  (fun h0=>by
   have h9:=Trim_pure (zhw nmB (z1 s).vs) ⟨#[32]⟩ (by
    have:=zdH (nm:=nmB) (l:=(z1 s).vs) (fun v hm=>by have:=zcZ (hk v hm).1 (hk v hm).2;omega) (z1 s).vs.length
    rw[zp] at this;omega)
   rw[trim_jn (List.length_pos_iff.1 h0)] at h9
   exact h9) (zfu (z1 s).t tz1) tz1 tz1
 exact h
theorem zd3 (s:Sch) (hok:s.ok=true) (hc:s.t.cnt<=1048576) (hv:s.vs.length<=1048576):APure Tryz.prog 18 [.agg s.cells] (.agg (z1 s).cells):=by
  refine APure.mkL (.cons Sch.agg .nil) (Sch.agg) ?_;refine aIn Tryz.func18 fun hm=>?_;simp only[Tryz.ntmps18,Tryz.results18,go_sem,seval];have hfl:=s.free_len;refine sqR fun _ u=>?_;refine chS 1 ?_ (by intro _ q;simp only[↓bO,go_sem,seval,Sch.cells];exact q);simp only[↓bO,go_sem,seval,Sch.cells];apply u;refine sqR fun _ u=>?_;refine chS 1 ?_ (by intro _ q;simp only[↓bO,go_sem,seval,Sch.cells];exact q);refine zL 1 fun _ y=>?_;simp only[↓bO,go_sem,seval,Sch.cells];refine APure.call (zjD s hc) ?_;apply y;clear y;simp only[↓bO,go_sem,seval,Sch.cells];apply u;refine sqR fun _ u=>?_;simp only[↓bO,go_sem,seval,Sch.cells];apply u;refine zM fun _ u=>?_;refine sqR fun _ w=>?_;simp only[↓bO,go_sem,seval,Sch.cells];apply w;apply zU;refine zap (Weak.tokSlot 4 3 1 rfl) ?_;simp only[go_sem];refine zad (σ:=Nat) (mB 29 62) (fun z=>(zaN s.free z).length<=s.vs.length) (fun z=>[(4,.osl 2 1 ((zaN s.free z).map intC)),(5,.v (.int .i64 (z:Int)))]) (fun z=>[(2,.tok 3 1 (zaN s.free z).length)]) (fun z=>s.vs.length+s.free.length+1-z) 0 ((by simp[zaN])) ?_ (fun z hz=>?_)
  ·
   simp only[go_sem,seval,zaN,List.range_zero,bL,zn];exact za5
  simp only[go_sem,seval];refine zM fun _ w=>?_;refine sqR fun _ x=>?_;(iterate 5 (refine chS 1 ?_ (by intro _ q;simp only[↓bO,go_sem,seval,Sch.cells];exact q)));simp only[↓bO,go_sem,seval,Sch.cells];apply x;apply zO rfl <;> intro hb13
  ·
   (have hk:(zaN s.free z).length<s.vs.length:=by (have h9:=hb13;simp at h9;omega));have hzl:=zbF s.free z;have hw:IntKind.i64.wrap ((z:Int)+1)=(z:Int)+1:=zac tz1 tz1;(have hb1:((zaN s.free z).length+1) * 8<=140737488355328:=by omega);(have hb2:(zaN s.free z).length+1<=maxLen:=by (simp only[maxLen];omega));apply zS;apply w;refine zM fun _ w=>?_;apply zU;refine sqR fun _ x=>?_;(iterate 2 (refine chS 1 ?_ (by intro _ q;simp only[↓bO,go_sem,seval,Sch.cells,hw,hb1,hb2,intC,za];exact q)));refine zL 1 fun _ y=>?_;simp only[↓bO,go_sem,seval,Sch.cells,hw,hb1,hb2,intC,za];refine APure.call ((show APure Tryz.prog 64 [.sl 1 (s.free.map intC),.v (.int .i64 (z:Int))] (.v (.bool (decide ((z:Int)∈s.free)))) from by have h9:=zjg s.free (z:Int);rw[zi7] at h9;exact h9)) ?_;apply y;clear y;simp only[↓bO,go_sem,seval,Sch.cells,hw,hb1,hb2,intC,za];apply x;apply zO rfl <;> intro hb19
   ·
    (have hin:decide ((z:Int)∈s.free)=false:=by simpa using hb19);(have hst:zaN s.free (z+1)=(zaN s.free z)++[(z:Int)]:=by (rw[zcs,if_neg (by simp[hin])]));apply zN;(iterate 2 (refine chS 1 ?_ (by intro _ q;simp only[↓bO,go_sem,seval,Sch.cells,hw,hb1,hb2,intC,za,hst,zf,zj];exact q)));refine chS 1 ?_ (by intro _ q;simp only[↓bO,go_sem,seval,↓zbu,↓zbw,↓zbA,↓zbC,↓zbt,↓zbE,↓zbB,↓zbG,↓zbv,↓zaP,↓zaQ,↓zaR,Sch.cells,hw,hb1,hb2,intC,za,hst,zf,zj];exact q);refine chS 1 ?_ (by intro _ q;simp only[↓bO,go_sem,seval,Sch.cells,hw,hb1,hb2,intC,za,hst,zf,zj];exact q);simp only[↓bO,go_sem,seval,Sch.cells,hw,hb1,hb2,intC,za,hst,zf,zj];apply w;apply zN;(iterate 2 (refine chS 1 ?_ (by intro _ q;simp only[↓bO,go_sem,seval,Sch.cells,hw,hb1,hb2,intC,za,hst,zf,zj];exact q)));simp only[↓bO,go_sem,seval,Sch.cells,hw,hb1,hb2,intC,za,hst,zf,zj];refine ⟨z+1,(by rw[hst];first | exact hz | (rw[zj];simp only[zJ,zz];omega)),(by have h9:=zbF s.free z;omega),?_⟩;simp only[go_sem,seval,hw,hb1,hb2,intC,za,zm,hst,zf,bL,zj];exact za5
   (have hin:decide ((z:Int)∈s.free)=true:=by simpa using hb19);(have hst:zaN s.free (z+1)=(zaN s.free z):=by (rw[zcs,if_pos hin]));apply zS;apply w;apply zN;(iterate 2 (refine chS 1 ?_ (by intro _ q;simp only[↓bO,go_sem,seval,Sch.cells,hw,hb1,hb2,intC,za,hst];exact q)));simp only[↓bO,go_sem,seval,Sch.cells,hw,hb1,hb2,intC,za,hst];refine ⟨z+1,(by rw[hst];first | exact hz | (rw[zj];simp only[zJ,zz];omega)),(by have h9:=zbF s.free z;omega),?_⟩;simp only[go_sem,seval,hw,hb1,hb2,intC,za,zm,hst];exact za5
  (have hk:(zaN s.free z).length=s.vs.length:=by (have h9:=hb13;simp at h9;omega));rw[zh3 hk];apply zae;simp only[zaf,z8,zY,bA,Nat.reduceEqDiff,↓reduceIte];apply u;refine sqR fun _ u=>?_;(iterate 3 (refine chS 1 ?_ (by intro _ q;simp only[↓bO,go_sem,seval,Sch.cells];exact q)));refine zL 1 fun _ y=>?_;simp only[↓bO,go_sem,seval,Sch.cells];refine ACalls.args (args':=[.agg s.cells,.sl 1 ((zaX s.free s.vs.length).map intC)]) ⟨.refl _,Le.oslL,trivial⟩ ?_;refine APure.call (zjf s (zaX s.free s.vs.length) (zbO _ _).symm hv hc) ?_;apply y;clear y;refine chS 1 ?_ (by intro _ q;simp only[↓bO,go_sem,seval,Sch.cells];exact q);simp only[↓bO,go_sem,seval,Sch.cells];apply u;apply zP;(try simp only[zaf,z8,zY,zbH,zbc,zau,bS,bA,zav,zaa,za4,bL,Nat.reduceAdd,Nat.reduceLeDiff,Nat.reduceEqDiff,↓reduceIte,ti32,tyX,Sch.cells,zi]);unfold z1;rw[if_pos hok];exact Le.agg ⟨Le.osl _ _ _,LeL.refl _⟩
def preN (l:List Int) (k:Nat):ByteArray:=if 0<k then zdb l k++bSp else zdb l k
theorem zbf {l:List Int} {k:Nat} {v:Int} (h:l[k]?=some v):zdb l (k+1)=preN l k++nmB v:=zfs h
theorem preN_size (l:List Int) (k:Nat):(preN l k).size<=(zdb l k).size+1:=by
 unfold preN;split;(·rw[ByteArray.size_append];exact zw _);omega
theorem accN0 (l:List Int):zdb l 0=⟨#[]⟩:=rfl
theorem txt_end (s:Sch):(eqS (zdb s.vs s.vs.length) ⟨#[]⟩=true->zdb s.vs s.vs.length++s.t.tx=s.txt)/\(eqS (zdb s.vs s.vs.length) ⟨#[]⟩=false->zdb s.vs s.vs.length++(⟨#[46,32]⟩:ByteArray)++s.t.tx=s.txt):=by
 unfold Sch.txt
 by_cases hn:s.vs=[]
 ·rw[if_pos hn,hn]
  refine ⟨fun _=>zi6 _,fun h=>?_⟩;have h2:eqS (zdb [] ([]:List Int).length) ⟨#[]⟩=true:=zcJ.2 rfl;rw[h2] at h;cases h
 rw[if_neg hn,accN_all hn];refine ⟨fun h=>?_,fun _=>zcy _ _ _⟩;have h1:=zcJ.1 h;have h2:=jn_bl s.vs hn;rw[h1] at h2
 cases hv:s.vs with
 | nil=>exact absurd hv hn
 | cons v l =>
  rw[hv] at h2;have h3:=congrArg List.length h2;simp only[nmL,List.flatMap_cons,zj,zJ,zz] at h3;have h4:(bl (⟨#[]⟩:ByteArray)).length=0:=rfl;rw[h4,zbz] at h3
  have h5:0<(nmB v).size:=by
   unfold nmB;split;(·rw[ByteArray.size_append,zc0];omega);rw[zc0];omega
  omega
theorem zhT (s:Sch) (hr:s.t.right=true) (hk:∀v∈s.vs,0<=v/\v<1073741824) (hc:s.t.cnt<=1048576) (hv:s.vs.length<=1048576):APure Tryz.prog 20 [.agg s.cells] (.v (.string s.txt)):=by
  refine APure.mkL (.cons Sch.agg .nil) (.v _) ?_;refine aIn Tryz.func20 fun hm=>?_;simp only[Tryz.ntmps20,Tryz.results20,go_sem,seval];have hte:=txt_end s;have htx:=zb6 hr;refine sqR fun _ u=>?_;refine chS 1 ?_ (by intro _ q;simp only[↓bO,go_sem,seval,Sch.cells];exact q);simp only[↓bO,go_sem,seval,Sch.cells];apply u;refine sqR fun _ u=>?_;simp only[↓bO,go_sem,seval,Sch.cells];apply u;refine zM fun _ u=>?_;refine sqR fun _ w=>?_;simp only[↓bO,go_sem,seval,Sch.cells];apply w;apply zU;refine zad (σ:=Nat) (mB 33 26) (fun z=>z<=s.vs.length) (fun z=>[(3,.v (.string (zdb s.vs z))),(4,.v (.int .i64 (z:Int)))]) (fun z=>[]) (fun z=>s.vs.length-z) 0 tz1 ?_ (fun z hz=>?_)
  ·
   (try simp only[go_sem,seval,accN0]);exact za5
  simp only[go_sem,seval];have has:=zhB hk z;have hps:=preN_size s.vs z;have hz1:((((zdb s.vs z).size+(#[32]:Array UInt8).size:Nat):Int)<=IntKind.i64.max)=True:=eq_true (by ( show (((zdb s.vs z).size+1:Nat):Int)<=9223372036854775807);omega);refine zM fun _ w=>?_;refine sqR fun _ x=>?_;(iterate 4 (refine chS 1 ?_ (by intro _ q;simp only[↓bO,go_sem,seval,Sch.cells,hz1,intC];exact q)));simp only[↓bO,go_sem,seval,Sch.cells,hz1,intC];apply x;apply zO rfl <;> intro hb9
  ·
   (have hlt:z<s.vs.length:=by (have h9:=hb9;simp at h9;omega));obtain ⟨v,hvp⟩:∃v,s.vs[z]?=some v:=⟨_,zb hlt⟩;have hnz:=zcZ (hk v (zg hvp)).1 (hk v (zg hvp)).2;(have hw:IntKind.i64.wrap ((z:Int)+1)=((z+1:Nat):Int):=by (rw[zac tz1 tz1];omega));have hz2:((((preN s.vs z).size+(nmB v).size:Nat):Int)<=IntKind.i64.max)=True:=eq_true (by ( show (((preN s.vs z).size+(nmB v).size:Nat):Int)<=9223372036854775807);omega);apply zS;apply w;refine zM fun _ w=>?_;apply zU;refine zaC (mB 33 26) ([(3,.v (.string (preN s.vs z)))]) ([]) ?_ ?_
   ·
    refine sqR fun _ x=>?_;refine chS 1 ?_ (by intro _ q;simp only[↓bO,go_sem,seval,Sch.cells,hz1,intC,hlt,gM hvp,hw,hz2,zbf hvp];exact q);simp only[↓bO,go_sem,seval,Sch.cells,hz1,intC,hlt,gM hvp,hw,hz2,zbf hvp];apply x;apply zO rfl <;> intro hb13
    ·
     apply zN;(iterate 2 (refine chS 1 ?_ (by intro _ q;simp only[↓bO,go_sem,seval,Sch.cells,hz1,intC,hlt,gM hvp,hw,hz2,zbf hvp];exact q)));simp only[↓bO,go_sem,seval,Sch.cells,hz1,intC,hlt,gM hvp,hw,hz2,zbf hvp];(try simp only[go_sem,seval]);unfold preN;(first | rw[if_pos (show 0<z by (have h9:=hb13;simp at h9;omega))] | rw[if_neg (show ¬0<z by (have h9:=hb13;simp at h9;omega))]);(try simp only[bSp]);exact clz6
    apply zS;(try simp only[go_sem]);(try simp only[go_sem,seval]);unfold preN;(first | rw[if_pos (show 0<z by (have h9:=hb13;simp at h9;omega))] | rw[if_neg (show ¬0<z by (have h9:=hb13;simp at h9;omega))]);(try simp only[bSp]);exact clz6
   simp only[go_sem,seval];apply zN;(iterate 6 (refine chS 1 ?_ (by intro _ q;simp only[↓bO,go_sem,seval,Sch.cells,hz1,intC,hlt,gM hvp,hw,hz2,zbf hvp];exact q)));refine zL 1 fun _ y=>?_;simp only[↓bO,go_sem,seval,Sch.cells,hz1,intC,hlt,gM hvp,hw,hz2,zbf hvp];refine APure.call (by have h9:=zgx v.toNat (by have:=hk v (zg hvp);omega);rw[show ((v.toNat:Nat):Int)=v by have:=hk v (zg hvp);omega] at h9;exact h9) ?_;apply y;clear y;refine chS 1 ?_ (by intro _ q;simp only[↓bO,go_sem,seval,Sch.cells,hz1,intC,hlt,gM hvp,hw,hz2,zbf hvp];exact q);simp only[↓bO,go_sem,seval,Sch.cells,hz1,intC,hlt,gM hvp,hw,hz2,zbf hvp];apply w;apply zN;(iterate 2 (refine chS 1 ?_ (by intro _ q;simp only[↓bO,go_sem,seval,Sch.cells,hz1,intC,hlt,gM hvp,hw,hz2,zbf hvp];exact q)));simp only[↓bO,go_sem,seval,Sch.cells,hz1,intC,hlt,gM hvp,hw,hz2,zbf hvp];refine ⟨(z+1),tz1,tz1,?_⟩;(try simp only[go_sem,seval,hz1,intC,hlt,gM hvp,hw,hz2,zbf hvp]);exact za5
  (have hke:z=s.vs.length:=by (have h9:=hb9;simp at h9;omega));subst hke;have hz3:((((zdb s.vs s.vs.length).size+(#[46,32]:Array UInt8).size:Nat):Int)<=IntKind.i64.max)=True:=eq_true (by ( show (((zdb s.vs s.vs.length).size+2:Nat):Int)<=9223372036854775807);omega);have hz4:((((zdb s.vs s.vs.length).size+(#[46,32]:Array UInt8).size+s.t.tx.size:Nat):Int)<=IntKind.i64.max)=True:=eq_true (by ( show (((zdb s.vs s.vs.length).size+2+s.t.tx.size:Nat):Int)<=9223372036854775807);omega);have hz5:((((zdb s.vs s.vs.length).size+s.t.tx.size:Nat):Int)<=IntKind.i64.max)=True:=eq_true (by ( show (((zdb s.vs s.vs.length).size+s.t.tx.size:Nat):Int)<=9223372036854775807);omega);apply zae;simp only[zaf,z8,zY,bA,Nat.reduceEqDiff,↓reduceIte];apply u;refine zM fun _ u=>?_;refine sqR fun _ w=>?_;refine chS 1 ?_ (by intro _ q;simp only[↓bO,go_sem,seval,Sch.cells,hz3,hz4,hz5];exact q);simp only[↓bO,go_sem,seval,Sch.cells,hz3,hz4,hz5];apply w;apply zO rfl <;> intro hb25
  ·
   have hne:eqS (zdb s.vs s.vs.length) ⟨#[]⟩=false:=zfe hb25;apply zN;(iterate 2 (refine chS 1 ?_ (by intro _ q;simp only[↓bO,go_sem,seval,Sch.cells,hz3,hz4,hz5];exact q)));simp only[↓bO,go_sem,seval,Sch.cells,hz3,hz4,hz5];apply u;refine sqR fun _ u=>?_;(iterate 3 (refine chS 1 ?_ (by intro _ q;simp only[↓bO,go_sem,seval,Sch.cells,hz3,hz4,hz5];exact q)));refine zL 1 fun _ y=>?_;simp only[↓bO,go_sem,seval,Sch.cells,hz3,hz4,hz5];refine APure.call (zgh s.t hr hc) ?_;apply y;clear y;refine chS 1 ?_ (by intro _ q;simp only[↓bO,go_sem,seval,Sch.cells,hz3,hz4,hz5];exact q);simp only[↓bO,go_sem,seval,Sch.cells,hz3,hz4,hz5];apply u;apply zP;(try simp only[go_sem]);refine Le.of_eq (congrArg (fun s=>AV.v (.string s)) ?_);exact hte.2 hne
  have hne:eqS (zdb s.vs s.vs.length) ⟨#[]⟩=true:=zfq hb25;apply zS;apply u;refine sqR fun _ u=>?_;(iterate 3 (refine chS 1 ?_ (by intro _ q;simp only[↓bO,go_sem,seval,Sch.cells,hz3,hz4,hz5];exact q)));refine zL 1 fun _ y=>?_;simp only[↓bO,go_sem,seval,Sch.cells,hz3,hz4,hz5];refine APure.call (zgh s.t hr hc) ?_;apply y;clear y;refine chS 1 ?_ (by intro _ q;simp only[↓bO,go_sem,seval,Sch.cells,hz3,hz4,hz5];exact q);simp only[↓bO,go_sem,seval,Sch.cells,hz3,hz4,hz5];apply u;apply zP;(try simp only[go_sem]);refine Le.of_eq (congrArg (fun s=>AV.v (.string s)) ?_);exact hte.1 hne
theorem zkQ (s:ByteArray):(zcb s).1.size<=s.size/\(zcb s).2.size<=s.size:=by
 have h:(Lib.cut (bl s) [46,32]).1.length<=s.size/\(Lib.cut (bl s) [46,32]).2.1.length<=s.size:=by
  unfold Lib.cut;split;(·simp only[List.length_take,List.length_drop,zbz];omega);simp only[zbz,zz];omega
 unfold zcb;split;(·exact ⟨by show ((Lib.cut (bl s) [46,32]).1).toArray.size<=_;simpa using h.1,by show ((Lib.cut (bl s) [46,32]).2.1).toArray.size<=_;simpa using h.2⟩);exact ⟨Nat.zero_le _,zw _⟩
theorem ziA (s:ByteArray):(zbJ s).1.cnt<=2 * s.size+1:=by
 unfold zbJ;split
 ·have:=zdF (s.size+1) s
  unfold PwB at this;dsimp only;omega
 dsimp only;rw[zdM];simp only[Ty.cntL];omega
def zeO (s:ByteArray):Sch×Int:=if ziM s then (spS s,0) else (zSch,3)
theorem zld:Le (.agg [.v (.slice none 0 0),.v (.int .i64 0),.v (.int .i64 0),.v (.slice none 0 0)]) (.agg zSch.cells):=by
 rw[Sch.cells_eq];exact Le.agg ⟨Le.slNil 1,.refl _,.refl _,Le.slNil 3,trivial⟩
theorem zbi {l:List ByteArray} {i:Nat} {x:ByteArray} (h:l[i]?=some x):(l.map zaJ).getD i []=[AV.v (.string x)]:=by rw[zh,zx,h];rfl
theorem sparse_w (s n r:ByteArray) (hs:s.size<=15000) (hcut:zcb s=(n,r)) (fl:List ByteArray) (hfl:zh5 n=fl) (S:Sch) (hSv:fl.map zbS=S.vs) (e:Int) (hp:zbJ r=(S.t,e)):APure Tryz.prog 9 [.v (.string s)] (.tup [.agg (zeO s).1.cells,.v (.int .i64 (zeO s).2)]):=by
  refine APure.mkL (.cons (.v _) .nil) (.tup (.cons Sch.agg (.cons (.v _) .nil))) ?_;refine aIn Tryz.func9 fun hm=>?_;simp only[Tryz.ntmps9,Tryz.results9,go_sem,seval];have hcs:=zkQ s;rw[hcut] at hcs;(simp only at hcs);have hfb:=zj4 n;rw[hfl] at hfb;(have hSS:spS s=S:=by (unfold spS spVs;rw[hcut];simp only;rw[hfl,hSv,hp]));(have hSc:S.t.cnt<=2 * r.size+1:=by (have h9:=ziA r;rw[hp] at h9;exact h9));(have hSl:S.vs.length=fl.length:=by rw[<- hSv,zi]);(have hG:ziM s↔(e=0/\(z1 S).ptxt=s/\(z1 S).vs=S.vs/\(z1 S).t.same S.t=true):=by (unfold ziM;rw[hSS,hcut,hp]));have hcl:=zdL S;have hcc:=zdX S;refine sqR fun _ u=>?_;refine chS 1 ?_ (by intro _ q;simp only[↓bO,go_sem,seval,zaJ,intC];exact q);simp only[go_sem];(iterate 2 (simp only[↓bO,go_sem,seval,zaJ,intC];apply u;refine zM fun _ u=>?_;apply zN));refine chS 1 ?_ (by intro _ q;simp only[↓bO,go_sem,seval,zaJ,intC];exact q);refine zL 1 fun _ y=>?_;simp only[↓bO,go_sem,seval,zaJ,intC];refine APure.call (Cut_pure s ⟨#[46,32]⟩ tz1) ?_;(iterate 6 (apply y;clear y;refine zL 1 fun _ y=>?_;simp only[↓bO,go_sem,seval,zaJ,intC]));apply y;clear y;simp only[↓bO,go_sem,seval,zaJ,intC];apply u;refine zaC (mB 76 117) ([(5,.v (.string n)),(6,.v (.string r))]) ([]) ?_ ?_
  ·
   refine sqR fun _ u=>?_;refine chS 1 ?_ (by intro _ q;simp only[↓bO,go_sem,seval,zaJ,intC];exact q);simp only[↓bO,go_sem,seval,zaJ,intC];apply u;apply zO rfl <;> intro hb21
   ·
    apply zN;(iterate 2 (refine chS 1 ?_ (by intro _ q;simp only[↓bO,go_sem,seval,zaJ,intC];exact q)));simp only[↓bO,go_sem,seval,zaJ,intC];(try simp only[go_sem,seval]);have hc2:=hcut;unfold zcb at hc2;(first | rw[if_pos (by simpa using hb21)] at hc2 | rw[if_neg (by simpa using hb21)] at hc2);obtain ⟨rfl,rfl⟩:=Prod.mk.inj hc2;refine Weak.mk ?_ (fun _ _ h=>h) rfl rfl;repeat' first | exact trivial | exact .refl _ | exact .any _ | (refine ⟨?_,?_⟩)
   apply zS;(try simp only[go_sem]);(try simp only[go_sem,seval]);have hc2:=hcut;unfold zcb at hc2;(first | rw[if_pos (by simpa using hb21)] at hc2 | rw[if_neg (by simpa using hb21)] at hc2);obtain ⟨rfl,rfl⟩:=Prod.mk.inj hc2;refine Weak.mk ?_ (fun _ _ h=>h) rfl rfl;repeat' first | exact trivial | exact .refl _ | exact .any _ | (refine ⟨?_,?_⟩)
  simp only[go_sem,seval];refine zM fun _ u=>?_;refine sqR fun _ w=>?_;refine chS 1 ?_ (by intro _ q;simp only[↓bO,go_sem,seval,zaJ,intC];exact q);refine zL 1 fun _ y=>?_;simp only[↓bO,go_sem,seval,zaJ,intC];refine APure.call (by have h9:=ziC n tz1;rw[hfl] at h9;exact h9) ?_;apply y;clear y;refine chS 1 ?_ (by intro _ q;simp only[↓bO,go_sem,seval,zaJ,intC];exact q);simp only[↓bO,go_sem,seval,zaJ,intC];apply w;apply zU;refine zap (Weak.tokCell 3 1 (id:=1) (t:=28) [.osl 2 1 [],.v (.int .i64 0),.v (.int .i64 0),.v (.slice none 0 0)] rfl ⟨.inr ⟨rfl,rfl⟩,.inl (.refl _),.inl (.refl _),.inl (.refl _),trivial⟩) ?_;simp only[zat,Nat.reduceEqDiff,↓reduceIte];refine zad (σ:=Nat) (mB 76 117440597) (fun k=>k<=fl.length) (fun k=>[(26,.v (.int .i64 (k:Int)))]) (fun k=>[(1,.cells 28 [.osl 2 1 ((((fl.take k).map zbS)).map intC),.v (.int .i64 0),.v (.int .i64 0),.v (.slice none 0 0)]),(2,.tok 3 1 k)]) (fun k=>fl.length-k) 0 tz1 ?_ (fun k hk=>?_)
  ·
   (try simp only[go_sem,seval,bL]);exact za5
  simp only[go_sem,seval];refine sqR fun _ w=>?_;simp only[↓bO,go_sem,seval,zaJ,intC];apply w;refine zM fun _ w=>?_;apply zO rfl <;> intro hb27
  ·
   (have hlt:k<fl.length:=by (have h9:=hb27;simp at h9;omega));obtain ⟨x,hx⟩:∃x,fl[k]?=some x:=⟨_,zb hlt⟩;have hxs:=hfb.2 x (zg hx);(have hw:IntKind.i64.wrap ((k:Int)+1)=((k+1:Nat):Int):=by (rw[zac tz1 tz1];omega));(have hst:((fl.take (k+1)).map zbS).map intC=((fl.take k).map zbS).map intC++[[.v (.int .i64 (zbS x))]]:=by (rw[List.take_add_one,hx,zf,zf];rfl));(have hlen:(fl.take k).length=k:=by (rw[List.length_take];omega));(have hb1:(k+1) * 8<=140737488355328:=by omega);(have hb2:k+1<=maxLen:=by (simp only[maxLen];omega));apply zS;apply w;refine zM fun _ w=>?_;apply zU;refine sqR fun _ z=>?_;(iterate 2 (refine chS 1 ?_ (by intro _ q;simp only[↓bO,go_sem,seval,zaJ,intC,hlt,zbi hx,hw,hst,hlen,hb1,hb2];exact q)));simp only[↓bO,go_sem,seval,zaJ,intC,hlt,zbi hx,hw,hst,hlen,hb1,hb2];apply z;refine sqR fun _ z=>?_;refine chS 1 ?_ (by intro _ q;simp only[↓bO,go_sem,seval,zaJ,intC,hlt,zbi hx,hw,hst,hlen,hb1,hb2];exact q);refine zL 1 fun _ y=>?_;simp only[↓bO,go_sem,seval,zaJ,intC,hlt,zbi hx,hw,hst,hlen,hb1,hb2];refine APure.call (zdC x tz1) ?_;(iterate 4 (apply y;clear y;refine zL 1 fun _ y=>?_;simp only[↓bO,go_sem,seval,zaJ,intC,hlt,zbi hx,hw,hst,hlen,hb1,hb2]));apply y;clear y;simp only[↓bO,go_sem,seval,zaJ,intC,hlt,zbi hx,hw,hst,hlen,hb1,hb2];apply z;apply zN;(iterate 3 (refine chS 1 ?_ (by intro _ q;simp only[↓bO,go_sem,seval,zaJ,intC,hlt,zbi hx,hw,hst,hlen,hb1,hb2];exact q)));refine zL 1 fun _ y=>?_;simp only[↓bO,go_sem,seval,↓zbu,↓zbw,↓zbA,↓zbC,↓zbt,↓zbE,↓zbB,↓zbG,↓zbv,↓zaP,↓zaQ,↓zaR,zaJ,intC,hlt,zbi hx,hw,hst,hlen,hb1,hb2];(iterate 2 (apply y;clear y;refine zL 1 fun _ y=>?_;simp only[↓bO,go_sem,seval,zaJ,intC,hlt,zbi hx,hw,hst,hlen,hb1,hb2]));apply y;clear y;simp only[↓bO,go_sem,seval,zaJ,intC,hlt,zbi hx,hw,hst,hlen,hb1,hb2];apply w;apply zN;refine chS 1 ?_ (by intro _ q;simp only[↓bO,go_sem,seval,zaJ,intC,hlt,zbi hx,hw,hst,hlen,hb1,hb2];exact q);simp only[↓bO,go_sem,seval,zaJ,intC,hlt,zbi hx,hw,hst,hlen,hb1,hb2];refine ⟨(k+1),tz1,tz1,?_⟩;(try simp only[go_sem,seval,hlt,zbi hx,hw,hst,hlen,hb1,hb2]);exact za5
  (have hke:k=fl.length:=by (have h9:=hb27;simp at h9;omega));subst hke;apply zae;simp only[zaf,z8,zY,bA,Nat.reduceEqDiff,↓reduceIte];apply u;refine sqR fun _ u=>?_;simp only[↓bO,go_sem,seval,zaJ,intC];apply u;refine zap (Weak.recell (id:=1) (t:=28) (cs:=[.osl 2 1 ((fl.map zbS).map intC),.v (.int .i64 0),.v (.int .i64 0),.v (.slice none 0 0)]) [.sl 1 (S.vs.map intC),.v (.int .i64 0),.v (.int .i64 0),.v (.slice none 0 0)] rfl ⟨by (rw[hSv];exact Le.osl _ _ _),.refl _,.refl _,.refl _,trivial⟩) ?_;simp only[zat,Nat.reduceEqDiff,↓reduceIte];refine sqR fun _ u=>?_;refine chS 1 ?_ (by intro _ q;simp only[↓bO,go_sem,seval,zaJ,intC];exact q);refine zL 1 fun _ y=>?_;simp only[↓bO,go_sem,seval,zaJ,intC];refine APure.call (by have h9:=zjH r tz1;rw[hp,Ty.cells_eq] at h9;exact h9) ?_;(iterate 5 (apply y;clear y;refine zL 1 fun _ y=>?_;simp only[↓bO,go_sem,seval,zaJ,intC]));apply y;clear y;simp only[↓bO,go_sem,seval,zaJ,intC];apply u;refine zM fun _ u=>?_;refine sqR fun _ w=>?_;refine chS 1 ?_ (by intro _ q;simp only[↓bO,go_sem,seval,zaJ,intC];exact q);refine zL 1 fun _ y=>?_;simp only[↓bO,go_sem,seval,zaJ,intC];refine APure.call (by have h9:=zak S tz1 tz1;rw[Sch.cells_eq S,Sch.cells_eq (z1 S)] at h9;exact h9) ?_;apply y;clear y;refine chS 1 ?_ (by intro _ q;simp only[↓bO,go_sem,seval,zaJ,intC];exact q);simp only[↓bO,go_sem,seval,zaJ,intC];apply w;refine sqR fun _ w=>?_;(iterate 3 (refine chS 1 ?_ (by intro _ q;simp only[↓bO,go_sem,seval,zaJ,intC];exact q)));refine zX 52 rfl (fun hc52=>?_) (fun hc52=>?_)
  ·
   simp only[go_sem];(have he:¬e=0:=by simpa using hc52);(have hP:zeO s=(zSch,3):=by (first | exact hP | exact if_neg fun h=>he (hG.1 h).1));(iterate 20 (refine chS 1 ?_ (by intro _ q;simp only[↓bO,go_sem,seval,zaJ,intC];exact q)));simp only[↓bO,go_sem,seval,zaJ,intC];apply w;refine zO (b:=true) (by first | exact rfl | exact congrArg (fun b=>AV.v (.bool b)) hb73) (fun _=>?_) (fun h=>(by cases h));refine sqR fun _ w=>?_;(iterate 2 (refine chS 1 ?_ (by intro _ q;simp only[↓bO,go_sem,seval,zaJ,intC];exact q)));simp only[↓bO,go_sem,seval,zaJ,intC];apply w;apply zP;(try simp only[zaf,z8,zY,zbH,zbc,zau,bS,bA,zav,zaa,za4,bL,Nat.reduceAdd,Nat.reduceLeDiff,Nat.reduceEqDiff,↓reduceIte,zkU,tyX,zi,zaJ,intC]);rw[hP];first | exact Le.tup ⟨zld,.refl _,trivial⟩ | (rw[Sch.cells_eq S];exact Le.refl _)
  simp only[go_sem];(have he:e=0:=by simpa using hc52);refine chS 1 ?_ (by intro _ q;simp only[↓bO,go_sem,seval,zaJ,intC];exact q);refine zL 1 fun _ y=>?_;simp only[↓bO,go_sem,seval,zaJ,intC];refine APure.call (by have h9:=ziJ S tz1 tz1;rw[Sch.cells_eq S] at h9;exact h9) ?_;(iterate 4 (apply y;clear y;refine zL 1 fun _ y=>?_;simp only[↓bO,go_sem,seval,zaJ,intC]));apply y;clear y;refine zX 58 rfl (fun hc58=>?_) (fun hc58=>?_)
  ·
   simp only[go_sem];(have hP:zeO s=(zSch,3):=by (first | exact hP | exact if_neg fun h=>eqS_no (a:=(z1 S).ptxt) (b:=s) (zfe hc58) (hG.1 h).2.1));(iterate 14 (refine chS 1 ?_ (by intro _ q;simp only[↓bO,go_sem,seval,zaJ,intC];exact q)));simp only[↓bO,go_sem,seval,zaJ,intC];apply w;refine zO (b:=true) (by first | exact rfl | exact congrArg (fun b=>AV.v (.bool b)) hb73) (fun _=>?_) (fun h=>(by cases h));refine sqR fun _ w=>?_;(iterate 2 (refine chS 1 ?_ (by intro _ q;simp only[↓bO,go_sem,seval,zaJ,intC];exact q)));simp only[↓bO,go_sem,seval,zaJ,intC];apply w;apply zP;(try simp only[zaf,z8,zY,zbH,zbc,zau,bS,bA,zav,zaa,za4,bL,Nat.reduceAdd,Nat.reduceLeDiff,Nat.reduceEqDiff,↓reduceIte,zkU,tyX,zi,zaJ,intC]);rw[hP];first | exact Le.tup ⟨zld,.refl _,trivial⟩ | (rw[Sch.cells_eq S];exact Le.refl _)
  simp only[go_sem];have hpt:(z1 S).ptxt=s:=zcJ.1 (zfq hc58);(iterate 4 (refine chS 1 ?_ (by intro _ q;simp only[↓bO,go_sem,seval,zaJ,intC];exact q)));refine zL 1 fun _ y=>?_;simp only[↓bO,go_sem,seval,zaJ,intC];refine APure.call (zhk (z1 S).vs S.vs tz1) ?_;(iterate 3 (apply y;clear y;refine zL 1 fun _ y=>?_;simp only[↓bO,go_sem,seval,zaJ,intC]));apply y;clear y;refine zX 66 rfl (fun hc66=>?_) (fun hc66=>?_)
  ·
   simp only[go_sem];(have hP:zeO s=(zSch,3):=by (first | exact hP | exact if_neg fun h=>(by have h8:=(hG.1 h).2.2.1;have h9:=hc66;simp[h8] at h9)));(iterate 6 (refine chS 1 ?_ (by intro _ q;simp only[↓bO,go_sem,seval,zaJ,intC];exact q)));simp only[↓bO,go_sem,seval,zaJ,intC];apply w;refine zO (b:=true) (by first | exact rfl | exact congrArg (fun b=>AV.v (.bool b)) hb73) (fun _=>?_) (fun h=>(by cases h));refine sqR fun _ w=>?_;(iterate 2 (refine chS 1 ?_ (by intro _ q;simp only[↓bO,go_sem,seval,zaJ,intC];exact q)));simp only[↓bO,go_sem,seval,zaJ,intC];apply w;apply zP;(try simp only[zaf,z8,zY,zbH,zbc,zau,bS,bA,zav,zaa,za4,bL,Nat.reduceAdd,Nat.reduceLeDiff,Nat.reduceEqDiff,↓reduceIte,zkU,tyX,zi,zaJ,intC]);rw[hP];first | exact Le.tup ⟨zld,.refl _,trivial⟩ | (rw[Sch.cells_eq S];exact Le.refl _)
  simp only[go_sem];(have hve:(z1 S).vs=S.vs:=by simpa using hc66);(iterate 4 (refine chS 1 ?_ (by intro _ q;simp only[↓bO,go_sem,seval,zaJ,intC];exact q)));refine zL 1 fun _ y=>?_;simp only[↓bO,go_sem,seval,zaJ,intC];refine APure.call (by have h9:=zcY (z1 S).t S.t;rw[Ty.cells_eq (z1 S).t,Ty.cells_eq S.t] at h9;exact h9) ?_;apply y;clear y;refine chS 1 ?_ (by intro _ q;simp only[↓bO,go_sem,seval,zaJ,intC];exact q);simp only[↓bO,go_sem,seval,zaJ,intC];apply w;apply zO rfl <;> intro hb73
  ·
   (have hP:zeO s=(zSch,3):=by (first | exact hP | exact if_neg fun h=>(by have h8:=(hG.1 h).2.2.2;have h9:=hb73;simp[h8] at h9)));refine sqR fun _ w=>?_;(iterate 2 (refine chS 1 ?_ (by intro _ q;simp only[↓bO,go_sem,seval,zaJ,intC];exact q)));simp only[↓bO,go_sem,seval,zaJ,intC];apply w;apply zP;(try simp only[zaf,z8,zY,zbH,zbc,zau,bS,bA,zav,zaa,za4,bL,Nat.reduceAdd,Nat.reduceLeDiff,Nat.reduceEqDiff,↓reduceIte,zkU,tyX,zi,zaJ,intC]);rw[hP];first | exact Le.tup ⟨zld,.refl _,trivial⟩ | (rw[Sch.cells_eq S];exact Le.refl _)
  (have hte:(z1 S).t.same S.t=true:=by simpa using hb73);(have hP:zeO s=(S,0):=by (unfold zeO;rw[if_pos (hG.2 ⟨he,hpt,hve,hte⟩),hSS]));apply zS;apply u;refine sqR fun _ u=>?_;(iterate 2 (refine chS 1 ?_ (by intro _ q;simp only[↓bO,go_sem,seval,zaJ,intC];exact q)));simp only[↓bO,go_sem,seval,zaJ,intC];apply u;apply zP;(try simp only[zaf,z8,zY,zbH,zbc,zau,bS,bA,zav,zaa,za4,bL,Nat.reduceAdd,Nat.reduceLeDiff,Nat.reduceEqDiff,↓reduceIte,zkU,tyX,zi,zaJ,intC]);rw[hP];first | exact Le.tup ⟨zld,.refl _,trivial⟩ | (rw[Sch.cells_eq S];exact Le.refl _)
theorem zhg (s:ByteArray) (hs:s.size<=15000):APure Tryz.prog 9 [.v (.string s)] (.tup [.agg (zeO s).1.cells,.v (.int .i64 (zeO s).2)]) :=
 sparse_w s _ _ hs rfl _ rfl (spS s) rfl _ rfl
theorem zhJ (s m:Sch):APure Tryz.prog 19 [.agg s.cells,.agg m.cells] (.v (.bool (decide (s.vs=m.vs)&&s.t.same m.t))):=by
  refine APure.mkL (.cons Sch.agg (.cons Sch.agg .nil)) (.v _) ?_;refine aIn Tryz.func19 fun hm=>?_;simp only[Tryz.ntmps19,Tryz.results19,go_sem,seval];refine sqR fun _ u=>?_;(iterate 2 (refine chS 1 ?_ (by intro _ q;simp only[↓bO,go_sem,seval,Sch.cells];exact q)));simp only[↓bO,go_sem,seval,Sch.cells];apply u;refine sqR fun _ u=>?_;(iterate 4 (refine chS 1 ?_ (by intro _ q;simp only[↓bO,go_sem,seval,Sch.cells];exact q)));refine zL 1 fun _ y=>?_;simp only[↓bO,go_sem,seval,Sch.cells];refine APure.call (zfS s.vs m.vs) ?_;apply y;clear y;refine chS 1 ?_ (by intro _ q;simp only[↓bO,go_sem,seval,Sch.cells];exact q);simp only[go_sem];refine zX 10 rfl (fun hc10=>?_) (fun hc10=>?_)
  ·
   simp only[go_sem];(have hve:decide (s.vs=m.vs)=true:=by (first | exact hc10 | simpa using hc10));(iterate 4 (refine chS 1 ?_ (by intro _ q;simp only[↓bO,go_sem,seval,Sch.cells];exact q)));refine zL 1 fun _ y=>?_;simp only[↓bO,go_sem,seval,Sch.cells];refine APure.call (zid s.t m.t) ?_;apply y;clear y;refine chS 1 ?_ (by intro _ q;simp only[↓bO,go_sem,seval,Sch.cells];exact q);simp only[↓bO,go_sem,seval,Sch.cells];apply u;apply zP;(try simp only[go_sem]);refine Le.of_eq (congrArg (fun b=>AV.v (.bool b)) ?_);rw[hve];rfl
  simp only[go_sem];(have hve:decide (s.vs=m.vs)=false:=by (first | exact hc10 | simpa using hc10));(iterate 6 (refine chS 1 ?_ (by intro _ q;simp only[↓bO,go_sem,seval,Sch.cells];exact q)));simp only[↓bO,go_sem,seval,Sch.cells];apply u;apply zP;(try simp only[go_sem]);refine Le.of_eq (congrArg (fun b=>AV.v (.bool b)) ?_);rw[hve];rfl
def DtOk (s:ByteArray) (w:Nat×Nat):Prop:=w.1<=s.size/\((w.2=0/\dotF s (s.size-w.1) w.1=dotN s)\/(0<w.2/\w.2=dotN s))
section
variable {s:ByteArray} {w:Nat×Nat}
end
section
variable {s:ByteArray} {a z k:Nat} {V:List Int} {v:Int}
end
theorem Name_e:ePure Tryz.prog [] 60 30 53 [.v (.int .i64 0)] (.v (.string ⟨#[39,97]⟩))=true:=by kernel_rfl
theorem Trim_e:ePure Tryz.prog [] 60 30 54 [.v (.string ⟨#[39,97,32]⟩),.v (.string ⟨#[32]⟩)] (.v (.string ⟨#[39,97]⟩))=true:=by kernel_rfl
theorem PrintT_e:ePure Tryz.prog [] 60 30 56 [.agg [.v (.int .i64 4),.v (.int .i64 0),.sl 3 [[.v (.int .i64 1),.v (.int .i64 0),.sl 3 []],[.v (.int .i64 1),.v (.int .i64 1),.sl 3 []]]]] (.v (.string ⟨#[39,97,32,45,62,32,39,98]⟩))=true:=by kernel_rfl
def aw16T:Ty:=.mk 4 0 [.mk 1 0 [],.mk 1 1 []]
def aw16S:Sch:=⟨[0],aw16T⟩
def aw16U:Ty:=.mk 4 0 [.mk 2 0 [],.mk 1 1 []]
theorem zlo:aw16T.cells=[.v (.int .i64 4),.v (.int .i64 0),.sl 3 [[.v (.int .i64 1),.v (.int .i64 0),.sl 3 []],[.v (.int .i64 1),.v (.int .i64 1),.sl 3 []]]]:=by simp[aw16T,Ty.cells_eq,Ty.k,Ty.n,Ty.ps]
theorem aw16_ok:aw16S.ok=true:=by decide
theorem zk2:zff aw16T [.mk 1 1 []]=aw16S:=by
 unfold zff closeR;rw[if_pos tz3];unfold aw16S;congr 1
theorem zll:z1 aw16S=aw16S:=by
 unfold z1;rw[if_pos aw16_ok];unfold aw16S;congr 1
theorem aw16_inst:zli aw16S aw16U=true:=by decide
theorem awClose:APure Tryz.prog 35 [.agg aw16T.cells,.sl 3 [(Ty.mk 1 1 []).cells]] (.agg aw16S.cells):=by
 have h:=zjP aw16T [.mk 1 1 []] tz3 tz3;rw[zk2] at h;exact h
theorem awRight:APure Tryz.prog 38 [.agg aw16S.cells] (.v (.bool true)):=by
 have h:=zbk aw16S tz3 tz3;rw[aw16_ok] at h;exact h
theorem awInst:APure Tryz.prog 39 [.agg aw16S.cells,.agg aw16U.cells] (.v (.bool true)):=by
 have h:=zlp aw16S aw16U tz3 tz3 tz3;rw[aw16_inst] at h;exact h
theorem awArrow:APure Tryz.prog 36 [.sl 3 [(Ty.mk 1 0 []).cells,(Ty.mk 1 1 []).cells]] (.agg aw16T.cells):=zgp 2 [.mk 1 0 [],.mk 1 1 []] rfl tz3
theorem zkc:APure Tryz.prog 36 [.sl 3 [[.v (.int .i64 2),.v (.int .i64 0),.v (.slice none 0 0)],(Ty.mk 1 1 []).cells]] (.agg aw16U.cells):=by
 have h:=zgp 2 [.mk 2 0 [],.mk 1 1 []] rfl tz3;refine h.le ⟨Le.slC2 rfl (by intro y hy;simp at hy;rcases hy with rfl | rfl <;> simp[Ty.cells_len]) ⟨.refl _,.refl _,Le.slNil 3,.refl _,.refl _,.refl _,trivial⟩,trivial⟩ (.cons (.sl fun x hx=>?_) .nil);simp only[zH,List.not_mem_nil,or_false] at hx;(rcases hx with rfl | rfl);(·exact .cons (.v _) (.cons (.v _) (.cons (.v _) .nil)));exact Ty.data _
theorem awPrint:APure Tryz.prog 12 [.agg aw16S.cells] (.v (.string ⟨#[39,97,46,32,39,97,32,45,62,32,39,98]⟩)):=by
 have hc:APure Tryz.prog 14 [.agg aw16S.cells] (.agg aw16S.cells):=by
  have h:=zak aw16S tz3 tz3;rw[zll] at h;exact h
 have h:=zj9 aw16S aw16S (fun _=>⟨#[39,97]⟩) ⟨#[39,97]⟩ ⟨#[39,97,32,45,62,32,39,98]⟩ hc (fun v hv=>by
  have:v=0:=by simpa [aw16S] using hv
  subst this;exact zdt mixed Name_e) (fun _ _=>by decide) tz3 (fun _=>zdt mixed Trim_e) (by rw[show aw16S.t=aw16T from rfl,zlo];exact zdt mixed PrintT_e) tz3 tz3
 exact h
theorem zb8:APure Tryz.prog 8 [] (.v (.bool true)):=by
  refine APure.mkL (.nil) (.v _) ?_;refine aIn Tryz.func8 fun hm=>?_;simp only[Tryz.ntmps8,Tryz.results8,go_sem,seval];refine sqR fun _ u=>?_;simp only[↓bO,go_sem,seval,Sch.cells];apply u;refine zan (mB 24 2) ([(1,.eptr aw16S.cells)]) [] 0 (True) ?_ (fun hC=>?_)
  ·
   apply zN;refine zL 1 fun _ y=>?_;simp only[↓bO,go_sem,seval,Sch.cells];refine APure.call (zby 0) ?_;apply y;clear y;refine zL 1 fun _ y=>?_;simp only[↓bO,go_sem,seval,Sch.cells];refine APure.call (zby 1) ?_;apply y;clear y;refine chS 1 ?_ (by intro _ q;simp only[↓bO,go_sem,seval,↓zjW,↓ziR,↓ziQ,↓zjN,↓zjS,↓ziX,↓zjR,↓zjr,↓zi3,↓zfi,↓zfj,↓zfr,Sch.cells];exact q);refine zL 1 fun _ y=>?_;simp only[↓bO,go_sem,seval,Sch.cells];refine APure.call (awArrow) ?_;apply y;clear y;refine zL 1 fun _ y=>?_;simp only[↓bO,go_sem,seval,Sch.cells];refine APure.call (zby 1) ?_;apply y;clear y;refine chS 1 ?_ (by intro _ q;simp only[↓bO,go_sem,seval,↓zbu,↓zbw,↓zbA,↓zbC,↓zbt,↓zbE,↓zbB,↓zbG,↓zbv,↓zaP,↓zaQ,↓zaR,Sch.cells];exact q);refine zL 1 fun _ y=>?_;simp only[↓bO,go_sem,seval,Sch.cells];refine APure.call (awClose) ?_;apply y;clear y;refine chS 1 ?_ (by intro _ q;simp only[↓bO,go_sem,seval,Sch.cells];exact q);simp only[↓bO,go_sem,seval,Sch.cells];(try simp only[go_sem,seval]);(first | refine ⟨trivial,?_⟩ | skip);refine Weak.freeze ?_ trivial tz2 tz2 ?_ ?_;(· exact zdw);(· exact zdK);exact zdG
  simp only[go_sem,seval];refine zM fun _ u=>?_;refine zaW 16 [1] rfl mixed ?_;dsimp only;refine zZ 0 rfl tz0 tz0 tz0 (fun _ _ h=>h) tz0 (fun d h=>by cases h;rfl) tz0 (G':=[9,1]) tz0 fun _ y=>?_;simp only[↓bO,go_sem,seval,zaB,isE,zbK,isV,Sch.cells];apply y;clear y;refine zQ (i:=1) tz0 rfl (fun d h=>by cases h;rfl) ?_;refine opT fun _ y=>?_;simp only[↓bO,go_sem,seval,Sch.cells];refine APure.call (awRight) ?_;(try simp only[go_sem]);refine y _ ⟨⟨rfl,rfl,trivial⟩,?_⟩;clear y;refine zZ 2 rfl tz0 tz0 tz0 (fun _ _ h=>h) tz0 (fun d h=>by cases h;rfl) tz0 (G':=[9,1]) tz0 fun _ y=>?_;simp only[↓bO,go_sem,seval,zaB,isE,zbK,isV,Sch.cells];apply y;clear y;refine zaV 11 rfl (fun hc11=>?_) (fun hc11=>?_)
  ·
   simp only[go_sem];refine zZ 3 rfl tz0 tz0 tz0 (fun _ _ h=>h) tz0 (fun d h=>by cases h;rfl) tz0 (G':=[12,9,1]) tz0 fun _ y=>?_;simp only[↓bO,go_sem,seval,zaB,isE,zbK,isV,Sch.cells];apply y;clear y;refine zQ (i:=4) tz0 rfl (fun d h=>by cases h;rfl) ?_;refine zaD rfl fun _ y=>?_;simp only[↓bO,go_sem,seval,Sch.cells];refine APure.call (awPrint) ?_;(try simp only[go_sem]);refine y _ ⟨tz9,?_⟩;clear y;refine zQ (i:=5) tz0 rfl (fun d h=>by cases h;rfl) ?_;refine zaD rfl fun _ y=>?_;simp only[↓bO,go_sem,seval,Sch.cells];refine y _ ⟨tz9,?_⟩;clear y;refine zQ (i:=6) tz0 rfl (fun d h=>by cases h;rfl) ?_;refine opT fun _ y=>?_;simp only[↓bO,go_sem,seval,Sch.cells];refine y _ ⟨tz9,?_⟩;clear y;refine zZ 7 rfl tz0 tz0 tz0 (fun _ _ h=>h) tz0 (fun d h=>by cases h;rfl) tz0 (G':=[12,9,1]) tz0 fun _ y=>?_;simp only[↓bO,go_sem,seval,zaB,isE,zbK,isV,Sch.cells];apply y;clear y;refine zaV 16 rfl (fun hc16=>?_) (fun hc16=>?_)
   ·
    simp only[go_sem];refine zZ 8 rfl tz0 tz0 tz0 (fun _ _ h=>h) tz0 (fun d h=>by cases h;rfl) tz0 (G':=[17,12,9,1]) tz0 fun _ y=>?_;simp only[↓bO,go_sem,seval,zaB,isE,zbK,isV,Sch.cells];apply y;clear y;refine za0 (i:=9) (j:=10) tz0 rfl rfl (fun d h=>by cases h;rfl) (fun d h=>by cases h;rfl) ?_ ?_
    ·
     refine zaD rfl fun _ y=>?_;simp only[↓bO,go_sem,seval,Sch.cells];refine y _ ⟨zaA,?_⟩;clear y;refine zQ (i:=10) tz0 rfl (fun d h=>by cases h;rfl) ?_;refine zaD rfl fun _ y=>?_;simp only[↓bO,go_sem,seval,Sch.cells];refine APure.call (zby 1) ?_;(try simp only[go_sem]);refine y _ ⟨zaA,?_⟩;clear y;refine zQ (i:=11) tz0 rfl (fun d h=>by cases h;rfl) ?_;refine zaD rfl fun _ y=>?_;simp only[↓bO,go_sem,seval,↓zjW,↓ziR,↓ziQ,↓zjN,↓zjS,↓ziX,↓zjR,↓zjr,↓zi3,↓zfi,↓zfj,↓zfr,Sch.cells];refine y _ ⟨zaA,?_⟩;clear y;refine zQ (i:=12) tz0 rfl (fun d h=>by cases h;rfl) ?_;refine zaD rfl fun _ y=>?_;simp only[↓bO,go_sem,seval,Sch.cells];refine APure.call (zkc) ?_;(try simp only[go_sem]);refine y _ ⟨zaA,?_⟩;clear y;refine zQ (i:=13) tz0 rfl (fun d h=>by cases h;rfl) ?_;refine zaD rfl fun _ y=>?_;simp only[↓bO,go_sem,seval,Sch.cells];refine APure.call (awInst) ?_;(try simp only[go_sem]);refine y _ ⟨zaA,?_⟩;clear y;refine zQ (i:=14) tz0 rfl (fun d h=>by cases h;rfl) ?_;refine opT fun _ y=>?_;simp only[↓bO,go_sem,seval,Sch.cells];refine y _ ⟨zaA,?_⟩;clear y;refine zQ (i:=15) tz0 rfl (fun d h=>by cases h;rfl) ?_;refine opT fun _ y=>?_;simp only[↓bO,go_sem,seval,Sch.cells];refine y _ ⟨zaA,?_⟩;clear y;refine zal tz0 ?_;simp only[go_sem];apply u;apply zP;exact Le.refl _
    refine zaD rfl fun _ y=>?_;simp only[↓bO,go_sem,seval,Sch.cells];refine APure.call (zby 1) ?_;(try simp only[go_sem]);refine y _ ⟨zaA,?_⟩;clear y;refine zQ (i:=9) tz0 rfl (fun d h=>by cases h;rfl) ?_;refine zaD rfl fun _ y=>?_;simp only[↓bO,go_sem,seval,Sch.cells];refine y _ ⟨zaA,?_⟩;clear y;refine zQ (i:=11) tz0 rfl (fun d h=>by cases h;rfl) ?_;refine zaD rfl fun _ y=>?_;simp only[↓bO,go_sem,seval,↓zjW,↓ziR,↓ziQ,↓zjN,↓zjS,↓ziX,↓zjR,↓zjr,↓zi3,↓zfi,↓zfj,↓zfr,Sch.cells];refine y _ ⟨zaA,?_⟩;clear y;refine zQ (i:=12) tz0 rfl (fun d h=>by cases h;rfl) ?_;refine zaD rfl fun _ y=>?_;simp only[↓bO,go_sem,seval,Sch.cells];refine APure.call (zkc) ?_;(try simp only[go_sem]);refine y _ ⟨zaA,?_⟩;clear y;refine zQ (i:=13) tz0 rfl (fun d h=>by cases h;rfl) ?_;refine zaD rfl fun _ y=>?_;simp only[↓bO,go_sem,seval,Sch.cells];refine APure.call (awInst) ?_;(try simp only[go_sem]);refine y _ ⟨zaA,?_⟩;clear y;refine zQ (i:=14) tz0 rfl (fun d h=>by cases h;rfl) ?_;refine opT fun _ y=>?_;simp only[↓bO,go_sem,seval,Sch.cells];refine y _ ⟨zaA,?_⟩;clear y;refine zQ (i:=15) tz0 rfl (fun d h=>by cases h;rfl) ?_;refine opT fun _ y=>?_;simp only[↓bO,go_sem,seval,Sch.cells];refine y _ ⟨zaA,?_⟩;clear y;refine zal tz0 ?_;simp only[go_sem];apply u;apply zP;exact Le.refl _
   simp only[go_sem];exact absurd hc16 tz4
  simp only[go_sem];exact absurd hc11 tz4
theorem zf3 (s:Sch) (hc:s.t.cnt<=400) (hv:s.vs.length<=40):(z1 s).ptxt.size<=14000:=by
 have h1:=zdX s;have h2:=zdL s;have h3:=jn_size (zfM (s:=s) tz1 tz1);have h4:=@zkb (z1 s).t;unfold Sch.ptxt;split
 ·rw[ByteArray.size_append,ByteArray.size_append]
  have:(⟨#[46,32]⟩:ByteArray).size=2:=rfl;omega
 omega
theorem zjl {s:Sch} (h:s.ok=true) (hc:s.t.cnt<=1048576):zeO (z1 s).ptxt=(z1 s,0):=by
 obtain ⟨h1,_,_⟩:=zdZ h hc;have h2:=zgd h hc;have hg:ziM (z1 s).ptxt:=(zk6 _).2 ⟨z1 s,h1,h2,(zdR h1).symm⟩;unfold zeO;rw[if_pos hg,zdR h1,(spS_txt h1).1]
theorem zkL {s:Sch} (h:s.ok=true) (hc:s.t.cnt<=1048576):zb1 s (z1 s)=true:=by
 obtain ⟨h1,_,_⟩:=zdZ h hc;have h2:=zgd h hc;unfold zb1;rw[h,h1,h2,Ty.same_refl];simp
theorem alike_ref {a b:Sch} (ha:a.ok=true) (hb:b.ok=true):zb1 a b=(decide ((z1 a).vs=(z1 b).vs)&&(z1 a).t.same (z1 b).t):=by
 unfold zb1;rw[ha,hb];rfl
theorem alike_nob {a b:Sch} (hb:b.ok=false):zb1 a b=false:=by unfold zb1;rw[hb];simp
theorem alike_noa {a b:Sch} (ha:a.ok=false):zb1 a b=false:=by unfold zb1;rw[ha];rfl
theorem zkn {a:Sch} (ha:a.ok=false):z1 a=zSch:=by unfold z1;rw[if_neg (by simp[ha])]
theorem zSch_txt:zSch.ptxt=(⟨#[]⟩:ByteArray):=by decide +kernel
theorem zSch_same:(decide (zSch.vs=zSch.vs)&&zSch.t.same zSch.t)=true:=by decide
theorem zkr (S:Sch):(decide (S.vs=S.vs)&&S.t.same S.t)=true:=by rw[Ty.same_refl];simp
def alR (a b:Sch):Bool:=b.ok&&(decide ((z1 a).vs=(z1 b).vs)&&(z1 a).t.same (z1 b).t)
theorem alR_eq {a b:Sch} (ha:a.ok=true):zb1 a b=alR a b:=by
 unfold alR
 cases hb:b.ok with
 | true=>rw[alike_ref ha hb];rfl
 | false=>rw[alike_nob hb];rfl
theorem tz11 {p:Prop} (h:p:=by exact ⟨rfl,rfl,rfl,rfl,rfl,rfl,trivial⟩):p:=h
theorem tz12 {p:Prop} (h:p:=by exact ⟨rfl,rfl,rfl,rfl,rfl,rfl,rfl,rfl,trivial⟩):p:=h
theorem tz13 {p:Prop} (h:p:=by exact ⟨rfl,rfl,rfl,rfl,rfl,rfl,rfl,rfl,rfl,rfl,rfl,rfl,trivial⟩):p:=h
theorem tz14 {p:Prop} (h:p:=by exact ⟨rfl,rfl,rfl,rfl,rfl,rfl,rfl,rfl,rfl,rfl,rfl,rfl,rfl,rfl,trivial⟩):p:=h
theorem zeU (a b:Sch):APure Tryz.prog 4 [.agg a.cells,.agg b.cells] (.v (.bool true)):=by
  refine APure.mkL (.cons Sch.agg (.cons Sch.agg .nil)) (.v _) ?_;refine aIn Tryz.func4 fun hm=>?_;simp only[Tryz.ntmps4,Tryz.results4,go_sem,seval];have hcc:=zdX a;have hcl:=zdL a;refine zan (mB 96 12) ([(2,.eptr a.cells),(3,.eptr b.cells)]) [] 0 (True) ?_ (fun hC=>?_)
  ·
   apply zN;(iterate 2 (refine chS 1 ?_ (by intro _ q;simp only[↓bO,go_sem,seval,Sch.cells];exact q)));simp only[↓bO,go_sem,seval,Sch.cells];(try simp only[go_sem,seval]);(first | refine ⟨trivial,?_⟩ | skip);refine Weak.freeze ?_ trivial tz2 tz2 ?_ ?_;(· exact zdw);(· exact zdK);exact zdG
  simp only[go_sem,seval];refine zM fun _ u=>?_;refine sqR fun _ w=>?_;refine chS 1 ?_ (by intro _ q;simp only[↓bO,go_sem,seval,Sch.cells];exact q);refine zL 1 fun _ y=>?_;simp only[↓bO,go_sem,seval,Sch.cells];refine APure.call (zeL a) ?_;apply y;clear y;refine chS 1 ?_ (by intro _ q;simp only[↓bO,go_sem,seval,Sch.cells];exact q);simp only[go_sem];refine zX 13 rfl (fun hc13=>?_) (fun hc13=>?_)
  ·
   (iterate 2 (refine chS 1 ?_ (by intro _ q;simp only[↓bO,go_sem,seval,Sch.cells];exact q)));simp only[↓bO,go_sem,seval,Sch.cells];apply w;refine zO (b:=true) (by first | exact rfl | exact congrArg (fun b=>AV.v (.bool b)) hb16) (fun _=>?_) (fun h=>(by cases h));refine sqR fun _ w=>?_;refine zL 1 fun _ y=>?_;simp only[↓bO,go_sem,seval,Sch.cells];refine APure.call (zb8) ?_;apply y;clear y;simp only[↓bO,go_sem,seval,Sch.cells];apply w;apply zP;(try simp only[go_sem]);first | exact Le.refl _ | (refine Le.of_eq (congrArg (fun b=>AV.v (.bool b)) ?_);simp_all;done)
  simp only[go_sem];have hga:=Sch.great_spec (by first | exact hc13 | simpa using hc13);refine chS 1 ?_ (by intro _ q;simp only[↓bO,go_sem,seval,Sch.cells];exact q);refine zL 1 fun _ y=>?_;simp only[↓bO,go_sem,seval,Sch.cells];refine APure.call (zeL b) ?_;apply y;clear y;simp only[↓bO,go_sem,seval,Sch.cells];apply w;apply zO rfl <;> intro hb16
  ·
   refine sqR fun _ w=>?_;refine zL 1 fun _ y=>?_;simp only[↓bO,go_sem,seval,Sch.cells];refine APure.call (zb8) ?_;apply y;clear y;simp only[↓bO,go_sem,seval,Sch.cells];apply w;apply zP;(try simp only[go_sem]);first | exact Le.refl _ | (refine Le.of_eq (congrArg (fun b=>AV.v (.bool b)) ?_);simp_all;done)
  have hga:=Sch.great_spec (s:=a) (by first | exact hga0 | simp_all);have hgb:=Sch.great_spec (s:=b) (by first | exact hb16 | simpa using hb16);apply zS;apply u;refine zan (mB 96 108) ([(5,.eptr (z1 a).cells),(6,.v (.string (z1 a).ptxt))]) [] 0 (True) ?_ (fun hC=>?_)
  ·
   refine zaG 7 mixed tz0 fun J0 j0=>?_;simp only[go_sem];refine z7 1 fun _ y=>?_;simp only[↓zaE,↓dOp,↓bO,go_sem,seval,Sch.cells];apply y;clear y;refine z7 1 fun _ y=>?_;simp only[↓zaE,↓dOp,↓bO,go_sem,seval,Sch.cells];refine ⟨_,zbo a,?_⟩;apply y;clear y;refine z7 1 fun _ y=>?_;simp only[↓zaE,↓dOp,↓bO,go_sem,seval,Sch.cells];refine ⟨_,zak a tz1 tz1,?_⟩;(iterate 2 (apply y;clear y;refine z7 1 fun _ y=>?_;simp only[↓zaE,↓dOp,↓bO,go_sem,seval,Sch.cells]));refine ⟨_,zbo a,?_⟩;apply y;clear y;refine z7 1 fun _ y=>?_;simp only[↓zaE,↓dOp,↓bO,go_sem,seval,Sch.cells];refine ⟨_,ziJ a tz1 tz1,?_⟩;apply y;clear y;simp only[↓zaE,↓dOp,↓bO,go_sem,seval,Sch.cells];refine j0 _ ?_;clear j0 J0;refine chS 1 ?_ (by intro _ q;simp only[↓bO,go_sem,seval,Sch.cells];exact q);simp only[↓bO,go_sem,seval,Sch.cells];(try simp only[go_sem,seval]);(first | refine ⟨trivial,?_⟩ | skip);refine Weak.freeze ?_ trivial tz2 tz2 ?_ ?_;(· exact zdw);(· exact zdK);exact zdG
  simp only[go_sem,seval];refine zM fun _ u=>?_;refine sqR fun _ w=>?_;refine chS 1 ?_ (by intro _ q;simp only[↓bO,go_sem,seval,Sch.cells];exact q);refine zL 1 fun _ y=>?_;simp only[↓bO,go_sem,seval,Sch.cells];refine APure.call (zeE a tz1) ?_;apply y;clear y;simp only[↓bO,go_sem,seval,Sch.cells];apply w;apply zO rfl <;> intro hb26
  ·
   (have hao:a.ok=false:=by simpa using hb26);refine zM fun _ w=>?_;refine zaW 19 [2,3,5] rfl mixed ?_;dsimp only;refine zZ 0 rfl tz0 tz0 tz0 (fun _ _ h=>h) tz0 (fun d h=>by cases h;rfl) tz0 (G':=[27,2,3,5]) tz0 fun _ y=>?_;simp only[↓bO,go_sem,seval,zaB,isE,zbK,isV,Sch.cells];apply y;clear y;refine zQ (i:=1) tz0 rfl (fun d h=>by cases h;rfl) ?_;refine opT fun _ y=>?_;simp only[↓bO,go_sem,seval,Sch.cells];refine y _ ⟨zaA,?_⟩;clear y;refine zQ (i:=2) tz0 rfl (fun d h=>by cases h;rfl) ?_;refine opT fun _ y=>?_;simp only[↓bO,go_sem,seval,Sch.cells];refine ACalls.args (args':=[.agg zSch.cells,.agg zSch.cells]) ⟨by rw[zkn hao];exact .refl _,zld,trivial⟩ ?_;refine APure.call (zdx zSch zSch) ?_;(try rw[zSch_same]);(try simp only[go_sem]);refine y _ ⟨zaA,?_⟩;clear y;refine zZ 3 rfl tz0 tz0 tz0 (fun _ _ h=>h) tz0 (fun d h=>by cases h;rfl) tz0 (G':=[27,2,3,5]) tz0 fun _ y=>?_;simp only[↓bO,go_sem,seval,zaB,isE,zbK,isV,Sch.cells];apply y;clear y;refine zaV 30 rfl (fun hc30=>?_) (fun hc30=>?_)
   ·
    simp only[go_sem];refine zZ 4 rfl tz0 tz0 tz0 (fun _ _ h=>h) tz0 (fun d h=>by cases h;rfl) tz0 (G':=[27,2,3,5]) tz0 fun _ y=>?_;simp only[↓bO,go_sem,seval,zaB,isE,zbK,isV,Sch.cells];apply y;clear y;refine zQ (i:=5) tz0 rfl (fun d h=>by cases h;rfl) ?_;refine zaD rfl fun _ y=>?_;simp only[↓bO,go_sem,seval,Sch.cells];refine y _ ⟨zaA,?_⟩;clear y;refine zQ (i:=6) tz0 rfl (fun d h=>by cases h;rfl) ?_;refine opT fun _ y=>?_;simp only[↓bO,go_sem,seval,Sch.cells];refine y _ ⟨zaA,?_⟩;clear y;refine zZ 7 rfl tz0 tz0 tz0 (fun _ _ h=>h) tz0 (fun d h=>by cases h;rfl) tz0 (G':=[27,2,3,5]) tz0 fun _ y=>?_;simp only[↓bO,go_sem,seval,zaB,isE,zbK,isV,Sch.cells];apply y;clear y;refine zaV 34 rfl (fun hc34=>?_) (fun hc34=>?_)
    ·
     simp only[go_sem];refine zZ 8 rfl tz0 tz0 tz0 (fun _ _ h=>h) tz0 (fun d h=>by cases h;rfl) tz0 (G':=[35,27,2,3,5]) tz0 fun _ y=>?_;simp only[↓bO,go_sem,seval,zaB,isE,zbK,isV,Sch.cells];apply y;clear y;refine zZ 10 rfl tz0 tz0 tz0 (fun _ _ h=>h) tz0 (fun d h=>by cases h;rfl) tz0 (G':=[37,35,27,2,3,5]) tz0 fun _ y=>?_;simp only[↓bO,go_sem,seval,zaB,isE,zbK,isV,Sch.cells];apply y;clear y;refine zQ (i:=9) tz0 rfl (fun d h=>by cases h;rfl) ?_;refine zaD rfl fun _ y=>?_;simp only[↓bO,go_sem,seval,Sch.cells];refine APure.call (zbo a) ?_;(try simp only[go_sem]);refine y _ ⟨tz11,?_⟩;clear y;refine zQ (i:=11) tz0 rfl (fun d h=>by cases h;rfl) ?_;refine zaD rfl fun _ y=>?_;simp only[↓bO,go_sem,seval,Sch.cells];refine APure.call (zbo b) ?_;(try simp only[go_sem]);refine y _ ⟨tz11,?_⟩;clear y;refine zQ (i:=12) tz0 rfl (fun d h=>by cases h;rfl) ?_;refine zaD rfl fun _ y=>?_;simp only[↓bO,go_sem,seval,Sch.cells];refine APure.call (zdA a b tz1 tz1 tz1 tz1 tz1) ?_;(try simp only[go_sem]);refine y _ ⟨tz11,?_⟩;clear y;refine zQ (i:=13) tz0 rfl (fun d h=>by cases h;rfl) ?_;refine zaD rfl fun _ y=>?_;simp only[↓bO,go_sem,seval,Sch.cells];refine y _ ⟨tz11,?_⟩;clear y;refine zQ (i:=14) tz0 rfl (fun d h=>by cases h;rfl) ?_;refine opT fun _ y=>?_;simp only[↓bO,go_sem,seval,Sch.cells];refine y _ ⟨tz11,?_⟩;clear y;refine zZ 15 rfl tz0 tz0 tz0 (fun _ _ h=>h) tz0 (fun d h=>by cases h;rfl) tz0 (G':=[37,35,27,2,3,5]) tz0 fun _ y=>?_;simp only[↓bO,go_sem,seval,zaB,isE,zbK,isV,Sch.cells];apply y;clear y;refine zaV 42 rfl (fun hc42=>?_) (fun hc42=>?_)
     ·
      simp only[go_sem];refine zQ (i:=16) tz0 rfl (fun d h=>by cases h;rfl) ?_;refine zaD rfl fun _ y=>?_;simp only[↓bO,go_sem,seval,Sch.cells];refine APure.call (zb8) ?_;(try simp only[go_sem]);refine y _ ⟨tz11,?_⟩;clear y;refine zQ (i:=17) tz0 rfl (fun d h=>by cases h;rfl) ?_;refine opT fun _ y=>?_;simp only[↓bO,go_sem,seval,Sch.cells];refine y _ ⟨tz11,?_⟩;clear y;refine zQ (i:=18) tz0 rfl (fun d h=>by cases h;rfl) ?_;refine opT fun _ y=>?_;simp only[↓bO,go_sem,seval,Sch.cells];refine y _ ⟨tz11,?_⟩;clear y;refine zal tz0 ?_;simp only[go_sem];apply w;apply zP;(try simp only[go_sem]);first | exact Le.refl _ | (refine Le.of_eq (congrArg (fun b=>AV.v (.bool b)) ?_);simp_all;done)
     simp only[go_sem];exact absurd hc42 (by (rw[alike_noa hao];decide))
    simp only[go_sem];exact absurd hc34 (by (rw[zkn hao,zSch_txt];simp))
   simp only[go_sem];exact absurd hc30 tz4
  (have hao:a.ok=true:=by simpa using hb26);have hca:=zdZ hao tz1;have hptx:(z1 a).ptxt=(z1 a).txt:=zdR hca.1;apply zS;apply u;refine zan (mB 96 236) ([(7,.eptr (z1 a).cells)]) [] 0 (True) ?_ (fun hC=>?_)
  ·
   apply zN;refine chS 1 ?_ (by intro _ q;simp only[↓bO,go_sem,seval,Sch.cells];exact q);refine zL 1 fun _ y=>?_;simp only[↓bO,go_sem,seval,Sch.cells];refine APure.call (zd3 a hao tz1 tz1) ?_;apply y;clear y;refine chS 1 ?_ (by intro _ q;simp only[↓bO,go_sem,seval,Sch.cells];exact q);simp only[↓bO,go_sem,seval,Sch.cells];(try simp only[go_sem,seval]);(first | refine ⟨trivial,?_⟩ | skip);refine Weak.freeze ?_ trivial tz2 tz2 ?_ ?_;(· exact zdw);(· exact zdK);exact zdG
  simp only[go_sem,seval];refine zaC (mB 96 492) ([(8,.v (.bool (alR a b)))]) ([]) ?_ ?_
  ·
   refine zaW 9 [2,3,7] rfl mixed ?_;dsimp only;refine zZ 0 rfl tz0 tz0 tz0 (fun _ _ h=>h) tz0 (fun d h=>by cases h;rfl) tz0 (G':=[47,2,3,7]) tz0 fun _ y=>?_;simp only[↓bO,go_sem,seval,zaB,isE,zbK,isV,Sch.cells];apply y;clear y;refine zQ (i:=1) tz0 rfl (fun d h=>by cases h;rfl) ?_;refine opT fun _ y=>?_;simp only[↓bO,go_sem,seval,Sch.cells];refine APure.call (zeE b tz1) ?_;(try simp only[go_sem]);refine y _ ⟨zaA,?_⟩;clear y;refine zZ 2 rfl tz0 tz0 tz0 (fun _ _ h=>h) tz0 (fun d h=>by cases h;rfl) tz0 (G':=[47,2,3,7]) tz0 fun _ y=>?_;simp only[↓bO,go_sem,seval,zaB,isE,zbK,isV,Sch.cells];apply y;clear y;refine zaV 49 rfl (fun hc49=>?_) (fun hc49=>?_)
   ·
    simp only[go_sem];(have hbo:b.ok=true:=by (have h9:=hc49;simpa using h9));refine zZ 3 rfl tz0 tz0 tz0 (fun _ _ h=>h) tz0 (fun d h=>by cases h;rfl) tz0 (G':=[50,47,2,3,7]) tz0 fun _ y=>?_;simp only[↓bO,go_sem,seval,zaB,isE,zbK,isV,Sch.cells];apply y;clear y;refine zZ 4 rfl tz0 tz0 tz0 (fun _ _ h=>h) tz0 (fun d h=>by cases h;rfl) tz0 (G':=[51,50,47,2,3,7]) tz0 fun _ y=>?_;simp only[↓bO,go_sem,seval,zaB,isE,zbK,isV,Sch.cells];apply y;clear y;refine zQ (i:=5) tz0 rfl (fun d h=>by cases h;rfl) ?_;refine zaD rfl fun _ y=>?_;simp only[↓bO,go_sem,seval,Sch.cells];refine APure.call (zd3 b hbo tz1 tz1) ?_;(try simp only[go_sem]);refine y _ ⟨tz11,?_⟩;clear y;refine zQ (i:=6) tz0 rfl (fun d h=>by cases h;rfl) ?_;refine zaD rfl fun _ y=>?_;simp only[↓bO,go_sem,seval,Sch.cells];refine APure.call (zhJ (z1 a) (z1 b)) ?_;(try simp only[go_sem]);refine y _ ⟨tz11,?_⟩;clear y;refine zQ (i:=7) tz0 rfl (fun d h=>by cases h;rfl) ?_;refine opT fun _ y=>?_;simp only[↓bO,go_sem,seval,Sch.cells];refine y _ ⟨tz11,?_⟩;clear y;refine zQ (i:=8) tz0 rfl (fun d h=>by cases h;rfl) ?_;refine opT fun _ y=>?_;simp only[↓bO,go_sem,seval,Sch.cells];refine y _ ⟨tz11,?_⟩;clear y;refine zal tz0 ?_;simp only[go_sem];(try simp only[go_sem,seval]);refine Weak.mk ?_ (fun _ _ h=>h) rfl rfl;repeat' first | exact trivial | exact .refl _ | exact .any _ | exact Le.of_eq (congrArg (fun b=>AV.v (.bool b)) (by unfold alR;first | (rw[hbo];rfl) | (rw[hbo];simp))) | (refine ⟨?_,?_⟩)
   simp only[go_sem];(have hbo:b.ok=false:=by (have h9:=hc49;simpa using h9));refine zc8 3 rfl tz0 tz0 tz0 (fun _ _ h=>h) tz0 (fun d h=>by cases h;rfl) ?_;simp only[go_sem];refine zc8 4 rfl tz0 tz0 tz0 (fun _ _ h=>h) tz0 (fun d h=>by cases h;rfl) ?_;simp only[go_sem];refine zc8 5 rfl tz0 tz0 tz0 (fun _ _ h=>h) tz0 (fun d h=>by cases h;rfl) ?_;simp only[go_sem];refine zc8 6 rfl tz0 tz0 tz0 (fun _ _ h=>h) tz0 (fun d h=>by cases h;rfl) ?_;simp only[go_sem];refine zQ (i:=7) tz0 rfl (fun d h=>by cases h;rfl) ?_;refine opT fun _ y=>?_;simp only[↓bO,go_sem,seval,Sch.cells];refine y _ ⟨zaA,?_⟩;clear y;refine zQ (i:=8) tz0 rfl (fun d h=>by cases h;rfl) ?_;refine opT fun _ y=>?_;simp only[↓bO,go_sem,seval,Sch.cells];refine y _ ⟨zaA,?_⟩;clear y;refine zal tz0 ?_;simp only[go_sem];(try simp only[go_sem,seval]);refine Weak.mk ?_ (fun _ _ h=>h) rfl rfl;repeat' first | exact trivial | exact .refl _ | exact .any _ | exact Le.of_eq (congrArg (fun b=>AV.v (.bool b)) (by unfold alR;first | (rw[hbo];rfl) | (rw[hbo];simp))) | (refine ⟨?_,?_⟩)
  simp only[go_sem,seval];refine zan (mB 96 2028) ([(9,.eptr (z1 a).cells),(10,.v (.int .i64 0))]) [] 0 (True) ?_ (fun hC=>?_)
  ·
   apply zN;refine chS 1 ?_ (by intro _ q;simp only[↓bO,go_sem,seval,Sch.cells];exact q);refine zL 1 fun _ y=>?_;simp only[↓bO,go_sem,seval,Sch.cells];refine APure.call (by have h9:=zhg (z1 a).ptxt (by have:=zf3 a tz1 tz1;omega);rw[zjl hao tz1] at h9;exact h9) ?_;(iterate 5 (apply y;clear y;refine zL 1 fun _ y=>?_;simp only[↓bO,go_sem,seval,Sch.cells]));apply y;clear y;simp only[↓bO,go_sem,seval,Sch.cells];(try simp only[go_sem,seval]);(first | refine ⟨trivial,?_⟩ | skip);refine Weak.freeze ?_ trivial tz2 tz2 ?_ ?_;(· exact zdw);(· exact zdK);exact zdG
  simp only[go_sem,seval];refine zM fun _ u=>?_;refine zaW 37 [2,3,5,7,9] rfl mixed ?_;dsimp only;refine zZ 0 rfl tz0 tz0 tz0 (fun _ _ h=>h) tz0 (fun d h=>by cases h;rfl) tz0 (G':=[60,2,3,5,7,9]) tz0 fun _ y=>?_;simp only[↓bO,go_sem,seval,zaB,isE,zbK,isV,Sch.cells];apply y;clear y;refine zZ 1 rfl tz0 tz0 tz0 (fun _ _ h=>h) tz0 (fun d h=>by cases h;rfl) tz0 (G':=[61,60,2,3,5,7,9]) tz0 fun _ y=>?_;simp only[↓bO,go_sem,seval,zaB,isE,zbK,isV,Sch.cells];apply y;clear y;refine zQ (i:=2) tz0 rfl (fun d h=>by cases h;rfl) ?_;refine opT fun _ y=>?_;simp only[↓bO,go_sem,seval,Sch.cells];refine APure.call (by have h9:=zdx (z1 a) (z1 a);rw[zkr] at h9;exact h9) ?_;(try simp only[go_sem]);refine y _ ⟨⟨rfl,rfl,rfl,rfl,rfl,rfl,rfl,trivial⟩,?_⟩;clear y;refine zZ 3 rfl tz0 tz0 tz0 (fun _ _ h=>h) tz0 (fun d h=>by cases h;rfl) tz0 (G':=[61,60,2,3,5,7,9]) tz0 fun _ y=>?_;simp only[↓bO,go_sem,seval,zaB,isE,zbK,isV,Sch.cells];apply y;clear y;refine zaV 63 rfl (fun hc63=>?_) (fun hc63=>?_)
  ·
   simp only[go_sem];refine zZ 4 rfl tz0 tz0 tz0 (fun _ _ h=>h) tz0 (fun d h=>by cases h;rfl) tz0 (G':=[61,60,2,3,5,7,9]) tz0 fun _ y=>?_;simp only[↓bO,go_sem,seval,zaB,isE,zbK,isV,Sch.cells];apply y;clear y;refine zZ 5 rfl tz0 tz0 tz0 (fun _ _ h=>h) tz0 (fun d h=>by cases h;rfl) tz0 (G':=[65,61,60,2,3,5,7,9]) tz0 fun _ y=>?_;simp only[↓bO,go_sem,seval,zaB,isE,zbK,isV,Sch.cells];apply y;clear y;refine zQ (i:=6) tz0 rfl (fun d h=>by cases h;rfl) ?_;refine zaD rfl fun _ y=>?_;simp only[↓bO,go_sem,seval,Sch.cells];refine APure.call (zhT (z1 a) (Sch.ok_iff.1 hca.1).1 (fun v hm=>Sch.vs_known hca.1 hm) tz1 tz1) ?_;(try simp only[go_sem]);refine y _ ⟨tz12,?_⟩;clear y;refine zQ (i:=7) tz0 rfl (fun d h=>by cases h;rfl) ?_;refine zaD rfl fun _ y=>?_;simp only[↓bO,go_sem,seval,Sch.cells];refine y _ ⟨tz12,?_⟩;clear y;refine zQ (i:=8) tz0 rfl (fun d h=>by cases h;rfl) ?_;refine opT fun _ y=>?_;simp only[↓bO,go_sem,seval,Sch.cells];refine y _ ⟨tz12,?_⟩;clear y;refine zZ 9 rfl tz0 tz0 tz0 (fun _ _ h=>h) tz0 (fun d h=>by cases h;rfl) tz0 (G':=[65,61,60,2,3,5,7,9]) tz0 fun _ y=>?_;simp only[↓bO,go_sem,seval,zaB,isE,zbK,isV,Sch.cells];apply y;clear y;refine zaV 69 rfl (fun hc69=>?_) (fun hc69=>?_)
   ·
    simp only[go_sem];refine zZ 10 rfl tz0 tz0 tz0 (fun _ _ h=>h) tz0 (fun d h=>by cases h;rfl) tz0 (G':=[65,61,60,2,3,5,7,9]) tz0 fun _ y=>?_;simp only[↓bO,go_sem,seval,zaB,isE,zbK,isV,Sch.cells];apply y;clear y;refine zQ (i:=11) tz0 rfl (fun d h=>by cases h;rfl) ?_;refine zaD rfl fun _ y=>?_;simp only[↓bO,go_sem,seval,Sch.cells];refine y _ ⟨tz12,?_⟩;clear y;refine zQ (i:=12) tz0 rfl (fun d h=>by cases h;rfl) ?_;refine opT fun _ y=>?_;simp only[↓bO,go_sem,seval,Sch.cells];refine y _ ⟨tz12,?_⟩;clear y;refine zZ 13 rfl tz0 tz0 tz0 (fun _ _ h=>h) tz0 (fun d h=>by cases h;rfl) tz0 (G':=[65,61,60,2,3,5,7,9]) tz0 fun _ y=>?_;simp only[↓bO,go_sem,seval,zaB,isE,zbK,isV,Sch.cells];apply y;clear y;refine zaV 73 rfl (fun hc73=>?_) (fun hc73=>?_)
    ·
     simp only[go_sem];refine zZ 14 rfl tz0 tz0 tz0 (fun _ _ h=>h) tz0 (fun d h=>by cases h;rfl) tz0 (G':=[74,65,61,60,2,3,5,7,9]) tz0 fun _ y=>?_;simp only[↓bO,go_sem,seval,zaB,isE,zbK,isV,Sch.cells];apply y;clear y;refine zZ 15 rfl tz0 tz0 tz0 (fun _ _ h=>h) tz0 (fun d h=>by cases h;rfl) tz0 (G':=[75,74,65,61,60,2,3,5,7,9]) tz0 fun _ y=>?_;simp only[↓bO,go_sem,seval,zaB,isE,zbK,isV,Sch.cells];apply y;clear y;refine zQ (i:=16) tz0 rfl (fun d h=>by cases h;rfl) ?_;refine zaD rfl fun _ y=>?_;simp only[↓bO,go_sem,seval,Sch.cells];refine APure.call (by have h9:=zdx (z1 a) (z1 a);rw[zkr] at h9;exact h9) ?_;(try simp only[go_sem]);refine y _ ⟨⟨rfl,rfl,rfl,rfl,rfl,rfl,rfl,rfl,rfl,rfl,trivial⟩,?_⟩;clear y;refine zQ (i:=17) tz0 rfl (fun d h=>by cases h;rfl) ?_;refine opT fun _ y=>?_;simp only[↓bO,go_sem,seval,Sch.cells];refine y _ ⟨⟨rfl,rfl,rfl,rfl,rfl,rfl,rfl,rfl,rfl,rfl,trivial⟩,?_⟩;clear y;refine zZ 18 rfl tz0 tz0 tz0 (fun _ _ h=>h) tz0 (fun d h=>by cases h;rfl) tz0 (G':=[75,74,65,61,60,2,3,5,7,9]) tz0 fun _ y=>?_;simp only[↓bO,go_sem,seval,zaB,isE,zbK,isV,Sch.cells];apply y;clear y;refine zaV 78 rfl (fun hc78=>?_) (fun hc78=>?_)
     ·
      simp only[go_sem];refine zZ 19 rfl tz0 tz0 tz0 (fun _ _ h=>h) tz0 (fun d h=>by cases h;rfl) tz0 (G':=[79,75,74,65,61,60,2,3,5,7,9]) tz0 fun _ y=>?_;simp only[↓bO,go_sem,seval,zaB,isE,zbK,isV,Sch.cells];apply y;clear y;refine zZ 21 rfl tz0 tz0 tz0 (fun _ _ h=>h) tz0 (fun d h=>by cases h;rfl) tz0 (G':=[81,79,75,74,65,61,60,2,3,5,7,9]) tz0 fun _ y=>?_;simp only[↓bO,go_sem,seval,zaB,isE,zbK,isV,Sch.cells];apply y;clear y;refine zZ 24 rfl tz0 tz0 tz0 (fun _ _ h=>h) tz0 (fun d h=>by cases h;rfl) tz0 (G':=[81,79,75,74,65,61,60,2,3,5,7,9]) tz0 fun _ y=>?_;simp only[↓bO,go_sem,seval,zaB,isE,zbK,isV,Sch.cells];apply y;clear y;refine zQ (i:=20) tz0 rfl (fun d h=>by cases h;rfl) ?_;refine zaD rfl fun _ y=>?_;simp only[↓bO,go_sem,seval,Sch.cells];refine APure.call (zbo a) ?_;(try simp only[go_sem]);refine y _ ⟨tz13,?_⟩;clear y;refine zQ (i:=22) tz0 rfl (fun d h=>by cases h;rfl) ?_;refine zaD rfl fun _ y=>?_;simp only[↓bO,go_sem,seval,Sch.cells];refine APure.call (zbo b) ?_;(try simp only[go_sem]);refine y _ ⟨tz13,?_⟩;clear y;refine zQ (i:=23) tz0 rfl (fun d h=>by cases h;rfl) ?_;refine zaD rfl fun _ y=>?_;simp only[↓bO,go_sem,seval,Sch.cells];refine APure.call (zdA a b tz1 tz1 tz1 tz1 tz1) ?_;(try simp only[go_sem]);refine y _ ⟨tz13,?_⟩;clear y;refine zQ (i:=25) tz0 rfl (fun d h=>by cases h;rfl) ?_;refine zaD rfl fun _ y=>?_;simp only[↓bO,go_sem,seval,Sch.cells];refine y _ ⟨tz13,?_⟩;clear y;refine zQ (i:=26) tz0 rfl (fun d h=>by cases h;rfl) ?_;refine opT fun _ y=>?_;simp only[↓bO,go_sem,seval,Sch.cells];refine y _ ⟨tz13,?_⟩;clear y;refine zZ 27 rfl tz0 tz0 tz0 (fun _ _ h=>h) tz0 (fun d h=>by cases h;rfl) tz0 (G':=[81,79,75,74,65,61,60,2,3,5,7,9]) tz0 fun _ y=>?_;simp only[↓bO,go_sem,seval,zaB,isE,zbK,isV,Sch.cells];apply y;clear y;refine zaV 87 rfl (fun hc87=>?_) (fun hc87=>?_)
      ·
       simp only[go_sem];refine zZ 28 rfl tz0 tz0 tz0 (fun _ _ h=>h) tz0 (fun d h=>by cases h;rfl) tz0 (G':=[88,81,79,75,74,65,61,60,2,3,5,7,9]) tz0 fun _ y=>?_;simp only[↓bO,go_sem,seval,zaB,isE,zbK,isV,Sch.cells];apply y;clear y;refine zZ 30 rfl tz0 tz0 tz0 (fun _ _ h=>h) tz0 (fun d h=>by cases h;rfl) tz0 (G':=[90,88,81,79,75,74,65,61,60,2,3,5,7,9]) tz0 fun _ y=>?_;simp only[↓bO,go_sem,seval,zaB,isE,zbK,isV,Sch.cells];apply y;clear y;refine zQ (i:=29) tz0 rfl (fun d h=>by cases h;rfl) ?_;refine zaD rfl fun _ y=>?_;simp only[↓bO,go_sem,seval,Sch.cells];refine APure.call (zbo a) ?_;(try simp only[go_sem]);refine y _ ⟨tz14,?_⟩;clear y;refine zQ (i:=31) tz0 rfl (fun d h=>by cases h;rfl) ?_;refine zaD rfl fun _ y=>?_;simp only[↓bO,go_sem,seval,Sch.cells];refine APure.call (zdA a (z1 a) tz1 tz1 tz1 tz1 tz1) ?_;(try simp only[go_sem]);refine y _ ⟨tz14,?_⟩;clear y;refine zQ (i:=32) tz0 rfl (fun d h=>by cases h;rfl) ?_;refine opT fun _ y=>?_;simp only[↓bO,go_sem,seval,Sch.cells];refine y _ ⟨tz14,?_⟩;clear y;refine zZ 33 rfl tz0 tz0 tz0 (fun _ _ h=>h) tz0 (fun d h=>by cases h;rfl) tz0 (G':=[90,88,81,79,75,74,65,61,60,2,3,5,7,9]) tz0 fun _ y=>?_;simp only[↓bO,go_sem,seval,zaB,isE,zbK,isV,Sch.cells];apply y;clear y;refine zaV 93 rfl (fun hc93=>?_) (fun hc93=>?_)
       ·
        simp only[go_sem];refine zQ (i:=34) tz0 rfl (fun d h=>by cases h;rfl) ?_;refine zaD rfl fun _ y=>?_;simp only[↓bO,go_sem,seval,Sch.cells];refine APure.call (zb8) ?_;(try simp only[go_sem]);refine y _ ⟨tz14,?_⟩;clear y;refine zQ (i:=35) tz0 rfl (fun d h=>by cases h;rfl) ?_;refine opT fun _ y=>?_;simp only[↓bO,go_sem,seval,Sch.cells];refine y _ ⟨tz14,?_⟩;clear y;refine zQ (i:=36) tz0 rfl (fun d h=>by cases h;rfl) ?_;refine opT fun _ y=>?_;simp only[↓bO,go_sem,seval,Sch.cells];refine y _ ⟨tz14,?_⟩;clear y;refine zal tz0 ?_;simp only[go_sem];apply u;apply zP;(try simp only[go_sem]);first | exact Le.refl _ | (refine Le.of_eq (congrArg (fun b=>AV.v (.bool b)) ?_);simp_all;done)
       simp only[go_sem];exact absurd hc93 (by (rw[zkL hao tz1];simp))
      simp only[go_sem];exact absurd hc87 (by (rw[alR_eq hao];simp))
     simp only[go_sem];exact absurd hc78 tz4
    simp only[go_sem];exact absurd hc73 tz4
   simp only[go_sem];exact absurd hc69 (by (rw[hptx];simp))
  simp only[go_sem];exact absurd hc63 tz4
end Go.Proofs.YtkokfdmggdhfmaaGreatDoor
namespace Go.Proofs.YtkokfdmggdhfmaaGreatDoor
open Go
variable {H:Type} {enc:TypeId×Value->H}
theorem zdS {a:Assume} {C:Checked} {os:Go.Os} {f:FuncId} {fn:Func} {s:ChangeSpec} {conds:List PathCond} {apart fresh handsOn again:Bool} {X:World->Array Value->Prop}
  (hX:∀(w w':World) (args:Array Value),w.heap=w'.heap->X w args->X w' args)
  (own:ownKnob C.prog.godebug=none) (started:os.Started) (noInit:C.prog.inits.idxOf? f=none) (hfn:C.prog.funcs[f]?=some fn)
  (witness:∃(w:World) (tape:Tape) (i:Input),w.os=os/\(w.forCall tape i).Shaped C.prog/\i.vars=[]/\Input.okWide C.prog (w.forCall tape i) .any w.heap.size f i /\
   ((s.pre enc C.prog fn conds apart (w.forCall tape i).memory i.args/\X (w.forCall tape i).memory i.args)/\sizedMet enc C.prog fn (OpenSpec.ofChange s) apart (w.forCall tape i).memory i.args)/\a.holds C.prog (lone (Frame.enter C.prog f i.args .normal) [] (w.forCall tape i)))
  (contract:∀(W:World) (base:Nat) (args:Array Value) (ds gs:List (DataW H)) (before:List MemPlace),
   (∀(j:Nat) t v,fn.params[j]?=some t->args[j]?=some v->Value.okWide C.prog W .any base t v) ->
   DataW.Whole enc C.prog fn.params.toList s.vars apart W args.toList ds gs before ->
   conds.all (PathCond.test C.prog ⟨fn.params.toList,ds,s.plain.varTypes C.prog,gs⟩)=true ->
   X W args->W.ShapedOpen C.prog ->
   Calls C.prog f args W fun e W'=>∃v,e=.returned v/\s.post enc C.prog fn apart fresh handsOn again W args v W') :
  ReturnsInHanded a C os f .any (fun w args=>(s.pre enc C.prog fn conds apart w args/\X w args)/\sizedMet enc C.prog fn (OpenSpec.ofChange s) apart w args) (s.post enc C.prog fn apart fresh handsOn again) :=
 returnsInHanded_of_calls own started noInit witness fun w tape i _ hsh _ hok hpre _=>by
  obtain ⟨_,_,_,fn1,hf1,_,_,_,_,hval⟩:=hok;obtain rfl:fn1=fn:=Option.some.inj (hf1.symm.trans hfn);obtain ⟨⟨⟨ds,gs,before,hw,hc⟩,hx⟩,_⟩:=hpre;refine (contract (w.forCall tape i) w.heap.size i.args ds gs before hval (DataW.Whole.of_heap (w':=w.forCall tape i) (by rfl) hw) hc (hX _ _ _ (by rfl) hx) hsh).mono fun e W' ⟨v,he,hp⟩=>?_;subst he;exact ChangeSpec.post_blind hp
end Go.Proofs.YtkokfdmggdhfmaaGreatDoor
namespace Go.Proofs.YtkokfdmggdhfmaaGreatDoor.schemeCanon
open Go Go.ChangeShapes Go.WideShapes Go.ChangeAt Go.RowKit
theorem own:ownKnob Tryz.prog.godebug=none:=by kernel_rfl
theorem laidOut:laidOutB Tryz.prog=true:=by kernel_rfl
theorem cT:Tryz.prog.cellsOf 26=3:=by kernel_rfl
theorem cI:Tryz.prog.cellsOf 3=1:=by kernel_rfl
theorem cS:Tryz.prog.cellsOf 24=1:=by kernel_rfl
section
variable {H:Type} {enc:TypeId×Value->H} {w:World} {base:Nat} {spare:Nat->Bool} {held:Bool}
theorem rdT (fuel:Nat):Rd enc Tryz.prog w base spare held Env.none fuel 26 Ty.cells :=
 rd_ty Tryz.underlying26 cT rfl rfl rfl rfl rfl rfl Tryz.underlying3 cI Tryz.underlying24 cS fuel
theorem rdS (fuel:Nat):Rd enc Tryz.prog w base spare held Env.none fuel 24 (fun xs:List Ty=>[.sl 3 (xs.map Ty.cells)]) :=
 zhm Tryz.underlying24 cT tz1 Ty.cells_len fun n _=>rdT n
theorem cSch:Tryz.prog.cellsOf 32=4:=by kernel_rfl
theorem cIL:Tryz.prog.cellsOf 23=1:=by kernel_rfl
theorem rdSch (fuel:Nat):Rd enc Tryz.prog w base spare held Env.none fuel 32 Sch.cells :=
 rd_sch Tryz.underlying32 cSch cT rfl rfl rfl rfl cIL Tryz.underlying23 Tryz.underlying3 cI rdT fuel
end
set_option maxRecDepth 100000 in
theorem lifted (os:Go.Os) (started:os.Started) (H:Type) (enc:TypeId×Value->H) :
  ReturnsInHanded {} Tryz.checked os 4 .any (fun w args=>(Rows.schemeCanonSpec.pre enc Tryz.prog Tryz.f4 Rows.schemeCanonRow.domain false w args/\laidMetH Tryz.prog Rows.schemeCanonRow.laid w)/\sizedMet enc Tryz.prog Tryz.f4 (OpenSpec.ofChange Rows.schemeCanonSpec) false w args)
   (Rows.schemeCanonSpec.post enc Tryz.prog Tryz.f4 false true false false):=by
 refine zdS (C:=Tryz.checked) (X:=fun w _=>laidMetH Tryz.prog Rows.schemeCanonRow.laid w) (fun _ _ _ hh h=>h.of_heap hh) own started tz0 Tryz.func4
  (ChangeSpec.witness_shaped (enc:=enc) (C:=Tryz.checked) (os:=os) (X:=fun w _=>laidMetH Tryz.prog Rows.schemeCanonRow.laid w) false (World.laidAll Tryz.prog os Rows.schemeCanonRow.laid) #[.agg #[.slice none 0 0,.int .i64 0,.int .i64 0,.slice none 0 0],.agg #[.slice none 0 0,.int .i64 0,.int .i64 0,.slice none 0 0]] 8 (World.laidAll_os _ _ _)
   (World.shaped_of_ZipB tz0 tz0) tz0 tz0 tz0
   (by rw[MakeChecks.laidMetH_plain _ _ _ tz0];exact laidMet_laidAll _ tz0 tz0)) ?_
 intro W base args ds gs before hval0 hW hcnd hL hsh;have hlaid:laidMet Tryz.prog Rows.schemeCanonRow.laid W:=by have h:=hL;rw[MakeChecks.laidMetH_plain _ _ _ tz0] at h;exact h
 have hgl:Gl (fun _ _=>False) W:=by
  refine ⟨?_,?_,?_⟩
  ·intro p hp
   have hp:p∈[(0,gv0),(5,gv5)]:=hp;rcases zH.1 hp with rfl | hp
   ·refine gl_one (Lib.tabIs_of_head (zs:=gz0) (k:=.u8) (g:=0) (t:=136) (e:=5) (n:=256) (rest:=[]) (name:="strings.asciiSpace") tz0 tz0 Tryz.underlying136 Tryz.underlying5 tz0 tz0 ?_) tz0 rfl
    have h:=hlaid.filter (fun x=>x.1=="strings.asciiSpace");rw[show (Rows.schemeCanonRow.laid.filter fun x=>x.1=="strings.asciiSpace")=[("strings.asciiSpace",Lib.tabData .u8 gz0)] from by kernel_rfl] at h;exact h
   rcases zH.1 hp with rfl | hp
   ·refine gl_one (Lib.tabIs_of_head (zs:=gz5) (k:=.u64) (g:=5) (t:=258) (e:=238) (n:=20) (rest:=[]) (name:="internal/strconv.uint64pow10") tz0 tz0 Tryz.underlying258 Tryz.underlying238 tz0 tz0 ?_) tz0 rfl
    have h:=hlaid.filter (fun x=>x.1=="internal/strconv.uint64pow10");rw[show (Rows.schemeCanonRow.laid.filter fun x=>x.1=="internal/strconv.uint64pow10")=[("internal/strconv.uint64pow10",Lib.tabData .u64 gz5)] from by kernel_rfl] at h;exact h
   cases hp
  ·intro p hp
   have hp:p∈([3,4]:List Nat):=hp;rcases zH.1 hp with rfl | hp
   ·have h:=hlaid.filter (fun x=>x.1=="strconv.ErrSyntax")
    rw[show (Rows.schemeCanonRow.laid.filter fun x=>x.1=="strconv.ErrSyntax")=[("strconv.ErrSyntax",.iface "*errors.errorString" (.ptr (.agg [.lit (.string [105,110,118,97,108,105,100,32,115,121,110,116,97,120])])))] from by kernel_rfl] at h
    obtain ⟨a0,s0,hv0,_⟩:=laid_sentinel (g:=3) (ti:=91) (tp:=254) (te:=256) (ts:=9) h tz0 tz0 Tryz.underlying91
     (fun u hu=>typeName_ptr_named (nm:="errors.errorString") (by rw[show "*"++"errors.errorString"="*errors.errorString" by decide];kernel_rfl) tz0 tz3 u (by rw[show "*"++"errors.errorString"="*errors.errorString" by decide];exact hu))
     Tryz.underlying254 Tryz.underlying256 rfl rfl Tryz.underlying9 tz0 tz0
    exact glE_one hv0 tz0
   rcases zH.1 hp with rfl | hp
   ·have h:=hlaid.filter (fun x=>x.1=="strconv.ErrRange")
    rw[show (Rows.schemeCanonRow.laid.filter fun x=>x.1=="strconv.ErrRange")=[("strconv.ErrRange",.iface "*errors.errorString" (.ptr (.agg [.lit (.string [118,97,108,117,101,32,111,117,116,32,111,102,32,114,97,110,103,101])])))] from by kernel_rfl] at h
    obtain ⟨a0,s0,hv0,_⟩:=laid_sentinel (g:=4) (ti:=91) (tp:=254) (te:=256) (ts:=9) h tz0 tz0 Tryz.underlying91
     (fun u hu=>typeName_ptr_named (nm:="errors.errorString") (by rw[show "*"++"errors.errorString"="*errors.errorString" by decide];kernel_rfl) tz0 tz3 u (by rw[show "*"++"errors.errorString"="*errors.errorString" by decide];exact hu))
     Tryz.underlying254 Tryz.underlying256 rfl rfl Tryz.underlying9 tz0 tz0
    exact glE_one hv0 tz0
   cases hp
  intro p hp;have hp:p∈([Lib.WhiteTab 1,fun w=>∃m:Int,w.cell? ⟨2,0,none⟩=some (.int .i64 m)]:List (World->Prop)):=hp;rcases zH.1 hp with rfl | hp
  ·intro w1 hs1
   have h:=hlaid.filter (fun x=>x.1=="unicode.White_Space");rw[show (Rows.schemeCanonRow.laid.filter fun x=>x.1=="unicode.White_Space")=[("unicode.White_Space",Lib.whiteData)] from by kernel_rfl] at h;exact WhiteTab_below (whiteTab_of_reads {Tryz.lays157 with} ⟨by kernel_rfl,by kernel_rfl,by kernel_rfl,by kernel_rfl,by kernel_rfl,by kernel_rfl,by kernel_rfl,by kernel_rfl⟩ (Lib.laidMet.reads h (.head _))) hs1.below
  rcases zH.1 hp with rfl | hp
  ·intro w1 hs1
   obtain ⟨m,hm⟩:=cell_of_shapedOpen_int (P:=Tryz.prog) (g:=2) (t:=3) (k:=.i64) (zero:=#[.int .i64 0]) hsh (of_decide_eq_true tz0) tz0 rfl tz0 tz0 Tryz.underlying3;exact ⟨m,(hs1.below.cell (World.block_lt_of_cell? W _ hm)).trans hm⟩
  cases hp
 have hval:∀(j:Nat) t v,Tryz.f4.params[j]?=some t->args[j]?=some v->Value.okWide Tryz.prog W .any base t v:=hval0;have hW':=hW;obtain ⟨p,q,hA0,hV,rfl,hfz,hnd⟩:=hW;have hA:DataW.TrodAll enc Tryz.prog W 0 (fun _=>true) true Tryz.f4.params.toList args.toList ds p:=hA0;rw[Tryz.params4] at hA hval;obtain ⟨v0,vs0,d0,ds0,p0,y,hargs,rfl,rfl,h0,r0⟩:=trodAll_cons hA;obtain ⟨v1,vs1,d1,ds1,p1,z,rfl,rfl,rfl,h1,r1⟩:=trodAll_cons r0;obtain ⟨rfl,rfl,rfl⟩:=trodAll_nil r1;(obtain rfl:args=#[v0,v1]:=by cases args;simp_all);obtain ⟨rfl,rfl⟩:=trodVars_none hV;have k0:=h0;(have lt0:∀x∈p0,x.block<W.heap.size:=by obtain ⟨m,hm⟩:=k0;exact DataW.trod_lt m _ _ _ hm);obtain ⟨us0,hus0⟩:∃us,v0=.agg us:=(by obtain ⟨cs,h,_⟩:=okWide_struct Tryz.underlying32 (hval 0 32 v0 rfl rfl);exact ⟨cs,h⟩);subst hus0
 obtain ⟨T0,hr0⟩:∃T:Sch,Rp Env.none (fun _ _=>False) W (.agg T.cells) (.agg us0):=by
  obtain ⟨m,hm⟩:=h0;obtain ⟨T,hl,hr⟩:=rdSch m _ _ hm;exact ⟨T,.agg (by simpa [Value.cells] using hl) fun i c u hc hu=>hr i c u hc (by simpa [Value.cells] using hu)⟩
 have k1:=h1;(have lt1:∀x∈p1,x.block<W.heap.size:=by obtain ⟨m,hm⟩:=k1;exact DataW.trod_lt m _ _ _ hm);obtain ⟨us1,hus1⟩:∃us,v1=.agg us:=(by obtain ⟨cs,h,_⟩:=okWide_struct Tryz.underlying32 (hval 1 32 v1 rfl rfl);exact ⟨cs,h⟩);subst hus1
 obtain ⟨T1,hr1⟩:∃T:Sch,Rp Env.none (fun _ _=>False) W (.agg T.cells) (.agg us1):=by
  obtain ⟨m,hm⟩:=h1;obtain ⟨T,hl,hr⟩:=rdSch m _ _ hm;exact ⟨T,.agg (by simpa [Value.cells] using hl) fun i c u hc hu=>hr i c u hc (by simpa [Value.cells] using hu)⟩
 clear hA0 hval0;refine ((zeU T0 T1).calls (w:=W) rfl ?_ hgl).mono fun e W' ⟨he,bel⟩=>?_
 ·intro i c u hc hu
  match i with
  | 0=>simp at hc hu;subst hc;subst hu;exact hr0
  | 1=>simp at hc hu;subst hc;subst hu;exact hr1
  | i+2=>simp at hc
 subst he;exact ⟨_,rfl,_,_,_,[],_,[],hW',trodAll_mk1 (shut_bool Tryz.underlying4 _),(trodAll_cons_mk (Below.trod laidOut tz0 (of_decide_eq_true tz0) k0 bel lt0) (trodAll_cons_mk (Below.trod laidOut tz0 (of_decide_eq_true tz0) k1 bel lt1) trodAll_mk0)),rfl,bel.frame _,fun h=>by cases h⟩
theorem over:Rows.schemeCanonRow.holds Tryz.pinned (OpenSpec.ofChange Rows.schemeCanonSpec) :=
 OpenClaim.holds_of_wide 4 Tryz.f4 rfl rfl rfl rfl rfl rfl rfl ⟨rfl,rfl,rfl,rfl,rfl⟩ rfl rfl rfl rfl rfl tz0 Tryz.func4 tz0
  (of_decide_eq_true tz0) (by unfold Func.isWrapper;first | (rw[if_pos (by decide +kernel)];kernel_rfl) | (rw[if_neg (by decide +kernel)];exact ⟨rfl,rfl⟩))
  (fun os started H enc _=>lifted os started H enc)
end Go.Proofs.YtkokfdmggdhfmaaGreatDoor.schemeCanon
namespace Go.Proofs.YtkokfdmggdhfmaaGreatDoor
theorem schemeCanon_proved : Rows.SchemeCanonCardSaid :=
 Claim7.holds_tied_plain_at .later [] _ _ _ _ schemeCanon.over (fun _ h=>by cases h) tz0 (fun _ h=>by cases h) schemeCanon_row_tie rfl ⟨rfl,rfl⟩ tz0 rfl
  (fun f fn hf hfn=>by
   obtain rfl:f=4:=Option.some.inj ((show Tryz.prog.funcNamed "pangram/pangramlaw16.SchemeCanon"=some 4 by kernel_rfl).symm.trans hf) |>.symm;obtain rfl:fn=Tryz.f4:=(Option.some.inj (Tryz.func4.symm.trans hfn)).symm;refine ⟨by kernel_rfl,fun j t ht=>?_⟩;rw[Tryz.params4] at ht;(have hm:t∈[32,32]:=by simpa using Array.mem_of_getElem? ht);(have hall:([32,32].all fun u=>!Tryz.prog.wantsStandIn u)=true:=by kernel_rfl);have:=zB.1 hall t hm;have h9:Tryz.prog.wantsStandIn t=false:=by simpa using this
   exact h9)
  tz0
#print axioms schemeCanon_proved
end Go.Proofs.YtkokfdmggdhfmaaGreatDoor
