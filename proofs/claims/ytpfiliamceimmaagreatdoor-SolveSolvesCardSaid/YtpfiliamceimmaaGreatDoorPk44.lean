/- packed, part 44 of 48. Conditions: none. -/
import Derived.Test.YtpfiliamceimmaaGreatDoorPk43
set_option linter.unusedVariables false
set_option linter.unusedSimpArgs false
set_option maxRecDepth 100000
set_option maxHeartbeats 4000000
namespace Go.Proofs.YtpfiliamceimmaaGreatDoor
open Go Go.RowKit
attribute [local irreducible] aops zaA
def zib (f:Nat->Nat) (ch:List Nat) (s:Nat):Nat:=((ch.take s).map f).sum
theorem sumT_step {f:Nat->Nat} {ch:List Nat} {s v:Nat} (h:ch[s]?=some v):zib f ch (s+1)=zib f ch s+f v:=by
 unfold zib;rw[zM,h,zu,List.sum_append];simp
theorem sumT_all (f:Nat->Nat) (ch:List Nat) {s:Nat} (h:ch.length<=s):zib f ch s=(ch.map f).sum:=by
 unfold zib;rw[List.take_of_length_le h]
theorem sumT_le (f:Nat->Nat):∀(ch:List Nat) (s:Nat),zib f ch s<=(ch.map f).sum
 | [],s=>by simp[zib]
 | v::ch,0=>by simp[zib]
 | v::ch,s+1=>by
  have:=sumT_le f ch s;simp only[zib,List.take_succ_cons,zt,List.sum_cons] at this ⊢;omega
theorem zjW {M:List RNode} {c:List Int} (hN:zkh M c) (hMl:M.length<=1048576) {i n:Nat} (h:Hv (zbm M c) i n):i<M.length->∀m:Nat,1<=m->m<=5000->APure Tryz.prog 40 [.agg [.sl 4 (M.map RNode.cells),.sl 1 (c.map intC)],.v (.int .i64 (i:Int)),.v (.int .i64 (m:Int))] (.v (.int .i64 ((m-n:Nat):Int))):=by
  induction h with
  | mk i f hf ih =>
  intro hi m hm1 hm5;have hnl:=hN.2 i;(have hll:(zbm M c i).length=(zbF M c i).length:=by simp[zbm]);(have hwm:IntKind.i64.wrap ((m:Int)-1)=((m-1:Nat):Int):=by rw[show ((m:Int)-1)=((m-1:Nat):Int) from by omega];exact zal tz1 tz1);refine APure.mkL (.cons (RNode.oneData M c) (.cons (.v _) (.cons (.v _) .nil))) (.v _) ?_;refine aIn Tryz.func40 fun hm=>?_;simp only[Tryz.ntmps40,Tryz.results40,go_sem,seval];refine sqR fun _ u=>?_;refine chS 1 ?_;simp only[↓bO,go_sem,seval];apply u;refine sqR fun _ u=>?_;(iterate 2 (refine chS 1 ?_ (by intro _ q;simp only[↓bO,go_sem,seval,hwm];exact q)));simp only[↓bO,go_sem,seval];apply u;refine sqR fun _ u=>?_;(iterate 2 (refine chS 1 ?_));refine zZ 1 fun _ y=>?_;simp only[↓bO,go_sem,seval];refine APure.call (zgf M c i hi hN hMl) ?_;apply y;clear y;simp only[↓bO,go_sem,seval];apply u;refine z6 fun _ u=>?_;refine sqD ?_;apply zac;refine zai (σ:=Nat) (mB 32 396) (fun s=>s<=(zbF M c i).length) (fun s=>[(2,.v (.int .i64 ((m-1-zib f (zbm M c i) s):Nat))),(8,.v (.int .i64 (s:Int)))]) (fun s=>[]) (fun s=>(zbF M c i).length-s) 0 (Nat.zero_le _) ?_ (fun s hs=>?_)
  ·
   simp only[go_sem,seval,zib,bL,List.sum_nil,Nat.sub_zero];exact zaL
  simp only[go_sem,seval];have hw1:IntKind.i64.wrap ((s:Int)+1)=(s:Int)+1:=zal tz1 tz1;have hle:=sumT_le f (zbm M c i) s;refine z6 fun _ w=>?_;refine sqR fun _ z=>?_;(iterate 5 (refine chS 1 ?_));refine zag 18 rfl (fun hc18=>?_) (fun hc18=>?_)
  ·
   simp only[go_sem];(have hk:s<(zbF M c i).length:=by simpa using hc18);obtain ⟨p0,hp0⟩:∃q,(zbF M c i)[s]?=some q:=⟨_,za hk⟩;have hpb:=hnl.2 p0 (zc hp0);obtain ⟨p,rfl⟩:∃q:Nat,p0=(q:Int):=⟨p0.toNat,by omega⟩;(have hpM:p<M.length:=by omega);(have hpn:(zbm M c i)[s]?=some p:=by (rw[zbm,zN,hp0];rfl));have hpm:=zc hpn;have hst:=sumT_step (f:=f) hpn;(have hst2:((m-1-zib f (zbm M c i) s)-f p:Nat)=m-1-zib f (zbm M c i) (s+1):=by omega);(iterate 2 (refine chS 1 ?_ (by intro _ q;simp only[↓bO,go_sem,seval,hk];exact q)));simp only[↓bO,go_sem,seval];apply z;apply z8 rfl <;> intro hb21
   ·
    (have hpos:1<=(m-1-zib f (zbm M c i) s):=by (have h9:=hb21;simp only[zd] at h9;omega));apply zaa;apply w;refine z6 fun _ w=>?_;apply zac;refine zay 7 mixed tz0 fun J0 j0=>?_;(iterate 6 (simp only[go_sem];refine zae 1 fun _ y=>?_;simp only[↓zaA,↓dOp,↓bO,go_sem,seval,intC,hk,gM hp0];apply y;clear y));simp only[go_sem];simp only[↓zaA,↓dOp,↓bO,go_sem,seval];refine ⟨_,ih p hpm hpM (m-1-zib f (zbm M c i) s) hpos tz1,?_⟩;(try simp only[go_sem]);refine j0 _ ?_;clear j0 J0;simp only[go_sem];simp only[↓bO,go_sem,seval,hst2];apply w;apply z7;(iterate 2 (refine chS 1 ?_ (by intro _ q;simp only[↓bO,go_sem,seval,hw1];exact q)));simp only[↓bO,go_sem,seval];refine ⟨(s+1),tz1,tz1,?_⟩;simp only[zar,zas,zah,zam,mB,seval,zj,zh,zn];exact zaL
   (have hz:¬(0:Int)<(((m-1-zib f (zbm M c i) s):Nat):Int):=by (have h9:=hb21;simp only[ze] at h9;omega));(have hres:(m-(1+((zbm M c i).map f).sum):Nat)=(m-1-zib f (zbm M c i) s):=by omega);apply zak;simp only[zao,zaj,zaf,bA,Nat.reduceEqDiff,↓reduceIte];apply u;refine sqR fun _ u=>?_;refine chS 1 ?_;simp only[↓bO,go_sem,seval];apply u;apply zab;(try simp only[go_sem]);rw[hres];exact Le.refl _
  simp only[go_sem];(have hk:s=(zbF M c i).length:=by (have h9:=hc18;simp at h9;omega));have hall:=sumT_all f (zbm M c i) (s:=s) tz1;(have hres:(m-(1+((zbm M c i).map f).sum):Nat)=(m-1-zib f (zbm M c i) s):=by omega);(iterate 2 (refine chS 1 ?_));simp only[↓bO,go_sem,seval];apply z;refine z8 (b:=false) (by first | exact rfl | exact congrArg (fun b=>AV.v (.bool b)) hb21) (fun h=>(by cases h)) (fun _=>?_);apply zak;simp only[zao,zaj,zaf,bA,Nat.reduceEqDiff,↓reduceIte];apply u;refine sqR fun _ u=>?_;refine chS 1 ?_;simp only[↓bO,go_sem,seval];apply u;apply zab;(try simp only[go_sem]);rw[hres];exact Le.refl _
def hB (m:List (Int×Ty)) (v:Int):Bd:=⟨v,(za3 m v).getD (.mk 0 0 [])⟩
theorem zge (l:List Bd) (i:Nat) (b:Bd) (hb:l[i]?=some b):APure Tryz.prog 53 [.sl 4 (l.map Bd.cells),.v (.int .i64 (i:Int))] (.v (.bool (zbi l b.v==(i:Int)))):=by
 refine APure.mkL (.cons (Bd.dataSl l) (.cons (.v _) .nil)) (.v _) ?_;refine aIn Tryz.func53 fun hm=>?_;simp only[Tryz.ntmps53,Tryz.results53,go_sem,seval];have hk:i<l.length:=(zb.1 hb).1;refine sqD ?_;refine sqR fun _ u=>?_;(iterate 6 (refine chS 1 ?_ (by intro _ q;simp only[↓bO,go_sem,seval,Bd.take1,Bd.cells_len,hk,gM hb];exact q)));refine zZ 1 fun _ y=>?_;simp only[↓bO,go_sem,seval];refine APure.call (zgi l b.v) ?_;(iterate 2 (apply y;clear y;refine zZ 1 fun _ y=>?_;simp only[↓bO,go_sem,seval]));apply y;clear y;simp only[↓bO,go_sem,seval];apply u;apply zab;exact Le.refl _
def zdR (b:List Bd) (x:Bd):Bd:=⟨x.v,x.t.sub b⟩
def zdU (a:List Bd) (x:Bd):Bool:=decide (zbi a x.v<0)
theorem thenR_eq (a b:List Bd):zme a b=a.map (zdR b)++b.filter (zdU a):=rfl
theorem fltr_yes {α:Type} {P:α->Bool} {L:List α} {k:Nat} {v:α} (h:L[k]?=some v) (hp:P v=true):(L.take (k+1)).filter P=(L.take k).filter P++[v]:=by
 rw[zM,h,List.filter_append];simp[hp]
theorem fltr_no {α:Type} {P:α->Bool} {L:List α} {k:Nat} {v:α} (h:L[k]?=some v) (hp:P v=false):(L.take (k+1)).filter P=(L.take k).filter P:=by
 rw[zM,h,List.filter_append];simp[hp]
theorem fltr_len {α:Type} (P:α->Bool) (L:List α) (k:Nat):((L.take k).filter P).length<=L.length :=
 Nat.le_trans (List.length_filter_le _ _) (by simp[List.length_take];omega)
theorem Bd.oneL (l:List Bd):((l.map Bd.cells).all fun y=>y.all AV.one)=true:=by
 induction l with
 | nil=>rfl
 | cons b l ih=>rw[zt,List.all_cons,ih,b.cells_eq];rfl
theorem zlj (a b:List Bd) (hna:(a.map Bd.v).Nodup) (hla:a.length<=1048576) (hba:∀x∈a,x.t.cnt<=1099511627776) (hnb:(b.map Bd.v).Nodup) (hlb:b.length<=1048576):APure Tryz.prog 70 [.sl 4 (a.map Bd.cells),.sl 4 (b.map Bd.cells)] (.sl 4 ((zme a b).map Bd.cells)):=by
  refine APure.mkL (.cons (Bd.dataSl a) (.cons (Bd.dataSl b) .nil)) ((Bd.dataSl _)) ?_;refine aIn Tryz.func70 fun hm=>?_;simp only[Tryz.ntmps70,Tryz.results70,go_sem,seval];(iterate 2 (refine z6 fun _ z=>?_;apply z7;simp only[↓bO,go_sem,seval];apply z));refine z6 fun _ z=>?_;refine sqD ?_;apply zac;refine zaH (Weak.tokSlot 5 43 4 rfl) ?_;simp only[go_sem];refine zai (σ:=Nat) (mB 60 99) (fun s=>s<=a.length) (fun s=>[(5,.osl 0 4 (((a.take s).map (zdR b)).map Bd.cells)),(6,.v (.int .i64 (s:Int)))]) (fun s=>[(0,.tok 43 4 s)]) (fun s=>a.length-s) 0 tz1 ?_ (fun s hs=>?_)
  ·
   simp only[go_sem,seval,bL];exact zaL
  simp only[go_sem,seval];refine z6 fun _ k=>?_;refine sqR fun _ j=>?_;(iterate 3 (refine chS 1 ?_));simp only[↓bO,go_sem,seval];apply j;apply z8 rfl <;> intro hb11
  ·
   (have hk:s<a.length:=by simpa using hb11);obtain ⟨x,hx⟩:∃x,a[s]?=some x:=⟨_,za hk⟩;have hw:IntKind.i64.wrap ((s:Int)+1)=(s:Int)+1:=zal tz1 tz1;(have hln:((a.take s).map (zdR b)).length=s:=by simp;omega);(have hb1:(s+1) * 48<=140737488355328:=by omega);(have hb2:s+1<=maxLen:=by simp only[maxLen];omega);apply zaa;apply k;refine z6 fun _ k=>?_;apply zac;refine sqR fun _ j=>?_;(iterate 2 (refine chS 1 ?_ (by intro _ q;simp only[↓bO,go_sem,seval,hk];exact q)));simp only[↓bO,go_sem,seval];refine APure.call (zge a s x hx) ?_;apply j;apply z8 rfl <;> intro hb16
   ·
    refine zay 15 mixed tz0 fun J0 j0=>?_;(iterate 12 (simp only[go_sem];refine zae 1 fun _ w=>?_;simp only[↓zaA,↓dOp,↓bO,go_sem,seval,hk,gM hx,Bd.cells];apply w;clear w));simp only[go_sem];refine zae 1 fun _ w=>?_;simp only[↓zaA,↓dOp,↓bO,go_sem,seval];refine ⟨_,zbo x.t b (hba x (zc hx)),?_⟩;apply w;clear w;refine zae 1 fun _ w=>?_;simp only[↓zaA,↓dOp,↓bO,go_sem,seval];apply w;clear w;simp only[↓zaA,↓dOp,↓bO,go_sem,seval,↓zee];refine j0 _ ?_;clear j0 J0;refine chS 1 ?_ (by intro _ q;simp only[↓bO,go_sem,seval,hln,hb1,hb2];exact q);simp only[↓bO,go_sem,seval];apply k;apply z7;(iterate 2 (refine chS 1 ?_ (by intro _ q;simp only[↓bO,go_sem,seval,hw];exact q)));simp only[↓bO,go_sem,seval];refine ⟨(s+1),tz1,by omega,?_⟩;simp only[zar,zas,zah,zam,mB,seval,zj,zh,zu,bL,zaM (zdR b) hx,zdR,Bd.cells];exact zaL
   exact absurd hb16 (by rw[zhZ hna hx];simp)
  (have hk:s=a.length:=by simp at hb11;omega);(have hta:((a.take s).map (zdR b))=a.map (zdR b):=by rw[hk,zI]);apply zak;simp only[zao,zaj,zaf,bA,Nat.reduceEqDiff,↓reduceIte];apply z;refine z6 fun _ z=>?_;refine sqD ?_;apply zac;refine zai (σ:=Nat) (mB 60 163) (fun u=>u<=b.length) (fun u=>[(5,.osl 0 4 ((a.map (zdR b)++(b.take u).filter (zdU a)).map Bd.cells)),(7,.v (.int .i64 (u:Int)))]) (fun u=>[(0,.tok 43 4 (a.map (zdR b)++(b.take u).filter (zdU a)).length)]) (fun u=>b.length-u) 0 tz1 ?_ (fun u hu=>?_)
  ·
   simp only[go_sem,seval,bL,List.filter_nil,zx,hk];exact zaL
  simp only[go_sem,seval];refine z6 fun _ k=>?_;refine sqR fun _ j=>?_;(iterate 3 (refine chS 1 ?_));simp only[↓bO,go_sem,seval];apply j;apply z8 rfl <;> intro hb36
  ·
   (have hku:u<b.length:=by simpa using hb36);obtain ⟨y,hy⟩:∃y,b[u]?=some y:=⟨_,za hku⟩;have hwu:IntKind.i64.wrap ((u:Int)+1)=(u:Int)+1:=zal tz1 tz1;have hfl:=fltr_len (zdU a) b u;(have hln:(a.map (zdR b)++(b.take u).filter (zdU a)).length=a.length+((b.take u).filter (zdU a)).length:=by rw[zi,zx]);(have hb1:((a.length+((b.take u).filter (zdU a)).length)+1) * 48<=140737488355328:=by omega);(have hb2:(a.length+((b.take u).filter (zdU a)).length)+1<=maxLen:=by simp only[maxLen];omega);apply zaa;apply k;refine z6 fun _ k=>?_;apply zac;refine sqR fun _ j=>?_;(iterate 2 (refine chS 1 ?_ (by intro _ q;simp only[↓bO,go_sem,seval,hku];exact q)));refine zZ 1 fun _ w=>?_;simp only[↓bO,go_sem,seval];refine APure.call (zge b u y hy) ?_;apply w;clear w;refine chS 1 ?_;simp only[go_sem];refine zag 42 rfl (fun hc42=>?_) (fun hc42=>?_)
   ·
    (iterate 6 (refine chS 1 ?_ (by intro _ q;simp only[↓bO,go_sem,seval,Bd.take1,Bd.cells_len,hku,gM hy];exact q)));refine zZ 1 fun _ w=>?_;simp only[↓bO,go_sem,seval];refine APure.call (zgi a y.v) ?_;apply w;clear w;refine chS 1 ?_;simp only[↓bO,go_sem,seval];apply j;apply z8 rfl <;> intro hb51
    ·
     have hy9:zdU a y=true:=hb51;have hst:=fltr_yes hy hy9;apply z7;(iterate 5 (refine chS 1 ?_ (by intro _ q;simp only[↓bO,go_sem,seval,Bd.cells_len,Bd.take4,hku,gM hy,zu,zi];exact q)));refine chS 1 ?_ (by intro _ q;simp only[↓bO,go_sem,seval,↓zee,Bd.cells_len];exact q);refine chS 1 ?_ (by intro _ q;simp only[↓bO,go_sem,seval,Bd.one,hb1,hb2,List.append_assoc,zi];exact q);simp only[↓bO,go_sem,seval,zu,zi];apply k;apply z7;(iterate 2 (refine chS 1 ?_ (by intro _ q;simp only[↓bO,go_sem,seval,hwu];exact q)));simp only[↓bO,go_sem,seval,zu,zi];refine ⟨(u+1),tz1,tz1,?_⟩;simp only[zar,zas,zah,zam,mB,seval,zj,zh,hst,zu,bL,zi];exact zaL
    have hy9:zdU a y=false:=hb51;have hst:=fltr_no hy hy9;apply zaa;apply k;apply z7;(iterate 2 (refine chS 1 ?_ (by intro _ q;simp only[↓bO,go_sem,seval,hwu];exact q)));simp only[↓bO,go_sem,seval];refine ⟨(u+1),tz1,tz1,?_⟩;simp only[zar,zas,zah,zam,mB,seval,zj,zh,hst];exact zaL
   simp only[go_sem];exact absurd hc42 (by rw[zhZ hnb hy];simp)
  (have hku:u=b.length:=by simp at hb36;omega);apply zak;simp only[zao,zaj,zaf,bA,Nat.reduceEqDiff,↓reduceIte];apply z;refine sqR fun _ z=>?_;refine chS 1 ?_;simp only[↓bO,go_sem,seval];apply z;apply zab;(try simp only[go_sem]);rw[thenR_eq,hku,zI];exact Le.oslL
theorem zir (l:List Int):((l.map intC).all fun y=>y.all AV.one)=true:=by
 induction l with
 | nil=>rfl
 | cons x l ih=>rw[zt,List.all_cons,ih];rfl
theorem zj9 {l:List (Ty×Ty)} {s:Nat} {e:Ty×Ty} (h:l[s]?=some e):zby (l.take (s+1))=e.2.rvars (e.1.rvars (zby (l.take s))):=by
 rw[zM,h];exact zd9 _ _
theorem zgl (l:List (Ty×Ty)):(zby l).length<=zbD l:=by
 have h:=zhh l
 have e:∀k:List (Ty×Ty),(k.map fun e=>e.1.cnt+e.2.cnt).sum=zbD k:=by
  intro k
  induction k with
  | nil=>rfl
  | cons x k ih=>simp only[zt,List.sum_cons,ih,zbD]
 rw[e] at h;exact h
theorem clz17 {p:Prop} (h:p:=by repeat' first | exact trivial | exact .any _ | exact .v _ _ | exact Und.data (EqT.dataSl _) | exact Und.data (zap _) | (refine ⟨?_,?_⟩)):p:=h
theorem zjY (es:List EqT) (hsum:zbD (es.map EqT.p)<=1048576):APure Tryz.prog 28 [.sl 8 (es.map EqT.cells)] (.sl 1 ((zaT (zby (es.map EqT.p))).map intC)):=by
  refine APure.mkL (.cons (EqT.dataSl es) .nil) (zap _) ?_;refine aIn Tryz.func28 fun hm=>?_;simp only[Tryz.ntmps28,Tryz.results28,go_sem,seval];have hsl:=zc2 (es.map EqT.p);rw[zx] at hsl;have hm1:=hm.len (sz:=8) (xs:=es.map EqT.cells) tz4;rw[zx] at hm1;(iterate 2 (refine z6 fun _ z=>?_;apply z7;simp only[↓bO,go_sem,seval];apply z));refine z6 fun _ z=>?_;refine sqD ?_;apply zac;refine zai (σ:=Nat) (mB 66 25) (fun w=>w<=es.length) (fun w=>[(3,.sl 1 ((zby ((es.map EqT.p).take w)).map intC)),(4,.v (.int .i64 (w:Int)))]) (fun w=>[]) (fun w=>es.length-w) 0 tz1 ?_ (fun w hw0=>?_)
  ·
   simp only[go_sem,seval,bL,zby,List.foldl_nil];exact clz6
  simp only[go_sem,seval];refine z6 fun _ g=>?_;refine sqR fun _ d=>?_;(iterate 3 (refine chS 1 ?_));simp only[↓bO,go_sem,seval];apply d;apply z8 rfl <;> intro hb11
  ·
   (have hk:w<es.length:=by simpa using hb11);obtain ⟨e,he⟩:∃e,es[w]?=some e:=⟨_,za hk⟩;(have hep:(es.map EqT.p)[w]?=some e.p:=by rw[zN,he];rfl);have hw:IntKind.i64.wrap ((w:Int)+1)=(w:Int)+1:=zal tz1 tz1;have hvt:=zj9 hep;simp only[EqT.p] at hvt;have hvl:=zgl ((es.map EqT.p).take w);have hst:=zcR (es.map EqT.p) w;have hem:=zfo (l:=(es.map EqT.p)) (e:=e.p) (zc hep);simp only[EqT.p] at hem;have hrl:=Ty.rvars_len e.l (zby ((es.map EqT.p).take w));apply zaa;apply g;refine z6 fun _ g=>?_;apply zac;refine zay 13 mixed tz0 fun J0 j0=>?_;(iterate 11 (simp only[go_sem];refine zae 1 fun _ u=>?_;simp only[↓zaA,↓dOp,↓bO,go_sem,seval,hk,gM he,EqT.cells,Ty.refold];apply u;clear u));simp only[go_sem];refine zae 1 fun _ u=>?_;simp only[↓zaA,↓dOp,↓bO,go_sem,seval];refine ⟨_,zeM e.l (zby ((es.map EqT.p).take w)) tz1,?_⟩;apply u;clear u;simp only[↓zaA,↓dOp,↓bO,go_sem,seval];refine ⟨_,zeM e.r (e.l.rvars (zby ((es.map EqT.p).take w))) tz1,?_⟩;(try simp only[go_sem]);refine j0 _ ?_;clear j0 J0;simp only[go_sem];simp only[↓bO,go_sem,seval];apply g;apply z7;(iterate 2 (refine chS 1 ?_ (by intro _ q;simp only[↓bO,go_sem,seval,hw];exact q)));simp only[↓bO,go_sem,seval];refine ⟨(w+1),tz1,tz1,?_⟩;simp only[zar,zas,zah,zam,mB,seval,zj,zh,zn,hvt];exact zaL
  (have hks:w=es.length:=by simp at hb11;omega);obtain ⟨V,hV⟩:∃V,V=zby (es.map EqT.p):=⟨_,rfl⟩;(have hVw:(zby ((es.map EqT.p).take w))=V:=by rw[hV,hks,List.take_of_length_le tz4]);(have hVl:V.length<=1048576:=by (rw[hV];have h9:=zgl (es.map EqT.p);omega));rw[hVw];apply zak;simp only[zao,zaj,zaf,bA,Nat.reduceEqDiff,↓reduceIte];apply z;refine sqD ?_;refine z6 fun _ z=>?_;refine sqD ?_;apply zac;refine zai (σ:=Nat) (mB 66 104) (fun s=>s<=V.length) (fun s=>[(5,.sl 1 ((zaT (V.take s)).map intC)),(6,.v (.int .i64 (s:Int)))]) (fun s=>[]) (fun s=>V.length-s) 0 tz1 ?_ (fun s hs=>?_)
  ·
   simp only[go_sem,seval,bL,zaT,List.foldl_nil];exact clz6
  simp only[go_sem,seval];refine z6 fun _ g=>?_;refine sqR fun _ d=>?_;(iterate 3 (refine chS 1 ?_));simp only[↓bO,go_sem,seval];apply d;apply z8 rfl <;> intro hb30
  ·
   (have hk:s<V.length:=by simpa using hb30);obtain ⟨r,hr⟩:∃r,V[s]?=some r:=⟨_,za hk⟩;have hw:IntKind.i64.wrap ((s:Int)+1)=(s:Int)+1:=zal tz1 tz1;have hvt:=zlN hr;have hvl:=(zfI (V.take s)).1;(have hvl2:(zaT (V.take s)).length<=1048576:=by (rw[hvl,List.length_take];omega));apply zaa;apply g;refine z6 fun _ g=>?_;apply zac;refine sqR fun _ d=>?_;simp only[↓bO,go_sem,seval,hk];apply d;refine z6 fun _ d=>?_;apply zac;refine zai (σ:=Nat) (mB 66 232) (fun v=>v<=(zaT (V.take s)).length/\∀(j:Nat) (x:Int),j<v->(zaT (V.take s))[j]?=some x->x<r) (fun v=>[(7,.v (.int .i64 (v:Int)))]) (fun v=>[]) (fun v=>(zaT (V.take s)).length-v) 0 (⟨Nat.zero_le _,fun j x hj=>by omega⟩) ?_ (fun v hv=>?_)
   ·
    simp only[go_sem,seval];exact zaL
   simp only[go_sem,seval];refine z6 fun _ c=>?_;refine zaP (mB 66 140737488355560) ([(47,.v (.bool (decide (v<(zaT (V.take s)).length/\(zaT (V.take s)).getD v 0<r))))]) ([]) ?_ ?_
   ·
    refine zay 15 mixed tz0 fun J0 j0=>?_;(iterate 5 (simp only[go_sem];refine zae 1 fun _ u=>?_;simp only[↓zaA,↓dOp,↓bO,go_sem,seval];apply u;clear u));simp only[go_sem];refine za5 37 rfl (fun hc37=>?_) (fun hc37=>?_)
    ·
     simp only[go_sem];(have hlv:v<(zaT (V.take s)).length:=by simpa using hc37);obtain ⟨x1,hx1⟩:∃x,(zaT (V.take s))[v]?=some x:=⟨_,za hlv⟩;(iterate 9 (refine zae 1 fun _ u=>?_;simp only[↓zaA,↓dOp,↓bO,go_sem,seval,hk,gM hr,intC,gM hx1,hlv];apply u;clear u));simp only[↓zaA,↓dOp,↓bO,go_sem,seval];refine j0 _ ?_;clear j0 J0;simp only[bL,aops,zao,zaj,zaf];(try simp only[go_sem,seval]);refine Weak.mk ?_ (fun _ _ h=>h) rfl rfl;simp only[go_sem,Le.refl,Le.any];all_goals (refine Le.of_eq (congrArg (fun b=>AV.v (.bool b)) ?_);rw[zF];simp only[zd,zL,false_iff,zC];first | (rw[hx1];simp[hlv];done) | (simp[hlv];done))
    simp only[go_sem];(have hlv:¬v<(zaT (V.take s)).length:=by simpa using hc37);(iterate 9 (refine zae 1 fun _ u=>?_;simp only[↓zaA,↓dOp,↓bO,go_sem,seval];apply u;clear u));simp only[↓zaA,↓dOp,↓bO,go_sem,seval];refine j0 _ ?_;clear j0 J0;simp only[bL,aops,zao,zaj,zaf];(try simp only[go_sem,seval]);refine Weak.mk ?_ (fun _ _ h=>h) rfl rfl;simp only[go_sem,Le.refl,Le.any];all_goals (refine Le.of_eq (congrArg (fun b=>AV.v (.bool b)) ?_);rw[zF];simp only[zd,zL,false_iff,zC];first | (rw[hx1];simp[hlv];done) | (simp[hlv];done))
   simp only[go_sem,seval];apply z8 rfl <;> intro hb47
   ·
    (have hk0:v<(zaT (V.take s)).length/\(zaT (V.take s)).getD v 0<r:=by simpa using hb47);obtain ⟨x0,hxv⟩:∃x,(zaT (V.take s))[v]?=some x:=⟨_,za hk0.1⟩;(have hlt:x0<r:=by (have h9:=hk0.2;rw[zC,hxv] at h9;exact h9));have hk1:=hk0.1;have hw2:IntKind.i64.wrap ((v:Int)+1)=(v:Int)+1:=zal tz1 tz1;apply zaa;apply c;apply zac;apply z7;(iterate 2 (refine chS 1 ?_ (by intro _ q;simp only[↓bO,go_sem,seval,hw2];exact q)));simp only[↓bO,go_sem,seval];refine ⟨(v+1),⟨by omega,fun j x hj hx=>by (rcases zG j v with h9 | h9 <;> first | exact hv.2 j x h9 hx | (obtain rfl:j=v:=tz1;rw[hxv] at hx;cases hx;exact hlt))⟩,by omega,?_⟩;simp only[zar,zas,zah,zam,mB,seval,zj,zh,zn];exact zaL
   (have hk0:¬(v<(zaT (V.take s)).length/\(zaT (V.take s)).getD v 0<r):=by simpa using hb47);have hvv:=hv.1;obtain ⟨htw,hdw⟩:=zhc (p:=fun x=>decide (x<r)) (o:=(zaT (V.take s))) (k:=v) (fun j x hj hx=>by simpa using hv.2 j x hj hx) hv.1 (by (by_cases h9:v<(zaT (V.take s)).length;(obtain ⟨x1,hx1⟩:∃x,(zaT (V.take s))[v]?=some x:=⟨_,za h9⟩;refine .inr ⟨x1,hx1,?_⟩;rw[zC,hx1] at hk0;simp only[h9,true_and,Option.getD_some] at hk0;simpa using hk0);exact .inl tz1));(have hst:zaT (V.take (s+1))=(zaT (V.take s)).take v++r::(zaT (V.take s)).drop v:=by rw[hvt,zjX,htw,hdw]);(have hst2:(zaT (V.take (s+1))).map intC=List.take v ((zaT (V.take s)).map intC)++[[.v (.int .i64 r)]]++List.drop v ((zaT (V.take s)).map intC):=by rw[hst];simp[intC]);(have hb0:(v:Int)<=((zaT (V.take s)).length:Int):=by omega);(have hq1:v * 8<=140737488355328:=by omega);(have hq2:v<=maxLen:=by simp only[maxLen];omega);(have hq3:(v+1) * 8<=140737488355328:=by omega);(have hq4:v+1<=maxLen:=by simp only[maxLen];omega);(have hq5:(v+1+((zaT (V.take s)).length-v)) * 8<=140737488355328:=by omega);(have hq6:v+1+((zaT (V.take s)).length-v)<=maxLen:=by simp only[maxLen];omega);(have ha1:((List.take v ((zaT (V.take s)).map intC)).all fun y=>y.all AV.one)=true:=by (rw[<- List.map_take];exact zir _));(have ha2:((List.drop v ((zaT (V.take s)).map intC)).all fun y=>y.all AV.one)=true:=by (rw[<- List.map_drop];exact zir _));(have hl3:(List.take v ((zaT (V.take s)).map intC)).length=v:=by simp;omega);(have hl4:(List.drop v ((zaT (V.take s)).map intC)).length=(zaT (V.take s)).length-v:=by simp);have ht0:List.take (zaT (V.take s)).length ((zaT (V.take s)).map intC)=(zaT (V.take s)).map intC:=List.take_of_length_le tz4;apply zak;simp only[zao,zaj,zaf,bA,Nat.reduceEqDiff,↓reduceIte];apply d;refine zgY 16 rfl mixed ?_;dsimp only;refine zaI 1 rfl tz0 tz0 tz0 (fun _ _ h=>h) fun _ u=>?_;simp only[↓bO,go_sem,seval,zcB];apply u;clear u;refine zaI 2 rfl tz0 tz0 tz0 (fun _ _ h=>h) fun _ u=>?_;simp only[↓bO,go_sem,seval,zcB];apply u;clear u;refine zaI 3 rfl tz0 tz0 tz0 (fun _ _ h=>h) fun _ u=>?_;simp only[↓bO,go_sem,seval,zcB,isSl,hb0];apply u;clear u;refine zaI 5 rfl tz0 tz0 tz0 (fun _ _ h=>h) fun _ u=>?_;simp only[↓bO,go_sem,seval,zcB];apply u;clear u;refine zaI 6 rfl tz0 tz0 tz0 (fun _ _ h=>h) fun _ u=>?_;simp only[↓bO,go_sem,seval,zcB];apply u;clear u;refine zaI 7 rfl tz0 tz0 tz0 (fun _ _ h=>h) fun _ u=>?_;simp only[↓bO,go_sem,seval,zcB,zkR,hk,gM hr,intC];apply u;clear u;refine zaI 8 rfl tz0 tz0 tz0 (fun _ _ h=>h) fun _ u=>?_;simp only[↓bO,go_sem,seval,zcB,isE];apply u;clear u;refine zaI 11 rfl tz0 tz0 tz0 (fun _ _ h=>h) fun _ u=>?_;simp only[↓bO,go_sem,seval,zcB];apply u;clear u;refine zaI 12 rfl tz0 tz0 tz0 (fun _ _ h=>h) fun _ u=>?_;simp only[↓bO,go_sem,seval,zcB];apply u;clear u;refine zaI 13 rfl tz0 tz0 tz0 (fun _ _ h=>h) fun _ u=>?_;simp only[↓bO,go_sem,seval,zcB,isSl,ht0,hb0];apply u;clear u;refine zja ?_;refine zcw (i:=0) (j:=9) tz0 ?_ ?_
   ·
    refine opT fun _ u=>?_;simp only[↓bO,go_sem,seval,↓bs0_1];apply u;clear u;refine zcw (i:=4) (j:=9) tz0 ?_ ?_
    ·
     refine opT fun _ u=>?_;simp only[↓bO,go_sem,seval,ha1,hl3,hq1,hq2];apply u;clear u;refine zaz (i:=9) tz0 ?_;refine opT fun _ u=>?_;simp only[↓bO,go_sem,seval,↓zcQ];apply u;clear u;refine zaz (i:=10) tz0 ?_;refine opT fun _ u=>?_;simp only[↓bO,go_sem,seval,hl3,hq3,hq4];apply u;clear u;refine zaz (i:=14) tz0 ?_;refine opT fun _ u=>?_;simp only[↓bO,go_sem,seval,zi,ha2,hl3,hl4,hq5,hq6];apply u;clear u;refine zaz (i:=15) tz0 ?_;refine opT fun _ u=>?_;simp only[↓bO,go_sem,seval];apply u;clear u;refine zbU tz0 ?_;simp only[go_sem];apply g;apply z7;(iterate 2 (refine chS 1 ?_ (by intro _ q;simp only[↓bO,go_sem,seval,hw];exact q)));simp only[↓bO,go_sem,seval];refine ⟨(s+1),tz1,by omega,?_⟩;simp only[zar,zas,zah,zam,mB,seval,zj,zh];refine Weak.bare ?_ rfl ?_
     ·
      simp only[go_sem,Le.refl,Le.any];rw[hst2];exact Le.oslL
     exact clz17
    refine opT fun _ u=>?_;simp only[↓bO,go_sem,seval,↓zcQ];apply u;clear u;refine zaz (i:=4) tz0 ?_;refine opT fun _ u=>?_;simp only[↓bO,go_sem,seval,ha1,hl3,hq1,hq2];apply u;clear u;refine zaz (i:=10) tz0 ?_;refine opT fun _ u=>?_;simp only[↓bO,go_sem,seval,hl3,hq3,hq4];apply u;clear u;refine zaz (i:=14) tz0 ?_;refine opT fun _ u=>?_;simp only[↓bO,go_sem,seval,zi,ha2,hl3,hl4,hq5,hq6];apply u;clear u;refine zaz (i:=15) tz0 ?_;refine opT fun _ u=>?_;simp only[↓bO,go_sem,seval];apply u;clear u;refine zbU tz0 ?_;simp only[go_sem];apply g;apply z7;(iterate 2 (refine chS 1 ?_ (by intro _ q;simp only[↓bO,go_sem,seval,hw];exact q)));simp only[↓bO,go_sem,seval];refine ⟨(s+1),tz1,by omega,?_⟩;simp only[zar,zas,zah,zam,mB,seval,zj,zh];refine Weak.bare ?_ rfl ?_
    ·
     simp only[go_sem,Le.refl,Le.any];rw[hst2];exact Le.oslL
    exact clz17
   refine opT fun _ u=>?_;simp only[↓bO,go_sem,seval,↓zcQ];apply u;clear u;refine zaz (i:=0) tz0 ?_;refine opT fun _ u=>?_;simp only[↓bO,go_sem,seval,↓bs0_1];apply u;clear u;refine zaz (i:=4) tz0 ?_;refine opT fun _ u=>?_;simp only[↓bO,go_sem,seval,ha1,hl3,hq1,hq2];apply u;clear u;refine zaz (i:=10) tz0 ?_;refine opT fun _ u=>?_;simp only[↓bO,go_sem,seval,hl3,hq3,hq4];apply u;clear u;refine zaz (i:=14) tz0 ?_;refine opT fun _ u=>?_;simp only[↓bO,go_sem,seval,zi,ha2,hl3,hl4,hq5,hq6];apply u;clear u;refine zaz (i:=15) tz0 ?_;refine opT fun _ u=>?_;simp only[↓bO,go_sem,seval];apply u;clear u;refine zbU tz0 ?_;simp only[go_sem];apply g;apply z7;(iterate 2 (refine chS 1 ?_ (by intro _ q;simp only[↓bO,go_sem,seval,hw];exact q)));simp only[↓bO,go_sem,seval];refine ⟨(s+1),tz1,by omega,?_⟩;simp only[zar,zas,zah,zam,mB,seval,zj,zh];refine Weak.bare ?_ rfl ?_
   ·
    simp only[go_sem,Le.refl,Le.any];rw[hst2];exact Le.oslL
   exact clz17
  (have hks2:s=V.length:=by simp at hb30;omega);apply zak;simp only[zao,zaj,zaf,bA,Nat.reduceEqDiff,↓reduceIte];apply z;refine sqR fun _ z=>?_;refine chS 1 ?_;simp only[↓bO,go_sem,seval];apply z;apply zab;(try simp only[go_sem]);rw[<- hV,hks2,zI];exact Le.refl _
end Go.Proofs.YtpfiliamceimmaaGreatDoor
