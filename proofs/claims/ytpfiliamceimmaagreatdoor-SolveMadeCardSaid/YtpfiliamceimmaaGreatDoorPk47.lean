/- packed, part 47 of 47. Conditions: none. -/
import Derived.Test.YtpfiliamceimmaaGreatDoorPk46
import Derived.Test.YtpfiliamceimmaaGreatDoorCards
import Derived.Test.YtpfiliamceimmaaGreatDoorTie
import Derived.OpenShut
import Derived.ChangeOld
import Derived.Below
import Derived.LaidMore
import Derived.Lay
import Derived.SevenTiedAt
set_option linter.unusedVariables false
set_option linter.unusedSimpArgs false
set_option maxRecDepth 100000
set_option maxHeartbeats 4000000
namespace Go.Proofs.YtpfiliamceimmaaGreatDoor
open Go Go.RowKit
attribute [local irreducible] aops zaz
structure Mix (es ds:List EqT):Prop where
 to:∀d∈ds,∃e∈es,d.p=e.p\/d.p=(e.r,e.l)
 back:∀e∈es,∃d∈ds,d.p=e.p\/d.p=(e.r,e.l)
theorem bad_iff {es:List EqT}:Bad es↔∃e∈es,e.ok=false:=by
 constructor;(·exact zfd);rintro ⟨e,he,h⟩;refine Classical.byContradiction fun hn=>?_;rw[(zgd hn).2 e he] at h;cases h
theorem EqT.eptr2 (e:EqT):Data (.eptr e.cells):=.eptr e.data
theorem Ty.len_app (t:Ty) (l:List AV):(t.cells++l).length=3+l.length:=by rw[zh,Ty.cells_len]
theorem Ty.take3_app (t:Ty) (l:List AV):(t.cells++l).take 3=t.cells:=by rw[List.take_append_of_le_length (by rw[Ty.cells_len];exact zQ _),List.take_of_length_le (by rw[Ty.cells_len];exact zQ _)]
theorem Ty.drop6_app (t:Ty) (l:List AV):(t.cells++l).drop 6=l.drop 3:=by rw[List.drop_append,List.drop_of_length_le (by rw[Ty.cells_len];omega),Ty.cells_len];rfl
def mkE (b:List Bd) (T:Ty):EqT:=⟨T,T.sub b,0,0⟩
theorem zh2 (b:List Bd) (T:Ty):(mkE b T).cells=T.cells++((T.sub b).cells++[.v (.int .i64 0),.v (.int .i64 0)]):=by
 rw[EqT.cells,Ty.cells_eq,Ty.cells_eq];rfl
structure MadeI (b:List Bd) (L:List Ty):Prop where
 right:∀T∈L,T.right=true
 solved:L≠[]->zdM b=true
theorem MadeI.step {b:List Bd} {l:List Ty} {z:Nat} {T:Ty} (h:MadeI b (l.take z)) (ht:l[z]?=some T) (hr:T.right=true) (hs:zdM b=true):MadeI b (l.take (z+1)) :=
 ⟨fun x hx=>by
  rw[zV,ht] at hx;(rcases zE.1 hx with hx | hx);·exact h.right x hx
  simp at hx;rw[hx];exact hr,fun _=>hs⟩
theorem zld {b:List Bd} (hb:zgA b) (hs:zdM b=true) (v:Int):(zfn b v).subF (zfn b)=zfn b v:=by
 have h1:=zjI.1 hs
 by_cases hv:v∈b.map Bd.v
 ·obtain ⟨x,hx,rfl⟩:=zq.1 hv
  rw[zht hb.1 hx];exact Ty.subF_fixed _ (hb.2 x hx).2 fun w hw=>zc8 (h1 x hx w hw)
 rw[zc8 hv,Ty.subF_var (by rfl)];exact zc8 hv
theorem zle {b:List Bd} (hb:zgA b) {v:Int} (hv:(vTy v).right=true):(zfn b v).right=true:=by
 by_cases h:v∈b.map Bd.v
 ·obtain ⟨x,hx,rfl⟩:=zq.1 h
  rw[zht hb.1 hx];exact (hb.2 x hx).2
 rw[zc8 h];exact hv
theorem zgn {b:List Bd} {l:List Ty} (hb:zgA b) (h:MadeI b l):¬Bad (l.map (mkE b))/\zaQ (zfn b) ((l.map (mkE b)).map EqT.p):=by
 (have hl:∀T∈l,(T.sub b)=T.subF (zfn b):=fun T hT=>Ty.sub_subF b T (h.right T hT));refine ⟨fun hbad=>?_,fun e he=>?_⟩
 ·obtain ⟨e,he,hk⟩:=bad_iff.1 hbad
  obtain ⟨T,hT,rfl⟩:=zq.1 he;have h1:=h.right T hT
  have h2:(T.sub b).right=true:=by
   rw[hl T hT];exact Ty.subF_right T h1 fun v hv=>zle hb (Ty.var_right h1 hv)
  rw[EqT.ok,mkE,h1,h2] at hk;cases hk
 rw[List.map_map] at he;obtain ⟨T,hT,rfl⟩:=zq.1 he;(show T.subF (zfn b)=(T.sub b).subF (zfn b));rw[hl T hT,Ty.subF_subF];exact Ty.subF_congr T fun v _=>(zld hb (h.solved (fun h9=>by rw[h9] at hT;cases hT)) v).symm
theorem made_sol {b:List Bd} {l:List Ty} (hb:zgA b) (h:MadeI b l) (hG:zlg (l.map (mkE b))) {r:List Bd×Int} (hr:SolA 1073741824 (l.map (mkE b)) r):r.2=0:=by
 obtain ⟨h1,h2⟩:=zgn hb h;obtain ⟨h3,h4,h5⟩:=okE_of hG.1 h1;unfold SolA at hr;rw[if_neg h1] at hr;exact ((hr.solR h3 (h5▸hG.2) tz3).most h3 h2).1
theorem zga (l:List Ty) (b:List Bd):APure Tryz.prog 8 [.sl 3 (l.map Ty.cells),.sl 4 (b.map Bd.cells)] (.v (.bool true)):=by
  refine APure.mkL (.cons (Ty.dataSl l) (.cons (Bd.dataSl b) .nil)) (.v _) ?_;refine aIn Tryz.func8 fun hm=>?_;simp only[Tryz.ntmps8,Tryz.results8,go_sem,seval];refine sqD ?_;refine zY fun _ u=>?_;refine sqR fun _ w=>?_;(iterate 4 (refine chS 1 ?_));refine zaf 13 rfl (fun hc13=>?_) (fun hc13=>?_)
  ·
   (iterate 7 (refine chS 1 ?_));simp only[↓bO,go_sem,seval];apply w;refine z7 (b:=true) (by first | exact rfl | exact congrArg (fun b=>AV.v (.bool b)) hb21) (fun _=>?_) (fun h=>(by cases h));refine sqR fun _ w=>?_;refine zZ 1 fun _ y=>?_;simp only[↓bO,go_sem,seval];refine APure.call (zaV) ?_;apply y;clear y;simp only[↓bO,go_sem,seval];apply w;apply z8;exact Le.refl _
  simp only[go_sem];(have hl12:l.length<=12:=by (have h9:=hc13;simp at h9;omega));refine chS 1 ?_;refine zZ 1 fun _ y=>?_;simp only[↓bO,go_sem,seval];refine APure.call (zhM b) ?_;(iterate 2 (apply y;clear y;refine zZ 1 fun _ y=>?_;simp only[↓bO,go_sem,seval]));apply y;clear y;refine zaf 17 rfl (fun hc17=>?_) (fun hc17=>?_)
  ·
   (iterate 3 (refine chS 1 ?_));simp only[↓bO,go_sem,seval];apply w;refine z7 (b:=true) (by first | exact rfl | exact congrArg (fun b=>AV.v (.bool b)) hb21) (fun _=>?_) (fun h=>(by cases h));refine sqR fun _ w=>?_;refine zZ 1 fun _ y=>?_;simp only[↓bO,go_sem,seval];refine APure.call (zaV) ?_;apply y;clear y;simp only[↓bO,go_sem,seval];apply w;apply z8;exact Le.refl _
  simp only[go_sem];have hgB:zeC b=false:=hc17;have hgs:=zjw hgB;refine chS 1 ?_;refine zZ 1 fun _ y=>?_;simp only[↓bO,go_sem,seval];refine APure.call (ziZ b) ?_;apply y;clear y;refine chS 1 ?_;simp only[↓bO,go_sem,seval];apply w;apply z7 rfl <;> intro hb21
  ·
   refine sqR fun _ w=>?_;refine zZ 1 fun _ y=>?_;simp only[↓bO,go_sem,seval];refine APure.call (zaV) ?_;apply y;clear y;simp only[↓bO,go_sem,seval];apply w;apply z8;exact Le.refl _
  have hRB:zgA b:=zjJ.1 (by first | exact hb21 | (simpa using hb21));(have hsm:∀x∈b,x.t.cnt<=1099511627776:=fun x hx=>Nat.le_trans (hgs.2.2 x hx) tz3);apply zab;apply u;refine sqD ?_;refine zY fun _ u=>?_;refine sqD ?_;apply zaa;refine zaC (Weak.tokSlot 5 32 8 rfl) ?_;simp only[go_sem];refine zah (σ:=Nat) (mB 90 99) (fun z=>z<=l.length/\MadeI b (l.take z)) (fun z=>[(5,.osl 0 8 (((l.take z).map (mkE b)).map EqT.cells)),(6,.v (.int .i64 (z:Int)))]) (fun z=>[(0,.tok 32 8 z)]) (fun z=>l.length-z) 0 (⟨Nat.zero_le _,⟨fun T hT=>(by cases hT),fun h=>absurd rfl h⟩⟩) ?_ (fun z hz=>?_)
  ·
   simp only[go_sem,seval,bL];exact zaI
  simp only[go_sem,seval];refine zY fun _ w=>?_;refine sqR fun _ k=>?_;(iterate 3 (refine chS 1 ?_));simp only[↓bO,go_sem,seval];apply k;apply z7 rfl <;> intro hb26
  ·
   (have hk:z<l.length:=by simpa using hb26);obtain ⟨T,hT⟩:∃T,l[z]?=some T:=⟨_,za hk⟩;obtain ⟨M,hM⟩:∃M,M=T.sub b:=⟨_,rfl⟩;have hw:IntKind.i64.wrap ((z:Int)+1)=(z:Int)+1:=zak tz1 tz1;(have hln:((l.take z).map (mkE b)).length=z:=by simp;omega);(have hb1:(z+1) * 96<=140737488355328:=by omega);(have hb2:z+1<=maxLen:=by (simp only[maxLen];omega));(have hon:(T.cells++(M.cells++[AV.v (.int .i64 0),AV.v (.int .i64 0)])).all AV.one=true:=by (rw[hM,<- zh2];rfl));(have hstp:(((l.take (z+1)).map (mkE b)).map EqT.cells)=((l.take z).map (mkE b)).map EqT.cells++[T.cells++(M.cells++[.v (.int .i64 0),.v (.int .i64 0)])]:=by (rw[zaJ (mkE b) hT,zz,hM,<- zh2];rfl));apply zab;apply w;refine zY fun _ w=>?_;apply zaa;refine zY fun _ k=>?_;refine sqR fun _ j=>?_;(iterate 4 (refine chS 1 ?_ (by intro _ q;simp only[↓bO,go_sem,seval,hk,gM hT];exact q)));refine zZ 1 fun _ y=>?_;simp only[↓bO,go_sem,seval];refine APure.call (zfD T) ?_;apply y;clear y;refine chS 1 ?_;simp only[go_sem];refine zaf 34 rfl (fun hc34=>?_) (fun hc34=>?_)
   ·
    (iterate 6 (refine chS 1 ?_));simp only[↓bO,go_sem,seval];apply j;refine z7 (b:=true) (by first | exact rfl | exact congrArg (fun b=>AV.v (.bool b)) hb41) (fun _=>?_) (fun h=>(by cases h));refine sqR fun _ j=>?_;refine zZ 1 fun _ y=>?_;simp only[↓bO,go_sem,seval];refine APure.call (zaV) ?_;apply y;clear y;simp only[↓bO,go_sem,seval];apply j;apply z8;exact Le.refl _
   simp only[go_sem];have hTc:=Ty.great_cnt hc34;(iterate 4 (refine chS 1 ?_ (by intro _ q;simp only[↓bO,go_sem,seval,hk,gM hT];exact q)));refine zZ 1 fun _ y=>?_;simp only[↓bO,go_sem,seval];refine APure.call (zb1 T) ?_;apply y;clear y;refine chS 1 ?_;simp only[↓bO,go_sem,seval];apply j;apply z7 rfl <;> intro hb41
   ·
    refine sqR fun _ j=>?_;refine zZ 1 fun _ y=>?_;simp only[↓bO,go_sem,seval];refine APure.call (zaV) ?_;apply y;clear y;simp only[↓bO,go_sem,seval];apply j;apply z8;exact Le.refl _
   (have hTr:T.right=true:=by (first | exact hb41 | (simpa using hb41)));apply zab;apply k;refine zbm (mB 90 227) ([(7,.eptr M.cells)]) [(0,.tok 32 8 z)] 1 (True) ?_ (fun hC=>?_)
   ·
    apply z6;(iterate 5 (refine chS 1 ?_ (by intro _ q;simp only[↓bO,go_sem,seval,hk,gM hT];exact q)));refine zZ 1 fun _ y=>?_;simp only[↓bO,go_sem,seval];refine APure.call ((show APure Tryz.prog 34 [.sl 4 (b.map Bd.cells),.agg T.cells] (.agg M.cells) from by rw[hM];exact zli T b tz1)) ?_;apply y;clear y;refine chS 1 ?_;simp only[↓bO,go_sem,seval];(try simp only[go_sem,seval]);(first | refine ⟨trivial,?_⟩ | skip);refine Weak.freeze ?_ ⟨rfl,trivial⟩ tz2 tz2 ?_ ?_;(· exact clz5);(· repeat' first | exact trivial | exact .any _ | exact .v _ _ | exact .ptr tz1 | exact Und.data (EqT.dataSl _) | exact Und.data (dataBy _) | exact Und.data (EqT.eptr2 _) | exact .osl tz1 (.data (EqT.dataSl _)) | exact Und.data (Ty.dataSl _) | exact Und.data (Bd.dataSl _) | exact Und.data (Ty.dataAgg _) | exact Und.data (.eptr (Ty.data _)) | (refine ⟨?_,?_⟩));repeat' first | exact trivial | (with_reducible omega) | (refine ⟨?_,?_⟩)
   simp only[go_sem,seval];refine zY fun _ k=>?_;refine sqR fun _ j=>?_;refine chS 1 ?_;refine zZ 1 fun _ y=>?_;simp only[↓bO,go_sem,seval];refine APure.call (zdS M) ?_;(iterate 2 (apply y;clear y;refine zZ 1 fun _ y=>?_;simp only[↓bO,go_sem,seval]));apply y;clear y;refine zaf 52 rfl (fun hc52=>?_) (fun hc52=>?_)
   ·
    (iterate 3 (refine chS 1 ?_));simp only[↓bO,go_sem,seval];apply j;refine z7 (b:=true) (by first | exact rfl | exact congrArg (fun b=>AV.v (.bool b)) hb56) (fun _=>?_) (fun h=>(by cases h));refine sqR fun _ j=>?_;refine zZ 1 fun _ y=>?_;simp only[↓bO,go_sem,seval];refine APure.call (zaV) ?_;apply y;clear y;simp only[↓bO,go_sem,seval];apply j;apply z8;exact Le.refl _
   refine chS 1 ?_;refine zZ 1 fun _ y=>?_;simp only[↓bO,go_sem,seval];refine APure.call (zid b hRB.1 tz1 hsm) ?_;apply y;clear y;refine chS 1 ?_;simp only[↓bO,go_sem,seval];apply j;apply z7 rfl <;> intro hb56
   ·
    refine sqR fun _ j=>?_;refine zZ 1 fun _ y=>?_;simp only[↓bO,go_sem,seval];refine APure.call (zaV) ?_;apply y;clear y;simp only[↓bO,go_sem,seval];apply j;apply z8;exact Le.refl _
   (have hso:zdM b=true:=by (first | exact hb56 | (simpa using hb56)));apply zab;apply k;refine zdi 10 [7] rfl mixed ?_;dsimp only;refine zaF 0 rfl tz0 tz0 tz0 (fun _ _ h=>h) tz0 (fun d h=>by cases h;rfl) tz0 (G':=[7]) tz0 fun _ y=>?_;simp only[↓bO,go_sem,seval,zcl];apply y;clear y;refine zaF 1 rfl tz0 tz0 tz0 (fun _ _ h=>h) tz0 (fun d h=>by cases h;rfl) tz0 (G':=[7]) tz0 fun _ y=>?_;simp only[↓bO,go_sem,seval,zcl];apply y;clear y;refine zaF 2 rfl tz0 tz0 tz0 (fun _ _ h=>h) tz0 (fun d h=>by cases h;rfl) tz0 (G':=[7]) tz0 fun _ y=>?_;simp only[↓bO,go_sem,seval,zcl];apply y;clear y;refine zaF 5 rfl tz0 tz0 tz0 (fun _ _ h=>h) tz0 (fun d h=>by cases h;rfl) tz0 (G':=[63,7]) tz0 fun _ y=>?_;simp only[↓bO,go_sem,seval,zcl,isE];apply y;clear y;refine zan (i:=3) tz0 rfl (fun d h=>by cases h;rfl) ?_;refine opT fun _ y=>?_;simp only[↓bO,go_sem,seval,hk,gM hT];refine y _ ⟨⟨rfl,rfl,trivial⟩,?_⟩;clear y;refine zan (i:=4) tz0 rfl (fun d h=>by cases h;rfl) ?_;refine opT fun _ y=>?_;simp only[↓bO,go_sem,seval];refine y _ ⟨⟨rfl,rfl,trivial⟩,?_⟩;clear y;refine zan (i:=6) tz0 rfl (fun d h=>by cases h;rfl) ?_;refine opT fun _ y=>?_;simp only[↓bO,go_sem,seval,Ty.len_app,Ty.take3_app,Ty.drop6_app,List.append_assoc];refine y _ ⟨⟨rfl,rfl,trivial⟩,?_⟩;clear y;refine zan (i:=7) tz0 rfl (fun d h=>by cases h;rfl) ?_;refine opT fun _ y=>?_;simp only[↓bO,go_sem,seval,↓bs1_8,Ty.len_app];refine y _ ⟨⟨rfl,rfl,trivial⟩,?_⟩;clear y;refine zan (i:=8) tz0 rfl (fun d h=>by cases h;rfl) ?_;refine opT fun _ y=>?_;simp only[↓bO,go_sem,seval,hln,hb1,hb2,hon];refine y _ ⟨⟨rfl,rfl,trivial⟩,?_⟩;clear y;refine zan (i:=9) tz0 rfl (fun d h=>by cases h;rfl) ?_;refine opT fun _ y=>?_;simp only[↓bO,go_sem,seval];refine y _ ⟨⟨rfl,rfl,trivial⟩,?_⟩;clear y;refine zbB tz0 ?_;simp only[go_sem];apply w;apply z6;(iterate 2 (refine chS 1 ?_ (by intro _ q;simp only[↓bO,go_sem,seval,hw];exact q)));simp only[↓bO,go_sem,seval];refine ⟨z+1,⟨by omega,hz.2.step hT hTr hso⟩,tz1,?_⟩;simp only[zar,zas,zag,zal,mB,seval,zj,zi,zp,hstp];exact zaI
  (have hk:z=l.length:=by (have h9:=hb26;simp at h9;omega));obtain ⟨D,hD⟩:∃D,D=l.map (mkE b):=⟨_,rfl⟩;(have hMI:MadeI b l:=by (have h9:=hz.2;rw[hk,zL] at h9;exact h9));rw[show ((l.take z).map (mkE b))=D from by rw[hk,zL,hD]];apply zaj;simp only[zao,zai,zae,bA,Nat.reduceEqDiff,↓reduceIte];apply u;refine zY fun _ u=>?_;refine sqR fun _ w=>?_;refine chS 1 ?_;simp only[↓bO,go_sem,seval];refine ACalls.args (args':=[.sl 8 (D.map EqT.cells)]) ⟨Le.oslL,trivial⟩ ?_;refine DCalls.at (Great14_c D) (.cons (EqT.dataSl _) .nil) (fun _=>.v _) (fun g hG=>?_);apply w;apply z7 rfl <;> intro hb68
  ·
   refine sqR fun _ w=>?_;refine zZ 1 fun _ y=>?_;simp only[↓bO,go_sem,seval];refine APure.call (zaV) ?_;apply y;clear y;simp only[↓bO,go_sem,seval];apply w;apply z8;exact Le.refl _
  have hgood:zlg D:=hG (by first | exact hb68 | (simpa using hb68));apply zab;apply u;refine sqR fun _ u=>?_;refine chS 1 ?_;refine zZ 1 fun _ y=>?_;simp only[↓bO,go_sem,seval];refine ACalls.args (args':=[.v (.int .i64 1073741824),.sl 8 (D.map EqT.cells)]) ⟨.refl _,Le.oslL,trivial⟩ ?_;refine DCalls.at (SolveA_c 1073741824 D hgood) (.cons (.v _) (.cons (EqT.dataSl _) .nil)) (fun _=>.tup (.cons (Bd.dataSl _) (.cons (.v _) .nil))) (fun r hr=>?_);have h0:=made_sol hRB hMI (hD▸hgood) (hD▸hr);obtain ⟨hnb,hsM,hoe,hlt,hsP⟩:=hr.ok hgood h0;have hsR:=hsM.solR hoe hlt tz3;have hRBr:=hsR.right h0;have hsm3:=hsM.small hlt;(have hsmr:∀x∈r.1,x.t.cnt<=1099511627776:=fun x hx=>Nat.le_trans (hsm3 x hx) tz3);have hrl:=hsM.len;(have hth:zaQ (zfn b) (D.map EqT.p):=by rw[hD];exact (zgn hRB hMI).2);(have hcl:∀e∈D,e.l.cnt<=1099511627776/\e.r.cnt<=1099511627776:=fun e he=>(by have h9:=hoe e.p (zq.2 ⟨e,he,rfl⟩);exact ⟨Nat.le_trans h9.2.2.1 tz3,Nat.le_trans h9.2.2.2 tz3⟩));(iterate 4 (apply y;clear y;refine zZ 1 fun _ y=>?_;simp only[↓bO,go_sem,seval]));apply y;clear y;simp only[↓bO,go_sem,seval];apply u;refine sqR fun _ u=>?_;(iterate 3 (refine chS 1 ?_));refine zaf 77 rfl (fun hc77=>?_) (fun hc77=>?_)
  ·
   (iterate 2 (refine chS 1 ?_));refine zZ 1 fun _ y=>?_;simp only[↓bO,go_sem,seval];refine ACalls.args (args':=[.sl 4 (r.1.map Bd.cells),.sl 8 (D.map EqT.cells)]) ⟨.refl _,Le.oslL,trivial⟩ ?_;refine APure.call (zeA r.1 D hRBr.1.1 tz1 hsmr hcl) ?_;(iterate 2 (apply y;clear y;refine zZ 1 fun _ y=>?_;simp only[↓bO,go_sem,seval]));apply y;clear y;refine zaf 82 rfl (fun hc82=>?_) (fun hc82=>?_)
   ·
    (iterate 2 (refine chS 1 ?_));refine zZ 1 fun _ y=>?_;simp only[↓bO,go_sem,seval];refine ACalls.args (args':=[.sl 4 (b.map Bd.cells),.sl 8 (D.map EqT.cells)]) ⟨.refl _,Le.oslL,trivial⟩ ?_;refine APure.call (zeA b D hRB.1 tz1 hsm hcl) ?_;(iterate 2 (apply y;clear y;refine zZ 1 fun _ y=>?_;simp only[↓bO,go_sem,seval]));apply y;clear y;refine zaf 87 rfl (fun hc87=>?_) (fun hc87=>?_)
    ·
     simp only[go_sem];refine zZ 1 fun _ y=>?_;simp only[↓bO,go_sem,seval];refine APure.call (zaV) ?_;apply y;clear y;refine chS 1 ?_;simp only[↓bO,go_sem,seval];apply u;apply z8;exact Le.refl _
    simp only[go_sem];exact absurd hc87 (by rw[(zfO hoe.rightE).2 hth];decide)
   simp only[go_sem];exact absurd hc82 (by rw[(zfO hoe.rightE).2 (hsR.solves h0)];decide)
  simp only[go_sem];exact absurd hc77 (by rw[h0];decide)
end Go.Proofs.YtpfiliamceimmaaGreatDoor
namespace Go.Proofs.YtpfiliamceimmaaGreatDoor.solveMade
open Go Go.ChangeShapes Go.WideShapes Go.ChangeAt Go.RowKit
theorem own:ownKnob Tryz.prog.godebug=none:=by kernel_rfl
theorem laidOut:laidOutB Tryz.prog=true:=by kernel_rfl
theorem cT:Tryz.prog.cellsOf 28=3:=by kernel_rfl
theorem cI:Tryz.prog.cellsOf 3=1:=by kernel_rfl
theorem cS:Tryz.prog.cellsOf 26=1:=by kernel_rfl
section
variable {H:Type} {enc:TypeId×Value->H} {w:World} {base:Nat} {spare:Nat->Bool} {held:Bool}
theorem rdT (fuel:Nat):Rd enc Tryz.prog w base spare held Env.none fuel 28 Ty.cells :=
 rd_ty Tryz.underlying28 cT rfl rfl rfl rfl rfl rfl Tryz.underlying3 cI Tryz.underlying26 cS fuel
theorem rdS (fuel:Nat):Rd enc Tryz.prog w base spare held Env.none fuel 26 (fun xs:List Ty=>[.sl 3 (xs.map Ty.cells)]) :=
 zhw Tryz.underlying26 cT tz1 Ty.cells_len fun n _=>rdT n
theorem cB:Tryz.prog.cellsOf 43=4:=by kernel_rfl
theorem rdB (fuel:Nat):Rd enc Tryz.prog w base spare held Env.none fuel 43 Bd.cells :=
 rd_bd Tryz.underlying43 cB cT rfl rfl rfl rfl Tryz.underlying3 cI rdT fuel
theorem rdDs (fuel:Nat):Rd enc Tryz.prog w base spare held Env.none fuel 33 (fun xs:List Bd=>[.sl 4 (xs.map Bd.cells)]) :=
 zhw Tryz.underlying33 cB tz1 Bd.cells_len fun n _=>rdB n
end
set_option maxRecDepth 100000 in
theorem lifted (os:Go.Os) (started:os.Started) (H:Type) (enc:TypeId×Value->H) :
  ReturnsInHanded {} Tryz.checked os 8 .any (fun w args=>(Rows.solveMadeSpec.pre enc Tryz.prog Tryz.f8 Rows.solveMadeRow.domain false w args/\laidMetH Tryz.prog Rows.solveMadeRow.laid w)/\sizedMet enc Tryz.prog Tryz.f8 (OpenSpec.ofChange Rows.solveMadeSpec) false w args)
   (Rows.solveMadeSpec.post enc Tryz.prog Tryz.f8 false true false false):=by
 refine returnsInHanded_of_change_and (C:=Tryz.checked) (X:=fun w _=>laidMetH Tryz.prog Rows.solveMadeRow.laid w) (fun _ _ _ hh h=>h.of_heap hh) own started tz0 Tryz.func8
  (ChangeSpec.witness_shaped (enc:=enc) (C:=Tryz.checked) (os:=os) (X:=fun w _=>laidMetH Tryz.prog Rows.solveMadeRow.laid w) false (World.laidAll Tryz.prog os Rows.solveMadeRow.laid) #[.slice none 0 0,.slice none 0 0] 8 (World.laidAll_os _ _ _)
   (World.shaped_of_ZipB tz0 tz0) tz0 tz0 tz0
   (by rw[MakeChecks.laidMetH_plain _ _ _ tz0];exact laidMet_laidAll _ tz0 tz0)) ?_
 intro W base args ds gs before hval0 hW hcnd _ hL _;have hval:∀(j:Nat) t v,Tryz.f8.params[j]?=some t->args[j]?=some v->Value.okWide Tryz.prog W .any base t v:=hval0;have hW':=hW;obtain ⟨p,q,hA0,hV,rfl,hfz,hnd⟩:=hW;have hA:DataW.TrodAll enc Tryz.prog W 0 (fun _=>true) true Tryz.f8.params.toList args.toList ds p:=hA0;rw[Tryz.params8] at hA hval;obtain ⟨v0,vs0,d0,ds0,p0,y,hargs,rfl,rfl,h0,r0⟩:=trodAll_cons hA;obtain ⟨v1,vs1,d1,ds1,p1,z,rfl,rfl,rfl,h1,r1⟩:=trodAll_cons r0;obtain ⟨rfl,rfl,rfl⟩:=trodAll_nil r1;(obtain rfl:args=#[v0,v1]:=by cases args;simp_all);obtain ⟨rfl,rfl⟩:=trodVars_none hV;have k0:=h0;(have lt0:∀x∈p0,x.block<W.heap.size:=by obtain ⟨m,hm⟩:=k0;exact DataW.trod_lt m _ _ _ hm);obtain ⟨b0,len0,cap0,rfl⟩:=okWide_slice Tryz.underlying26 (hval 0 26 v0 rfl rfl)
 obtain ⟨P0,hr0⟩:∃P:List Ty,Rp Env.none (fun _ _=>False) W (.sl 3 (P.map Ty.cells)) (.slice b0 len0 cap0):=by
  obtain ⟨m,hm⟩:=h0;obtain ⟨P,_,hr⟩:=rdS m _ _ hm;exact ⟨P,hr 0 _ _ rfl rfl⟩
 have k1:=h1;(have lt1:∀x∈p1,x.block<W.heap.size:=by obtain ⟨m,hm⟩:=k1;exact DataW.trod_lt m _ _ _ hm);obtain ⟨b1,len1,cap1,rfl⟩:=okWide_slice Tryz.underlying33 (hval 1 33 v1 rfl rfl)
 obtain ⟨P1,hr1⟩:∃P:List Bd,Rp Env.none (fun _ _=>False) W (.sl 4 (P.map Bd.cells)) (.slice b1 len1 cap1):=by
  obtain ⟨m,hm⟩:=h1;obtain ⟨P,_,hr⟩:=rdDs m _ _ hm;exact ⟨P,hr 0 _ _ rfl rfl⟩
 clear hA0 hval0;refine ((zga P0 P1).calls (w:=W) rfl ?_).mono fun e W' ⟨he,bel⟩=>?_
 ·intro i c u hc hu
  match i with
  | 0=>simp at hc hu;subst hc;subst hu;exact hr0
  | 1=>simp at hc hu;subst hc;subst hu;exact hr1
  | i+2=>simp at hc
 subst he;exact ⟨_,rfl,_,_,_,[],_,[],hW',trodAll_mk1 (shut_bool Tryz.underlying4 _),(trodAll_cons_mk (Below.trod laidOut tz0 (of_decide_eq_true tz0) k0 bel lt0) (trodAll_cons_mk (Below.trod laidOut tz0 (of_decide_eq_true tz0) k1 bel lt1) trodAll_mk0)),rfl,bel.frame _,fun h=>by cases h⟩
theorem over:Rows.solveMadeRow.holds Tryz.pinned (OpenSpec.ofChange Rows.solveMadeSpec) :=
 OpenClaim.holds_of_wide 8 Tryz.f8 rfl rfl rfl rfl rfl rfl rfl ⟨rfl,rfl,rfl,rfl,rfl⟩ rfl rfl rfl rfl rfl tz0 Tryz.func8 tz0
  (of_decide_eq_true tz0) (by unfold Func.isWrapper;first | (rw[if_pos (by decide +kernel)];kernel_rfl) | (rw[if_neg (by decide +kernel)];exact ⟨rfl,rfl⟩))
  (fun os started H enc _=>lifted os started H enc)
end Go.Proofs.YtpfiliamceimmaaGreatDoor.solveMade
namespace Go.Proofs.YtpfiliamceimmaaGreatDoor
theorem solveMade_proved : Rows.SolveMadeCardSaid :=
 Claim7.holds_tied_plain_at .later [] _ _ _ _ solveMade.over (fun _ h=>by cases h) tz0 (fun _ h=>by cases h) solveMade_row_tie rfl ⟨rfl,rfl⟩ tz0 rfl
  (fun f fn hf hfn=>by
   obtain rfl:f=8:=Option.some.inj ((show Tryz.prog.funcNamed "pangram/pangramlaw14.SolveMade"=some 8 by kernel_rfl).symm.trans hf) |>.symm;obtain rfl:fn=Tryz.f8:=(Option.some.inj (Tryz.func8.symm.trans hfn)).symm;refine ⟨by kernel_rfl,fun j t ht=>?_⟩;rw[Tryz.params8] at ht;(have hm:t∈[26,33]:=by simpa using Array.mem_of_getElem? ht);(have hall:([26,33].all fun u=>!Tryz.prog.wantsStandIn u)=true:=by kernel_rfl);have:=zN.1 hall t hm;have h9:Tryz.prog.wantsStandIn t=false:=by simpa using this
   exact h9)
  tz0
#print axioms solveMade_proved
end Go.Proofs.YtpfiliamceimmaaGreatDoor
