/- packed, part 45 of 47. Conditions: none. -/
import Derived.Test.YtpfiliamceimmaaGreatDoorPk44
set_option linter.unusedVariables false
set_option linter.unusedSimpArgs false
set_option maxRecDepth 100000
set_option maxHeartbeats 4000000
namespace Go.Proofs.YtpfiliamceimmaaGreatDoor
open Go Go.RowKit
attribute [local irreducible] aops zaz
theorem Print1_e:ePure Tryz.prog [] 60 30 43 [.agg [.v (.int .i64 3),.v (.int .i64 0),.sl 3 []]] (.v (.string ⟨#[98,111,111,108]⟩))=true:=by kernel_rfl
theorem Print2_e:ePure Tryz.prog [] 60 30 43 [.agg [.v (.int .i64 4),.v (.int .i64 0),.sl 3 [[.v (.int .i64 3),.v (.int .i64 0),.sl 3 []],[.v (.int .i64 2),.v (.int .i64 0),.sl 3 []]]]] (.v (.string ⟨#[98,111,111,108,32,45,62,32,105,110,116]⟩))=true:=by kernel_rfl
theorem APure.ofD {σ:Type} {f:Nat} {args:List AV} {C:σ->Prop} {R:σ->AV} {x:AV} (h:DCalls f args C R) (hd:DataL args) (hx:Data x) (hu:∀s,C s->R s=x):APure Tryz.prog f args x :=
 ⟨hd,hx,ACalls.mono h fun r os n ⟨⟨s,hs,h1,_⟩,_⟩=>h1.trans (hu s hs)⟩
def awT:Ty:=.mk 4 0 [.mk 3 0 [],.mk 2 0 []]
def awA:Ty:=.mk 4 0 [vTy 1,.mk 2 0 []]
def aw14:List EqT:=[⟨vTy 0,awA,0,0⟩,⟨vTy 1,.mk 3 0 [],0,0⟩]
def awS (v:Int):Ty:=if v=0 then awT else if v=1 then .mk 3 0 [] else vTy v
def awB:List Bd:=[⟨0,awT⟩,⟨1,.mk 3 0 []⟩]
theorem aw_subA (θ:Int->Ty):awA.subF θ=.mk 4 0 [θ 1,.mk 2 0 []]:=by simp[awA,vTy,Ty.subF,Ty.subFL]
theorem aw_subT (θ:Int->Ty):awT.subF θ=awT:=by simp[awT,Ty.subF,Ty.subFL]
theorem aw_subB (θ:Int->Ty):(Ty.mk 3 0 []).subF θ=.mk 3 0 []:=by simp[Ty.subF,Ty.subFL]
theorem aw_subV (θ:Int->Ty) (v:Int):(vTy v).subF θ=θ v:=by simp[vTy,Ty.subF]
theorem zhN (θ:Int->Ty):zaQ θ (aw14.map EqT.p)↔θ 0=.mk 4 0 [θ 1,.mk 2 0 []]/\θ 1=.mk 3 0 []:=by
 unfold zaQ;simp only[aw14,zu,zS,EqT.p,List.forall_mem_cons,List.not_mem_nil,false_imp_iff,implies_true,and_true,aw_subA,aw_subB,aw_subV]
theorem aw_mg:MG (aw14.map EqT.p) awS:=by
 refine ⟨(zhN _).2 ⟨by simp[awS,awT],by simp[awS]⟩,fun θ hθ v=>?_⟩;obtain ⟨h0,h1⟩:=(zhN θ).1 hθ;unfold awS;split;(·rename_i e;subst e;rw[aw_subT,h0,h1];rfl);split;(·rename_i _ e;subst e;rw[aw_subB,h1]);rw[aw_subV]
theorem zkx {v:Int} (h:v=0\/v=1) (u:Int):¬(awS v).occ u:=by
 (rcases h with rfl | rfl);(·intro h;have h:u∈awT.rvars []:=h;simp[awT,Ty.rvars,Ty.rvarsL,Ty.k] at h);intro h;have h:u∈(Ty.mk 3 0 []).rvars []:=h;simp[Ty.rvars,Ty.rvarsL,Ty.k] at h
theorem aw_norm:Norm [0,1] awS:=by
 (have hm:∀v∈([0,1]:List Int),v=0\/v=1:=fun v hv=>by simpa using hv);refine ⟨fun v hv=>?_,fun v hv=>?_,fun v hv u hu=>absurd hu (zkx (hm v hv) u),fun v hv u hu=>?_⟩;·rcases hm v hv with rfl | rfl <;> decide
 ·simp only[zI,List.not_mem_nil,or_false,not_or] at hv
  unfold awS;rw[if_neg hv.1,if_neg hv.2]
 exact absurd (show (awS v).occ u by rw[hu];exact Ty.occ_vTy.2 rfl) (zkx (hm v hv) u)
theorem aw_oke:OkE (aw14.map EqT.p):=fun e he=>by
 simp only[aw14,zu,zS,EqT.p,zI,List.not_mem_nil,or_false] at he;rcases he with rfl | rfl <;> exact ⟨by decide,by decide,by decide,by decide⟩
theorem aw_occ (v:Int):OccE (aw14.map EqT.p) v↔v∈([0,1]:List Int):=by
 have e:OccE (aw14.map EqT.p) v↔v∈zc2 (aw14.map EqT.p):=((zgs _).2 v).symm;rw[e,show zc2 (aw14.map EqT.p)=[0,1] from by decide]
theorem aw_sol {S:CS} {c:List Int} (h:SolOk (aw14.map EqT.p) (eqF (aw14.map EqT.p)).1 c S):vsS S=[0,1]/\wF S=awS:=by
 (have hv:vsS S=[0,1]:=zik h.p.vs_strict tz3 fun v=>(h.p.vs_mem v).trans (aw_occ v));refine ⟨hv,?_⟩;have hn:=h.p.wF_norm h.no;rw[hv] at hn;exact MG.unique hn aw_norm (h.p.wF_mg h.no) aw_mg
theorem aw_cnt (v:Int):(awS v).cnt<=3:=by
 unfold awS;split;(·decide);split;(·decide);rw[vTy_cnt];omega
theorem aw_low:LowL (aw14.map EqT.p):=fun S c h v _=>by rw[(aw_sol h).2];have:=aw_cnt v;omega
theorem aw14_sol {r:List Bd×Int} (h:SolM 9 (aw14.map EqT.p) r):r=(awB,0):=by
 rcases h with ⟨s,hE,hne,_⟩ | ⟨S,c,hp,hno,h⟩
 ·rcases hE.1 with ⟨_,h2⟩ | ⟨_,_,S,c,y,h2,h3⟩ | ⟨h1,_⟩
  (·exact absurd h2 (zdq aw_oke aw_mg.solves));(·exact absurd h3 (h2.solves_noLoop aw_mg.solves y));exact absurd h1 hne
 obtain ⟨hv,hw⟩:=aw_sol ⟨hp,hno⟩;(rcases h with ⟨_,rfl⟩ | ⟨⟨v,_,hb⟩,_⟩);(·rw[hv,hw];rfl);unfold ziW at hb;rw[hw] at hb;have:=aw_cnt v;simp only[zw,zd] at hb;omega
theorem awSolve_pure:APure Tryz.prog 13 [.v (.int .i64 9),.sl 8 (aw14.map EqT.cells)] (.tup [.sl 4 (awB.map Bd.cells),.v (.int .i64 0)]) :=
 APure.ofD (Solve_c 9 aw14 aw_oke tz3 aw_low) (.cons (.v _) (.cons (EqT.dataSl _) .nil)) (.tup (.cons (Bd.dataSl _) (.cons (.v _) .nil))) fun s hs=>by rw[aw14_sol hs]
theorem awE_le:Le (.sl 8 [[.v (.int .i64 1),.v (.int .i64 0),.sl 3 [],.v (.int .i64 4),.v (.int .i64 0),.sl 3 ([vTy 1,.mk 2 0 []].map Ty.cells),.v (.int .i64 0),.v (.int .i64 0)],[.v (.int .i64 1),.v (.int .i64 1),.sl 3 [],.v (.int .i64 3),.v (.int .i64 0),.v (.slice none 0 0),.v (.int .i64 0),.v (.int .i64 0)]]) (.sl 8 (aw14.map EqT.cells)) :=
 Le.slC rfl (by intro y hy;simp[aw14,EqT.cells] at hy;rcases hy with rfl | rfl <;> rfl) ⟨.refl _,.refl _,.refl _,.refl _,.refl _,.refl _,.refl _,.refl _,.refl _,.refl _,.refl _,.refl _,.refl _,Le.slNil 3,.refl _,.refl _,trivial⟩
theorem awArr:APure Tryz.prog 42 [.sl 3 ([vTy 1,.mk 2 0 []].map Ty.cells)] (.agg [.v (.int .i64 4),.v (.int .i64 0),.sl 3 ([vTy 1,.mk 2 0 []].map Ty.cells)]):=by
 have h:=zls 2 [vTy 1,.mk 2 0 []] rfl tz3;rw[show zfX [vTy 1,.mk 2 0 []]=awA from rfl,Ty.cells_eq] at h;exact h
theorem awE_data:Data (.sl 8 [[.v (.int .i64 1),.v (.int .i64 0),.sl 3 [],.v (.int .i64 4),.v (.int .i64 0),.sl 3 ([vTy 1,.mk 2 0 []].map Ty.cells),.v (.int .i64 0),.v (.int .i64 0)],[.v (.int .i64 1),.v (.int .i64 1),.sl 3 [],.v (.int .i64 3),.v (.int .i64 0),.v (.slice none 0 0),.v (.int .i64 0),.v (.int .i64 0)]]):=.sl fun x hx=>by
 have h0:Data (.sl 3 []):=.sl (by intro x hx;cases hx);simp only[zI,List.not_mem_nil,or_false] at hx;(rcases hx with rfl | rfl);(·exact .cons (.v _) (.cons (.v _) (.cons h0 (.cons (.v _) (.cons (.v _) (.cons (Ty.dataSl _) (.cons (.v _) (.cons (.v _) .nil))))))));exact .cons (.v _) (.cons (.v _) (.cons h0 (.cons (.v _) (.cons (.v _) (.cons (.v _) (.cons (.v _) (.cons (.v _) .nil)))))))
theorem awP1:APure Tryz.prog 43 [.agg (Ty.mk 3 0 []).cells] (.v (.string ⟨#[98,111,111,108]⟩)):=zfL mixed Print1_e
theorem awP2:APure Tryz.prog 43 [.agg awT.cells] (.v (.string ⟨#[98,111,111,108,32,45,62,32,105,110,116]⟩)):=zfL mixed Print2_e
theorem awV (n:Int):APure Tryz.prog 41 [.v (.int .i64 n)] (.agg [.v (.int .i64 1),.v (.int .i64 n),.sl 3 []]):=by
 have h:=zhO n;rw[Ty.cells_eq] at h;exact h
theorem awA_le2:Le (.sl 3 [[.v (.int .i64 1),.v (.int .i64 1),.sl 3 []],[.v (.int .i64 2),.v (.int .i64 0),.v (.slice none 0 0)]]) (.sl 3 ([vTy 1,.mk 2 0 []].map Ty.cells)) :=
 Le.slC rfl (by intro y hy;simp at hy;rcases hy with rfl | rfl <;> simp[Ty.cells_len]) ⟨.refl _,.refl _,.refl _,.refl _,.refl _,Le.slNil 3,trivial⟩
theorem zaV:APure Tryz.prog 11 [] (.v (.bool true)):=by
  refine APure.mkL (.nil) (.v _) ?_;refine aIn Tryz.func11 fun hm=>?_;simp only[Tryz.ntmps11,Tryz.results11,go_sem,seval];(have hl0:(0:Int)<(awB.length:Int):=by decide);(have hl1:(1:Int)<(awB.length:Int):=by decide);have hg0:awB[0]?=some ⟨0,awT⟩:=rfl;have hg1:awB[1]?=some ⟨1,.mk 3 0 []⟩:=rfl;refine sqD ?_;refine sqR fun _ u=>?_;(iterate 5 (refine chS 1 ?_));simp only[↓bO,go_sem,seval];apply u;refine zY fun _ u=>?_;refine zln 14 [13] mixed tz0 (fun _ _ h=>h) fun J0 j0=>?_;simp only[go_sem];refine zad 1 fun _ y=>?_;simp only[↓zaz,↓dOp,↓bO,go_sem,seval];refine ⟨_,awV 0,?_⟩;apply y;clear y;refine zad 1 fun _ y=>?_;simp only[↓zaz,↓dOp,↓bO,go_sem,seval];refine ⟨_,awV 1,?_⟩;apply y;clear y;refine zad 1 fun _ y=>?_;simp only[↓zaz,↓dOp,↓bO,go_sem,seval];apply y;clear y;refine zad 1 fun _ y=>?_;simp only[↓zaz,↓dOp,↓bO,go_sem,seval,↓bs2_3];apply y;clear y;refine zad 1 fun _ y=>?_;simp only[↓zaz,↓dOp,↓bO,go_sem,seval];refine ⟨_,awArr.le ⟨awA_le2,trivial⟩ (.cons (.sl (by intro x hx;simp only[zI,List.not_mem_nil,or_false] at hx;rcases hx with rfl | rfl;exact .cons (.v _) (.cons (.v _) (.cons (.sl (by intro x hx;cases hx)) .nil));exact .cons (.v _) (.cons (.v _) (.cons (.v _) .nil)))) .nil),?_⟩;(iterate 2 (apply y;clear y;refine zad 1 fun _ y=>?_;simp only[↓zaz,↓dOp,↓bO,go_sem,seval]));refine ⟨_,awV 1,?_⟩;(iterate 2 (apply y;clear y;refine zad 1 fun _ y=>?_;simp only[↓zaz,↓dOp,↓bO,go_sem,seval]));apply y;clear y;refine zad 1 fun _ y=>?_;simp only[↓zaz,↓dOp,↓bO,go_sem,seval,↓bs2_8];apply y;clear y;refine zad 1 fun _ y=>?_;simp only[↓zaz,↓dOp,↓bO,go_sem,seval];refine ⟨_,awSolve_pure.le ⟨.refl _,awE_le,trivial⟩ (.cons (.v _) (.cons awE_data .nil)),?_⟩;(iterate 2 (apply y;clear y;refine zad 1 fun _ y=>?_;simp only[↓zaz,↓dOp,↓bO,go_sem,seval]));apply y;clear y;simp only[↓zaz,↓dOp,↓bO,go_sem,seval];refine j0 _ ?_;clear j0 J0;refine chS 1 ?_;simp only[↓bO,go_sem,seval];apply u;refine sqR fun _ u=>?_;(iterate 3 (refine chS 1 ?_));refine zaf 23 rfl (fun hc23=>?_) (fun hc23=>?_)
  ·
   (iterate 5 (refine chS 1 ?_));refine zaf 28 rfl (fun hc28=>?_) (fun hc28=>?_)
   ·
    (iterate 4 (refine chS 1 ?_ (by intro _ q;simp only[↓bO,go_sem,seval,Bd.drop1,hl0,gM hg0];exact q)));refine zZ 1 fun _ y=>?_;simp only[↓bO,go_sem,seval];refine APure.call (awP2) ?_;(iterate 3 (apply y;clear y;refine zZ 1 fun _ y=>?_;simp only[↓bO,go_sem,seval]));apply y;clear y;refine zaf 36 rfl (fun hc36=>?_) (fun hc36=>?_)
    ·
     (iterate 4 (refine chS 1 ?_ (by intro _ q;simp only[↓bO,go_sem,seval,Bd.drop1,hl1,gM hg1];exact q)));refine zZ 1 fun _ y=>?_;simp only[↓bO,go_sem,seval];refine APure.call (awP1) ?_;(iterate 2 (apply y;clear y;refine zZ 1 fun _ y=>?_;simp only[↓bO,go_sem,seval]));apply y;clear y;simp only[↓bO,go_sem,seval];apply u;apply z8;(try simp only[go_sem]);rw[beq_self_eq_true];exact Le.refl _
    simp only[go_sem];exact absurd hc36 (by first | decide | (simp;done))
   simp only[go_sem];exact absurd hc28 (by first | decide | (simp;done))
  simp only[go_sem];exact absurd hc23 (by first | decide | (simp;done))
def zlg (es:List EqT):Prop:=zdp (es.map EqT.p)=false/\LightL ((zaA es).map EqT.p)
theorem Great14_c (es:List EqT):DCalls (σ:=Bool) 10 [.sl 8 (es.map EqT.cells)] (fun s=>(s=false->zlg es)) (fun s=>.v (.bool s)):=by
  refine ACalls.clean (C:=fun r os=>∃s:Bool,((s=false->zlg es))/\r=(fun s:Bool=>.v (.bool s)) s/\os=[]) ?_;refine aIn Tryz.func10 fun hm=>?_;simp only[Tryz.ntmps10,Tryz.results10,go_sem,seval];refine sqD ?_;refine zY fun _ u=>?_;refine sqR fun _ w=>?_;refine chS 1 ?_;simp only[↓bO,go_sem,seval];refine APure.call (zib es) ?_;apply w;apply z7 rfl <;> intro hb6
  ·
   refine sqD ?_;apply z8;(try simp only[go_sem]);refine ⟨_,[],⟨true,(fun h=>by cases h),rfl,rfl⟩,.v _ _,trivial,Le.refl _,⟨0,rfl,rfl⟩,by omega⟩
  have hg12:zdp (es.map EqT.p)=false:=hb6;have hgl:=zdB hb6;rw[zD] at hgl;obtain ⟨hsP,hol⟩:=zgT es hgl.2;have hll:=zfN es;(have hrP:∀e∈((zaA es).map EqT.p),(e.1.right&&e.2.right)=true:=fun e he=>(by obtain ⟨x,hx,rfl⟩:=zq.1 he;exact (List.mem_filter.1 hx).2));apply zab;apply u;obtain ⟨M,hM⟩:∃M,M=(eqF ((zaA es).map EqT.p)).1:=⟨_,rfl⟩;have hmlM:=zhz ((zaA es).map EqT.p);rw[<- hM] at hmlM;(have hML:M.length<=1048576:=by omega);refine zcL (σ:=List Int) (mB 28 8) (fun c=>[(3,.eptr [.sl 4 (M.map RNode.cells),.sl 1 (c.map intC)])]) (fun c=>[]) 0 (fun c=>ColE ((zaA es).map EqT.p) c/\(clB M c=true↔Clashes ((zaA es).map EqT.p))) ?_ (fun c hcj=>?_)
  ·
   apply z6;refine chS 1 ?_;refine zZ 1 fun _ y=>?_;simp only[↓bO,go_sem,seval];refine APure.call (zhl es tz1) ?_;apply y;clear y;refine zZ 1 fun _ y=>?_;simp only[↓bO,go_sem,seval];refine Close_at (zaA es) hsP hrP (fun c hc hcb=>?_);rw[<- hM] at hcb ⊢;apply y;clear y;refine chS 1 ?_;simp only[↓bO,go_sem,seval];(try simp only[go_sem,seval]);refine ⟨c,⟨hc.colE hol,hcb⟩,?_⟩;refine Weak.freeze ?_ trivial tz2 tz2 ?_ ?_;(· exact clz5);(· repeat' first | exact trivial | exact .any _ | exact .v _ _ | exact Und.data (EqT.dataSl _) | exact Und.data (.eptr (.cons (RNode.dataSl _) (.cons (zap _) .nil))) | (refine ⟨?_,?_⟩));trivial
  simp only[go_sem,seval];obtain ⟨hce,hclx⟩:=hcj;have hcl:=hce.len;rw[<- hM] at hcl;(have hNx:zkr M c:=by (have h9:=nxOk_of hol hce.len;rw[<- hM] at h9;exact h9));refine zY fun _ u=>?_;refine sqR fun _ w=>?_;refine chS 1 ?_;refine zZ 1 fun _ y=>?_;simp only[↓bO,go_sem,seval];refine APure.call (zk4 M c hcl hML) ?_;apply y;clear y;refine chS 1 ?_;simp only[go_sem];refine zaf 12 rfl (fun hc12=>?_) (fun hc12=>?_)
  ·
   simp only[go_sem];have hc12:clB M c=true:=hc12;have hlight:LightL ((zaA es).map EqT.p):=zgz hce (.inl (hclx.1 hc12));(iterate 3 (refine chS 1 ?_));simp only[↓bO,go_sem,seval];apply w;refine z7 (b:=true) (by first | exact rfl | exact congrArg (fun b=>AV.v (.bool b)) hb16) (fun _=>?_) (fun h=>(by cases h));refine sqD ?_;apply z8;(try simp only[go_sem]);refine ⟨_,[],⟨false,(fun _=>⟨hg12,hlight⟩),rfl,rfl⟩,.v _ _,trivial,Le.refl _,⟨0,rfl,rfl⟩,by omega⟩
  simp only[go_sem];have hc12:clB M c=false:=hc12;refine chS 1 ?_;refine zZ 1 fun _ y=>?_;simp only[↓bO,go_sem,seval];refine APure.call (FinR_pure M c hNx hML) ?_;apply y;clear y;refine chS 1 ?_;simp only[↓bO,go_sem,seval];apply w;apply z7 rfl <;> intro hb16
  ·
   (have hfin:zkl M c=false:=by simpa using hb16);have hlight:LightL ((zaA es).map EqT.p):=zgz hce (.inr (by rw[<- hM];exact hfin));refine sqD ?_;apply z8;(try simp only[go_sem]);refine ⟨_,[],⟨false,(fun _=>⟨hg12,hlight⟩),rfl,rfl⟩,.v _ _,trivial,Le.refl _,⟨0,rfl,rfl⟩,by omega⟩
  (have hfin:zkl M c=true:=by simpa using hb16);apply zab;apply u;refine zY fun _ u=>?_;refine sqD ?_;apply zaa;refine zah (σ:=Nat) (mB 28 24) (fun s=>s<=M.length/\∀i,i<s->∃n,n<=399/\Hv (zbc M c) i n) (fun s=>[(4,.v (.int .i64 (s:Int)))]) (fun s=>[]) (fun s=>M.length-s) 0 (⟨Nat.zero_le _,fun i hi=>by omega⟩) ?_ (fun s hs=>?_)
  ·
   simp only[go_sem,seval];exact zaI
  simp only[go_sem,seval];refine zY fun _ w=>?_;refine sqR fun _ z=>?_;(iterate 4 (refine chS 1 ?_));simp only[↓bO,go_sem,seval];apply z;apply z7 rfl <;> intro hb21
  ·
   (have hk:s<M.length:=by simpa using hb21);have hw:IntKind.i64.wrap ((s:Int)+1)=(s:Int)+1:=zak tz1 tz1;apply zab;apply w;refine zY fun _ w=>?_;apply zaa;refine sqR fun _ z=>?_;(iterate 2 (refine chS 1 ?_ (by intro _ q;simp only[↓bO,go_sem,seval,hk];exact q)));refine zZ 1 fun _ y=>?_;simp only[↓bO,go_sem,seval];obtain ⟨n,hn⟩:=hv_ex hNx hfin hk;refine APure.call (zjp hNx hML hn hk 400 tz1 tz1) ?_;apply y;clear y;simp only[↓bO,go_sem,seval];apply z;apply z7 rfl <;> intro hb27
   ·
    refine sqD ?_;apply z8;(try simp only[go_sem]);refine ⟨_,[],⟨true,(fun h=>by cases h),rfl,rfl⟩,.v _ _,trivial,Le.refl _,⟨0,rfl,rfl⟩,by omega⟩
   (have hn399:n<=399:=by (have h9:=hb27;simp only[ze] at h9;omega));apply zab;apply w;apply z6;(iterate 2 (refine chS 1 ?_ (by intro _ q;simp only[↓bO,go_sem,seval,hw];exact q)));simp only[↓bO,go_sem,seval];refine ⟨(s+1),⟨by omega,fun i hi=>(by rcases zB i s with h3 | h3 <;> first | exact hs.2 i h3 | (obtain rfl:i=s:=tz1;exact ⟨n,hn399,hn⟩))⟩,by omega,?_⟩;simp only[zar,zas,zag,zal,mB,seval,zj,zi];exact zaI
  (have hk:s=M.length:=by have:=hs.1;simp at hb21;omega);have hlight:LightL ((zaA es).map EqT.p):=light_of hce (by rw[<- hM];intro i hi;exact hs.2 i tz1);apply zaj;simp only[zao,zai,zae,bA,Nat.reduceEqDiff,↓reduceIte];apply u;refine sqD ?_;apply z8;(try simp only[go_sem]);refine ⟨_,[],⟨false,(fun _=>⟨hg12,hlight⟩),rfl,rfl⟩,.v _ _,trivial,Le.refl _,⟨0,rfl,rfl⟩,by omega⟩
end Go.Proofs.YtpfiliamceimmaaGreatDoor
namespace Go.Proofs.YtpfiliamceimmaaGreatDoor
open Go Go.RowKit
abbrev Bad (es:List EqT):Prop:=(zaA es).length<es.length
theorem okE_of {es:List EqT} (hg:zdp (es.map EqT.p)=false) (hb:¬Bad es):OkE (es.map EqT.p)/\zbz (es.map EqT.p)<=160/\zaA es=es:=by
 have hgl:=zdB hg;obtain ⟨h1,h2⟩:=zgT es hgl.2;obtain ⟨h3,_⟩:=zgd hb;rw[h3] at h2;exact ⟨h2,hgl.2,h3⟩
theorem LightL.low {l:List (Ty×Ty)} (h:LightL l):LowL l:=fun S c hp v _=>Nat.le_trans (h S c hp v) tz3
theorem zk6 {most0:Int} {σ:Int->Ty} {v:Int} (h:(σ v).cnt<=399) (hm:399<=most0):ziW most0 σ v=false:=zgj (by simp only[most];omega)
theorem SolM.solR {most0:Int} {l:List (Ty×Ty)} {r:List Bd×Int} (h:SolM most0 l r) (ho:OkE l) (hl:LightL l) (hm:399<=most0):SolR l r:=by
 (rcases h with ⟨s,hE,hne,rfl⟩ | ⟨S,c,hp,hno,⟨_,rfl⟩ | ⟨⟨v,_,hb⟩,_⟩⟩);(·exact hE.sol ho hne);(·exact hp.sol_yes hno);rw[zk6 (hl S c ⟨hp,hno⟩ v) hm] at hb;cases hb
theorem zh7 {L:List Int} {σ:Int->Ty} {k:Nat} (h:∀v,(σ v).cnt<=k):∀b∈zcg L σ,b.t.cnt<=k:=fun b hb=>by
 obtain ⟨v,_,rfl⟩:=zq.1 hb;exact h v
theorem SolM.small {most0:Int} {l:List (Ty×Ty)} {r:List Bd×Int} (h:SolM most0 l r) (hl:LightL l):∀b∈r.1,b.t.cnt<=399:=by
 (rcases h with ⟨s,_,_,rfl⟩ | ⟨S,c,hp,hno,⟨_,rfl⟩ | ⟨_,rfl⟩⟩);(·intro b hb;cases hb);(·exact zh7 (hl S c ⟨hp,hno⟩));intro b hb;cases hb
theorem vs_len {l:List (Ty×Ty)} {L:List Int} (hs:L.Pairwise (· < ·)) (hL:∀v,v∈L↔OccE l v):L.length<=zbz l :=
 Nat.le_trans (zft (zeG hs) fun v hv=>((zgs l).2 v).2 ((hL v).1 hv)) (by
  have h:=zkD l
  have e:∀k:List (Ty×Ty),(k.map fun e=>e.1.cnt+e.2.cnt).sum=zbz k:=by
   intro k
   induction k with
   | nil=>rfl
   | cons x k ih=>simp only[zu,List.sum_cons,ih,zbz]
  rw[e] at h;exact h)
theorem SolM.len {most0:Int} {l:List (Ty×Ty)} {r:List Bd×Int} (h:SolM most0 l r):r.1.length<=zbz l:=by
 (rcases h with ⟨s,_,_,rfl⟩ | ⟨S,c,hp,hno,⟨_,rfl⟩ | ⟨_,rfl⟩⟩);(·simp);(·exact Nat.le_trans (zlC _ _) (vs_len hp.vs_strict hp.vs_mem));simp
end Go.Proofs.YtpfiliamceimmaaGreatDoor
namespace Go.Proofs.YtpfiliamceimmaaGreatDoor
open Go Go.RowKit
attribute [local irreducible] aops zaz
def CntR (es:List EqT) (s:Int×Int):Prop:=if Bad es then s=(1,0) else ∃t,EqtR (es.map EqT.p) t/\s=(t.2.1,t.2.2)
def SatV (es:List EqT) (z:Int):Prop:=if Bad es then z=1 else ∃t,EqtR (es.map EqT.p) t/\z=t.2.1
def SolA (most0:Int) (es:List EqT) (r:List Bd×Int):Prop:=if Bad es then r=([],1) else SolM most0 (es.map EqT.p) r
theorem APure.toD {σ:Type} {f:Nat} {args:List AV} {x:AV} {C:σ->Prop} {R:σ->AV} (h:APure Tryz.prog f args x) (s:σ) (hs:C s) (hx:x=R s):DCalls f args C R :=
 h.call ⟨⟨s,hs,hx,rfl⟩,rfl⟩
theorem DCalls.weak {σ τ:Type} {f:Nat} {args:List AV} {C:σ->Prop} {R:σ->AV} {C':τ->Prop} {R':τ->AV} (h:DCalls f args C R) (g:σ->τ) (hc:∀s,C s->C' (g s)) (hr:∀s,R s=R' (g s)):DCalls f args C' R' :=
 ACalls.mono h fun r os n ⟨⟨s,hs,h1,h2⟩,h3⟩=>⟨⟨g s,hc s hs,h1.trans (hr s),h2⟩,h3⟩
theorem SolveA_c (most0:Int) (es:List EqT) (hG:zlg es):DCalls (σ:=List Bd×Int) 13 [.v (.int .i64 most0),.sl 8 (es.map EqT.cells)] (SolA most0 es) (fun s=>.tup [.sl 4 (s.1.map Bd.cells),.v (.int .i64 s.2)]):=by
 obtain ⟨hg,hlight⟩:=hG
 by_cases hb:Bad es
 ·have hl:=(zdB hg).1
  rw[zD] at hl;exact APure.toD (Solve_bad most0 es tz1 (zfd hb)) ([],1) (by unfold SolA;rw[if_pos hb]) rfl
 obtain ⟨h1,h2,h3⟩:=okE_of hg hb;rw[h3] at hlight;exact (Solve_c most0 es h1 tz1 hlight.low).weak id (fun t ht=>by unfold SolA;rw[if_neg hb];exact ht) (fun _=>rfl)
theorem SolA.ok {es:List EqT} {r:List Bd×Int} (hG:zlg es) (h:SolA 1073741824 es r) (h0:r.2=0):¬Bad es/\SolM 1073741824 (es.map EqT.p) r/\OkE (es.map EqT.p)/\LightL (es.map EqT.p)/\zbz (es.map EqT.p)<=160:=by
 unfold SolA at h;(split at h);(·rw[h] at h0;cases h0);(rename_i hb);obtain ⟨h1,h2,h3⟩:=okE_of hG.1 hb;exact ⟨hb,h,h1,h3▸hG.2,h2⟩
end Go.Proofs.YtpfiliamceimmaaGreatDoor
