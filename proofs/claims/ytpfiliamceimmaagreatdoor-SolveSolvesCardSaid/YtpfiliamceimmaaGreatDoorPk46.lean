/- packed, part 46 of 48. Conditions: none. -/
import Derived.Test.YtpfiliamceimmaaGreatDoorPk45
set_option linter.unusedVariables false
set_option linter.unusedSimpArgs false
set_option maxRecDepth 100000
set_option maxHeartbeats 4000000
namespace Go.Proofs.YtpfiliamceimmaaGreatDoor
open Go Go.RowKit
attribute [local irreducible] aops zaA
theorem Print1_e:ePure Tryz.prog [] 60 30 43 [.agg [.v (.int .i64 3),.v (.int .i64 0),.sl 3 []]] (.v (.string ⟨#[98,111,111,108]⟩))=true:=by kernel_rfl
theorem Print2_e:ePure Tryz.prog [] 60 30 43 [.agg [.v (.int .i64 4),.v (.int .i64 0),.sl 3 [[.v (.int .i64 3),.v (.int .i64 0),.sl 3 []],[.v (.int .i64 2),.v (.int .i64 0),.sl 3 []]]]] (.v (.string ⟨#[98,111,111,108,32,45,62,32,105,110,116]⟩))=true:=by kernel_rfl
theorem APure.ofD {σ:Type} {f:Nat} {args:List AV} {C:σ->Prop} {R:σ->AV} {x:AV} (h:DCalls f args C R) (hd:DataL args) (hx:Data x) (hu:∀s,C s->R s=x):APure Tryz.prog f args x :=
 ⟨hd,hx,ACalls.mono h fun r os n ⟨⟨s,hs,h1,_⟩,_⟩=>h1.trans (hu s hs)⟩
def awT:Ty:=.mk 4 0 [.mk 3 0 [],.mk 2 0 []]
def awA:Ty:=.mk 4 0 [vTy 1,.mk 2 0 []]
def aw14:List EqT:=[⟨vTy 0,awA,0,0⟩,⟨vTy 1,.mk 3 0 [],0,0⟩]
def awS (v:Int):Ty:=if v=0 then awT else if v=1 then .mk 3 0 [] else vTy v
def awB:List Bd:=[⟨0,awT⟩,⟨1,.mk 3 0 []⟩]
theorem aw_subA (θ:Int->Ty):awA.subF θ=.mk 4 0 [θ 1,.mk 2 0 []]:=by simp[awA,vTy,Ty.subF,Ty.subFL]
theorem aw_subT (θ:Int->Ty):awT.subF θ=awT:=by simp[awT,Ty.subF,Ty.subFL]
theorem aw_subB (θ:Int->Ty):(Ty.mk 3 0 []).subF θ=.mk 3 0 []:=by simp[Ty.subF,Ty.subFL]
theorem aw_subV (θ:Int->Ty) (v:Int):(vTy v).subF θ=θ v:=by simp[vTy,Ty.subF]
theorem zjb (θ:Int->Ty):zaV θ (aw14.map EqT.p)↔θ 0=.mk 4 0 [θ 1,.mk 2 0 []]/\θ 1=.mk 3 0 []:=by
 unfold zaV;simp only[aw14,zt,zW,EqT.p,List.forall_mem_cons,List.not_mem_nil,false_imp_iff,implies_true,and_true,aw_subA,aw_subB,aw_subV]
theorem aw_mg:MG (aw14.map EqT.p) awS:=by
 refine ⟨(zjb _).2 ⟨by simp[awS,awT],by simp[awS]⟩,fun θ hθ v=>?_⟩;obtain ⟨h0,h1⟩:=(zjb θ).1 hθ;unfold awS;split;(·rename_i e;subst e;rw[aw_subT,h0,h1];rfl);split;(·rename_i _ e;subst e;rw[aw_subB,h1]);rw[aw_subV]
theorem zlb {v:Int} (h:v=0\/v=1) (u:Int):¬(awS v).occ u:=by
 (rcases h with rfl | rfl);(·intro h;have h:u∈awT.rvars []:=h;simp[awT,Ty.rvars,Ty.rvarsL,Ty.k] at h);intro h;have h:u∈(Ty.mk 3 0 []).rvars []:=h;simp[Ty.rvars,Ty.rvarsL,Ty.k] at h
theorem aw_norm:Norm [0,1] awS:=by
 (have hm:∀v∈([0,1]:List Int),v=0\/v=1:=fun v hv=>by simpa using hv);refine ⟨fun v hv=>?_,fun v hv=>?_,fun v hv u hu=>absurd hu (zlb (hm v hv) u),fun v hv u hu=>?_⟩;·rcases hm v hv with rfl | rfl <;> decide
 ·simp only[zE,List.not_mem_nil,or_false,not_or] at hv
  unfold awS;rw[if_neg hv.1,if_neg hv.2]
 exact absurd (show (awS v).occ u by rw[hu];exact Ty.occ_vTy.2 rfl) (zlb (hm v hv) u)
theorem aw_oke:OkE (aw14.map EqT.p):=fun e he=>by
 simp only[aw14,zt,zW,EqT.p,zE,List.not_mem_nil,or_false] at he;rcases he with rfl | rfl <;> exact ⟨by decide,by decide,by decide,by decide⟩
theorem aw_occ (v:Int):OccE (aw14.map EqT.p) v↔v∈([0,1]:List Int):=by
 have e:OccE (aw14.map EqT.p) v↔v∈zby (aw14.map EqT.p):=((zdJ _).2 v).symm;rw[e,show zby (aw14.map EqT.p)=[0,1] from by decide]
theorem aw_sol {S:CS} {c:List Int} (h:SolOk (aw14.map EqT.p) (eqF (aw14.map EqT.p)).1 c S):vsS S=[0,1]/\wF S=awS:=by
 (have hv:vsS S=[0,1]:=zet h.p.vs_strict tz3 fun v=>(h.p.vs_mem v).trans (aw_occ v));refine ⟨hv,?_⟩;have hn:=h.p.wF_norm h.no;rw[hv] at hn;exact MG.unique hn aw_norm (h.p.wF_mg h.no) aw_mg
theorem aw_cnt (v:Int):(awS v).cnt<=3:=by
 unfold awS;split;(·decide);split;(·decide);rw[zjZ];omega
theorem aw_low:LowL (aw14.map EqT.p):=fun S c h v _=>by rw[(aw_sol h).2];have:=aw_cnt v;omega
theorem aw14_sol {r:List Bd×Int} (h:SolM 9 (aw14.map EqT.p) r):r=(awB,0):=by
 rcases h with ⟨s,hE,hne,_⟩ | ⟨S,c,hp,hno,h⟩
 ·rcases hE.1 with ⟨_,h2⟩ | ⟨_,_,S,c,y,h2,h3⟩ | ⟨h1,_⟩
  (·exact absurd h2 (zgx aw_oke aw_mg.solves));(·exact absurd h3 (h2.solves_noLoop aw_mg.solves y));exact absurd h1 hne
 obtain ⟨hv,hw⟩:=aw_sol ⟨hp,hno⟩;(rcases h with ⟨_,rfl⟩ | ⟨⟨v,_,hb⟩,_⟩);(·rw[hv,hw];rfl);unfold zgX at hb;rw[hw] at hb;have:=aw_cnt v;simp only[zy,zd] at hb;omega
theorem awSolve_pure:APure Tryz.prog 13 [.v (.int .i64 9),.sl 8 (aw14.map EqT.cells)] (.tup [.sl 4 (awB.map Bd.cells),.v (.int .i64 0)]) :=
 APure.ofD (Solve_c 9 aw14 aw_oke tz3 aw_low) (.cons (.v _) (.cons (EqT.dataSl _) .nil)) (.tup (.cons (Bd.dataSl _) (.cons (.v _) .nil))) fun s hs=>by rw[aw14_sol hs]
theorem awE_le:Le (.sl 8 [[.v (.int .i64 1),.v (.int .i64 0),.sl 3 [],.v (.int .i64 4),.v (.int .i64 0),.sl 3 ([vTy 1,.mk 2 0 []].map Ty.cells),.v (.int .i64 0),.v (.int .i64 0)],[.v (.int .i64 1),.v (.int .i64 1),.sl 3 [],.v (.int .i64 3),.v (.int .i64 0),.v (.slice none 0 0),.v (.int .i64 0),.v (.int .i64 0)]]) (.sl 8 (aw14.map EqT.cells)) :=
 Le.slC rfl (by intro y hy;simp[aw14,EqT.cells] at hy;rcases hy with rfl | rfl <;> rfl) ⟨.refl _,.refl _,.refl _,.refl _,.refl _,.refl _,.refl _,.refl _,.refl _,.refl _,.refl _,.refl _,.refl _,Le.slNil 3,.refl _,.refl _,trivial⟩
theorem awArr:APure Tryz.prog 42 [.sl 3 ([vTy 1,.mk 2 0 []].map Ty.cells)] (.agg [.v (.int .i64 4),.v (.int .i64 0),.sl 3 ([vTy 1,.mk 2 0 []].map Ty.cells)]):=by
 have h:=zlP 2 [vTy 1,.mk 2 0 []] rfl tz3;rw[show zfU [vTy 1,.mk 2 0 []]=awA from rfl,Ty.cells_eq] at h;exact h
theorem awE_data:Data (.sl 8 [[.v (.int .i64 1),.v (.int .i64 0),.sl 3 [],.v (.int .i64 4),.v (.int .i64 0),.sl 3 ([vTy 1,.mk 2 0 []].map Ty.cells),.v (.int .i64 0),.v (.int .i64 0)],[.v (.int .i64 1),.v (.int .i64 1),.sl 3 [],.v (.int .i64 3),.v (.int .i64 0),.v (.slice none 0 0),.v (.int .i64 0),.v (.int .i64 0)]]):=.sl fun x hx=>by
 have h0:Data (.sl 3 []):=.sl (by intro x hx;cases hx);simp only[zE,List.not_mem_nil,or_false] at hx;(rcases hx with rfl | rfl);(·exact .cons (.v _) (.cons (.v _) (.cons h0 (.cons (.v _) (.cons (.v _) (.cons (Ty.dataSl _) (.cons (.v _) (.cons (.v _) .nil))))))));exact .cons (.v _) (.cons (.v _) (.cons h0 (.cons (.v _) (.cons (.v _) (.cons (.v _) (.cons (.v _) (.cons (.v _) .nil)))))))
theorem awP1:APure Tryz.prog 43 [.agg (Ty.mk 3 0 []).cells] (.v (.string ⟨#[98,111,111,108]⟩)):=zfS mixed Print1_e
theorem awP2:APure Tryz.prog 43 [.agg awT.cells] (.v (.string ⟨#[98,111,111,108,32,45,62,32,105,110,116]⟩)):=zfS mixed Print2_e
theorem awV (n:Int):APure Tryz.prog 41 [.v (.int .i64 n)] (.agg [.v (.int .i64 1),.v (.int .i64 n),.sl 3 []]):=by
 have h:=zie n;rw[Ty.cells_eq] at h;exact h
theorem awA_le2:Le (.sl 3 [[.v (.int .i64 1),.v (.int .i64 1),.sl 3 []],[.v (.int .i64 2),.v (.int .i64 0),.v (.slice none 0 0)]]) (.sl 3 ([vTy 1,.mk 2 0 []].map Ty.cells)) :=
 Le.slC rfl (by intro y hy;simp at hy;rcases hy with rfl | rfl <;> simp[Ty.cells_len]) ⟨.refl _,.refl _,.refl _,.refl _,.refl _,Le.slNil 3,trivial⟩
theorem zaG:APure Tryz.prog 11 [] (.v (.bool true)):=by
  refine APure.mkL (.nil) (.v _) ?_;refine aIn Tryz.func11 fun hm=>?_;simp only[Tryz.ntmps11,Tryz.results11,go_sem,seval];(have hl0:(0:Int)<(awB.length:Int):=by decide);(have hl1:(1:Int)<(awB.length:Int):=by decide);have hg0:awB[0]?=some ⟨0,awT⟩:=rfl;have hg1:awB[1]?=some ⟨1,.mk 3 0 []⟩:=rfl;refine sqD ?_;refine sqR fun _ u=>?_;(iterate 5 (refine chS 1 ?_));simp only[↓bO,go_sem,seval];apply u;refine z6 fun _ u=>?_;refine zlz 14 [13] mixed tz0 (fun _ _ h=>h) fun J0 j0=>?_;simp only[go_sem];refine zae 1 fun _ y=>?_;simp only[↓zaA,↓dOp,↓bO,go_sem,seval];refine ⟨_,awV 0,?_⟩;apply y;clear y;refine zae 1 fun _ y=>?_;simp only[↓zaA,↓dOp,↓bO,go_sem,seval];refine ⟨_,awV 1,?_⟩;apply y;clear y;refine zae 1 fun _ y=>?_;simp only[↓zaA,↓dOp,↓bO,go_sem,seval];apply y;clear y;refine zae 1 fun _ y=>?_;simp only[↓zaA,↓dOp,↓bO,go_sem,seval,↓bs2_3];apply y;clear y;refine zae 1 fun _ y=>?_;simp only[↓zaA,↓dOp,↓bO,go_sem,seval];refine ⟨_,awArr.le ⟨awA_le2,trivial⟩ (.cons (.sl (by intro x hx;simp only[zE,List.not_mem_nil,or_false] at hx;rcases hx with rfl | rfl;exact .cons (.v _) (.cons (.v _) (.cons (.sl (by intro x hx;cases hx)) .nil));exact .cons (.v _) (.cons (.v _) (.cons (.v _) .nil)))) .nil),?_⟩;(iterate 2 (apply y;clear y;refine zae 1 fun _ y=>?_;simp only[↓zaA,↓dOp,↓bO,go_sem,seval]));refine ⟨_,awV 1,?_⟩;(iterate 2 (apply y;clear y;refine zae 1 fun _ y=>?_;simp only[↓zaA,↓dOp,↓bO,go_sem,seval]));apply y;clear y;refine zae 1 fun _ y=>?_;simp only[↓zaA,↓dOp,↓bO,go_sem,seval,↓bs2_8];apply y;clear y;refine zae 1 fun _ y=>?_;simp only[↓zaA,↓dOp,↓bO,go_sem,seval];refine ⟨_,awSolve_pure.le ⟨.refl _,awE_le,trivial⟩ (.cons (.v _) (.cons awE_data .nil)),?_⟩;(iterate 2 (apply y;clear y;refine zae 1 fun _ y=>?_;simp only[↓zaA,↓dOp,↓bO,go_sem,seval]));apply y;clear y;simp only[↓zaA,↓dOp,↓bO,go_sem,seval];refine j0 _ ?_;clear j0 J0;refine chS 1 ?_;simp only[↓bO,go_sem,seval];apply u;refine sqR fun _ u=>?_;(iterate 3 (refine chS 1 ?_));refine zag 23 rfl (fun hc23=>?_) (fun hc23=>?_)
  ·
   (iterate 5 (refine chS 1 ?_));refine zag 28 rfl (fun hc28=>?_) (fun hc28=>?_)
   ·
    (iterate 4 (refine chS 1 ?_ (by intro _ q;simp only[↓bO,go_sem,seval,Bd.drop1,hl0,gM hg0];exact q)));refine zZ 1 fun _ y=>?_;simp only[↓bO,go_sem,seval];refine APure.call (awP2) ?_;(iterate 3 (apply y;clear y;refine zZ 1 fun _ y=>?_;simp only[↓bO,go_sem,seval]));apply y;clear y;refine zag 36 rfl (fun hc36=>?_) (fun hc36=>?_)
    ·
     (iterate 4 (refine chS 1 ?_ (by intro _ q;simp only[↓bO,go_sem,seval,Bd.drop1,hl1,gM hg1];exact q)));refine zZ 1 fun _ y=>?_;simp only[↓bO,go_sem,seval];refine APure.call (awP1) ?_;(iterate 2 (apply y;clear y;refine zZ 1 fun _ y=>?_;simp only[↓bO,go_sem,seval]));apply y;clear y;simp only[↓bO,go_sem,seval];apply u;apply zab;(try simp only[go_sem]);rw[beq_self_eq_true];exact Le.refl _
    simp only[go_sem];exact absurd hc36 (by first | decide | (simp;done))
   simp only[go_sem];exact absurd hc28 (by first | decide | (simp;done))
  simp only[go_sem];exact absurd hc23 (by first | decide | (simp;done))
def zlM (es:List EqT):Prop:=zdx (es.map EqT.p)=false/\LightL ((zaE es).map EqT.p)
theorem Great14_c (es:List EqT):DCalls (σ:=Bool) 10 [.sl 8 (es.map EqT.cells)] (fun s=>(s=false->zlM es)) (fun s=>.v (.bool s)):=by
  refine ACalls.clean (C:=fun r os=>∃s:Bool,((s=false->zlM es))/\r=(fun s:Bool=>.v (.bool s)) s/\os=[]) ?_;refine aIn Tryz.func10 fun hm=>?_;simp only[Tryz.ntmps10,Tryz.results10,go_sem,seval];refine sqD ?_;refine z6 fun _ u=>?_;refine sqR fun _ w=>?_;refine chS 1 ?_;simp only[↓bO,go_sem,seval];refine APure.call (zjd es) ?_;apply w;apply z8 rfl <;> intro hb6
  ·
   refine sqD ?_;apply zab;(try simp only[go_sem]);refine ⟨_,[],⟨true,(fun h=>by cases h),rfl,rfl⟩,.v _ _,trivial,Le.refl _,⟨0,rfl,rfl⟩,by omega⟩
  have hg12:zdx (es.map EqT.p)=false:=hb6;have hgl:=zcr hb6;rw[zx] at hgl;obtain ⟨hsP,hol⟩:=zeW es hgl.2;have hll:=zd1 es;(have hrP:∀e∈((zaE es).map EqT.p),(e.1.right&&e.2.right)=true:=fun e he=>(by obtain ⟨x,hx,rfl⟩:=zq.1 he;exact (List.mem_filter.1 hx).2));apply zaa;apply u;obtain ⟨M,hM⟩:∃M,M=(eqF ((zaE es).map EqT.p)).1:=⟨_,rfl⟩;have hmlM:=zfm ((zaE es).map EqT.p);rw[<- hM] at hmlM;(have hML:M.length<=1048576:=by omega);refine zcA (σ:=List Int) (mB 28 8) (fun c=>[(3,.eptr [.sl 4 (M.map RNode.cells),.sl 1 (c.map intC)])]) (fun c=>[]) 0 (fun c=>ColE ((zaE es).map EqT.p) c/\(clB M c=true↔Clashes ((zaE es).map EqT.p))) ?_ (fun c hcj=>?_)
  ·
   apply z7;refine chS 1 ?_;refine zZ 1 fun _ y=>?_;simp only[↓bO,go_sem,seval];refine APure.call (zeo es tz1) ?_;apply y;clear y;refine zZ 1 fun _ y=>?_;simp only[↓bO,go_sem,seval];refine zkv (zaE es) hsP hrP (fun c hc hcb=>?_);rw[<- hM] at hcb ⊢;apply y;clear y;refine chS 1 ?_;simp only[↓bO,go_sem,seval];(try simp only[go_sem,seval]);refine ⟨c,⟨hc.colE hol,hcb⟩,?_⟩;refine Weak.freeze ?_ trivial tz2 tz2 ?_ ?_;(· exact zjz);(· repeat' first | exact trivial | exact .any _ | exact .v _ _ | exact Und.data (EqT.dataSl _) | exact Und.data (.eptr (.cons (RNode.dataSl _) (.cons (zap _) .nil))) | (refine ⟨?_,?_⟩));trivial
  simp only[go_sem,seval];obtain ⟨hce,hclx⟩:=hcj;have hcl:=hce.len;rw[<- hM] at hcl;(have hNx:zkh M c:=by (have h9:=nxOk_of hol hce.len;rw[<- hM] at h9;exact h9));refine z6 fun _ u=>?_;refine sqR fun _ w=>?_;refine chS 1 ?_;refine zZ 1 fun _ y=>?_;simp only[↓bO,go_sem,seval];refine APure.call (zg4 M c hcl hML) ?_;apply y;clear y;refine chS 1 ?_;simp only[go_sem];refine zag 12 rfl (fun hc12=>?_) (fun hc12=>?_)
  ·
   simp only[go_sem];have hc12:clB M c=true:=hc12;have hlight:LightL ((zaE es).map EqT.p):=zhl hce (.inl (hclx.1 hc12));(iterate 3 (refine chS 1 ?_));simp only[↓bO,go_sem,seval];apply w;refine z8 (b:=true) (by first | exact rfl | exact congrArg (fun b=>AV.v (.bool b)) hb16) (fun _=>?_) (fun h=>(by cases h));refine sqD ?_;apply zab;(try simp only[go_sem]);refine ⟨_,[],⟨false,(fun _=>⟨hg12,hlight⟩),rfl,rfl⟩,.v _ _,trivial,Le.refl _,⟨0,rfl,rfl⟩,by omega⟩
  simp only[go_sem];have hc12:clB M c=false:=hc12;refine chS 1 ?_;refine zZ 1 fun _ y=>?_;simp only[↓bO,go_sem,seval];refine APure.call (ziS M c hNx hML) ?_;apply y;clear y;refine chS 1 ?_;simp only[↓bO,go_sem,seval];apply w;apply z8 rfl <;> intro hb16
  ·
   (have hfin:zjs M c=false:=by simpa using hb16);have hlight:LightL ((zaE es).map EqT.p):=zhl hce (.inr (by rw[<- hM];exact hfin));refine sqD ?_;apply zab;(try simp only[go_sem]);refine ⟨_,[],⟨false,(fun _=>⟨hg12,hlight⟩),rfl,rfl⟩,.v _ _,trivial,Le.refl _,⟨0,rfl,rfl⟩,by omega⟩
  (have hfin:zjs M c=true:=by simpa using hb16);apply zaa;apply u;refine z6 fun _ u=>?_;refine sqD ?_;apply zac;refine zai (σ:=Nat) (mB 28 24) (fun s=>s<=M.length/\∀i,i<s->∃n,n<=399/\Hv (zbm M c) i n) (fun s=>[(4,.v (.int .i64 (s:Int)))]) (fun s=>[]) (fun s=>M.length-s) 0 (⟨Nat.zero_le _,fun i hi=>by omega⟩) ?_ (fun s hs=>?_)
  ·
   simp only[go_sem,seval];exact zaL
  simp only[go_sem,seval];refine z6 fun _ w=>?_;refine sqR fun _ z=>?_;(iterate 4 (refine chS 1 ?_));simp only[↓bO,go_sem,seval];apply z;apply z8 rfl <;> intro hb21
  ·
   (have hk:s<M.length:=by simpa using hb21);have hw:IntKind.i64.wrap ((s:Int)+1)=(s:Int)+1:=zal tz1 tz1;apply zaa;apply w;refine z6 fun _ w=>?_;apply zac;refine sqR fun _ z=>?_;(iterate 2 (refine chS 1 ?_ (by intro _ q;simp only[↓bO,go_sem,seval,hk];exact q)));refine zZ 1 fun _ y=>?_;simp only[↓bO,go_sem,seval];obtain ⟨n,hn⟩:=hv_ex hNx hfin hk;refine APure.call (zjW hNx hML hn hk 400 tz1 tz1) ?_;apply y;clear y;simp only[↓bO,go_sem,seval];apply z;apply z8 rfl <;> intro hb27
   ·
    refine sqD ?_;apply zab;(try simp only[go_sem]);refine ⟨_,[],⟨true,(fun h=>by cases h),rfl,rfl⟩,.v _ _,trivial,Le.refl _,⟨0,rfl,rfl⟩,by omega⟩
   (have hn399:n<=399:=by (have h9:=hb27;simp only[ze] at h9;omega));apply zaa;apply w;apply z7;(iterate 2 (refine chS 1 ?_ (by intro _ q;simp only[↓bO,go_sem,seval,hw];exact q)));simp only[↓bO,go_sem,seval];refine ⟨(s+1),⟨by omega,fun i hi=>(by rcases zG i s with h3 | h3 <;> first | exact hs.2 i h3 | (obtain rfl:i=s:=tz1;exact ⟨n,hn399,hn⟩))⟩,by omega,?_⟩;simp only[zar,zas,zah,zam,mB,seval,zj,zh];exact zaL
  (have hk:s=M.length:=by have:=hs.1;simp at hb21;omega);have hlight:LightL ((zaE es).map EqT.p):=light_of hce (by rw[<- hM];intro i hi;exact hs.2 i tz1);apply zak;simp only[zao,zaj,zaf,bA,Nat.reduceEqDiff,↓reduceIte];apply u;refine sqD ?_;apply zab;(try simp only[go_sem]);refine ⟨_,[],⟨false,(fun _=>⟨hg12,hlight⟩),rfl,rfl⟩,.v _ _,trivial,Le.refl _,⟨0,rfl,rfl⟩,by omega⟩
theorem sat_c (es:List EqT) (hg:zdx (es.map EqT.p)=false):DCalls (σ:=Int) 20 [.sl 8 (es.map EqT.cells)] (fun s=>(if (zaE es).length<es.length then s=1 else SatR (es.map EqT.p) s)) (fun s=>.v (.int .i64 s)):=by
  refine ACalls.clean (C:=fun r os=>∃s:Int,((if (zaE es).length<es.length then s=1 else SatR (es.map EqT.p) s))/\r=(fun s:Int=>.v (.int .i64 s)) s/\os=[]) ?_;refine aIn Tryz.func20 fun hm=>?_;simp only[Tryz.ntmps20,Tryz.results20,go_sem,seval];have hgl:=zcr hg;rw[zx] at hgl;have hll:=zd1 es;refine sqD ?_;refine z6 fun _ y=>?_;refine sqR fun _ u=>?_;refine chS 1 ?_;refine zZ 1 fun _ q=>?_;simp only[↓bO,go_sem,seval];refine APure.call (zeo es tz1) ?_;(iterate 3 (apply q;clear q;refine zZ 1 fun _ q=>?_;simp only[↓bO,go_sem,seval]));apply q;clear q;simp only[↓bO,go_sem,seval];apply u;apply z8 rfl <;> intro hb9
  ·
   (have hlt:(zaE es).length<es.length:=by (have h9:=hb9;simp at h9;omega));refine sqD ?_;apply zab;(try simp only[go_sem]);refine ⟨_,[],⟨1,?_,rfl,rfl⟩,.v _ _,trivial,Le.refl _,⟨0,rfl,rfl⟩,by omega⟩;rw[if_pos hlt]
  (have hlt:¬(zaE es).length<es.length:=by (have h9:=hb9;simp at h9;omega));obtain ⟨hre,hok9⟩:=zg3 hlt;obtain ⟨hsP,hol⟩:=zeW es hgl.2;rw[hre] at hol;(have hrP:∀e∈(es.map EqT.p),(e.1.right&&e.2.right)=true:=fun e he=>(by obtain ⟨x,hx,rfl⟩:=zq.1 he;exact hok9 x hx));apply zaa;apply y;obtain ⟨M,hM⟩:∃M,M=(eqF (es.map EqT.p)).1:=⟨_,rfl⟩;have hmlM:=zfm (es.map EqT.p);rw[<- hM] at hmlM;(have hML:M.length<=1048576:=by omega);refine zcA (σ:=List Int) (mB 17 8) (fun c=>[(3,.eptr [.sl 4 (M.map RNode.cells),.sl 1 (c.map intC)])]) (fun c=>[]) 0 (fun c=>ColE (es.map EqT.p) c/\(clB M c=true↔Clashes (es.map EqT.p))) ?_ (fun c hcj=>?_)
  ·
   apply z7;refine chS 1 ?_;refine zZ 1 fun _ q=>?_;simp only[↓bO,go_sem,seval];refine zkv es hgl.2 hrP (fun c hc hcb=>?_);rw[<- hM] at hcb ⊢;apply q;clear q;refine chS 1 ?_;simp only[↓bO,go_sem,seval];(try simp only[go_sem,seval]);refine ⟨c,⟨hc.colE hol,hcb⟩,?_⟩;refine Weak.freeze ?_ trivial tz2 tz2 ?_ ?_;(· exact zjz);(· repeat' first | exact trivial | exact .any _ | exact .v _ _ | exact Und.data (EqT.dataSl _) | exact Und.data (.eptr (.cons (RNode.dataSl _) (.cons (zap _) .nil))) | (refine ⟨?_,?_⟩));trivial
  simp only[go_sem,seval];obtain ⟨hce,hclx⟩:=hcj;have hcl:=hce.len;rw[<- hM] at hcl;(have hNx:zkh M c:=by (have h9:=nxOk_of hol hce.len;rw[<- hM] at h9;exact h9));refine z6 fun _ y=>?_;refine sqR fun _ u=>?_;refine chS 1 ?_;simp only[↓bO,go_sem,seval];refine APure.call (zg4 M c hcl hML) ?_;apply u;apply z8 rfl <;> intro hb13
  ·
   have hc13:clB M c=true:=hb13;refine sqD ?_;apply zab;(try simp only[go_sem]);refine ⟨_,[],⟨7,?_,rfl,rfl⟩,.v _ _,trivial,Le.refl _,⟨0,rfl,rfl⟩,by omega⟩;rw[if_neg hlt];exact .inl ⟨rfl,hclx.1 hc13⟩
  have hc13:clB M c=false:=hb13;(have hnc:¬Clashes (es.map EqT.p):=fun h=>by (have:=hclx.2 h;rw[hc13] at this;cases this));apply zaa;apply y;refine z6 fun _ y=>?_;refine sqR fun _ u=>?_;refine chS 1 ?_;refine zZ 1 fun _ q=>?_;simp only[↓bO,go_sem,seval];refine APure.call (ziS M c hNx hML) ?_;apply q;clear q;simp only[↓bO,go_sem,seval];apply u;apply z8 rfl <;> intro hb16
  ·
   (have hfin:zjs M c=false:=by simpa using hb16);refine sqD ?_;apply zab;(try simp only[go_sem]);refine ⟨_,[],⟨8,?_,rfl,rfl⟩,.v _ _,trivial,Le.refl _,⟨0,rfl,rfl⟩,by omega⟩;rw[if_neg hlt];exact .inr ⟨c,hce,hnc,by rw[<- hM,hfin];rfl⟩
  (have hfin:zjs M c=true:=by simpa using hb16);apply zaa;apply y;refine sqD ?_;apply zab;(try simp only[go_sem]);refine ⟨_,[],⟨0,?_,rfl,rfl⟩,.v _ _,trivial,Le.refl _,⟨0,rfl,rfl⟩,by omega⟩;rw[if_neg hlt];exact .inr ⟨c,hce,hnc,by rw[<- hM,hfin];rfl⟩
end Go.Proofs.YtpfiliamceimmaaGreatDoor
namespace Go.Proofs.YtpfiliamceimmaaGreatDoor
open Go Go.RowKit
abbrev Bad (es:List EqT):Prop:=(zaE es).length<es.length
theorem okE_of {es:List EqT} (hg:zdx (es.map EqT.p)=false) (hb:¬Bad es):OkE (es.map EqT.p)/\zbD (es.map EqT.p)<=160/\zaE es=es:=by
 have hgl:=zcr hg;obtain ⟨h1,h2⟩:=zeW es hgl.2;obtain ⟨h3,_⟩:=zg3 hb;rw[h3] at h2;exact ⟨h2,hgl.2,h3⟩
theorem LightL.low {l:List (Ty×Ty)} (h:LightL l):LowL l:=fun S c hp v _=>Nat.le_trans (h S c hp v) tz3
theorem zi0 {L:List Int} {σ:Int->Ty} {k:Nat} (h:∀v,(σ v).cnt<=k):∀b∈zaB L σ,b.t.cnt<=k:=fun b hb=>by
 obtain ⟨v,_,rfl⟩:=zq.1 hb;exact h v
theorem vs_len {l:List (Ty×Ty)} {L:List Int} (hs:L.Pairwise (· < ·)) (hL:∀v,v∈L↔OccE l v):L.length<=zbD l :=
 Nat.le_trans (zgs (zdu hs) fun v hv=>((zdJ l).2 v).2 ((hL v).1 hv)) (by
  have h:=zhh l
  have e:∀k:List (Ty×Ty),(k.map fun e=>e.1.cnt+e.2.cnt).sum=zbD k:=by
   intro k
   induction k with
   | nil=>rfl
   | cons x k ih=>simp only[zt,List.sum_cons,ih,zbD]
  rw[e] at h;exact h)
theorem zll (a:List Bd):zjC a a=true:=by
 unfold zjC
 exact zcS rfl fun k p q hp hq=>by
  rw[hp] at hq;cases hq;simp[(Ty.same_iff p.t p.t).2 rfl]
end Go.Proofs.YtpfiliamceimmaaGreatDoor
namespace Go.Proofs.YtpfiliamceimmaaGreatDoor
open Go Go.RowKit
attribute [local irreducible] aops zaA
def CntR (es:List EqT) (s:Int×Int):Prop:=if Bad es then s=(1,0) else ∃t,EqtR (es.map EqT.p) t/\s=(t.2.1,t.2.2)
def SatV (es:List EqT) (z:Int):Prop:=if Bad es then z=1 else ∃t,EqtR (es.map EqT.p) t/\z=t.2.1
def SolA (most0:Int) (es:List EqT) (r:List Bd×Int):Prop:=if Bad es then r=([],1) else SolM most0 (es.map EqT.p) r
theorem APure.toD {σ:Type} {f:Nat} {args:List AV} {x:AV} {C:σ->Prop} {R:σ->AV} (h:APure Tryz.prog f args x) (s:σ) (hs:C s) (hx:x=R s):DCalls f args C R :=
 h.call ⟨⟨s,hs,hx,rfl⟩,rfl⟩
theorem DCalls.weak {σ τ:Type} {f:Nat} {args:List AV} {C:σ->Prop} {R:σ->AV} {C':τ->Prop} {R':τ->AV} (h:DCalls f args C R) (g:σ->τ) (hc:∀s,C s->C' (g s)) (hr:∀s,R s=R' (g s)):DCalls f args C' R' :=
 ACalls.mono h fun r os n ⟨⟨s,hs,h1,h2⟩,h3⟩=>⟨⟨g s,hc s hs,h1.trans (hr s),h2⟩,h3⟩
theorem SolveA_c (most0:Int) (es:List EqT) (hG:zlM es):DCalls (σ:=List Bd×Int) 13 [.v (.int .i64 most0),.sl 8 (es.map EqT.cells)] (SolA most0 es) (fun s=>.tup [.sl 4 (s.1.map Bd.cells),.v (.int .i64 s.2)]):=by
 obtain ⟨hg,hlight⟩:=hG
 by_cases hb:Bad es
 ·have hl:=(zcr hg).1
  rw[zx] at hl;exact APure.toD (Solve_bad most0 es tz1 (zfK hb)) ([],1) (by unfold SolA;rw[if_pos hb]) rfl
 obtain ⟨h1,h2,h3⟩:=okE_of hg hb;rw[h3] at hlight;exact (Solve_c most0 es h1 tz1 hlight.low).weak id (fun t ht=>by unfold SolA;rw[if_neg hb];exact ht) (fun _=>rfl)
end Go.Proofs.YtpfiliamceimmaaGreatDoor
