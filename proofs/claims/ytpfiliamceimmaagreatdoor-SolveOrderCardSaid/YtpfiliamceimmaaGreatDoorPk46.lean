/- packed, part 46 of 46. Conditions: none. -/
import Derived.Test.YtpfiliamceimmaaGreatDoorPk45
import Derived.Test.YtpfiliamceimmaaGreatDoorCards
import Derived.Test.YtpfiliamceimmaaGreatDoorTie
import Derived.OpenShut
import Derived.ChangeOld
import Derived.Below
import Derived.LaidMore
import Derived.Lay
import Derived.SevenTiedAt
set_option linter.unusedVariables false
set_option linter.unusedSimpArgs false
set_option maxRecDepth 100000
set_option maxHeartbeats 4000000
namespace Go.Proofs.YtpfiliamceimmaaGreatDoor
open Go Go.RowKit
attribute [local irreducible] aops zax
theorem Print1_e:ePure Tryz.prog [] 60 30 43 [.agg [.v (.int .i64 3),.v (.int .i64 0),.sl 3 []]] (.v (.string ⟨#[98,111,111,108]⟩))=true:=by kernel_rfl
theorem Print2_e:ePure Tryz.prog [] 60 30 43 [.agg [.v (.int .i64 4),.v (.int .i64 0),.sl 3 [[.v (.int .i64 3),.v (.int .i64 0),.sl 3 []],[.v (.int .i64 2),.v (.int .i64 0),.sl 3 []]]]] (.v (.string ⟨#[98,111,111,108,32,45,62,32,105,110,116]⟩))=true:=by kernel_rfl
theorem APure.ofD {σ:Type} {f:Nat} {args:List AV} {C:σ->Prop} {R:σ->AV} {x:AV} (h:DCalls f args C R) (hd:DataL args) (hx:Data x) (hu:∀s,C s->R s=x):APure Tryz.prog f args x :=
 ⟨hd,hx,ACalls.mono h fun r os n ⟨⟨s,hs,h1,_⟩,_⟩=>h1.trans (hu s hs)⟩
def awT:Ty:=.mk 4 0 [.mk 3 0 [],.mk 2 0 []]
def awA:Ty:=.mk 4 0 [vTy 1,.mk 2 0 []]
def aw14:List EqT:=[⟨vTy 0,awA,0,0⟩,⟨vTy 1,.mk 3 0 [],0,0⟩]
def awS (v:Int):Ty:=if v=0 then awT else if v=1 then .mk 3 0 [] else vTy v
def awB:List Bd:=[⟨0,awT⟩,⟨1,.mk 3 0 []⟩]
theorem aw_subA (θ:Int->Ty):awA.subF θ=.mk 4 0 [θ 1,.mk 2 0 []]:=by simp[awA,vTy,Ty.subF,Ty.subFL]
theorem aw_subT (θ:Int->Ty):awT.subF θ=awT:=by simp[awT,Ty.subF,Ty.subFL]
theorem aw_subB (θ:Int->Ty):(Ty.mk 3 0 []).subF θ=.mk 3 0 []:=by simp[Ty.subF,Ty.subFL]
theorem aw_subV (θ:Int->Ty) (v:Int):(vTy v).subF θ=θ v:=by simp[vTy,Ty.subF]
theorem zhC (θ:Int->Ty):zaO θ (aw14.map EqT.p)↔θ 0=.mk 4 0 [θ 1,.mk 2 0 []]/\θ 1=.mk 3 0 []:=by
 unfold zaO;simp only[aw14,zz,zU,EqT.p,List.forall_mem_cons,List.not_mem_nil,false_imp_iff,implies_true,and_true,aw_subA,aw_subB,aw_subV]
theorem aw_mg:MG (aw14.map EqT.p) awS:=by
 refine ⟨(zhC _).2 ⟨by simp[awS,awT],by simp[awS]⟩,fun θ hθ v=>?_⟩;obtain ⟨h0,h1⟩:=(zhC θ).1 hθ;unfold awS;split;(·rename_i e;subst e;rw[aw_subT,h0,h1];rfl);split;(·rename_i _ e;subst e;rw[aw_subB,h1]);rw[aw_subV]
theorem zjD {v:Int} (h:v=0\/v=1) (u:Int):¬(awS v).occ u:=by
 (rcases h with rfl | rfl);(·intro h;have h:u∈awT.rvars []:=h;simp[awT,Ty.rvars,Ty.rvarsL,Ty.k] at h);intro h;have h:u∈(Ty.mk 3 0 []).rvars []:=h;simp[Ty.rvars,Ty.rvarsL,Ty.k] at h
theorem aw_norm:Norm [0,1] awS:=by
 (have hm:∀v∈([0,1]:List Int),v=0\/v=1:=fun v hv=>by simpa using hv);refine ⟨fun v hv=>?_,fun v hv=>?_,fun v hv u hu=>absurd hu (zjD (hm v hv) u),fun v hv u hu=>?_⟩;·rcases hm v hv with rfl | rfl <;> decide
 ·simp only[zI,List.not_mem_nil,or_false,not_or] at hv
  unfold awS;rw[if_neg hv.1,if_neg hv.2]
 exact absurd (show (awS v).occ u by rw[hu];exact Ty.occ_vTy.2 rfl) (zjD (hm v hv) u)
theorem aw_oke:OkE (aw14.map EqT.p):=fun e he=>by
 simp only[aw14,zz,zU,EqT.p,zI,List.not_mem_nil,or_false] at he;rcases he with rfl | rfl <;> exact ⟨by decide,by decide,by decide,by decide⟩
theorem aw_occ (v:Int):OccE (aw14.map EqT.p) v↔v∈([0,1]:List Int):=by
 have e:OccE (aw14.map EqT.p) v↔v∈zfb (aw14.map EqT.p):=((zkt _).2 v).symm;rw[e,show zfb (aw14.map EqT.p)=[0,1] from by decide]
theorem aw_sol {S:CS} {c:List Int} (h:SolOk (aw14.map EqT.p) (eqF (aw14.map EqT.p)).1 c S):vsS S=[0,1]/\wF S=awS:=by
 (have hv:vsS S=[0,1]:=zdB h.p.vs_strict tz3 fun v=>(h.p.vs_mem v).trans (aw_occ v));refine ⟨hv,?_⟩;have hn:=h.p.wF_norm h.no;rw[hv] at hn;exact MG.unique hn aw_norm (h.p.wF_mg h.no) aw_mg
theorem aw_cnt (v:Int):(awS v).cnt<=3:=by
 unfold awS;split;(·decide);split;(·decide);rw[ziD];omega
theorem aw_low:LowL (aw14.map EqT.p):=fun S c h v _=>by rw[(aw_sol h).2];have:=aw_cnt v;omega
theorem aw14_sol {r:List Bd×Int} (h:SolM 9 (aw14.map EqT.p) r):r=(awB,0):=by
 rcases h with ⟨s,hE,hne,_⟩ | ⟨S,c,hp,hno,h⟩
 ·rcases hE.1 with ⟨_,h2⟩ | ⟨_,_,S,c,y,h2,h3⟩ | ⟨h1,_⟩
  (·exact absurd h2 (zbG aw_oke aw_mg.solves));(·exact absurd h3 (h2.solves_noLoop aw_mg.solves y));exact absurd h1 hne
 obtain ⟨hv,hw⟩:=aw_sol ⟨hp,hno⟩;(rcases h with ⟨_,rfl⟩ | ⟨⟨v,_,hb⟩,_⟩);(·rw[hv,hw];rfl);unfold zib at hb;rw[hw] at hb;have:=aw_cnt v;simp only[zw,zc] at hb;omega
theorem awSolve_pure:APure Tryz.prog 13 [.v (.int .i64 9),.sl 8 (aw14.map EqT.cells)] (.tup [.sl 4 (awB.map Bd.cells),.v (.int .i64 0)]) :=
 APure.ofD (ziY 9 aw14 aw_oke tz3 aw_low) (.cons (.v _) (.cons (EqT.dataSl _) .nil)) (.tup (.cons (Bd.dataSl _) (.cons (.v _) .nil))) fun s hs=>by rw[aw14_sol hs]
theorem awE_le:Le (.sl 8 [[.v (.int .i64 1),.v (.int .i64 0),.sl 3 [],.v (.int .i64 4),.v (.int .i64 0),.sl 3 ([vTy 1,.mk 2 0 []].map Ty.cells),.v (.int .i64 0),.v (.int .i64 0)],[.v (.int .i64 1),.v (.int .i64 1),.sl 3 [],.v (.int .i64 3),.v (.int .i64 0),.v (.slice none 0 0),.v (.int .i64 0),.v (.int .i64 0)]]) (.sl 8 (aw14.map EqT.cells)) :=
 Le.slC rfl (by intro y hy;simp[aw14,EqT.cells] at hy;rcases hy with rfl | rfl <;> rfl) ⟨.refl _,.refl _,.refl _,.refl _,.refl _,.refl _,.refl _,.refl _,.refl _,.refl _,.refl _,.refl _,.refl _,Le.slNil 3,.refl _,.refl _,trivial⟩
theorem awArr:APure Tryz.prog 42 [.sl 3 ([vTy 1,.mk 2 0 []].map Ty.cells)] (.agg [.v (.int .i64 4),.v (.int .i64 0),.sl 3 ([vTy 1,.mk 2 0 []].map Ty.cells)]):=by
 have h:=zj8 2 [vTy 1,.mk 2 0 []] rfl tz3;rw[show zfw [vTy 1,.mk 2 0 []]=awA from rfl,Ty.cells_eq] at h;exact h
theorem awE_data:Data (.sl 8 [[.v (.int .i64 1),.v (.int .i64 0),.sl 3 [],.v (.int .i64 4),.v (.int .i64 0),.sl 3 ([vTy 1,.mk 2 0 []].map Ty.cells),.v (.int .i64 0),.v (.int .i64 0)],[.v (.int .i64 1),.v (.int .i64 1),.sl 3 [],.v (.int .i64 3),.v (.int .i64 0),.v (.slice none 0 0),.v (.int .i64 0),.v (.int .i64 0)]]):=.sl fun x hx=>by
 have h0:Data (.sl 3 []):=.sl (by intro x hx;cases hx);simp only[zI,List.not_mem_nil,or_false] at hx;(rcases hx with rfl | rfl);(·exact .cons (.v _) (.cons (.v _) (.cons h0 (.cons (.v _) (.cons (.v _) (.cons (Ty.dataSl _) (.cons (.v _) (.cons (.v _) .nil))))))));exact .cons (.v _) (.cons (.v _) (.cons h0 (.cons (.v _) (.cons (.v _) (.cons (.v _) (.cons (.v _) (.cons (.v _) .nil)))))))
theorem awP1:APure Tryz.prog 43 [.agg (Ty.mk 3 0 []).cells] (.v (.string ⟨#[98,111,111,108]⟩)):=zeS mixed Print1_e
theorem awP2:APure Tryz.prog 43 [.agg awT.cells] (.v (.string ⟨#[98,111,111,108,32,45,62,32,105,110,116]⟩)):=zeS mixed Print2_e
theorem awV (n:Int):APure Tryz.prog 41 [.v (.int .i64 n)] (.agg [.v (.int .i64 1),.v (.int .i64 n),.sl 3 []]):=by
 have h:=zhd n;rw[Ty.cells_eq] at h;exact h
theorem awA_le2:Le (.sl 3 [[.v (.int .i64 1),.v (.int .i64 1),.sl 3 []],[.v (.int .i64 2),.v (.int .i64 0),.v (.slice none 0 0)]]) (.sl 3 ([vTy 1,.mk 2 0 []].map Ty.cells)) :=
 Le.slC rfl (by intro y hy;simp at hy;rcases hy with rfl | rfl <;> simp[Ty.cells_len]) ⟨.refl _,.refl _,.refl _,.refl _,.refl _,Le.slNil 3,trivial⟩
theorem zcT:APure Tryz.prog 11 [] (.v (.bool true)):=by
  refine APure.mkL (.nil) (.v _) ?_;refine aIn Tryz.func11 fun hm=>?_;simp only[Tryz.ntmps11,Tryz.results11,go_sem,seval];(have hl0:(0:Int)<(awB.length:Int):=by decide);(have hl1:(1:Int)<(awB.length:Int):=by decide);have hg0:awB[0]?=some ⟨0,awT⟩:=rfl;have hg1:awB[1]?=some ⟨1,.mk 3 0 []⟩:=rfl;refine sqD ?_;refine sqR fun _ u=>?_;(iterate 5 (refine chS 1 ?_));simp only[↓bO,go_sem,seval];apply u;refine zW fun _ u=>?_;refine zjT 14 [13] mixed tz0 (fun _ _ h=>h) fun J0 j0=>?_;simp only[go_sem];refine zab 1 fun _ y=>?_;simp only[↓zax,↓dOp,↓bO,go_sem,seval];refine ⟨_,awV 0,?_⟩;apply y;clear y;refine zab 1 fun _ y=>?_;simp only[↓zax,↓dOp,↓bO,go_sem,seval];refine ⟨_,awV 1,?_⟩;apply y;clear y;refine zab 1 fun _ y=>?_;simp only[↓zax,↓dOp,↓bO,go_sem,seval];apply y;clear y;refine zab 1 fun _ y=>?_;simp only[↓zax,↓dOp,↓bO,go_sem,seval,↓bs2_3];apply y;clear y;refine zab 1 fun _ y=>?_;simp only[↓zax,↓dOp,↓bO,go_sem,seval];refine ⟨_,awArr.le ⟨awA_le2,trivial⟩ (.cons (.sl (by intro x hx;simp only[zI,List.not_mem_nil,or_false] at hx;rcases hx with rfl | rfl;exact .cons (.v _) (.cons (.v _) (.cons (.sl (by intro x hx;cases hx)) .nil));exact .cons (.v _) (.cons (.v _) (.cons (.v _) .nil)))) .nil),?_⟩;(iterate 2 (apply y;clear y;refine zab 1 fun _ y=>?_;simp only[↓zax,↓dOp,↓bO,go_sem,seval]));refine ⟨_,awV 1,?_⟩;(iterate 2 (apply y;clear y;refine zab 1 fun _ y=>?_;simp only[↓zax,↓dOp,↓bO,go_sem,seval]));apply y;clear y;refine zab 1 fun _ y=>?_;simp only[↓zax,↓dOp,↓bO,go_sem,seval,↓bs2_8];apply y;clear y;refine zab 1 fun _ y=>?_;simp only[↓zax,↓dOp,↓bO,go_sem,seval];refine ⟨_,awSolve_pure.le ⟨.refl _,awE_le,trivial⟩ (.cons (.v _) (.cons awE_data .nil)),?_⟩;(iterate 2 (apply y;clear y;refine zab 1 fun _ y=>?_;simp only[↓zax,↓dOp,↓bO,go_sem,seval]));apply y;clear y;simp only[↓zax,↓dOp,↓bO,go_sem,seval];refine j0 _ ?_;clear j0 J0;refine chS 1 ?_;simp only[↓bO,go_sem,seval];apply u;refine sqR fun _ u=>?_;(iterate 3 (refine chS 1 ?_));refine zae 23 rfl (fun hc23=>?_) (fun hc23=>?_)
  ·
   (iterate 5 (refine chS 1 ?_));refine zae 28 rfl (fun hc28=>?_) (fun hc28=>?_)
   ·
    (iterate 4 (refine chS 1 ?_ (by intro _ q;simp only[↓bO,go_sem,seval,Bd.drop1,hl0,gM hg0];exact q)));refine zX 1 fun _ y=>?_;simp only[↓bO,go_sem,seval];refine APure.call (awP2) ?_;(iterate 3 (apply y;clear y;refine zX 1 fun _ y=>?_;simp only[↓bO,go_sem,seval]));apply y;clear y;refine zae 36 rfl (fun hc36=>?_) (fun hc36=>?_)
    ·
     (iterate 4 (refine chS 1 ?_ (by intro _ q;simp only[↓bO,go_sem,seval,Bd.drop1,hl1,gM hg1];exact q)));refine zX 1 fun _ y=>?_;simp only[↓bO,go_sem,seval];refine APure.call (awP1) ?_;(iterate 2 (apply y;clear y;refine zX 1 fun _ y=>?_;simp only[↓bO,go_sem,seval]));apply y;clear y;simp only[↓bO,go_sem,seval];apply u;apply z6;(try simp only[go_sem]);rw[beq_self_eq_true];exact Le.refl _
    simp only[go_sem];exact absurd hc36 (by first | decide | (simp;done))
   simp only[go_sem];exact absurd hc28 (by first | decide | (simp;done))
  simp only[go_sem];exact absurd hc23 (by first | decide | (simp;done))
def zkj (es:List EqT):Prop:=za8 (es.map EqT.p)=false/\LightL ((zay es).map EqT.p)
theorem Great14_c (es:List EqT):DCalls (σ:=Bool) 10 [.sl 8 (es.map EqT.cells)] (fun s=>(s=false->zkj es)) (fun s=>.v (.bool s)):=by
  refine ACalls.clean (C:=fun r os=>∃s:Bool,((s=false->zkj es))/\r=(fun s:Bool=>.v (.bool s)) s/\os=[]) ?_;refine aIn Tryz.func10 fun hm=>?_;simp only[Tryz.ntmps10,Tryz.results10,go_sem,seval];refine sqD ?_;refine zW fun _ u=>?_;refine sqR fun _ w=>?_;refine chS 1 ?_;simp only[↓bO,go_sem,seval];refine APure.call (zcj es) ?_;apply w;apply zZ rfl <;> intro hb6
  ·
   refine sqD ?_;apply z6;(try simp only[go_sem]);refine ⟨_,[],⟨true,(fun h=>by cases h),rfl,rfl⟩,.v _ _,trivial,Le.refl _,⟨0,rfl,rfl⟩,by omega⟩
  have hg12:za8 (es.map EqT.p)=false:=hb6;have hgl:=zbj hb6;rw[zD] at hgl;obtain ⟨hsP,hol⟩:=zf4 es hgl.2;have hll:=zfx es;(have hrP:∀e∈((zay es).map EqT.p),(e.1.right&&e.2.right)=true:=fun e he=>(by obtain ⟨x,hx,rfl⟩:=zq.1 he;exact (List.mem_filter.1 hx).2));apply zaa;apply u;obtain ⟨M,hM⟩:∃M,M=(eqF ((zay es).map EqT.p)).1:=⟨_,rfl⟩;have hmlM:=zgD ((zay es).map EqT.p);rw[<- hM] at hmlM;(have hML:M.length<=1048576:=by omega);refine zcO (σ:=List Int) (mB 28 8) (fun c=>[(3,.eptr [.sl 4 (M.map RNode.cells),.sl 1 (c.map intC)])]) (fun c=>[]) 0 (fun c=>ColE ((zay es).map EqT.p) c/\(clB M c=true↔Clashes ((zay es).map EqT.p))) ?_ (fun c hcj=>?_)
  ·
   apply zY;refine chS 1 ?_;refine zX 1 fun _ y=>?_;simp only[↓bO,go_sem,seval];refine APure.call (zgO es tz1) ?_;apply y;clear y;refine zX 1 fun _ y=>?_;simp only[↓bO,go_sem,seval];refine Close_at (zay es) hsP hrP (fun c hc hcb=>?_);rw[<- hM] at hcb ⊢;apply y;clear y;refine chS 1 ?_;simp only[↓bO,go_sem,seval];(try simp only[go_sem,seval]);refine ⟨c,⟨hc.colE hol,hcb⟩,?_⟩;refine Weak.freeze ?_ trivial tz2 tz2 ?_ ?_;(· exact clz4);(· repeat' first | exact trivial | exact .any _ | exact .v _ _ | exact Und.data (EqT.dataSl _) | exact Und.data (.eptr (.cons (RNode.dataSl _) (.cons (zan _) .nil))) | (refine ⟨?_,?_⟩));trivial
  simp only[go_sem,seval];obtain ⟨hce,hclx⟩:=hcj;have hcl:=hce.len;rw[<- hM] at hcl;(have hNx:zjA M c:=by (have h9:=nxOk_of hol hce.len;rw[<- hM] at h9;exact h9));refine zW fun _ u=>?_;refine sqR fun _ w=>?_;refine chS 1 ?_;refine zX 1 fun _ y=>?_;simp only[↓bO,go_sem,seval];refine APure.call (zjS M c hcl hML) ?_;apply y;clear y;refine chS 1 ?_;simp only[go_sem];refine zae 12 rfl (fun hc12=>?_) (fun hc12=>?_)
  ·
   simp only[go_sem];have hc12:clB M c=true:=hc12;have hlight:LightL ((zay es).map EqT.p):=zfT hce (.inl (hclx.1 hc12));(iterate 3 (refine chS 1 ?_));simp only[↓bO,go_sem,seval];apply w;refine zZ (b:=true) (by first | exact rfl | exact congrArg (fun b=>AV.v (.bool b)) hb16) (fun _=>?_) (fun h=>(by cases h));refine sqD ?_;apply z6;(try simp only[go_sem]);refine ⟨_,[],⟨false,(fun _=>⟨hg12,hlight⟩),rfl,rfl⟩,.v _ _,trivial,Le.refl _,⟨0,rfl,rfl⟩,by omega⟩
  simp only[go_sem];have hc12:clB M c=false:=hc12;refine chS 1 ?_;refine zX 1 fun _ y=>?_;simp only[↓bO,go_sem,seval];refine APure.call (FinR_pure M c hNx hML) ?_;apply y;clear y;refine chS 1 ?_;simp only[↓bO,go_sem,seval];apply w;apply zZ rfl <;> intro hb16
  ·
   (have hfin:zjx M c=false:=by simpa using hb16);have hlight:LightL ((zay es).map EqT.p):=zfT hce (.inr (by rw[<- hM];exact hfin));refine sqD ?_;apply z6;(try simp only[go_sem]);refine ⟨_,[],⟨false,(fun _=>⟨hg12,hlight⟩),rfl,rfl⟩,.v _ _,trivial,Le.refl _,⟨0,rfl,rfl⟩,by omega⟩
  (have hfin:zjx M c=true:=by simpa using hb16);apply zaa;apply u;refine zW fun _ u=>?_;refine sqD ?_;apply z7;refine zag (σ:=Nat) (mB 28 24) (fun s=>s<=M.length/\∀i,i<s->∃n,n<=399/\Hv (zaZ M c) i n) (fun s=>[(4,.v (.int .i64 (s:Int)))]) (fun s=>[]) (fun s=>M.length-s) 0 (⟨Nat.zero_le _,fun i hi=>by omega⟩) ?_ (fun s hs=>?_)
  ·
   simp only[go_sem,seval];exact zaG
  simp only[go_sem,seval];refine zW fun _ w=>?_;refine sqR fun _ z=>?_;(iterate 4 (refine chS 1 ?_));simp only[↓bO,go_sem,seval];apply z;apply zZ rfl <;> intro hb21
  ·
   (have hk:s<M.length:=by simpa using hb21);have hw:IntKind.i64.wrap ((s:Int)+1)=(s:Int)+1:=zak tz1 tz1;apply zaa;apply w;refine zW fun _ w=>?_;apply z7;refine sqR fun _ z=>?_;(iterate 2 (refine chS 1 ?_ (by intro _ q;simp only[↓bO,go_sem,seval,hk];exact q)));refine zX 1 fun _ y=>?_;simp only[↓bO,go_sem,seval];obtain ⟨n,hn⟩:=hv_ex hNx hfin hk;refine APure.call (ziP hNx hML hn hk 400 tz1 tz1) ?_;apply y;clear y;simp only[↓bO,go_sem,seval];apply z;apply zZ rfl <;> intro hb27
   ·
    refine sqD ?_;apply z6;(try simp only[go_sem]);refine ⟨_,[],⟨true,(fun h=>by cases h),rfl,rfl⟩,.v _ _,trivial,Le.refl _,⟨0,rfl,rfl⟩,by omega⟩
   (have hn399:n<=399:=by (have h9:=hb27;simp only[ze] at h9;omega));apply zaa;apply w;apply zY;(iterate 2 (refine chS 1 ?_ (by intro _ q;simp only[↓bO,go_sem,seval,hw];exact q)));simp only[↓bO,go_sem,seval];refine ⟨(s+1),⟨by omega,fun i hi=>(by rcases zE i s with h3 | h3 <;> first | exact hs.2 i h3 | (obtain rfl:i=s:=tz1;exact ⟨n,hn399,hn⟩))⟩,by omega,?_⟩;simp only[zas,zat,zad,zaj,mB,seval,zn,zm];exact zaG
  (have hk:s=M.length:=by have:=hs.1;simp at hb21;omega);have hlight:LightL ((zay es).map EqT.p):=light_of hce (by rw[<- hM];intro i hi;exact hs.2 i tz1);apply zah;simp only[zap,zaf,zac,bA,Nat.reduceEqDiff,↓reduceIte];apply u;refine sqD ?_;apply z6;(try simp only[go_sem]);refine ⟨_,[],⟨false,(fun _=>⟨hg12,hlight⟩),rfl,rfl⟩,.v _ _,trivial,Le.refl _,⟨0,rfl,rfl⟩,by omega⟩
end Go.Proofs.YtpfiliamceimmaaGreatDoor
namespace Go.Proofs.YtpfiliamceimmaaGreatDoor
open Go Go.RowKit
abbrev Bad (es:List EqT):Prop:=(zay es).length<es.length
theorem zgg {es:List EqT} (hg:za8 (es.map EqT.p)=false) (hb:¬Bad es):OkE (es.map EqT.p)/\zbr (es.map EqT.p)<=160/\zay es=es:=by
 have hgl:=zbj hg;obtain ⟨h1,h2⟩:=zf4 es hgl.2;obtain ⟨h3,_⟩:=zf2 hb;rw[h3] at h2;exact ⟨h2,hgl.2,h3⟩
theorem LightL.low {l:List (Ty×Ty)} (h:LightL l):LowL l:=fun S c hp v _=>Nat.le_trans (h S c hp v) tz3
theorem zjX {most0:Int} {σ:Int->Ty} {v:Int} (h:(σ v).cnt<=399) (hm:399<=most0):zib most0 σ v=false:=zfL (by simp only[most];omega)
theorem SolM.solR {most0:Int} {l:List (Ty×Ty)} {r:List Bd×Int} (h:SolM most0 l r) (ho:OkE l) (hl:LightL l) (hm:399<=most0):SolR l r:=by
 (rcases h with ⟨s,hE,hne,rfl⟩ | ⟨S,c,hp,hno,⟨_,rfl⟩ | ⟨⟨v,_,hb⟩,_⟩⟩);(·exact hE.sol ho hne);(·exact hp.sol_yes hno);rw[zjX (hl S c ⟨hp,hno⟩ v) hm] at hb;cases hb
theorem zhW {L:List Int} {σ:Int->Ty} {k:Nat} (h:∀v,(σ v).cnt<=k):∀b∈zex L σ,b.t.cnt<=k:=fun b hb=>by
 obtain ⟨v,_,rfl⟩:=zq.1 hb;exact h v
theorem SolM.small {most0:Int} {l:List (Ty×Ty)} {r:List Bd×Int} (h:SolM most0 l r) (hl:LightL l):∀b∈r.1,b.t.cnt<=399:=by
 (rcases h with ⟨s,_,_,rfl⟩ | ⟨S,c,hp,hno,⟨_,rfl⟩ | ⟨_,rfl⟩⟩);(·intro b hb;cases hb);(·exact zhW (hl S c ⟨hp,hno⟩));intro b hb;cases hb
theorem zkc (a:List Bd):ziZ a a=true:=by
 unfold ziZ
 exact zcr rfl fun k p q hp hq=>by
  rw[hp] at hq;cases hq;simp[(Ty.same_iff p.t p.t).2 rfl]
end Go.Proofs.YtpfiliamceimmaaGreatDoor
namespace Go.Proofs.YtpfiliamceimmaaGreatDoor
open Go Go.RowKit
attribute [local irreducible] aops zax
def CntR (es:List EqT) (s:Int×Int):Prop:=if Bad es then s=(1,0) else ∃t,EqtR (es.map EqT.p) t/\s=(t.2.1,t.2.2)
def SatV (es:List EqT) (z:Int):Prop:=if Bad es then z=1 else ∃t,EqtR (es.map EqT.p) t/\z=t.2.1
def SolA (most0:Int) (es:List EqT) (r:List Bd×Int):Prop:=if Bad es then r=([],1) else SolM most0 (es.map EqT.p) r
theorem APure.toD {σ:Type} {f:Nat} {args:List AV} {x:AV} {C:σ->Prop} {R:σ->AV} (h:APure Tryz.prog f args x) (s:σ) (hs:C s) (hx:x=R s):DCalls f args C R :=
 h.call ⟨⟨s,hs,hx,rfl⟩,rfl⟩
theorem DCalls.weak {σ τ:Type} {f:Nat} {args:List AV} {C:σ->Prop} {R:σ->AV} {C':τ->Prop} {R':τ->AV} (h:DCalls f args C R) (g:σ->τ) (hc:∀s,C s->C' (g s)) (hr:∀s,R s=R' (g s)):DCalls f args C' R' :=
 ACalls.mono h fun r os n ⟨⟨s,hs,h1,h2⟩,h3⟩=>⟨⟨g s,hc s hs,h1.trans (hr s),h2⟩,h3⟩
theorem SolveA_c (most0:Int) (es:List EqT) (hG:zkj es):DCalls (σ:=List Bd×Int) 13 [.v (.int .i64 most0),.sl 8 (es.map EqT.cells)] (SolA most0 es) (fun s=>.tup [.sl 4 (s.1.map Bd.cells),.v (.int .i64 s.2)]):=by
 obtain ⟨hg,hlight⟩:=hG
 by_cases hb:Bad es
 ·have hl:=(zbj hg).1
  rw[zD] at hl;exact APure.toD (zhP most0 es tz1 (zds hb)) ([],1) (by unfold SolA;rw[if_pos hb]) rfl
 obtain ⟨h1,h2,h3⟩:=zgg hg hb;rw[h3] at hlight;exact (ziY most0 es h1 tz1 hlight.low).weak id (fun t ht=>by unfold SolA;rw[if_neg hb];exact ht) (fun _=>rfl)
theorem zhh {l:List (Ty×Ty)} (h1:l.length<=20) (h2:zbr l<=160) (h3:∀e∈l,zhJ e=false):za8 l=false:=by
 have e:l.take 30=l:=List.take_of_length_le tz1
 have h4:l.any zhJ=false:=by
  rw[<- Bool.not_eq_true,List.any_eq_true];rintro ⟨x,hx,hb⟩;rw[h3 x hx] at hb;cases hb
 simp only[za8,e,h4,Bool.false_or,Bool.or_eq_false_iff,ze];exact ⟨by omega,by omega⟩
theorem zjN {l:List (Ty×Ty)} (h:za8 l=false):∀e∈l,zhJ e=false:=fun e he=>by
 have hl:=(zbj h).1;have h2:=h;simp only[za8,Bool.or_eq_false_iff] at h2;rw[List.take_of_length_le tz1] at h2
 cases hb:zhJ e with
 | false=>rfl
 | true=>exact absurd (List.any_eq_true.2 ⟨e,he,hb⟩) (by rw[h2.1.1];simp)
def swE (e:EqT):EqT:=⟨e.r,e.l,0,0⟩
structure Mix (es ds:List EqT):Prop where
 to:∀d∈ds,∃e∈es,d.p=e.p\/d.p=(e.r,e.l)
 back:∀e∈es,∃d∈ds,d.p=e.p\/d.p=(e.r,e.l)
theorem Mix.sub {es ds:List EqT} (h:Mix es ds):SubE (es.map EqT.p) (ds.map EqT.p)/\SubE (ds.map EqT.p) (es.map EqT.p):=by
 refine ⟨fun x hx=>?_,fun x hx=>?_⟩
 ·obtain ⟨e,he,rfl⟩:=zq.1 hx
  obtain ⟨d,hd,h1 | h1⟩:=h.back e he;(·exact .inl (by rw[<- h1];exact zq.2 ⟨d,hd,rfl⟩));exact .inr (by rw[show (e.p.2,e.p.1)=d.p from h1.symm];exact zq.2 ⟨d,hd,rfl⟩)
 obtain ⟨d,hd,rfl⟩:=zq.1 hx;obtain ⟨e,he,h1 | h1⟩:=h.to d hd;(·exact .inl (by rw[h1];exact zq.2 ⟨e,he,rfl⟩));exact .inr (by rw[h1];exact zq.2 ⟨e,he,rfl⟩)
theorem ok_p {d e:EqT} (h:d.p=e.p\/d.p=(e.r,e.l)):d.ok=e.ok:=by
 unfold EqT.ok;(rcases h with h | h);(·rw[show d.l=e.l from congrArg Prod.fst h,show d.r=e.r from congrArg Prod.snd h]);rw[show d.l=e.r from congrArg Prod.fst h,show d.r=e.l from congrArg Prod.snd h,Bool.and_comm]
theorem bad_iff {es:List EqT}:Bad es↔∃e∈es,e.ok=false:=by
 constructor;(·exact zds);rintro ⟨e,he,h⟩;refine Classical.byContradiction fun hn=>?_;rw[(zf2 hn).2 e he] at h;cases h
theorem Mix.bad {es ds:List EqT} (h:Mix es ds):Bad es↔Bad ds:=by
 rw[bad_iff,bad_iff];constructor
 ·rintro ⟨e,he,hk⟩
  obtain ⟨d,hd,h1⟩:=h.back e he;exact ⟨d,hd,by rw[ok_p h1];exact hk⟩
 rintro ⟨d,hd,hk⟩;obtain ⟨e,he,h1⟩:=h.to d hd;exact ⟨e,he,by rw[<- ok_p h1];exact hk⟩
theorem SolveB_c (most0:Int) (es:List EqT) (hg:za8 (es.map EqT.p)=false) (hl:¬Bad es->LightL (es.map EqT.p)):DCalls (σ:=List Bd×Int) 13 [.v (.int .i64 most0),.sl 8 (es.map EqT.cells)] (SolA most0 es) (fun s=>.tup [.sl 4 (s.1.map Bd.cells),.v (.int .i64 s.2)]):=by
 by_cases hb:Bad es
 ·have hlen:=(zbj hg).1
  rw[zD] at hlen;exact APure.toD (zhP most0 es tz1 (zds hb)) ([],1) (by unfold SolA;rw[if_pos hb]) rfl
 obtain ⟨h1,h2,_⟩:=zgg hg hb;exact (ziY most0 es h1 tz1 (hl hb).low).weak id (fun t ht=>by unfold SolA;rw[if_neg hb];exact ht) (fun _=>rfl)
theorem Mix.light {es ds:List EqT} (h:Mix es ds) (hG:zkj es) {r:List Bd×Int} (hr:SolA 1073741824 es r) (hb:¬Bad ds) (hg:za8 (ds.map EqT.p)=false):LightL (ds.map EqT.p):=by
 (have hbe:¬Bad es:=fun h9=>hb (h.bad.1 h9));obtain ⟨h1,h2,h3⟩:=zgg hG.1 hbe;obtain ⟨k1,k2,k3⟩:=zgg hg hb;unfold SolA at hr;rw[if_neg hbe] at hr;have hl:LightL (es.map EqT.p):=h3▸hG.2;have hR:=hr.solR h1 hl tz3;intro S c hp v;obtain ⟨s1,s2⟩:=h.sub;have hsolves:zaO (wF S) (es.map EqT.p):=s1.solves (hp.p.wF_solves hp.no);obtain ⟨L,σ,hs,hL,hN,hM,hre⟩:=hR.yes h1 hsolves;(have hLe:L=vsS S:=zdB hs hp.p.vs_strict fun v=>(hL v).trans (⟨fun h=>s1.occ h,fun h=>s2.occ h⟩:OccE (es.map EqT.p) v↔OccE (ds.map EqT.p) v) |>.trans (hp.p.vs_mem v).symm);have e:wF S=σ:=(zju hN (hLe▸hp.p.wF_norm hp.no) hM (hp.p.wF_mg hp.no) fun θ=>⟨fun h=>s2.solves h,fun h=>s1.solves h⟩).symm;rw[e]
 by_cases hv:v∈L/\(σ v).same (vTy v)=false
 ·have hb:(⟨v,σ v⟩:Bd)∈r.1:=by
   rw[hre];exact zq.2 ⟨v,List.mem_filter.2 ⟨hv.1,by rw[hv.2];rfl⟩,rfl⟩
  exact hr.small hl _ hb
 have:σ v=vTy v:=by
  by_cases h1:v∈L
  ·cases h2:(σ v).same (vTy v) with
   | true=>exact (Ty.same_iff _ _).1 h2
   | false=>exact absurd ⟨h1,h2⟩ hv
  exact hN.out v h1
 rw[this,ziD];omega
theorem Mix.same {es ds:List EqT} (h:Mix es ds) (hG:zkj es) (hg:za8 (ds.map EqT.p)=false) {ra rb:List Bd×Int} (a:SolA 1073741824 es ra) (b:SolA 1073741824 ds rb):ra=rb:=by
 have hl:=h.light hG a;unfold SolA at a b
 by_cases hb:Bad es
 ·rw[if_pos hb] at a
  rw[if_pos (h.bad.1 hb)] at b;rw[a,b]
 (have hbd:¬Bad ds:=fun h9=>hb (h.bad.2 h9));rw[if_neg hb] at a;rw[if_neg hbd] at b;obtain ⟨h1,_,h3⟩:=zgg hG.1 hb;obtain ⟨k1,_,k3⟩:=zgg hg hbd;exact SolR.order h.sub.1 h.sub.2 (fun _=>h1) (fun _=>k1) (a.solR h1 (h3▸hG.2) tz3) (b.solR k1 (hl hbd hg) tz3)
def swD (es:List EqT) (z:Nat):List EqT:=(es.drop z).reverse.map swE
theorem swD_all (es:List EqT):swD es es.length=[]:=by simp[swD]
theorem zgN (es:List EqT) (z:Nat):(swD es z).length=es.length-z:=by simp[swD]
theorem swD_step {es:List EqT} {j:Nat} {e:EqT} (h:es[j]?=some e):swD es j=swD es (j+1)++[swE e]:=by
 have hj:=(zb.1 h).1
 have e1:es.drop j=e::es.drop (j+1):=by
  rw[List.drop_eq_getElem_cons hj,(zb.1 h).2]
 unfold swD;rw[e1,List.reverse_cons,zt];rfl
theorem zf9:∀l:List EqT,zbr ((l.reverse.map swE).map EqT.p)=zbr (l.map EqT.p)
 | []=>rfl
 | e::l=>by
  rw[List.reverse_cons,zt,zt];simp only[zz,zU];rw[zb0,zf9 l];simp only[zbr,EqT.p,swE];omega
theorem swD_mem {es:List EqT} {d:EqT} (h:d∈swD es 0):∃e∈es,d=swE e:=by
 obtain ⟨e,he,rfl⟩:=zq.1 h;rw[zi] at he;exact ⟨e,List.mem_reverse.1 he,rfl⟩
theorem swD_mix (es:List EqT):Mix es (swD es 0):=by
 refine ⟨fun d hd=>?_,fun e he=>⟨swE e,?_,.inr rfl⟩⟩
 ·obtain ⟨e,he,rfl⟩:=swD_mem hd
  exact ⟨e,he,.inr rfl⟩
 exact zq.2 ⟨e,by rw[zi];exact List.mem_reverse.2 he,rfl⟩
theorem swD_great {es:List EqT} (h:za8 (es.map EqT.p)=false):za8 ((swD es 0).map EqT.p)=false:=by
 obtain ⟨h1,h2⟩:=zbj h;rw[zD] at h1;refine zhh (by rw[zD,zgN];omega) (by unfold swD;rw[zf9,zi];exact h2) fun x hx=>?_;obtain ⟨d,hd,rfl⟩:=zq.1 hx;obtain ⟨e,he,rfl⟩:=swD_mem hd;have h3:=zjN h e.p (zq.2 ⟨e,he,rfl⟩);unfold zhJ at h3 ⊢;rw[Bool.or_comm];exact h3
theorem Mix.snoc {es ds:List EqT} (h:Mix es ds) {e:EqT} (he:e∈es):Mix es (ds++[e]) :=
  ⟨fun d hd=>by
    (rcases zC.1 hd with hd | hd);· exact h.to d hd
    simp at hd;subst hd;exact ⟨d,he,.inl rfl⟩,
   fun x hx=>by
    obtain ⟨d,hd,h1⟩:=h.back x hx
    exact ⟨d,List.mem_append_left _ hd,h1⟩⟩
theorem EqT.oneL (l:List EqT):((l.map EqT.cells).all fun y=>y.all AV.one)=true:=by
 induction l with
 | nil=>rfl
 | cons e l ih=>rw[zz,List.all_cons,ih];rfl
theorem EqT.ones (e:EqT):e.cells.all AV.one=true:=rfl
theorem EqT.cells8 (e:EqT):e.cells.length=8:=rfl
theorem EqT.take8 (e:EqT):e.cells.take 8=e.cells:=rfl
theorem EqT.eptr2 (e:EqT):Data (.eptr e.cells):=.eptr e.data
theorem clz15 {p:Prop} (h:p:=by repeat' first | exact trivial | exact .any _ | exact .v _ _ | exact .ptr tz1 | exact Und.data (EqT.dataSl _) | exact Und.data (dataBy _) | exact Und.data (EqT.eptr2 _) | exact .osl tz1 (.data (EqT.dataSl _)) | (refine ⟨?_,?_⟩)):p:=h
theorem clz16 {p:Prop} (h:p:=by repeat' first | exact trivial | (with_reducible omega) | (refine ⟨?_,?_⟩)):p:=h
theorem ze1 (es:List EqT) (bs:List (Fin 256)):APure Tryz.prog 3 [.sl 8 (es.map EqT.cells),.sl 1 (bs.map byC)] (.v (.bool true)):=by
  refine APure.mkL (.cons (EqT.dataSl es) (.cons (dataBy bs) .nil)) (.v _) ?_;refine aIn Tryz.func3 fun hm=>?_;simp only[Tryz.ntmps3,Tryz.results3,go_sem,seval];refine sqD ?_;refine zW fun _ u=>?_;refine sqR fun _ w=>?_;refine chS 1 ?_;refine zX 1 fun _ y=>?_;simp only[↓bO,go_sem,seval];refine DCalls.at (Great14_c es) (.cons (EqT.dataSl _) .nil) (fun _=>.v _) (fun g hG=>?_);apply y;clear y;refine chS 1 ?_;simp only[go_sem];refine zae 15 rfl (fun hc15=>?_) (fun hc15=>?_)
  ·
   (iterate 3 (refine chS 1 ?_));simp only[↓bO,go_sem,seval];apply w;refine zZ (b:=true) (by first | exact rfl | exact congrArg (fun b=>AV.v (.bool b)) hb19) (fun _=>?_) (fun h=>(by cases h));refine sqR fun _ w=>?_;refine zX 1 fun _ y=>?_;simp only[↓bO,go_sem,seval];refine APure.call (zcT) ?_;apply y;clear y;simp only[↓bO,go_sem,seval];apply w;apply z6;exact Le.refl _
  simp only[go_sem];have hgood:zkj es:=hG (by first | exact hc15 | (simpa using hc15));have hgl:=zbj hgood.1;rw[zD] at hgl;have hw0:IntKind.i64.wrap ((es.length:Int)-1)=(es.length:Int)-1:=zak tz1 tz1;(iterate 3 (refine chS 1 ?_));simp only[↓bO,go_sem,seval];apply w;apply zZ rfl <;> intro hb19
  ·
   refine sqR fun _ w=>?_;refine zX 1 fun _ y=>?_;simp only[↓bO,go_sem,seval];refine APure.call (zcT) ?_;apply y;clear y;simp only[↓bO,go_sem,seval];apply w;apply z6;exact Le.refl _
  (have hbl:bs.length<=40:=by (have h9:=hb19;simp at h9;omega));apply zaa;apply u;refine sqD ?_;refine zW fun _ u=>?_;refine sqR fun _ w=>?_;(iterate 3 (refine chS 1 ?_ (by intro _ q;simp only[↓bO,go_sem,seval,hw0];exact q)));simp only[↓bO,go_sem,seval];apply w;apply z7;refine zaC (Weak.tokSlot 5 32 8 rfl) ?_;simp only[go_sem];refine zag (σ:=Nat) (mB 102 99) (fun z=>z<=es.length) (fun z=>[(5,.osl 0 8 ((swD es z).map EqT.cells)),(6,.v (.int .i64 ((z:Int)-1)))]) (fun z=>[(0,.tok 32 8 (es.length-z))]) (fun z=>z) es.length (zP _) ?_ (fun z hz=>?_)
  ·
   simp only[go_sem,seval,swD_all,bL,Nat.sub_self];exact zaG
  simp only[go_sem,seval];refine zW fun _ w=>?_;refine sqR fun _ x=>?_;refine chS 1 ?_;simp only[↓bO,go_sem,seval];apply x;apply zZ rfl <;> intro hb25
  ·
   obtain ⟨j,hj⟩:∃j,z=j+1:=⟨z-1,by (have h9:=hb25;simp at h9;omega)⟩;(have hji:(z:Int)-1=(j:Int):=by omega);(have hk:j<es.length:=by omega);obtain ⟨e,he⟩:∃e,es[j]?=some e:=⟨_,za hk⟩;have hw:IntKind.i64.wrap ((j:Int)-1)=(j:Int)-1:=zak tz1 tz1;have hst:=swD_step he;rw[<- hj] at hst;(have hstp:(swD es j).map EqT.cells=(swD es z).map EqT.cells++[[.v (.int .i64 e.r.k),.v (.int .i64 e.r.n),.sl 3 (e.r.ps.map Ty.cells),.v (.int .i64 e.l.k),.v (.int .i64 e.l.n),.sl 3 (e.l.ps.map Ty.cells),.v (.int .i64 0),.v (.int .i64 0)]]:=by (rw[hst,zt];rfl));have hln:=zgN es z;(have hlj:es.length-j=es.length-z+1:=by omega);(have hb1:(es.length-z+1) * 96<=140737488355328:=by omega);(have hb2:es.length-z+1<=maxLen:=by (simp only[maxLen];omega));apply zaa;apply w;refine zW fun _ w=>?_;apply z7;refine zaw 13 mixed tz0 fun J0 j0=>?_;(iterate 12 (simp only[go_sem];refine zab 1 fun _ y=>?_;simp only[↓zax,↓dOp,↓bO,go_sem,seval,hji,hk,gM he,EqT.cells];apply y;clear y));simp only[go_sem];simp only[↓zax,↓dOp,↓bO,go_sem,seval,↓zkg];refine j0 _ ?_;clear j0 J0;refine chS 1 ?_ (by intro _ q;simp only[↓bO,go_sem,seval,hln,hb1,hb2];exact q);simp only[↓bO,go_sem,seval];apply w;apply zY;(iterate 2 (refine chS 1 ?_ (by intro _ q;simp only[↓bO,go_sem,seval,hw];exact q)));simp only[↓bO,go_sem,seval];refine ⟨j,tz1,tz1,?_⟩;simp only[zas,zat,zad,zaj,mB,seval,hstp,hlj,zm,zp];exact zaG
  (have hk:z=0:=by (have h9:=hb25;simp at h9;omega));subst hk;apply zah;simp only[zap,zaf,zac,bA,Nat.reduceEqDiff,↓reduceIte];apply u;refine zW fun _ u=>?_;refine sqD ?_;apply z7;refine zag (σ:=List EqT×Nat) (mB 102 163) (fun t=>Mix es t.1/\za8 (t.1.map EqT.p)=false/\t.1.length<=20/\t.2<=bs.length) (fun t=>[(5,.osl 0 8 (t.1.map EqT.cells)),(7,.v (.int .i64 (t.2:Int)))]) (fun t=>[(0,.tok 32 8 t.1.length)]) (fun t=>bs.length-t.2) (swD es 0,0) (⟨swD_mix es,swD_great hgood.1,by (simp only[zgN];omega),Nat.zero_le _⟩) ?_ (fun t ht=>?_)
  ·
   simp only[go_sem,seval,zgN,Nat.sub_zero];exact zaG
  simp only[go_sem,seval];refine zW fun _ w=>?_;refine za0 (mB 102 36028797018964131) ([(55,.v (.bool (decide (t.2<bs.length/\0<es.length/\t.1.length<20))))]) ([]) ?_ ?_
  ·
   apply zY;(iterate 5 (refine chS 1 ?_));refine zae 46 rfl (fun hc46=>?_) (fun hc46=>?_)
   ·
    simp only[go_sem];(have h46:t.2<bs.length:=by simpa using hc46);(iterate 5 (refine chS 1 ?_));refine zae 51 rfl (fun hc51=>?_) (fun hc51=>?_)
    ·
     simp only[go_sem];(have h51:0<es.length:=by simpa using hc51);(iterate 3 (refine chS 1 ?_));simp only[↓bO,go_sem,seval];(try simp only[go_sem,seval]);refine Weak.mk ?_ (fun _ _ h=>h) rfl rfl;simp only[go_sem,Le.refl,Le.any];all_goals (refine Le.of_eq (congrArg (fun b=>AV.v (.bool b)) ?_);rw[zH];simp only[zc,zK,false_iff] at *;omega)
    simp only[go_sem];(have h51:¬0<es.length:=by simpa using hc51);(iterate 3 (refine chS 1 ?_));simp only[↓bO,go_sem,seval];(try simp only[go_sem,seval]);refine Weak.mk ?_ (fun _ _ h=>h) rfl rfl;simp only[go_sem,Le.refl,Le.any];all_goals (refine Le.of_eq (congrArg (fun b=>AV.v (.bool b)) ?_);rw[zH];simp only[zc,zK,false_iff] at *;omega)
   simp only[go_sem];(have h46:¬t.2<bs.length:=by simpa using hc46);(iterate 8 (refine chS 1 ?_));simp only[↓bO,go_sem,seval];(try simp only[go_sem,seval]);refine Weak.mk ?_ (fun _ _ h=>h) rfl rfl;simp only[go_sem,Le.refl,Le.any];all_goals (refine Le.of_eq (congrArg (fun b=>AV.v (.bool b)) ?_);rw[zH];simp only[zc,zK,false_iff] at *;omega)
  simp only[go_sem,seval];apply zZ rfl <;> intro hb55
  ·
   (obtain ⟨hkb,hk0,hk20⟩:t.2<bs.length/\0<es.length/\t.1.length<20:=by simpa using hb55);obtain ⟨b,hb⟩:∃b,bs[t.2]?=some b:=⟨_,za hkb⟩;obtain ⟨k,hkd⟩:∃k:Nat,k=b.val % es.length:=⟨_,rfl⟩;(have hk:k<es.length:=by rw[hkd];exact Nat.mod_lt _ hk0);have hbv:=b.isLt;(have hne:(es.length:Int)≠0:=by omega);(have hrem:Int.tmod ((b.val:Nat):Int) ((es.length:Nat):Int)=(k:Int):=by rw[hkd];rfl);have hcv:IntKind.i64.wrap ((b.val:Nat):Int)=((b.val:Nat):Int):=zak tz1 tz1;obtain ⟨e,he⟩:∃e,es[k]?=some e:=⟨_,za hk⟩;have hem:=zd he;have hw:IntKind.i64.wrap ((t.2:Int)+1)=(t.2:Int)+1:=zak tz1 tz1;have ho1:=EqT.oneL t.1;(have hb1:(t.1.length+1) * 96<=140737488355328:=by omega);(have hb2:t.1.length+1<=maxLen:=by (simp only[maxLen];omega));(have hb3:t.1.length * 96<=140737488355328:=by omega);(have hb4:t.1.length<=maxLen:=by (simp only[maxLen];omega));apply zaa;apply w;refine zW fun _ w=>?_;apply z7;refine zbN (mB 102 419) ([(8,.eptr e.cells)]) [(0,.tok 32 8 t.1.length)] 1 (True) ?_ (fun hC=>?_)
   ·
    apply zY;(iterate 12 (refine chS 1 ?_ (by intro _ q;simp only[↓bO,go_sem,seval,hkb,hk,hrem,hcv,hne,ne_eq,not_false_eq_true,gM hb,byC,gM he,EqT.cells8,EqT.take8];exact q)));simp only[↓bO,go_sem,seval,hkb,EqT.cells8,EqT.ones];(try simp only[go_sem,seval]);(first | refine ⟨trivial,?_⟩ | skip);refine Weak.freeze ?_ ⟨rfl,trivial⟩ tz2 tz2 ?_ ?_;(· exact clz4);(· exact clz15);exact clz16
   simp only[go_sem,seval];refine zbN (mB 102 75557863725914323419555) ([(76,.v (.bool (!za8 (t.1.map EqT.p++[e.p]))))]) [(0,.tok 32 8 t.1.length)] 1 (True) ?_ (fun hC=>?_)
   ·
    refine zee 8 [8] rfl mixed ?_;dsimp only;refine za1 1 rfl tz0 tz0 tz0 (fun _ _ h=>h) tz0 (fun d h=>by cases h;rfl) tz0 (G':=[8]) tz0 fun _ y=>?_;simp only[↓bO,go_sem,seval,zd3];apply y;clear y;refine za1 3 rfl tz0 tz0 tz0 (fun _ _ h=>h) tz0 (fun d h=>by cases h;rfl) tz0 (G':=[72,8]) tz0 fun _ y=>?_;simp only[↓bO,go_sem,seval,zd3,isE,EqT.cells8,EqT.take8];apply y;clear y;refine zb7 (i:=0) (j:=4) tz0 rfl rfl (fun d h=>by cases h;rfl) (fun d h=>by cases h;rfl) ?_ ?_
    ·
     refine opT fun _ y=>?_;simp only[↓bO,go_sem,seval,↓bs0_8];refine y _ ⟨⟨rfl,rfl,trivial⟩,?_⟩;clear y;refine zb7 (i:=2) (j:=4) tz0 rfl rfl (fun d h=>by cases h;rfl) (fun d h=>by cases h;rfl) ?_ ?_
     ·
      refine opT fun _ y=>?_;simp only[↓bO,go_sem,seval,ho1,hb3,hb4];refine y _ ⟨⟨rfl,rfl,trivial⟩,?_⟩;clear y;refine zal (i:=4) tz0 rfl (fun d h=>by cases h;rfl) ?_;refine opT fun _ y=>?_;simp only[↓bO,go_sem,seval,↓zkg,EqT.cells8];refine y _ ⟨⟨rfl,rfl,trivial⟩,?_⟩;clear y;refine zal (i:=5) tz0 rfl (fun d h=>by cases h;rfl) ?_;refine opT fun _ y=>?_;simp only[↓bO,go_sem,seval,EqT.ones,hb1,hb2];refine y _ ⟨⟨rfl,rfl,trivial⟩,?_⟩;clear y;refine zal (i:=6) tz0 rfl (fun d h=>by cases h;rfl) ?_;refine opT fun _ y=>?_;simp only[↓bO,go_sem,seval];refine ACalls.args (args':=[.sl 8 ((t.1++[e]).map EqT.cells)]) ⟨by rw[zt];exact Le.oslL,trivial⟩ ?_;refine APure.call (zcj (t.1++[e])) ?_;(try simp only[go_sem]);refine y _ ⟨⟨rfl,rfl,trivial⟩,?_⟩;clear y;refine zal (i:=7) tz0 rfl (fun d h=>by cases h;rfl) ?_;refine opT fun _ y=>?_;simp only[↓bO,go_sem,seval,zt];refine y _ ⟨⟨rfl,rfl,trivial⟩,?_⟩;clear y;refine zbf tz0 ?_;simp only[go_sem];(try simp only[go_sem,seval]);(first | refine ⟨trivial,?_⟩ | skip);refine Weak.sub ?_ ⟨rfl,trivial⟩ tz2 tz2 ?_ ?_;(· simp only[go_sem,Le.refl,Le.any]);(· exact clz15);exact clz16
     refine opT fun _ y=>?_;simp only[↓bO,go_sem,seval,↓zkg,EqT.cells8];refine y _ ⟨⟨rfl,rfl,trivial⟩,?_⟩;clear y;refine zal (i:=2) tz0 rfl (fun d h=>by cases h;rfl) ?_;refine opT fun _ y=>?_;simp only[↓bO,go_sem,seval,ho1,hb3,hb4];refine y _ ⟨⟨rfl,rfl,trivial⟩,?_⟩;clear y;refine zal (i:=5) tz0 rfl (fun d h=>by cases h;rfl) ?_;refine opT fun _ y=>?_;simp only[↓bO,go_sem,seval,EqT.ones,hb1,hb2];refine y _ ⟨⟨rfl,rfl,trivial⟩,?_⟩;clear y;refine zal (i:=6) tz0 rfl (fun d h=>by cases h;rfl) ?_;refine opT fun _ y=>?_;simp only[↓bO,go_sem,seval];refine ACalls.args (args':=[.sl 8 ((t.1++[e]).map EqT.cells)]) ⟨by rw[zt];exact Le.oslL,trivial⟩ ?_;refine APure.call (zcj (t.1++[e])) ?_;(try simp only[go_sem]);refine y _ ⟨⟨rfl,rfl,trivial⟩,?_⟩;clear y;refine zal (i:=7) tz0 rfl (fun d h=>by cases h;rfl) ?_;refine opT fun _ y=>?_;simp only[↓bO,go_sem,seval,zt];refine y _ ⟨⟨rfl,rfl,trivial⟩,?_⟩;clear y;refine zbf tz0 ?_;simp only[go_sem];(try simp only[go_sem,seval]);(first | refine ⟨trivial,?_⟩ | skip);refine Weak.sub ?_ ⟨rfl,trivial⟩ tz2 tz2 ?_ ?_;(· simp only[go_sem,Le.refl,Le.any]);(· exact clz15);exact clz16
    refine opT fun _ y=>?_;simp only[↓bO,go_sem,seval,↓zkg,EqT.cells8];refine y _ ⟨⟨rfl,rfl,trivial⟩,?_⟩;clear y;refine zal (i:=0) tz0 rfl (fun d h=>by cases h;rfl) ?_;refine opT fun _ y=>?_;simp only[↓bO,go_sem,seval,↓bs0_8];refine y _ ⟨⟨rfl,rfl,trivial⟩,?_⟩;clear y;refine zal (i:=2) tz0 rfl (fun d h=>by cases h;rfl) ?_;refine opT fun _ y=>?_;simp only[↓bO,go_sem,seval,ho1,hb3,hb4];refine y _ ⟨⟨rfl,rfl,trivial⟩,?_⟩;clear y;refine zal (i:=5) tz0 rfl (fun d h=>by cases h;rfl) ?_;refine opT fun _ y=>?_;simp only[↓bO,go_sem,seval,EqT.ones,hb1,hb2];refine y _ ⟨⟨rfl,rfl,trivial⟩,?_⟩;clear y;refine zal (i:=6) tz0 rfl (fun d h=>by cases h;rfl) ?_;refine opT fun _ y=>?_;simp only[↓bO,go_sem,seval];refine ACalls.args (args':=[.sl 8 ((t.1++[e]).map EqT.cells)]) ⟨by rw[zt];exact Le.oslL,trivial⟩ ?_;refine APure.call (zcj (t.1++[e])) ?_;(try simp only[go_sem]);refine y _ ⟨⟨rfl,rfl,trivial⟩,?_⟩;clear y;refine zal (i:=7) tz0 rfl (fun d h=>by cases h;rfl) ?_;refine opT fun _ y=>?_;simp only[↓bO,go_sem,seval,zt];refine y _ ⟨⟨rfl,rfl,trivial⟩,?_⟩;clear y;refine zbf tz0 ?_;simp only[go_sem];(try simp only[go_sem,seval]);(first | refine ⟨trivial,?_⟩ | skip);refine Weak.sub ?_ ⟨rfl,trivial⟩ tz2 tz2 ?_ ?_;(· simp only[go_sem,Le.refl,Le.any]);(· exact clz15);exact clz16
   simp only[go_sem,seval];apply zZ rfl <;> intro hb76
   ·
    (have hgn:za8 ((t.1++[e]).map EqT.p)=false:=by (rw[zt];simpa using hb76));apply zY;(iterate 2 (refine chS 1 ?_ (by intro _ q;simp only[↓bO,go_sem,seval,EqT.cells8,EqT.take8];exact q)));refine chS 1 ?_ (by intro _ q;simp only[↓bO,go_sem,seval,↓zkg,EqT.cells8];exact q);refine chS 1 ?_ (by intro _ q;simp only[↓bO,go_sem,seval,EqT.ones,hb1,hb2];exact q);simp only[↓bO,go_sem,seval];apply w;apply zY;(iterate 2 (refine chS 1 ?_ (by intro _ q;simp only[↓bO,go_sem,seval,hw];exact q)));simp only[↓bO,go_sem,seval];refine ⟨(t.1++[e],t.2+1),⟨ht.1.snoc hem,hgn,by (simp only[zh,List.length_singleton];omega),by simp only;omega⟩,tz5,?_⟩;simp only[zas,zat,zad,zaj,mB,seval,zt,bL,zh,zn,zm,zp];exact zaG
   apply zaa;apply w;apply zY;(iterate 2 (refine chS 1 ?_ (by intro _ q;simp only[↓bO,go_sem,seval,hw];exact q)));simp only[↓bO,go_sem,seval];refine ⟨(t.1,t.2+1),⟨ht.1,ht.2.1,ht.2.2.1,by simp only;omega⟩,tz5,?_⟩;simp only[zas,zat,zad,zaj,mB,seval,bL,zn,zm,zp];exact zaG
  obtain ⟨D,hD⟩:∃D,D=t.1:=⟨_,rfl⟩;have hmix:Mix es D:=hD▸ht.1;have hgD:za8 (D.map EqT.p)=false:=hD▸ht.2.1;rw[<- hD];apply zah;simp only[zap,zaf,zac,bA,Nat.reduceEqDiff,↓reduceIte];apply u;refine sqR fun _ u=>?_;refine chS 1 ?_;refine zX 1 fun _ y=>?_;simp only[↓bO,go_sem,seval];refine DCalls.at (SolveA_c 1073741824 es hgood) (.cons (.v _) (.cons (EqT.dataSl _) .nil)) (fun _=>.tup (.cons (Bd.dataSl _) (.cons (.v _) .nil))) (fun ra ha=>?_);(iterate 4 (apply y;clear y;refine zX 1 fun _ y=>?_;simp only[↓bO,go_sem,seval]));apply y;clear y;simp only[↓bO,go_sem,seval];apply u;refine sqR fun _ u=>?_;refine chS 1 ?_;refine zX 1 fun _ y=>?_;simp only[↓bO,go_sem,seval];refine ACalls.args (args':=[.v (.int .i64 1073741824),.sl 8 (D.map EqT.cells)]) ⟨.refl _,Le.oslL,trivial⟩ ?_;refine DCalls.at (SolveB_c 1073741824 D hgD (fun hb=>hmix.light hgood ha hb hgD)) (.cons (.v _) (.cons (EqT.dataSl _) .nil)) (fun _=>.tup (.cons (Bd.dataSl _) (.cons (.v _) .nil))) (fun rb hb=>?_);have hab:=hmix.same hgood hgD ha hb;subst hab;(iterate 4 (apply y;clear y;refine zX 1 fun _ y=>?_;simp only[↓bO,go_sem,seval]));apply y;clear y;simp only[↓bO,go_sem,seval];apply u;refine sqR fun _ u=>?_;(iterate 4 (refine chS 1 ?_));refine zae 94 rfl (fun hc94=>?_) (fun hc94=>?_)
  ·
   (iterate 2 (refine chS 1 ?_));refine zX 1 fun _ y=>?_;simp only[↓bO,go_sem,seval];refine APure.call (zjK ra.1 ra.1) ?_;(iterate 2 (apply y;clear y;refine zX 1 fun _ y=>?_;simp only[↓bO,go_sem,seval]));apply y;clear y;refine zae 99 rfl (fun hc99=>?_) (fun hc99=>?_)
   ·
    simp only[go_sem];refine zX 1 fun _ y=>?_;simp only[↓bO,go_sem,seval];refine APure.call (zcT) ?_;apply y;clear y;refine chS 1 ?_;simp only[↓bO,go_sem,seval];apply u;apply z6;exact Le.refl _
   simp only[go_sem];exact absurd hc99 (by rw[zkc];decide)
  simp only[go_sem];exact absurd hc94 tz4
end Go.Proofs.YtpfiliamceimmaaGreatDoor
namespace Go.Proofs.YtpfiliamceimmaaGreatDoor.solveOrder
open Go Go.ChangeShapes Go.WideShapes Go.ChangeAt Go.RowKit
theorem own:ownKnob Tryz.prog.godebug=none:=by kernel_rfl
theorem laidOut:laidOutB Tryz.prog=true:=by kernel_rfl
theorem cT:Tryz.prog.cellsOf 28=3:=by kernel_rfl
theorem cI:Tryz.prog.cellsOf 3=1:=by kernel_rfl
theorem cS:Tryz.prog.cellsOf 26=1:=by kernel_rfl
section
variable {H:Type} {enc:TypeId×Value->H} {w:World} {base:Nat} {spare:Nat->Bool} {held:Bool}
theorem rdT (fuel:Nat):Rd enc Tryz.prog w base spare held Env.none fuel 28 Ty.cells :=
 rd_ty Tryz.underlying28 cT rfl rfl rfl rfl rfl rfl Tryz.underlying3 cI Tryz.underlying26 cS fuel
theorem rdS (fuel:Nat):Rd enc Tryz.prog w base spare held Env.none fuel 26 (fun xs:List Ty=>[.sl 3 (xs.map Ty.cells)]) :=
 zeG Tryz.underlying26 cT tz1 Ty.cells_len fun n _=>rdT n
theorem cP:Tryz.prog.cellsOf 30=2:=by kernel_rfl
theorem cE:Tryz.prog.cellsOf 32=8:=by kernel_rfl
theorem rdE (fuel:Nat):Rd enc Tryz.prog w base spare held Env.none fuel 32 EqT.cells :=
 rd_eq Tryz.underlying32 cE cT cP rfl rfl rfl rfl rfl rfl rdT (fun n=>rd_two Tryz.underlying30 cP rfl rfl rfl rfl Tryz.underlying3 cI n) fuel
theorem rdEs (fuel:Nat):Rd enc Tryz.prog w base spare held Env.none fuel 22 (fun xs:List EqT=>[.sl 8 (xs.map EqT.cells)]) :=
 zeG Tryz.underlying22 cE tz1 (fun _=>rfl) fun n _=>rdE n
theorem cU:Tryz.prog.cellsOf 5=1:=by kernel_rfl
theorem rdBs (fuel:Nat):Rd enc Tryz.prog w base spare held Env.none fuel 23 (fun xs:List (Fin 256)=>[.sl 1 (xs.map byC)]) :=
 zeG Tryz.underlying23 cU tz1 (fun _=>rfl) fun n _=>rd_byte Tryz.underlying5
end
set_option maxRecDepth 100000 in
theorem lifted (os:Go.Os) (started:os.Started) (H:Type) (enc:TypeId×Value->H) :
  ReturnsInHanded {} Tryz.checked os 3 .any (fun w args=>(Rows.solveOrderSpec.pre enc Tryz.prog Tryz.f3 Rows.solveOrderRow.domain false w args/\laidMetH Tryz.prog Rows.solveOrderRow.laid w)/\sizedMet enc Tryz.prog Tryz.f3 (OpenSpec.ofChange Rows.solveOrderSpec) false w args)
   (Rows.solveOrderSpec.post enc Tryz.prog Tryz.f3 false true false false):=by
 refine returnsInHanded_of_change_and (C:=Tryz.checked) (X:=fun w _=>laidMetH Tryz.prog Rows.solveOrderRow.laid w) (fun _ _ _ hh h=>h.of_heap hh) own started tz0 Tryz.func3
  (ChangeSpec.witness_shaped (enc:=enc) (C:=Tryz.checked) (os:=os) (X:=fun w _=>laidMetH Tryz.prog Rows.solveOrderRow.laid w) false (World.laidAll Tryz.prog os Rows.solveOrderRow.laid) #[.slice none 0 0,.slice none 0 0] 8 (World.laidAll_os _ _ _)
   (World.shaped_of_ZipB tz0 tz0) tz0 tz0 tz0
   (by rw[MakeChecks.laidMetH_plain _ _ _ tz0];exact laidMet_laidAll _ tz0 tz0)) ?_
 intro W base args ds gs before hval0 hW hcnd _ hL _;have hval:∀(j:Nat) t v,Tryz.f3.params[j]?=some t->args[j]?=some v->Value.okWide Tryz.prog W .any base t v:=hval0;have hW':=hW;obtain ⟨p,q,hA0,hV,rfl,hfz,hnd⟩:=hW;have hA:DataW.TrodAll enc Tryz.prog W 0 (fun _=>true) true Tryz.f3.params.toList args.toList ds p:=hA0;rw[Tryz.params3] at hA hval;obtain ⟨v0,vs0,d0,ds0,p0,y,hargs,rfl,rfl,h0,r0⟩:=trodAll_cons hA;obtain ⟨v1,vs1,d1,ds1,p1,z,rfl,rfl,rfl,h1,r1⟩:=trodAll_cons r0;obtain ⟨rfl,rfl,rfl⟩:=trodAll_nil r1;(obtain rfl:args=#[v0,v1]:=by cases args;simp_all);obtain ⟨rfl,rfl⟩:=trodVars_none hV;have k0:=h0;(have lt0:∀x∈p0,x.block<W.heap.size:=by obtain ⟨m,hm⟩:=k0;exact DataW.trod_lt m _ _ _ hm);obtain ⟨b0,len0,cap0,rfl⟩:=okWide_slice Tryz.underlying22 (hval 0 22 v0 rfl rfl)
 obtain ⟨P0,hr0⟩:∃P:List EqT,Rp Env.none (fun _ _=>False) W (.sl 8 (P.map EqT.cells)) (.slice b0 len0 cap0):=by
  obtain ⟨m,hm⟩:=h0;obtain ⟨P,_,hr⟩:=rdEs m _ _ hm;exact ⟨P,hr 0 _ _ rfl rfl⟩
 have k1:=h1;(have lt1:∀x∈p1,x.block<W.heap.size:=by obtain ⟨m,hm⟩:=k1;exact DataW.trod_lt m _ _ _ hm);obtain ⟨b1,len1,cap1,rfl⟩:=okWide_slice Tryz.underlying23 (hval 1 23 v1 rfl rfl)
 obtain ⟨P1,hr1⟩:∃P:List (Fin 256),Rp Env.none (fun _ _=>False) W (.sl 1 (P.map byC)) (.slice b1 len1 cap1):=by
  obtain ⟨m,hm⟩:=h1;obtain ⟨P,_,hr⟩:=rdBs m _ _ hm;exact ⟨P,hr 0 _ _ rfl rfl⟩
 clear hA0 hval0;refine ((ze1 P0 P1).calls (w:=W) rfl ?_).mono fun e W' ⟨he,bel⟩=>?_
 ·intro i c u hc hu
  match i with
  | 0=>simp at hc hu;subst hc;subst hu;exact hr0
  | 1=>simp at hc hu;subst hc;subst hu;exact hr1
  | i+2=>simp at hc
 subst he;exact ⟨_,rfl,_,_,_,[],_,[],hW',trodAll_mk1 (shut_bool Tryz.underlying4 _),(trodAll_cons_mk (Below.trod laidOut tz0 (of_decide_eq_true tz0) k0 bel lt0) (trodAll_cons_mk (Below.trod laidOut tz0 (of_decide_eq_true tz0) k1 bel lt1) trodAll_mk0)),rfl,bel.frame _,fun h=>by cases h⟩
theorem over:Rows.solveOrderRow.holds Tryz.pinned (OpenSpec.ofChange Rows.solveOrderSpec) :=
 OpenClaim.holds_of_wide 3 Tryz.f3 rfl rfl rfl rfl rfl rfl rfl ⟨rfl,rfl,rfl,rfl,rfl⟩ rfl rfl rfl rfl rfl tz0 Tryz.func3 tz0
  (of_decide_eq_true tz0) (by unfold Func.isWrapper;first | (rw[if_pos (by decide +kernel)];kernel_rfl) | (rw[if_neg (by decide +kernel)];exact ⟨rfl,rfl⟩))
  (fun os started H enc _=>lifted os started H enc)
end Go.Proofs.YtpfiliamceimmaaGreatDoor.solveOrder
namespace Go.Proofs.YtpfiliamceimmaaGreatDoor
theorem solveOrder_proved : Rows.SolveOrderCardSaid :=
 Claim7.holds_tied_plain_at .later [] _ _ _ _ solveOrder.over (fun _ h=>by cases h) tz0 (fun _ h=>by cases h) solveOrder_row_tie rfl ⟨rfl,rfl⟩ tz0 rfl
  (fun f fn hf hfn=>by
   obtain rfl:f=3:=Option.some.inj ((show Tryz.prog.funcNamed "pangram/pangramlaw14.SolveOrder"=some 3 by kernel_rfl).symm.trans hf) |>.symm;obtain rfl:fn=Tryz.f3:=(Option.some.inj (Tryz.func3.symm.trans hfn)).symm;refine ⟨by kernel_rfl,fun j t ht=>?_⟩;rw[Tryz.params3] at ht;(have hm:t∈[22,23]:=by simpa using Array.mem_of_getElem? ht);(have hall:([22,23].all fun u=>!Tryz.prog.wantsStandIn u)=true:=by kernel_rfl);have:=zQ.1 hall t hm;have h9:Tryz.prog.wantsStandIn t=false:=by simpa using this
   exact h9)
  tz0
#print axioms solveOrder_proved
end Go.Proofs.YtpfiliamceimmaaGreatDoor
