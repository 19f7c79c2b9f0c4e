/- packed, part 47 of 47. Conditions: none. -/
import Derived.Test.YtpfiliamceimmaaGreatDoorPk46
import Derived.Test.YtpfiliamceimmaaGreatDoorCards
import Derived.Test.YtpfiliamceimmaaGreatDoorTie
import Derived.OpenShut
import Derived.ChangeOld
import Derived.Below
import Derived.LaidMore
import Derived.Lay
import Derived.SevenTiedAt
set_option linter.unusedVariables false
set_option linter.unusedSimpArgs false
set_option maxRecDepth 100000
set_option maxHeartbeats 4000000
namespace Go.Proofs.YtpfiliamceimmaaGreatDoor
open Go Go.RowKit
attribute [local irreducible] aops zaA
theorem Print1_e:ePure Tryz.prog [] 60 30 43 [.agg [.v (.int .i64 3),.v (.int .i64 0),.sl 3 []]] (.v (.string ⟨#[98,111,111,108]⟩))=true:=by kernel_rfl
theorem Print2_e:ePure Tryz.prog [] 60 30 43 [.agg [.v (.int .i64 4),.v (.int .i64 0),.sl 3 [[.v (.int .i64 3),.v (.int .i64 0),.sl 3 []],[.v (.int .i64 2),.v (.int .i64 0),.sl 3 []]]]] (.v (.string ⟨#[98,111,111,108,32,45,62,32,105,110,116]⟩))=true:=by kernel_rfl
theorem APure.ofD {σ:Type} {f:Nat} {args:List AV} {C:σ->Prop} {R:σ->AV} {x:AV} (h:DCalls f args C R) (hd:DataL args) (hx:Data x) (hu:∀s,C s->R s=x):APure Tryz.prog f args x :=
 ⟨hd,hx,ACalls.mono h fun r os n ⟨⟨s,hs,h1,_⟩,_⟩=>h1.trans (hu s hs)⟩
def awT:Ty:=.mk 4 0 [.mk 3 0 [],.mk 2 0 []]
def awA:Ty:=.mk 4 0 [vTy 1,.mk 2 0 []]
def aw14:List EqT:=[⟨vTy 0,awA,0,0⟩,⟨vTy 1,.mk 3 0 [],0,0⟩]
def awS (v:Int):Ty:=if v=0 then awT else if v=1 then .mk 3 0 [] else vTy v
def awB:List Bd:=[⟨0,awT⟩,⟨1,.mk 3 0 []⟩]
theorem aw_subA (θ:Int->Ty):awA.subF θ=.mk 4 0 [θ 1,.mk 2 0 []]:=by simp[awA,vTy,Ty.subF,Ty.subFL]
theorem aw_subT (θ:Int->Ty):awT.subF θ=awT:=by simp[awT,Ty.subF,Ty.subFL]
theorem aw_subB (θ:Int->Ty):(Ty.mk 3 0 []).subF θ=.mk 3 0 []:=by simp[Ty.subF,Ty.subFL]
theorem aw_subV (θ:Int->Ty) (v:Int):(vTy v).subF θ=θ v:=by simp[vTy,Ty.subF]
theorem ziQ (θ:Int->Ty):za0 θ (aw14.map EqT.p)↔θ 0=.mk 4 0 [θ 1,.mk 2 0 []]/\θ 1=.mk 3 0 []:=by
 unfold za0;simp only[aw14,zy,zW,EqT.p,List.forall_mem_cons,List.not_mem_nil,false_imp_iff,implies_true,and_true,aw_subA,aw_subB,aw_subV]
theorem aw_mg:MG (aw14.map EqT.p) awS:=by
 refine ⟨(ziQ _).2 ⟨by simp[awS,awT],by simp[awS]⟩,fun θ hθ v=>?_⟩;obtain ⟨h0,h1⟩:=(ziQ θ).1 hθ;unfold awS;split;(·rename_i e;subst e;rw[aw_subT,h0,h1];rfl);split;(·rename_i _ e;subst e;rw[aw_subB,h1]);rw[aw_subV]
theorem zko {v:Int} (h:v=0\/v=1) (u:Int):¬(awS v).occ u:=by
 (rcases h with rfl | rfl);(·intro h;have h:u∈awT.rvars []:=h;simp[awT,Ty.rvars,Ty.rvarsL,Ty.k] at h);intro h;have h:u∈(Ty.mk 3 0 []).rvars []:=h;simp[Ty.rvars,Ty.rvarsL,Ty.k] at h
theorem aw_norm:Norm [0,1] awS:=by
 (have hm:∀v∈([0,1]:List Int),v=0\/v=1:=fun v hv=>by simpa using hv);refine ⟨fun v hv=>?_,fun v hv=>?_,fun v hv u hu=>absurd hu (zko (hm v hv) u),fun v hv u hu=>?_⟩;·rcases hm v hv with rfl | rfl <;> decide
 ·simp only[zG,List.not_mem_nil,or_false,not_or] at hv
  unfold awS;rw[if_neg hv.1,if_neg hv.2]
 exact absurd (show (awS v).occ u by rw[hu];exact Ty.occ_vTy.2 rfl) (zko (hm v hv) u)
theorem aw_oke:OkE (aw14.map EqT.p):=fun e he=>by
 simp only[aw14,zy,zW,EqT.p,zG,List.not_mem_nil,or_false] at he;rcases he with rfl | rfl <;> exact ⟨by decide,by decide,by decide,by decide⟩
theorem aw_occ (v:Int):OccE (aw14.map EqT.p) v↔v∈([0,1]:List Int):=by
 have e:OccE (aw14.map EqT.p) v↔v∈zaP (aw14.map EqT.p):=((zg4 _).2 v).symm;rw[e,show zaP (aw14.map EqT.p)=[0,1] from by decide]
theorem aw_sol {S:CS} {c:List Int} (h:SolOk (aw14.map EqT.p) (eqF (aw14.map EqT.p)).1 c S):vsS S=[0,1]/\wF S=awS:=by
 (have hv:vsS S=[0,1]:=ziq h.p.vs_strict tz3 fun v=>(h.p.vs_mem v).trans (aw_occ v));refine ⟨hv,?_⟩;have hn:=h.p.wF_norm h.no;rw[hv] at hn;exact MG.unique hn aw_norm (h.p.wF_mg h.no) aw_mg
theorem aw_cnt (v:Int):(awS v).cnt<=3:=by
 unfold awS;split;(·decide);split;(·decide);rw[vTy_cnt];omega
theorem aw_low:LowL (aw14.map EqT.p):=fun S c h v _=>by rw[(aw_sol h).2];have:=aw_cnt v;omega
theorem aw14_sol {r:List Bd×Int} (h:SolM 9 (aw14.map EqT.p) r):r=(awB,0):=by
 rcases h with ⟨s,hE,hne,_⟩ | ⟨S,c,hp,hno,h⟩
 ·rcases hE.1 with ⟨_,h2⟩ | ⟨_,_,S,c,y,h2,h3⟩ | ⟨h1,_⟩
  (·exact absurd h2 (zdI aw_oke aw_mg.solves));(·exact absurd h3 (h2.solves_noLoop aw_mg.solves y));exact absurd h1 hne
 obtain ⟨hv,hw⟩:=aw_sol ⟨hp,hno⟩;(rcases h with ⟨_,rfl⟩ | ⟨⟨v,_,hb⟩,_⟩);(·rw[hv,hw];rfl);unfold zi3 at hb;rw[hw] at hb;have:=aw_cnt v;simp only[zw,zd] at hb;omega
theorem awSolve_pure:APure Tryz.prog 13 [.v (.int .i64 9),.sl 8 (aw14.map EqT.cells)] (.tup [.sl 4 (awB.map Bd.cells),.v (.int .i64 0)]) :=
 APure.ofD (Solve_c 9 aw14 aw_oke tz3 aw_low) (.cons (.v _) (.cons (EqT.dataSl _) .nil)) (.tup (.cons (Bd.dataSl _) (.cons (.v _) .nil))) fun s hs=>by rw[aw14_sol hs]
theorem awE_le:Le (.sl 8 [[.v (.int .i64 1),.v (.int .i64 0),.sl 3 [],.v (.int .i64 4),.v (.int .i64 0),.sl 3 ([vTy 1,.mk 2 0 []].map Ty.cells),.v (.int .i64 0),.v (.int .i64 0)],[.v (.int .i64 1),.v (.int .i64 1),.sl 3 [],.v (.int .i64 3),.v (.int .i64 0),.v (.slice none 0 0),.v (.int .i64 0),.v (.int .i64 0)]]) (.sl 8 (aw14.map EqT.cells)) :=
 Le.slC rfl (by intro y hy;simp[aw14,EqT.cells] at hy;rcases hy with rfl | rfl <;> rfl) ⟨.refl _,.refl _,.refl _,.refl _,.refl _,.refl _,.refl _,.refl _,.refl _,.refl _,.refl _,.refl _,.refl _,Le.slNil 3,.refl _,.refl _,trivial⟩
theorem awArr:APure Tryz.prog 42 [.sl 3 ([vTy 1,.mk 2 0 []].map Ty.cells)] (.agg [.v (.int .i64 4),.v (.int .i64 0),.sl 3 ([vTy 1,.mk 2 0 []].map Ty.cells)]):=by
 have h:=zlA 2 [vTy 1,.mk 2 0 []] rfl tz3;rw[show zfw [vTy 1,.mk 2 0 []]=awA from rfl,Ty.cells_eq] at h;exact h
theorem awE_data:Data (.sl 8 [[.v (.int .i64 1),.v (.int .i64 0),.sl 3 [],.v (.int .i64 4),.v (.int .i64 0),.sl 3 ([vTy 1,.mk 2 0 []].map Ty.cells),.v (.int .i64 0),.v (.int .i64 0)],[.v (.int .i64 1),.v (.int .i64 1),.sl 3 [],.v (.int .i64 3),.v (.int .i64 0),.v (.slice none 0 0),.v (.int .i64 0),.v (.int .i64 0)]]):=.sl fun x hx=>by
 have h0:Data (.sl 3 []):=.sl (by intro x hx;cases hx);simp only[zG,List.not_mem_nil,or_false] at hx;(rcases hx with rfl | rfl);(·exact .cons (.v _) (.cons (.v _) (.cons h0 (.cons (.v _) (.cons (.v _) (.cons (Ty.dataSl _) (.cons (.v _) (.cons (.v _) .nil))))))));exact .cons (.v _) (.cons (.v _) (.cons h0 (.cons (.v _) (.cons (.v _) (.cons (.v _) (.cons (.v _) (.cons (.v _) .nil)))))))
theorem awP1:APure Tryz.prog 43 [.agg (Ty.mk 3 0 []).cells] (.v (.string ⟨#[98,111,111,108]⟩)):=zft mixed Print1_e
theorem awP2:APure Tryz.prog 43 [.agg awT.cells] (.v (.string ⟨#[98,111,111,108,32,45,62,32,105,110,116]⟩)):=zft mixed Print2_e
theorem awV (n:Int):APure Tryz.prog 41 [.v (.int .i64 n)] (.agg [.v (.int .i64 1),.v (.int .i64 n),.sl 3 []]):=by
 have h:=zd4 n;rw[Ty.cells_eq] at h;exact h
theorem awA_le2:Le (.sl 3 [[.v (.int .i64 1),.v (.int .i64 1),.sl 3 []],[.v (.int .i64 2),.v (.int .i64 0),.v (.slice none 0 0)]]) (.sl 3 ([vTy 1,.mk 2 0 []].map Ty.cells)) :=
 Le.slC rfl (by intro y hy;simp at hy;rcases hy with rfl | rfl <;> simp[Ty.cells_len]) ⟨.refl _,.refl _,.refl _,.refl _,.refl _,Le.slNil 3,trivial⟩
theorem zbr:APure Tryz.prog 11 [] (.v (.bool true)):=by
  refine APure.mkL (.nil) (.v _) ?_;refine aIn Tryz.func11 fun hm=>?_;simp only[Tryz.ntmps11,Tryz.results11,go_sem,seval];(have hl0:(0:Int)<(awB.length:Int):=by decide);(have hl1:(1:Int)<(awB.length:Int):=by decide);have hg0:awB[0]?=some ⟨0,awT⟩:=rfl;have hg1:awB[1]?=some ⟨1,.mk 3 0 []⟩:=rfl;refine sqD ?_;refine sqR fun _ u=>?_;(iterate 5 (refine chS 1 ?_));simp only[↓bO,go_sem,seval];apply u;refine zZ fun _ u=>?_;refine zlY 14 [13] mixed tz0 (fun _ _ h=>h) fun J0 j0=>?_;simp only[go_sem];refine zae 1 fun _ y=>?_;simp only[↓zaA,↓dOp,↓bO,go_sem,seval];refine ⟨_,awV 0,?_⟩;apply y;clear y;refine zae 1 fun _ y=>?_;simp only[↓zaA,↓dOp,↓bO,go_sem,seval];refine ⟨_,awV 1,?_⟩;apply y;clear y;refine zae 1 fun _ y=>?_;simp only[↓zaA,↓dOp,↓bO,go_sem,seval];apply y;clear y;refine zae 1 fun _ y=>?_;simp only[↓zaA,↓dOp,↓bO,go_sem,seval,↓bs2_3];apply y;clear y;refine zae 1 fun _ y=>?_;simp only[↓zaA,↓dOp,↓bO,go_sem,seval];refine ⟨_,awArr.le ⟨awA_le2,trivial⟩ (.cons (.sl (by intro x hx;simp only[zG,List.not_mem_nil,or_false] at hx;rcases hx with rfl | rfl;exact .cons (.v _) (.cons (.v _) (.cons (.sl (by intro x hx;cases hx)) .nil));exact .cons (.v _) (.cons (.v _) (.cons (.v _) .nil)))) .nil),?_⟩;(iterate 2 (apply y;clear y;refine zae 1 fun _ y=>?_;simp only[↓zaA,↓dOp,↓bO,go_sem,seval]));refine ⟨_,awV 1,?_⟩;(iterate 2 (apply y;clear y;refine zae 1 fun _ y=>?_;simp only[↓zaA,↓dOp,↓bO,go_sem,seval]));apply y;clear y;refine zae 1 fun _ y=>?_;simp only[↓zaA,↓dOp,↓bO,go_sem,seval,↓bs2_8];apply y;clear y;refine zae 1 fun _ y=>?_;simp only[↓zaA,↓dOp,↓bO,go_sem,seval];refine ⟨_,awSolve_pure.le ⟨.refl _,awE_le,trivial⟩ (.cons (.v _) (.cons awE_data .nil)),?_⟩;(iterate 2 (apply y;clear y;refine zae 1 fun _ y=>?_;simp only[↓zaA,↓dOp,↓bO,go_sem,seval]));apply y;clear y;simp only[↓zaA,↓dOp,↓bO,go_sem,seval];refine j0 _ ?_;clear j0 J0;refine chS 1 ?_;simp only[↓bO,go_sem,seval];apply u;refine sqR fun _ u=>?_;(iterate 3 (refine chS 1 ?_));refine zai 23 rfl (fun hc23=>?_) (fun hc23=>?_)
  ·
   (iterate 5 (refine chS 1 ?_));refine zai 28 rfl (fun hc28=>?_) (fun hc28=>?_)
   ·
    (iterate 4 (refine chS 1 ?_ (by intro _ q;simp only[↓bO,go_sem,seval,Bd.drop1,hl0,gM hg0];exact q)));refine z6 1 fun _ y=>?_;simp only[↓bO,go_sem,seval];refine APure.call (awP2) ?_;(iterate 3 (apply y;clear y;refine z6 1 fun _ y=>?_;simp only[↓bO,go_sem,seval]));apply y;clear y;refine zai 36 rfl (fun hc36=>?_) (fun hc36=>?_)
    ·
     (iterate 4 (refine chS 1 ?_ (by intro _ q;simp only[↓bO,go_sem,seval,Bd.drop1,hl1,gM hg1];exact q)));refine z6 1 fun _ y=>?_;simp only[↓bO,go_sem,seval];refine APure.call (awP1) ?_;(iterate 2 (apply y;clear y;refine z6 1 fun _ y=>?_;simp only[↓bO,go_sem,seval]));apply y;clear y;simp only[↓bO,go_sem,seval];apply u;apply zaa;(try simp only[go_sem]);rw[beq_self_eq_true];exact Le.refl _
    simp only[go_sem];exact absurd hc36 (by first | decide | (simp;done))
   simp only[go_sem];exact absurd hc28 (by first | decide | (simp;done))
  simp only[go_sem];exact absurd hc23 (by first | decide | (simp;done))
def GoodE (es:List EqT):Prop:=zdE (es.map EqT.p)=false/\LightL ((zaC es).map EqT.p)
theorem Great14_c (es:List EqT):DCalls (σ:=Bool) 10 [.sl 8 (es.map EqT.cells)] (fun s=>(s=false->GoodE es)) (fun s=>.v (.bool s)):=by
  refine ACalls.clean (C:=fun r os=>∃s:Bool,((s=false->GoodE es))/\r=(fun s:Bool=>.v (.bool s)) s/\os=[]) ?_;refine aIn Tryz.func10 fun hm=>?_;simp only[Tryz.ntmps10,Tryz.results10,go_sem,seval];refine sqD ?_;refine zZ fun _ u=>?_;refine sqR fun _ w=>?_;refine chS 1 ?_;simp only[↓bO,go_sem,seval];refine APure.call (ziV es) ?_;apply w;apply z8 rfl <;> intro hb6
  ·
   refine sqD ?_;apply zaa;(try simp only[go_sem]);refine ⟨_,[],⟨true,(fun h=>by cases h),rfl,rfl⟩,.v _ _,trivial,Le.refl _,⟨0,rfl,rfl⟩,by omega⟩
  have hg12:zdE (es.map EqT.p)=false:=hb6;have hgl:=zcO hb6;rw[zC] at hgl;obtain ⟨hsP,hol⟩:=zgB es hgl.2;have hll:=zfx es;(have hrP:∀e∈((zaC es).map EqT.p),(e.1.right&&e.2.right)=true:=fun e he=>(by obtain ⟨x,hx,rfl⟩:=zq.1 he;exact (List.mem_filter.1 hx).2));apply zac;apply u;obtain ⟨M,hM⟩:∃M,M=(eqF ((zaC es).map EqT.p)).1:=⟨_,rfl⟩;have hmlM:=zhC ((zaC es).map EqT.p);rw[<- hM] at hmlM;(have hML:M.length<=1048576:=by omega);refine zdf (σ:=List Int) (mB 28 8) (fun c=>[(3,.eptr [.sl 4 (M.map RNode.cells),.sl 1 (c.map intC)])]) (fun c=>[]) 0 (fun c=>ColE ((zaC es).map EqT.p) c/\(clB M c=true↔Clashes ((zaC es).map EqT.p))) ?_ (fun c hcj=>?_)
  ·
   apply z7;refine chS 1 ?_;refine z6 1 fun _ y=>?_;simp only[↓bO,go_sem,seval];refine APure.call (zec es tz1) ?_;apply y;clear y;refine z6 1 fun _ y=>?_;simp only[↓bO,go_sem,seval];refine Close_at (zaC es) hsP hrP (fun c hc hcb=>?_);rw[<- hM] at hcb ⊢;apply y;clear y;refine chS 1 ?_;simp only[↓bO,go_sem,seval];(try simp only[go_sem,seval]);refine ⟨c,⟨hc.colE hol,hcb⟩,?_⟩;refine Weak.freeze ?_ trivial tz2 tz2 ?_ ?_;(· exact clz5);(· repeat' first | exact trivial | exact .any _ | exact .v _ _ | exact Und.data (EqT.dataSl _) | exact Und.data (.eptr (.cons (RNode.dataSl _) (.cons (zap _) .nil))) | (refine ⟨?_,?_⟩));trivial
  simp only[go_sem,seval];obtain ⟨hce,hclx⟩:=hcj;have hcl:=hce.len;rw[<- hM] at hcl;(have hNx:zkH M c:=by (have h9:=nxOk_of hol hce.len;rw[<- hM] at h9;exact h9));refine zZ fun _ u=>?_;refine sqR fun _ w=>?_;refine chS 1 ?_;refine z6 1 fun _ y=>?_;simp only[↓bO,go_sem,seval];refine APure.call (zld M c hcl hML) ?_;apply y;clear y;refine chS 1 ?_;simp only[go_sem];refine zai 12 rfl (fun hc12=>?_) (fun hc12=>?_)
  ·
   simp only[go_sem];have hc12:clB M c=true:=hc12;have hlight:LightL ((zaC es).map EqT.p):=zg3 hce (.inl (hclx.1 hc12));(iterate 3 (refine chS 1 ?_));simp only[↓bO,go_sem,seval];apply w;refine z8 (b:=true) (by first | exact rfl | exact congrArg (fun b=>AV.v (.bool b)) hb16) (fun _=>?_) (fun h=>(by cases h));refine sqD ?_;apply zaa;(try simp only[go_sem]);refine ⟨_,[],⟨false,(fun _=>⟨hg12,hlight⟩),rfl,rfl⟩,.v _ _,trivial,Le.refl _,⟨0,rfl,rfl⟩,by omega⟩
  simp only[go_sem];have hc12:clB M c=false:=hc12;refine chS 1 ?_;refine z6 1 fun _ y=>?_;simp only[↓bO,go_sem,seval];refine APure.call (FinR_pure M c hNx hML) ?_;apply y;clear y;refine chS 1 ?_;simp only[↓bO,go_sem,seval];apply w;apply z8 rfl <;> intro hb16
  ·
   (have hfin:zkV M c=false:=by simpa using hb16);have hlight:LightL ((zaC es).map EqT.p):=zg3 hce (.inr (by rw[<- hM];exact hfin));refine sqD ?_;apply zaa;(try simp only[go_sem]);refine ⟨_,[],⟨false,(fun _=>⟨hg12,hlight⟩),rfl,rfl⟩,.v _ _,trivial,Le.refl _,⟨0,rfl,rfl⟩,by omega⟩
  (have hfin:zkV M c=true:=by simpa using hb16);apply zac;apply u;refine zZ fun _ u=>?_;refine sqD ?_;apply zab;refine zah (σ:=Nat) (mB 28 24) (fun s=>s<=M.length/\∀i,i<s->∃n,n<=399/\Hv (zbe M c) i n) (fun s=>[(4,.v (.int .i64 (s:Int)))]) (fun s=>[]) (fun s=>M.length-s) 0 (⟨Nat.zero_le _,fun i hi=>by omega⟩) ?_ (fun s hs=>?_)
  ·
   simp only[go_sem,seval];exact zaK
  simp only[go_sem,seval];refine zZ fun _ w=>?_;refine sqR fun _ z=>?_;(iterate 4 (refine chS 1 ?_));simp only[↓bO,go_sem,seval];apply z;apply z8 rfl <;> intro hb21
  ·
   (have hk:s<M.length:=by simpa using hb21);have hw:IntKind.i64.wrap ((s:Int)+1)=(s:Int)+1:=zal tz1 tz1;apply zac;apply w;refine zZ fun _ w=>?_;apply zab;refine sqR fun _ z=>?_;(iterate 2 (refine chS 1 ?_ (by intro _ q;simp only[↓bO,go_sem,seval,hk];exact q)));refine z6 1 fun _ y=>?_;simp only[↓bO,go_sem,seval];obtain ⟨n,hn⟩:=hv_ex hNx hfin hk;refine APure.call (zjY hNx hML hn hk 400 tz1 tz1) ?_;apply y;clear y;simp only[↓bO,go_sem,seval];apply z;apply z8 rfl <;> intro hb27
   ·
    refine sqD ?_;apply zaa;(try simp only[go_sem]);refine ⟨_,[],⟨true,(fun h=>by cases h),rfl,rfl⟩,.v _ _,trivial,Le.refl _,⟨0,rfl,rfl⟩,by omega⟩
   (have hn399:n<=399:=by (have h9:=hb27;simp only[ze] at h9;omega));apply zac;apply w;apply z7;(iterate 2 (refine chS 1 ?_ (by intro _ q;simp only[↓bO,go_sem,seval,hw];exact q)));simp only[↓bO,go_sem,seval];refine ⟨(s+1),⟨by omega,fun i hi=>(by rcases zD i s with h3 | h3 <;> first | exact hs.2 i h3 | (obtain rfl:i=s:=tz1;exact ⟨n,hn399,hn⟩))⟩,by omega,?_⟩;simp only[zas,zat,zag,zam,mB,seval,zj,zi];exact zaK
  (have hk:s=M.length:=by have:=hs.1;simp at hb21;omega);have hlight:LightL ((zaC es).map EqT.p):=light_of hce (by rw[<- hM];intro i hi;exact hs.2 i tz1);apply zaj;simp only[zaq,zak,zaf,bA,Nat.reduceEqDiff,↓reduceIte];apply u;refine sqD ?_;apply zaa;(try simp only[go_sem]);refine ⟨_,[],⟨false,(fun _=>⟨hg12,hlight⟩),rfl,rfl⟩,.v _ _,trivial,Le.refl _,⟨0,rfl,rfl⟩,by omega⟩
end Go.Proofs.YtpfiliamceimmaaGreatDoor
namespace Go.Proofs.YtpfiliamceimmaaGreatDoor
open Go Go.RowKit
abbrev Bad (es:List EqT):Prop:=(zaC es).length<es.length
theorem okE_of {es:List EqT} (hg:zdE (es.map EqT.p)=false) (hb:¬Bad es):OkE (es.map EqT.p)/\zbw (es.map EqT.p)<=160/\zaC es=es:=by
 have hgl:=zcO hg;obtain ⟨h1,h2⟩:=zgB es hgl.2;obtain ⟨h3,_⟩:=zk8 hb;rw[h3] at h2;exact ⟨h2,hgl.2,h3⟩
theorem LightL.low {l:List (Ty×Ty)} (h:LightL l):LowL l:=fun S c hp v _=>Nat.le_trans (h S c hp v) tz3
theorem zle {most0:Int} {σ:Int->Ty} {v:Int} (h:(σ v).cnt<=399) (hm:399<=most0):zi3 most0 σ v=false:=zg8 (by simp only[most];omega)
theorem SolM.solR {most0:Int} {l:List (Ty×Ty)} {r:List Bd×Int} (h:SolM most0 l r) (ho:OkE l) (hl:LightL l) (hm:399<=most0):SolR l r:=by
 (rcases h with ⟨s,hE,hne,rfl⟩ | ⟨S,c,hp,hno,⟨_,rfl⟩ | ⟨⟨v,_,hb⟩,_⟩⟩);(·exact hE.sol ho hne);(·exact hp.sol_yes hno);rw[zle (hl S c ⟨hp,hno⟩ v) hm] at hb;cases hb
theorem zh0 {L:List Int} {σ:Int->Ty} {k:Nat} (h:∀v,(σ v).cnt<=k):∀b∈zck L σ,b.t.cnt<=k:=fun b hb=>by
 obtain ⟨v,_,rfl⟩:=zq.1 hb;exact h v
theorem SolM.small {most0:Int} {l:List (Ty×Ty)} {r:List Bd×Int} (h:SolM most0 l r) (hl:LightL l):∀b∈r.1,b.t.cnt<=399:=by
 (rcases h with ⟨s,_,_,rfl⟩ | ⟨S,c,hp,hno,⟨_,rfl⟩ | ⟨_,rfl⟩⟩);(·intro b hb;cases hb);(·exact zh0 (hl S c ⟨hp,hno⟩));intro b hb;cases hb
theorem vs_len {l:List (Ty×Ty)} {L:List Int} (hs:L.Pairwise (· < ·)) (hL:∀v,v∈L↔OccE l v):L.length<=zbw l :=
 Nat.le_trans (zfY (ze7 hs) fun v hv=>((zg4 l).2 v).2 ((hL v).1 hv)) (by
  have h:=zgQ l
  have e:∀k:List (Ty×Ty),(k.map fun e=>e.1.cnt+e.2.cnt).sum=zbw k:=by
   intro k
   induction k with
   | nil=>rfl
   | cons x k ih=>simp only[zy,List.sum_cons,ih,zbw]
  rw[e] at h;exact h)
theorem SolM.len {most0:Int} {l:List (Ty×Ty)} {r:List Bd×Int} (h:SolM most0 l r):r.1.length<=zbw l:=by
 (rcases h with ⟨s,_,_,rfl⟩ | ⟨S,c,hp,hno,⟨_,rfl⟩ | ⟨_,rfl⟩⟩);(·simp);(·exact Nat.le_trans (zlr _ _) (vs_len hp.vs_strict hp.vs_mem));simp
end Go.Proofs.YtpfiliamceimmaaGreatDoor
namespace Go.Proofs.YtpfiliamceimmaaGreatDoor
open Go Go.RowKit
attribute [local irreducible] aops zaA
def CntR (es:List EqT) (s:Int×Int):Prop:=if Bad es then s=(1,0) else ∃t,EqtR (es.map EqT.p) t/\s=(t.2.1,t.2.2)
def SatV (es:List EqT) (z:Int):Prop:=if Bad es then z=1 else ∃t,EqtR (es.map EqT.p) t/\z=t.2.1
def SolA (most0:Int) (es:List EqT) (r:List Bd×Int):Prop:=if Bad es then r=([],1) else SolM most0 (es.map EqT.p) r
theorem APure.toD {σ:Type} {f:Nat} {args:List AV} {x:AV} {C:σ->Prop} {R:σ->AV} (h:APure Tryz.prog f args x) (s:σ) (hs:C s) (hx:x=R s):DCalls f args C R :=
 h.call ⟨⟨s,hs,hx,rfl⟩,rfl⟩
theorem DCalls.weak {σ τ:Type} {f:Nat} {args:List AV} {C:σ->Prop} {R:σ->AV} {C':τ->Prop} {R':τ->AV} (h:DCalls f args C R) (g:σ->τ) (hc:∀s,C s->C' (g s)) (hr:∀s,R s=R' (g s)):DCalls f args C' R' :=
 ACalls.mono h fun r os n ⟨⟨s,hs,h1,h2⟩,h3⟩=>⟨⟨g s,hc s hs,h1.trans (hr s),h2⟩,h3⟩
theorem SolveA_c (most0:Int) (es:List EqT) (hG:GoodE es):DCalls (σ:=List Bd×Int) 13 [.v (.int .i64 most0),.sl 8 (es.map EqT.cells)] (SolA most0 es) (fun s=>.tup [.sl 4 (s.1.map Bd.cells),.v (.int .i64 s.2)]):=by
 obtain ⟨hg,hlight⟩:=hG
 by_cases hb:Bad es
 ·have hl:=(zcO hg).1
  rw[zC] at hl;exact APure.toD (Solve_bad most0 es tz1 (zj7 hb)) ([],1) (by unfold SolA;rw[if_pos hb]) rfl
 obtain ⟨h1,h2,h3⟩:=okE_of hg hb;rw[h3] at hlight;exact (Solve_c most0 es h1 tz1 hlight.low).weak id (fun t ht=>by unfold SolA;rw[if_neg hb];exact ht) (fun _=>rfl)
structure Mix (es ds:List EqT):Prop where
 to:∀d∈ds,∃e∈es,d.p=e.p\/d.p=(e.r,e.l)
 back:∀e∈es,∃d∈ds,d.p=e.p\/d.p=(e.r,e.l)
structure MadeI (b:List Bd) (L:List Ty):Prop where
 right:∀T∈L,T.right=true
 solved:L≠[]->solvedB b=true
theorem Weak.backOsl {st:St} (i j k sz:Nat) (xs:List (List AV)) {sl':List AV} {os':Os} {n:Nat} (hij:st.n0<=i/\st.n0<=j/\i<st.nx/\j<st.nx) (hn:n<=st.nx) (h0:st.n0<=n) (h1:LeL st.sl (sl'.set k (.osl j sz xs))) (hl:RenL (zcZ i j) (sl'.set k (.osl j sz xs)) sl') (ho:OsFrom (zcZ i j) st.os os') (h6:UndL n sl') (h7:UndOs n os'):Weak st ⟨sl',os',n,st.n0⟩:=Weak.back i j h1 hij hl ho hn h0 h6 h7
theorem clz17 {p:Prop} (h:p:=by repeat' first | exact trivial | exact .any | exact .v _ | exact .osl rfl (zaF _) | exact .data (EqT.dataSl _) | exact .data (zap _) | (refine ⟨?_,?_⟩)):p:=h
theorem clz18 {p:Prop} (h:p:=by repeat' first | exact trivial | exact .any _ | exact .v _ _ | exact Und.data (EqT.dataSl _) | exact Und.data (zap _) | exact .osl tz1 (.data (zap _)) | (refine ⟨?_,?_⟩)):p:=h
theorem clz19 {p:Prop} (h:p:=by repeat' first | exact trivial | (with_reducible omega) | (refine ⟨?_,?_⟩)):p:=h
theorem zhN (es:List EqT) (hsum:zbw (es.map EqT.p)<=1048576):ACalls Tryz.prog 28 [.sl 8 (es.map EqT.cells)] [] 0 fun r os n=>(r=.osl 0 1 ((zaI (zaP (es.map EqT.p))).map intC)/\os=[(0,.tok 3 1 (zaI (zaP (es.map EqT.p))).length)])/\n=1:=by
  refine ACalls.cleanN (n:=1) (C:=fun r os=>r=_/\os=_) tz1 ?_;refine aIn Tryz.func28 fun hm=>?_;simp only[Tryz.ntmps28,Tryz.results28,go_sem,seval];have hsl:=zcU (es.map EqT.p);rw[zC] at hsl;have hm1:=hm.len (sz:=8) (xs:=es.map EqT.cells) tz4;rw[zC] at hm1;(iterate 2 (refine zZ fun _ z=>?_;apply z7;simp only[↓bO,go_sem,seval];apply z));refine zZ fun _ z=>?_;refine sqD ?_;apply zab;refine zah (σ:=Nat) (mB 66 25) (fun w=>w<=es.length) (fun w=>[(3,.sl 1 ((zaP ((es.map EqT.p).take w)).map intC)),(4,.v (.int .i64 (w:Int)))]) (fun w=>[]) (fun w=>es.length-w) 0 tz1 ?_ (fun w hw0=>?_)
  ·
   simp only[go_sem,seval,bL,zaP,List.foldl_nil];exact Weak.mk (by simp only[go_sem,Le.refl,Le.any,Le.slNil,zn,zi]) (fun _ _ h=>h) rfl rfl
  simp only[go_sem,seval];refine zZ fun _ g=>?_;refine sqR fun _ d=>?_;(iterate 3 (refine chS 1 ?_));simp only[↓bO,go_sem,seval];apply d;apply z8 rfl <;> intro hb11
  ·
   (have hk:w<es.length:=by simpa using hb11);obtain ⟨e,he⟩:∃e,es[w]?=some e:=⟨_,za hk⟩;(have hep:(es.map EqT.p)[w]?=some e.p:=by rw[zO,he];rfl);have hw:IntKind.i64.wrap ((w:Int)+1)=(w:Int)+1:=zal tz1 tz1;have hvt:=zjL hep;simp only[EqT.p] at hvt;have hvl:=zdL ((es.map EqT.p).take w);have hst:=zcF (es.map EqT.p) w;have hem:=zeb (l:=(es.map EqT.p)) (e:=e.p) (zc hep);simp only[EqT.p] at hem;have hrl:=Ty.rvars_len e.l (zaP ((es.map EqT.p).take w));apply zac;apply g;refine zZ fun _ g=>?_;apply zab;refine zaz 13 mixed tz0 fun J0 j0=>?_;(iterate 11 (simp only[go_sem];refine zae 1 fun _ u=>?_;simp only[↓zaA,↓dOp,↓bO,go_sem,seval,hk,gM he,EqT.cells,Ty.refold];apply u;clear u));simp only[go_sem];refine zae 1 fun _ u=>?_;simp only[↓zaA,↓dOp,↓bO,go_sem,seval];refine ⟨_,zgN e.l (zaP ((es.map EqT.p).take w)) tz1,?_⟩;apply u;clear u;simp only[↓zaA,↓dOp,↓bO,go_sem,seval];refine ⟨_,zgN e.r (e.l.rvars (zaP ((es.map EqT.p).take w))) tz1,?_⟩;(try simp only[go_sem]);refine j0 _ ?_;clear j0 J0;simp only[go_sem];simp only[↓bO,go_sem,seval];apply g;apply z7;(iterate 2 (refine chS 1 ?_ (by intro _ q;simp only[↓bO,go_sem,seval,hw];exact q)));simp only[↓bO,go_sem,seval];refine ⟨(w+1),tz1,tz1,?_⟩;simp only[zas,zat,zag,zam,mB,seval,zj,zi,zn,hvt];exact zaK
  (have hks:w=es.length:=by simp at hb11;omega);obtain ⟨V,hV⟩:∃V,V=zaP (es.map EqT.p):=⟨_,rfl⟩;(have hVw:(zaP ((es.map EqT.p).take w))=V:=by rw[hV,hks,List.take_of_length_le tz4]);(have hVl:V.length<=1048576:=by (rw[hV];have h9:=zdL (es.map EqT.p);omega));rw[hVw];apply zaj;simp only[zaq,zak,zaf,bA,Nat.reduceEqDiff,↓reduceIte];apply z;refine sqD ?_;refine zZ fun _ z=>?_;refine sqD ?_;apply zab;refine zaE (Weak.tokSlot 5 3 1 rfl) ?_;simp only[go_sem];refine zah (σ:=Nat) (mB 66 104) (fun s=>s<=V.length) (fun s=>[(5,.osl 0 1 ((zaI (V.take s)).map intC)),(6,.v (.int .i64 (s:Int)))]) (fun s=>[(0,.tok 3 1 (zaI (V.take s)).length)]) (fun s=>V.length-s) 0 tz1 ?_ (fun s hs=>?_)
  ·
   simp only[go_sem,seval,bL,zaI,List.foldl_nil];exact zaK
  simp only[go_sem,seval];refine zZ fun _ g=>?_;refine sqR fun _ d=>?_;(iterate 3 (refine chS 1 ?_));simp only[↓bO,go_sem,seval];apply d;apply z8 rfl <;> intro hb30
  ·
   (have hk:s<V.length:=by simpa using hb30);obtain ⟨r,hr⟩:∃r,V[s]?=some r:=⟨_,za hk⟩;have hw:IntKind.i64.wrap ((s:Int)+1)=(s:Int)+1:=zal tz1 tz1;have hvt:=zlt hr;have hvl:=(zh9 (V.take s)).1;(have hvl2:(zaI (V.take s)).length<=1048576:=by (rw[hvl,List.length_take];omega));apply zac;apply g;refine zZ fun _ g=>?_;apply zab;refine sqR fun _ d=>?_;simp only[↓bO,go_sem,seval,hk];apply d;refine zZ fun _ d=>?_;apply zab;refine zah (σ:=Nat) (mB 66 232) (fun v=>v<=(zaI (V.take s)).length/\∀(j:Nat) (x:Int),j<v->(zaI (V.take s))[j]?=some x->x<r) (fun v=>[(7,.v (.int .i64 (v:Int)))]) (fun v=>[(0,.tok 3 1 (zaI (V.take s)).length)]) (fun v=>(zaI (V.take s)).length-v) 0 (⟨Nat.zero_le _,fun j x hj=>by omega⟩) ?_ (fun v hv=>?_)
   ·
    simp only[go_sem,seval];exact zaK
   simp only[go_sem,seval];refine zZ fun _ c=>?_;refine zaU (mB 66 140737488355560) ([(47,.v (.bool (decide (v<(zaI (V.take s)).length/\(zaI (V.take s)).getD v 0<r))))]) ([]) ?_ ?_
   ·
    refine zaz 15 mixed tz0 fun J0 j0=>?_;(iterate 5 (simp only[go_sem];refine zae 1 fun _ u=>?_;simp only[↓zaA,↓dOp,↓bO,go_sem,seval];apply u;clear u));simp only[go_sem];refine za1 37 rfl (fun hc37=>?_) (fun hc37=>?_)
    ·
     simp only[go_sem];(have hlv:v<(zaI (V.take s)).length:=by simpa using hc37);obtain ⟨x1,hx1⟩:∃x,(zaI (V.take s))[v]?=some x:=⟨_,za hlv⟩;(iterate 9 (refine zae 1 fun _ u=>?_;simp only[↓zaA,↓dOp,↓bO,go_sem,seval,hk,gM hr,intC,gM hx1,hlv];apply u;clear u));simp only[↓zaA,↓dOp,↓bO,go_sem,seval];refine j0 _ ?_;clear j0 J0;simp only[bL,aops,zaq,zak,zaf];(try simp only[go_sem,seval]);refine Weak.mk ?_ (fun _ _ h=>h) rfl rfl;simp only[go_sem,Le.refl,Le.any];all_goals (refine Le.of_eq (congrArg (fun b=>AV.v (.bool b)) ?_);rw[zF];simp only[zd,zH,false_iff,zA];first | (rw[hx1];simp[hlv];done) | (simp[hlv];done))
    simp only[go_sem];(have hlv:¬v<(zaI (V.take s)).length:=by simpa using hc37);(iterate 9 (refine zae 1 fun _ u=>?_;simp only[↓zaA,↓dOp,↓bO,go_sem,seval];apply u;clear u));simp only[↓zaA,↓dOp,↓bO,go_sem,seval];refine j0 _ ?_;clear j0 J0;simp only[bL,aops,zaq,zak,zaf];(try simp only[go_sem,seval]);refine Weak.mk ?_ (fun _ _ h=>h) rfl rfl;simp only[go_sem,Le.refl,Le.any];all_goals (refine Le.of_eq (congrArg (fun b=>AV.v (.bool b)) ?_);rw[zF];simp only[zd,zH,false_iff,zA];first | (rw[hx1];simp[hlv];done) | (simp[hlv];done))
   simp only[go_sem,seval];apply z8 rfl <;> intro hb47
   ·
    (have hk0:v<(zaI (V.take s)).length/\(zaI (V.take s)).getD v 0<r:=by simpa using hb47);obtain ⟨x0,hxv⟩:∃x,(zaI (V.take s))[v]?=some x:=⟨_,za hk0.1⟩;(have hlt:x0<r:=by (have h9:=hk0.2;rw[zA,hxv] at h9;exact h9));have hk1:=hk0.1;have hw2:IntKind.i64.wrap ((v:Int)+1)=(v:Int)+1:=zal tz1 tz1;apply zac;apply c;apply zab;apply z7;(iterate 2 (refine chS 1 ?_ (by intro _ q;simp only[↓bO,go_sem,seval,hw2];exact q)));simp only[↓bO,go_sem,seval];refine ⟨(v+1),⟨by omega,fun j x hj hx=>by (rcases zD j v with h9 | h9 <;> first | exact hv.2 j x h9 hx | (obtain rfl:j=v:=tz1;rw[hxv] at hx;cases hx;exact hlt))⟩,by omega,?_⟩;simp only[zas,zat,zag,zam,mB,seval,zj,zi,zn];exact zaK
   (have hk0:¬(v<(zaI (V.take s)).length/\(zaI (V.take s)).getD v 0<r):=by simpa using hb47);have hvv:=hv.1;obtain ⟨htw,hdw⟩:=zgR (p:=fun x=>decide (x<r)) (o:=(zaI (V.take s))) (k:=v) (fun j x hj hx=>by simpa using hv.2 j x hj hx) hv.1 (by (by_cases h9:v<(zaI (V.take s)).length;(obtain ⟨x1,hx1⟩:∃x,(zaI (V.take s))[v]?=some x:=⟨_,za h9⟩;refine .inr ⟨x1,hx1,?_⟩;rw[zA,hx1] at hk0;simp only[h9,true_and,Option.getD_some] at hk0;simpa using hk0);exact .inl tz1));(have hst:zaI (V.take (s+1))=(zaI (V.take s)).take v++r::(zaI (V.take s)).drop v:=by rw[hvt,zjk,htw,hdw]);(have hst2:(zaI (V.take (s+1))).map intC=List.take v ((zaI (V.take s)).map intC)++[[.v (.int .i64 r)]]++List.drop v ((zaI (V.take s)).map intC):=by rw[hst];simp[intC]);(have hb0:(v:Int)<=((zaI (V.take s)).length:Int):=by omega);(have hq1:v * 8<=140737488355328:=by omega);(have hq2:v<=maxLen:=by simp only[maxLen];omega);(have hq3:(v+1) * 8<=140737488355328:=by omega);(have hq4:v+1<=maxLen:=by simp only[maxLen];omega);(have hq5:(v+1+((zaI (V.take s)).length-v)) * 8<=140737488355328:=by omega);(have hq6:v+1+((zaI (V.take s)).length-v)<=maxLen:=by simp only[maxLen];omega);(have ha1:((List.take v ((zaI (V.take s)).map intC)).all fun y=>y.all AV.one)=true:=by (rw[<- List.map_take];exact ziJ _));(have ha2:((List.drop v ((zaI (V.take s)).map intC)).all fun y=>y.all AV.one)=true:=by (rw[<- List.map_drop];exact ziJ _));(have hl3:(List.take v ((zaI (V.take s)).map intC)).length=v:=by simp;omega);(have hl4:(List.drop v ((zaI (V.take s)).map intC)).length=(zaI (V.take s)).length-v:=by simp);have ht0:List.take (zaI (V.take s)).length ((zaI (V.take s)).map intC)=(zaI (V.take s)).map intC:=List.take_of_length_le tz4;(have hlr:v+1+((zaI (V.take s)).length-v)=(zaI (V.take (s+1))).length:=by (rw[hst];simp;omega));apply zaj;simp only[zaq,zak,zaf,bA,Nat.reduceEqDiff,↓reduceIte];apply d;refine zlx 16 rfl mixed ?_;dsimp only;refine zbf 1 rfl tz0 tz0 tz0 (fun _ _ h=>h) fun _ u=>?_;simp only[↓bO,go_sem,seval,zfb];apply u;clear u;refine zbf 2 rfl tz0 tz0 tz0 (fun _ _ h=>h) fun _ u=>?_;simp only[↓bO,go_sem,seval,zfb];apply u;clear u;refine zbf 3 rfl tz0 tz0 tz0 (fun _ _ h=>h) fun _ u=>?_;simp only[↓bO,go_sem,seval,zfb,isSl,hb0];apply u;clear u;refine zbf 5 rfl tz0 tz0 tz0 (fun _ _ h=>h) fun _ u=>?_;simp only[↓bO,go_sem,seval,zfb];apply u;clear u;refine zbf 6 rfl tz0 tz0 tz0 (fun _ _ h=>h) fun _ u=>?_;simp only[↓bO,go_sem,seval,zfb];apply u;clear u;refine zbf 7 rfl tz0 tz0 tz0 (fun _ _ h=>h) fun _ u=>?_;simp only[↓bO,go_sem,seval,zfb,isSE,hk,gM hr,intC];apply u;clear u;refine zbf 8 rfl tz0 tz0 tz0 (fun _ _ h=>h) fun _ u=>?_;simp only[↓bO,go_sem,seval,zfb,isE];apply u;clear u;refine zbf 11 rfl tz0 tz0 tz0 (fun _ _ h=>h) fun _ u=>?_;simp only[↓bO,go_sem,seval,zfb];apply u;clear u;refine zbf 12 rfl tz0 tz0 tz0 (fun _ _ h=>h) fun _ u=>?_;simp only[↓bO,go_sem,seval,zfb];apply u;clear u;refine zbf 13 rfl tz0 tz0 tz0 (fun _ _ h=>h) fun _ u=>?_;simp only[↓bO,go_sem,seval,zfb,isSl,ht0,hb0];apply u;clear u;refine RAny_rest ?_;refine zii (i:=0) (j:=9) tz0 ?_ ?_
   ·
    refine opT fun _ u=>?_;simp only[↓bO,go_sem,seval,↓bs0_1];apply u;clear u;refine zii (i:=4) (j:=9) tz0 ?_ ?_
    ·
     refine opT fun _ u=>?_;simp only[↓bO,go_sem,seval,ha1,hl3,hq1,hq2];apply u;clear u;refine za4 (i:=9) tz0 ?_;refine opT fun _ u=>?_;simp only[↓bO,go_sem,seval,↓zcy];apply u;clear u;refine za4 (i:=10) tz0 ?_;refine opT fun _ u=>?_;simp only[↓bO,go_sem,seval,hl3,hq3,hq4];apply u;clear u;refine za4 (i:=14) tz0 ?_;refine opT fun _ u=>?_;simp only[↓bO,go_sem,seval,zh,ha2,hl3,hl4,hq5,hq6];apply u;clear u;refine za4 (i:=15) tz0 ?_;refine opT fun _ u=>?_;simp only[↓bO,go_sem,seval];apply u;clear u;refine zfR tz0 ?_;simp only[go_sem];apply g;apply z7;(iterate 2 (refine chS 1 ?_ (by intro _ q;simp only[↓bO,go_sem,seval,hw];exact q)));simp only[↓bO,go_sem,seval];refine ⟨(s+1),tz1,by omega,?_⟩;simp only[zas,zat,zag,zam,mB,seval,zj,zi];rw[<- hst2];rw[hlr];refine Weak.backOsl 0 1 5 1 ((zaI (V.take (s+1))).map intC) tz2 tz2 tz2 ?_ ?_ ?_ ?_ ?_;· simp only[List.set_cons_zero,List.set_cons_succ,LeL,Le.refl,Le.any,and_self,and_true,true_and]
     ·
      simp only[go_sem];exact clz17
     (· exact ⟨⟨_,rfl,.tok⟩,trivial⟩);(· exact clz18);exact clz19
    refine opT fun _ u=>?_;simp only[↓bO,go_sem,seval,↓zcy];apply u;clear u;refine za4 (i:=4) tz0 ?_;refine opT fun _ u=>?_;simp only[↓bO,go_sem,seval,ha1,hl3,hq1,hq2];apply u;clear u;refine za4 (i:=10) tz0 ?_;refine opT fun _ u=>?_;simp only[↓bO,go_sem,seval,hl3,hq3,hq4];apply u;clear u;refine za4 (i:=14) tz0 ?_;refine opT fun _ u=>?_;simp only[↓bO,go_sem,seval,zh,ha2,hl3,hl4,hq5,hq6];apply u;clear u;refine za4 (i:=15) tz0 ?_;refine opT fun _ u=>?_;simp only[↓bO,go_sem,seval];apply u;clear u;refine zfR tz0 ?_;simp only[go_sem];apply g;apply z7;(iterate 2 (refine chS 1 ?_ (by intro _ q;simp only[↓bO,go_sem,seval,hw];exact q)));simp only[↓bO,go_sem,seval];refine ⟨(s+1),tz1,by omega,?_⟩;simp only[zas,zat,zag,zam,mB,seval,zj,zi];rw[<- hst2];rw[hlr];refine Weak.backOsl 0 1 5 1 ((zaI (V.take (s+1))).map intC) tz2 tz2 tz2 ?_ ?_ ?_ ?_ ?_;· simp only[List.set_cons_zero,List.set_cons_succ,LeL,Le.refl,Le.any,and_self,and_true,true_and]
    ·
     simp only[go_sem];exact clz17
    (· exact ⟨⟨_,rfl,.tok⟩,trivial⟩);(· exact clz18);exact clz19
   refine opT fun _ u=>?_;simp only[↓bO,go_sem,seval,↓zcy];apply u;clear u;refine za4 (i:=0) tz0 ?_;refine opT fun _ u=>?_;simp only[↓bO,go_sem,seval,↓bs0_1];apply u;clear u;refine za4 (i:=4) tz0 ?_;refine opT fun _ u=>?_;simp only[↓bO,go_sem,seval,ha1,hl3,hq1,hq2];apply u;clear u;refine za4 (i:=10) tz0 ?_;refine opT fun _ u=>?_;simp only[↓bO,go_sem,seval,hl3,hq3,hq4];apply u;clear u;refine za4 (i:=14) tz0 ?_;refine opT fun _ u=>?_;simp only[↓bO,go_sem,seval,zh,ha2,hl3,hl4,hq5,hq6];apply u;clear u;refine za4 (i:=15) tz0 ?_;refine opT fun _ u=>?_;simp only[↓bO,go_sem,seval];apply u;clear u;refine zfR tz0 ?_;simp only[go_sem];apply g;apply z7;(iterate 2 (refine chS 1 ?_ (by intro _ q;simp only[↓bO,go_sem,seval,hw];exact q)));simp only[↓bO,go_sem,seval];refine ⟨(s+1),tz1,by omega,?_⟩;simp only[zas,zat,zag,zam,mB,seval,zj,zi];rw[<- hst2];rw[hlr];refine Weak.backOsl 0 1 5 1 ((zaI (V.take (s+1))).map intC) tz2 tz2 tz2 ?_ ?_ ?_ ?_ ?_;· simp only[List.set_cons_zero,List.set_cons_succ,LeL,Le.refl,Le.any,and_self,and_true,true_and]
   ·
    simp only[go_sem];exact clz17
   (· exact ⟨⟨_,rfl,.tok⟩,trivial⟩);(· exact clz18);exact clz19
  (have hks2:s=V.length:=by simp at hb30;omega);apply zaj;simp only[zaq,zak,zaf,bA,Nat.reduceEqDiff,↓reduceIte];apply z;refine sqR fun _ z=>?_;refine chS 1 ?_;simp only[↓bO,go_sem,seval];apply z;apply zaa;(try simp only[go_sem]);rw[hks2,zM,<- hV];refine ⟨_,_,⟨rfl,rfl⟩,.osl tz1 (.data (zap _)),⟨by omega,trivial,trivial⟩,Le.refl _,⟨0,rfl,rfl⟩,by omega⟩
theorem Ty.cntL_takeP:∀(ps:List Ty) (s:Nat),Ty.cntL (ps.take s)<=Ty.cntL ps
 | [],s=>by simp
 | p::ps,0=>by simp[Ty.cntL]
 | p::ps,s+1=>by
  have h:=Ty.cntL_takeP ps s;simp only[List.take_succ_cons,Ty.cntL];omega
theorem bfun_cnt {b:List Bd} {k:Nat} (h:∀x∈b,x.t.cnt<=k) (hk:1<=k) (hn:(b.map Bd.v).Nodup) (v:Int):(zgi b v).cnt<=k:=by
 by_cases hv:v∈b.map Bd.v
 ·obtain ⟨x,hx,rfl⟩:=zq.1 hv
  rw[zja hn hx];exact h x hx
 rw[zhj hv];exact Nat.le_trans (by simp[vTy,Ty.cnt_eq,Ty.ps,Ty.cntL]) hk
theorem thenB_cnt {a b:List Bd} (ha:∀x∈a,x.t.right=true/\x.t.cnt<=400) (hb:∀x∈b,x.t.cnt<=400) (hn:(b.map Bd.v).Nodup):∀x∈ze9 a b,x.t.cnt<=1099511627776:=by
 intro x hx;rcases zE.1 hx with hx | hx
 ·obtain ⟨y,hy,rfl⟩:=zq.1 hx
  (show (y.t.subM (zb4 b)).cnt<=_);rw[Ty.subM_bfun b _ (ha y hy).1];have h1:=zjS (fun v=>bfun_cnt hb tz1 hn v) tz1 y.t;have h2:=(ha y hy).2;omega
 have h1:=hb x (List.mem_filter.1 hx).1;omega
theorem thenB_len (a b:List Bd):(ze9 a b).length<=a.length+b.length:=by
 unfold ze9;rw[zh,zC];exact Nat.add_le_add_left (List.length_filter_le _ _) _
theorem zlV {es:List EqT} {b:List Bd} {r:List Bd×Int} (ho:OkE (es.map EqT.p)) (hR:SolR (es.map EqT.p) r) (h0:r.2=0) (hs:za0 (zgi b) (es.map EqT.p)) (L:List Int):zke (ze9 r.1 b) b L=true:=by
 obtain ⟨_,h1⟩:=hR.most ho hs;have hr:=hR.right h0;exact zlu.2 fun v _=>by rw[bfun_then (fun x hx=>(hr.1.2 x hx).2)];exact h1 v
theorem zgo (es:List EqT) (b:List Bd):APure Tryz.prog 6 [.sl 8 (es.map EqT.cells),.sl 4 (b.map Bd.cells)] (.v (.bool true)):=by
  refine APure.mkL (.cons (EqT.dataSl es) (.cons (Bd.dataSl b) .nil)) (.v _) ?_;refine aIn Tryz.func6 fun hm=>?_;simp only[Tryz.ntmps6,Tryz.results6,go_sem,seval];refine sqD ?_;refine zZ fun _ u=>?_;refine sqR fun _ w=>?_;refine chS 1 ?_;refine z6 1 fun _ y=>?_;simp only[↓bO,go_sem,seval];refine DCalls.at (Great14_c es) (.cons (EqT.dataSl _) .nil) (fun _=>.v _) (fun g hG=>?_);apply y;clear y;refine chS 1 ?_;simp only[go_sem];refine zai 11 rfl (fun hc11=>?_) (fun hc11=>?_)
  ·
   (iterate 7 (refine chS 1 ?_));simp only[↓bO,go_sem,seval];apply w;refine z8 (b:=true) (by first | exact rfl | exact congrArg (fun b=>AV.v (.bool b)) hb19) (fun _=>?_) (fun h=>(by cases h));refine sqR fun _ w=>?_;refine z6 1 fun _ y=>?_;simp only[↓bO,go_sem,seval];refine APure.call (zbr) ?_;apply y;clear y;simp only[↓bO,go_sem,seval];apply w;apply zaa;exact Le.refl _
  simp only[go_sem];have hgood:GoodE es:=hG (by first | exact hc11 | (simpa using hc11));have hsl:=zcO hgood.1;rw[zC] at hsl;(have hcl:∀e∈es,e.l.cnt<=1099511627776/\e.r.cnt<=1099511627776:=fun e he=>(by have h9:=zeb (l:=(es.map EqT.p)) (e:=e.p) (zq.2 ⟨e,he,rfl⟩);simp only[EqT.p] at h9;omega));refine chS 1 ?_;refine z6 1 fun _ y=>?_;simp only[↓bO,go_sem,seval];refine APure.call (ziN b) ?_;(iterate 2 (apply y;clear y;refine z6 1 fun _ y=>?_;simp only[↓bO,go_sem,seval]));apply y;clear y;refine zai 15 rfl (fun hc15=>?_) (fun hc15=>?_)
  ·
   (iterate 3 (refine chS 1 ?_));simp only[↓bO,go_sem,seval];apply w;refine z8 (b:=true) (by first | exact rfl | exact congrArg (fun b=>AV.v (.bool b)) hb19) (fun _=>?_) (fun h=>(by cases h));refine sqR fun _ w=>?_;refine z6 1 fun _ y=>?_;simp only[↓bO,go_sem,seval];refine APure.call (zbr) ?_;apply y;clear y;simp only[↓bO,go_sem,seval];apply w;apply zaa;exact Le.refl _
  simp only[go_sem];have hgB:ze4 b=false:=hc15;have hgs:=zjm hgB;refine chS 1 ?_;refine z6 1 fun _ y=>?_;simp only[↓bO,go_sem,seval];refine APure.call (zjM b) ?_;apply y;clear y;refine chS 1 ?_;simp only[↓bO,go_sem,seval];apply w;apply z8 rfl <;> intro hb19
  ·
   refine sqR fun _ w=>?_;refine z6 1 fun _ y=>?_;simp only[↓bO,go_sem,seval];refine APure.call (zbr) ?_;apply y;clear y;simp only[↓bO,go_sem,seval];apply w;apply zaa;exact Le.refl _
  have hRB:RightB b:=zjJ.1 (by first | exact hb19 | (simpa using hb19));(have hsm:∀x∈b,x.t.cnt<=1099511627776:=fun x hx=>Nat.le_trans (hgs.2.2 x hx) tz3);apply zac;apply u;refine sqD ?_;refine zZ fun _ u=>?_;refine sqD ?_;apply zab;refine zah (σ:=Nat) (mB 70 99) (fun s=>s<=b.length) (fun s=>[(5,.v (.int .i64 ((Ty.cntL ((b.take s).map Bd.t)):Nat))),(6,.v (.int .i64 (s:Int)))]) (fun s=>[]) (fun s=>b.length-s) 0 tz1 ?_ (fun s hs=>?_)
  ·
   simp only[go_sem,seval,bL,Ty.cntL,zn];exact zaK
  simp only[go_sem,seval];refine zZ fun _ w=>?_;refine sqR fun _ z=>?_;(iterate 3 (refine chS 1 ?_));simp only[↓bO,go_sem,seval];apply z;apply z8 rfl <;> intro hb24
  ·
   (have hk:s<b.length:=by simpa using hb24);obtain ⟨x,hx⟩:∃x,b[s]?=some x:=⟨_,za hk⟩;(have hxt:(b.map Bd.t)[s]?=some x.t:=by rw[zO,hx];rfl);have hcs:=Ty.cntL_take hxt;rw[<- List.map_take,<- List.map_take] at hcs;have hxc:=hgs.2.2 x (zc hx);have hst:=Ty.cntL_takeP (b.map Bd.t) s;rw[<- List.map_take] at hst;have hsz:=Ty.sizeW_cnt x.t tz1;have hw:IntKind.i64.wrap ((s:Int)+1)=(s:Int)+1:=zal tz1 tz1;(have hw2:IntKind.i64.wrap (((Ty.cntL ((b.take s).map Bd.t)):Int)+(x.t.cnt:Int))=(Ty.cntL ((b.take (s+1)).map Bd.t):Int):=by (rw[zal tz1 tz1];omega));apply zac;apply w;refine zZ fun _ w=>?_;apply zab;apply z7;(iterate 6 (refine chS 1 ?_ (by intro _ q;simp only[↓bO,go_sem,seval,hk,gM hx,Bd.cells];exact q)));refine z6 1 fun _ y=>?_;simp only[↓bO,go_sem,seval];refine APure.call (zd9 x.t) ?_;apply y;clear y;refine chS 1 ?_ (by intro _ q;simp only[↓bO,go_sem,seval,hsz,hw2];exact q);simp only[↓bO,go_sem,seval];apply w;apply z7;(iterate 2 (refine chS 1 ?_ (by intro _ q;simp only[↓bO,go_sem,seval,hw];exact q)));simp only[↓bO,go_sem,seval];refine ⟨(s+1),tz1,by omega,?_⟩;simp only[zas,zat,zag,zam,mB,seval,zj,zi];exact zaK
  (have hk:s=b.length:=by (have h9:=hb24;simp at h9;omega));apply zaj;simp only[zaq,zak,zaf,bA,Nat.reduceEqDiff,↓reduceIte];apply u;refine zZ fun _ u=>?_;refine sqR fun _ w=>?_;refine chS 1 ?_;simp only[↓bO,go_sem,seval];apply w;apply z8 rfl <;> intro hb36
  ·
   refine sqR fun _ w=>?_;refine z6 1 fun _ y=>?_;simp only[↓bO,go_sem,seval];refine APure.call (zbr) ?_;apply y;clear y;simp only[↓bO,go_sem,seval];apply w;apply zaa;exact Le.refl _
  apply zac;apply u;refine zZ fun _ u=>?_;refine sqR fun _ w=>?_;(iterate 2 (refine chS 1 ?_));refine z6 1 fun _ y=>?_;simp only[↓bO,go_sem,seval];refine APure.call (ziw b es hRB.1 tz1 hsm hcl) ?_;(iterate 2 (apply y;clear y;refine z6 1 fun _ y=>?_;simp only[↓bO,go_sem,seval]));apply y;clear y;refine zai 42 rfl (fun hc42=>?_) (fun hc42=>?_)
  ·
   (iterate 6 (refine chS 1 ?_));simp only[↓bO,go_sem,seval];apply w;refine z8 (b:=true) (by first | exact rfl | exact congrArg (fun b=>AV.v (.bool b)) hb49) (fun _=>?_) (fun h=>(by cases h));refine sqR fun _ w=>?_;refine z6 1 fun _ y=>?_;simp only[↓bO,go_sem,seval];refine APure.call (zbr) ?_;apply y;clear y;simp only[↓bO,go_sem,seval];apply w;apply zaa;exact Le.refl _
  simp only[go_sem];(have hth0:zfC b (es.map EqT.p)=true:=by (first | exact hc42 | (simpa using hc42)));refine chS 1 ?_;refine z6 1 fun _ y=>?_;simp only[↓bO,go_sem,seval];refine APure.call (zec es tz1) ?_;(iterate 4 (apply y;clear y;refine z6 1 fun _ y=>?_;simp only[↓bO,go_sem,seval]));apply y;clear y;simp only[↓bO,go_sem,seval];apply w;apply z8 rfl <;> intro hb49
  ·
   refine sqR fun _ w=>?_;refine z6 1 fun _ y=>?_;simp only[↓bO,go_sem,seval];refine APure.call (zbr) ?_;apply y;clear y;simp only[↓bO,go_sem,seval];apply w;apply zaa;exact Le.refl _
  (have hnb:¬Bad es:=by (have h9:=hb49;unfold Bad;simp at h9;omega));obtain ⟨hoe,hsP,hre⟩:=okE_of hgood.1 hnb;have hlt:LightL (es.map EqT.p):=hre▸hgood.2;have hth:za0 (zgi b) (es.map EqT.p):=(zi7 hoe.rightE).1 hth0;apply zac;apply u;refine sqR fun _ u=>?_;refine chS 1 ?_;refine z6 1 fun _ y=>?_;simp only[↓bO,go_sem,seval];refine DCalls.at (SolveA_c 1073741824 es hgood) (.cons (.v _) (.cons (EqT.dataSl _) .nil)) (fun _=>.tup (.cons (Bd.dataSl _) (.cons (.v _) .nil))) (fun r hr=>?_);unfold SolA at hr;rw[if_neg hnb] at hr;have hsR:=hr.solR hoe hlt tz3;have h0:r.2=0:=(hsR.most hoe hth).1;have hRBr:=hsR.right h0;have hsm3:=hr.small hlt;(have hsmr:∀x∈r.1,x.t.cnt<=1099511627776:=fun x hx=>Nat.le_trans (hsm3 x hx) tz3);have hrl:=hr.len;have hvl:=zdL (es.map EqT.p);have hvr:=(zh9 (zaP (es.map EqT.p))).1;(iterate 4 (apply y;clear y;refine z6 1 fun _ y=>?_;simp only[↓bO,go_sem,seval]));apply y;clear y;simp only[↓bO,go_sem,seval];apply u;refine zZ fun _ u=>?_;refine sqR fun _ w=>?_;refine chS 1 ?_;simp only[↓bO,go_sem,seval];apply w;apply z8 rfl <;> intro hb57
  ·
   exact absurd hb57 (by rw[h0];decide)
  (have hq1:((zaI (zaP (es.map EqT.p))).length+3) * 8<=140737488355328:=by omega);(have hq2:(zaI (zaP (es.map EqT.p))).length+3<=maxLen:=by (simp only[maxLen];omega));apply zac;apply u;refine sqR fun _ u=>?_;(iterate 2 (refine chS 1 ?_));refine z6 1 fun _ y=>?_;simp only[↓bO,go_sem,seval];refine APure.call (zlX r.1 b hRBr.1.1 tz1 hsmr hRB.1 tz1 hsm) ?_;(iterate 3 (apply y;clear y;refine z6 1 fun _ y=>?_;simp only[↓bO,go_sem,seval]));refine ACalls.fresh (R':=.osl 0 1 ((zaI (zaP (es.map EqT.p))).map intC)) (os1':=[(0,.tok 3 1 (zaI (zaP (es.map EqT.p))).length)]) (zhN es tz1) (.cons (EqT.dataSl _) .nil) (.osl rfl (zaF _)) tz4 ⟨rfl,.tok,trivial⟩ ?_;simp only[zt,zx,zN,Nat.reduceAdd];apply y;clear y;refine z6 1 fun _ y=>?_;simp only[↓bO,go_sem,seval,↓bs3_1];(iterate 2 (apply y;clear y;refine z6 1 fun _ y=>?_;simp only[↓bO,go_sem,seval,hq1,hq2]));refine ACalls.args (args':=[.sl 4 ((ze9 r.1 b).map Bd.cells),.sl 4 (b.map Bd.cells),.sl 1 (((zaI (zaP (es.map EqT.p)))++[1,2,3]).map intC)]) ⟨.refl _,.refl _,by (rw[zu];exact Le.oslL),trivial⟩ ?_;refine APure.call (zjd (ze9 r.1 b) b ((zaI (zaP (es.map EqT.p)))++[1,2,3]) (zj0 hRBr.1.1 hRB.1) (by (have h9:=thenB_len r.1 b;omega)) (thenB_cnt (fun x hx=>⟨(hRBr.1.2 x hx).2,Nat.le_trans (hsm3 x hx) tz3⟩) hgs.2.2 hRB.1) hRB.1 tz1 hsm) ?_;apply y;clear y;refine chS 1 ?_;simp only[go_sem];refine zai 67 rfl (fun hc67=>?_) (fun hc67=>?_)
  ·
   simp only[go_sem];refine z6 1 fun _ y=>?_;simp only[↓bO,go_sem,seval];refine APure.call (zbr) ?_;apply y;clear y;refine chS 1 ?_;simp only[↓bO,go_sem,seval];apply u;apply zaa;exact Le.refl _
  simp only[go_sem];exact absurd hc67 (by rw[zlV hoe hsR h0 hth];decide)
end Go.Proofs.YtpfiliamceimmaaGreatDoor
namespace Go.Proofs.YtpfiliamceimmaaGreatDoor.solveMost
open Go Go.ChangeShapes Go.WideShapes Go.ChangeAt Go.RowKit
theorem own:ownKnob Tryz.prog.godebug=none:=by kernel_rfl
theorem laidOut:laidOutB Tryz.prog=true:=by kernel_rfl
theorem cT:Tryz.prog.cellsOf 28=3:=by kernel_rfl
theorem cI:Tryz.prog.cellsOf 3=1:=by kernel_rfl
theorem cS:Tryz.prog.cellsOf 26=1:=by kernel_rfl
section
variable {H:Type} {enc:TypeId×Value->H} {w:World} {base:Nat} {spare:Nat->Bool} {held:Bool}
theorem rdT (fuel:Nat):Rd enc Tryz.prog w base spare held Env.none fuel 28 Ty.cells :=
 rd_ty Tryz.underlying28 cT rfl rfl rfl rfl rfl rfl Tryz.underlying3 cI Tryz.underlying26 cS fuel
theorem rdS (fuel:Nat):Rd enc Tryz.prog w base spare held Env.none fuel 26 (fun xs:List Ty=>[.sl 3 (xs.map Ty.cells)]) :=
 zff Tryz.underlying26 cT tz1 Ty.cells_len fun n _=>rdT n
theorem cP:Tryz.prog.cellsOf 30=2:=by kernel_rfl
theorem cE:Tryz.prog.cellsOf 32=8:=by kernel_rfl
theorem rdE (fuel:Nat):Rd enc Tryz.prog w base spare held Env.none fuel 32 EqT.cells :=
 rd_eq Tryz.underlying32 cE cT cP rfl rfl rfl rfl rfl rfl rdT (fun n=>rd_two Tryz.underlying30 cP rfl rfl rfl rfl Tryz.underlying3 cI n) fuel
theorem rdEs (fuel:Nat):Rd enc Tryz.prog w base spare held Env.none fuel 22 (fun xs:List EqT=>[.sl 8 (xs.map EqT.cells)]) :=
 zff Tryz.underlying22 cE tz1 (fun _=>rfl) fun n _=>rdE n
theorem cB:Tryz.prog.cellsOf 43=4:=by kernel_rfl
theorem rdB (fuel:Nat):Rd enc Tryz.prog w base spare held Env.none fuel 43 Bd.cells :=
 rd_bd Tryz.underlying43 cB cT rfl rfl rfl rfl Tryz.underlying3 cI rdT fuel
theorem rdDs (fuel:Nat):Rd enc Tryz.prog w base spare held Env.none fuel 33 (fun xs:List Bd=>[.sl 4 (xs.map Bd.cells)]) :=
 zff Tryz.underlying33 cB tz1 Bd.cells_len fun n _=>rdB n
end
set_option maxRecDepth 100000 in
theorem lifted (os:Go.Os) (started:os.Started) (H:Type) (enc:TypeId×Value->H) :
  ReturnsInHanded {} Tryz.checked os 6 .any (fun w args=>(Rows.solveMostSpec.pre enc Tryz.prog Tryz.f6 Rows.solveMostRow.domain false w args/\laidMetH Tryz.prog Rows.solveMostRow.laid w)/\sizedMet enc Tryz.prog Tryz.f6 (OpenSpec.ofChange Rows.solveMostSpec) false w args)
   (Rows.solveMostSpec.post enc Tryz.prog Tryz.f6 false true false false):=by
 refine returnsInHanded_of_change_and (C:=Tryz.checked) (X:=fun w _=>laidMetH Tryz.prog Rows.solveMostRow.laid w) (fun _ _ _ hh h=>h.of_heap hh) own started tz0 Tryz.func6
  (ChangeSpec.witness_shaped (enc:=enc) (C:=Tryz.checked) (os:=os) (X:=fun w _=>laidMetH Tryz.prog Rows.solveMostRow.laid w) false (World.laidAll Tryz.prog os Rows.solveMostRow.laid) #[.slice none 0 0,.slice none 0 0] 8 (World.laidAll_os _ _ _)
   (World.shaped_of_ZipB tz0 tz0) tz0 tz0 tz0
   (by rw[MakeChecks.laidMetH_plain _ _ _ tz0];exact laidMet_laidAll _ tz0 tz0)) ?_
 intro W base args ds gs before hval0 hW hcnd _ hL _;have hval:∀(j:Nat) t v,Tryz.f6.params[j]?=some t->args[j]?=some v->Value.okWide Tryz.prog W .any base t v:=hval0;have hW':=hW;obtain ⟨p,q,hA0,hV,rfl,hfz,hnd⟩:=hW;have hA:DataW.TrodAll enc Tryz.prog W 0 (fun _=>true) true Tryz.f6.params.toList args.toList ds p:=hA0;rw[Tryz.params6] at hA hval;obtain ⟨v0,vs0,d0,ds0,p0,y,hargs,rfl,rfl,h0,r0⟩:=trodAll_cons hA;obtain ⟨v1,vs1,d1,ds1,p1,z,rfl,rfl,rfl,h1,r1⟩:=trodAll_cons r0;obtain ⟨rfl,rfl,rfl⟩:=trodAll_nil r1;(obtain rfl:args=#[v0,v1]:=by cases args;simp_all);obtain ⟨rfl,rfl⟩:=trodVars_none hV;have k0:=h0;(have lt0:∀x∈p0,x.block<W.heap.size:=by obtain ⟨m,hm⟩:=k0;exact DataW.trod_lt m _ _ _ hm);obtain ⟨b0,len0,cap0,rfl⟩:=okWide_slice Tryz.underlying22 (hval 0 22 v0 rfl rfl)
 obtain ⟨P0,hr0⟩:∃P:List EqT,Rp Env.none (fun _ _=>False) W (.sl 8 (P.map EqT.cells)) (.slice b0 len0 cap0):=by
  obtain ⟨m,hm⟩:=h0;obtain ⟨P,_,hr⟩:=rdEs m _ _ hm;exact ⟨P,hr 0 _ _ rfl rfl⟩
 have k1:=h1;(have lt1:∀x∈p1,x.block<W.heap.size:=by obtain ⟨m,hm⟩:=k1;exact DataW.trod_lt m _ _ _ hm);obtain ⟨b1,len1,cap1,rfl⟩:=okWide_slice Tryz.underlying33 (hval 1 33 v1 rfl rfl)
 obtain ⟨P1,hr1⟩:∃P:List Bd,Rp Env.none (fun _ _=>False) W (.sl 4 (P.map Bd.cells)) (.slice b1 len1 cap1):=by
  obtain ⟨m,hm⟩:=h1;obtain ⟨P,_,hr⟩:=rdDs m _ _ hm;exact ⟨P,hr 0 _ _ rfl rfl⟩
 clear hA0 hval0;refine ((zgo P0 P1).calls (w:=W) rfl ?_).mono fun e W' ⟨he,bel⟩=>?_
 ·intro i c u hc hu
  match i with
  | 0=>simp at hc hu;subst hc;subst hu;exact hr0
  | 1=>simp at hc hu;subst hc;subst hu;exact hr1
  | i+2=>simp at hc
 subst he;exact ⟨_,rfl,_,_,_,[],_,[],hW',trodAll_mk1 (shut_bool Tryz.underlying4 _),(trodAll_cons_mk (Below.trod laidOut tz0 (of_decide_eq_true tz0) k0 bel lt0) (trodAll_cons_mk (Below.trod laidOut tz0 (of_decide_eq_true tz0) k1 bel lt1) trodAll_mk0)),rfl,bel.frame _,fun h=>by cases h⟩
theorem over:Rows.solveMostRow.holds Tryz.pinned (OpenSpec.ofChange Rows.solveMostSpec) :=
 OpenClaim.holds_of_wide 6 Tryz.f6 rfl rfl rfl rfl rfl rfl rfl ⟨rfl,rfl,rfl,rfl,rfl⟩ rfl rfl rfl rfl rfl tz0 Tryz.func6 tz0
  (of_decide_eq_true tz0) (by unfold Func.isWrapper;first | (rw[if_pos (by decide +kernel)];kernel_rfl) | (rw[if_neg (by decide +kernel)];exact ⟨rfl,rfl⟩))
  (fun os started H enc _=>lifted os started H enc)
end Go.Proofs.YtpfiliamceimmaaGreatDoor.solveMost
namespace Go.Proofs.YtpfiliamceimmaaGreatDoor
theorem solveMost_proved : Rows.SolveMostCardSaid :=
 Claim7.holds_tied_plain_at .later [] _ _ _ _ solveMost.over (fun _ h=>by cases h) tz0 (fun _ h=>by cases h) solveMost_row_tie rfl ⟨rfl,rfl⟩ tz0 rfl
  (fun f fn hf hfn=>by
   obtain rfl:f=6:=Option.some.inj ((show Tryz.prog.funcNamed "pangram/pangramlaw14.SolveMost"=some 6 by kernel_rfl).symm.trans hf) |>.symm;obtain rfl:fn=Tryz.f6:=(Option.some.inj (Tryz.func6.symm.trans hfn)).symm;refine ⟨by kernel_rfl,fun j t ht=>?_⟩;rw[Tryz.params6] at ht;(have hm:t∈[22,33]:=by simpa using Array.mem_of_getElem? ht);(have hall:([22,33].all fun u=>!Tryz.prog.wantsStandIn u)=true:=by kernel_rfl);have:=zP.1 hall t hm;have h9:Tryz.prog.wantsStandIn t=false:=by simpa using this
   exact h9)
  tz0
#print axioms solveMost_proved
end Go.Proofs.YtpfiliamceimmaaGreatDoor
