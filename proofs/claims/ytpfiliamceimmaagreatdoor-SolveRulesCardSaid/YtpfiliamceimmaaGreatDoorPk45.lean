/- packed, part 45 of 45. Conditions: none. -/
import Derived.Test.YtpfiliamceimmaaGreatDoorPk44
import Derived.Test.YtpfiliamceimmaaGreatDoorCards
import Derived.Test.YtpfiliamceimmaaGreatDoorTie
import Derived.OpenShut
import Derived.ChangeOld
import Derived.Below
import Derived.LaidMore
import Derived.Lay
import Derived.SevenTiedAt
set_option linter.unusedVariables false
set_option linter.unusedSimpArgs false
set_option maxRecDepth 100000
set_option maxHeartbeats 4000000
namespace Go.Proofs.YtpfiliamceimmaaGreatDoor
open Go Go.RowKit
attribute [local irreducible] aops zaz
theorem Print1_e:ePure Tryz.prog [] 60 30 43 [.agg [.v (.int .i64 3),.v (.int .i64 0),.sl 3 []]] (.v (.string ⟨#[98,111,111,108]⟩))=true:=by kernel_rfl
theorem Print2_e:ePure Tryz.prog [] 60 30 43 [.agg [.v (.int .i64 4),.v (.int .i64 0),.sl 3 [[.v (.int .i64 3),.v (.int .i64 0),.sl 3 []],[.v (.int .i64 2),.v (.int .i64 0),.sl 3 []]]]] (.v (.string ⟨#[98,111,111,108,32,45,62,32,105,110,116]⟩))=true:=by kernel_rfl
theorem APure.ofD {σ:Type} {f:Nat} {args:List AV} {C:σ->Prop} {R:σ->AV} {x:AV} (h:DCalls f args C R) (hd:DataL args) (hx:Data x) (hu:∀s,C s->R s=x):APure Tryz.prog f args x :=
 ⟨hd,hx,ACalls.mono h fun r os n ⟨⟨s,hs,h1,_⟩,_⟩=>h1.trans (hu s hs)⟩
def awT:Ty:=.mk 4 0 [.mk 3 0 [],.mk 2 0 []]
def awA:Ty:=.mk 4 0 [vTy 1,.mk 2 0 []]
def aw14:List EqT:=[⟨vTy 0,awA,0,0⟩,⟨vTy 1,.mk 3 0 [],0,0⟩]
def awS (v:Int):Ty:=if v=0 then awT else if v=1 then .mk 3 0 [] else vTy v
def awB:List Bd:=[⟨0,awT⟩,⟨1,.mk 3 0 []⟩]
theorem aw_subA (θ:Int->Ty):awA.subF θ=.mk 4 0 [θ 1,.mk 2 0 []]:=by simp[awA,vTy,Ty.subF,Ty.subFL]
theorem aw_subT (θ:Int->Ty):awT.subF θ=awT:=by simp[awT,Ty.subF,Ty.subFL]
theorem aw_subB (θ:Int->Ty):(Ty.mk 3 0 []).subF θ=.mk 3 0 []:=by simp[Ty.subF,Ty.subFL]
theorem aw_subV (θ:Int->Ty) (v:Int):(vTy v).subF θ=θ v:=by simp[vTy,Ty.subF]
theorem zh7 (θ:Int->Ty):zaW θ (aw14.map EqT.p)↔θ 0=.mk 4 0 [θ 1,.mk 2 0 []]/\θ 1=.mk 3 0 []:=by
 unfold zaW;simp only[aw14,zu,zQ,EqT.p,List.forall_mem_cons,List.not_mem_nil,false_imp_iff,implies_true,and_true,aw_subA,aw_subB,aw_subV]
theorem aw_mg:MG (aw14.map EqT.p) awS:=by
 refine ⟨(zh7 _).2 ⟨by simp[awS,awT],by simp[awS]⟩,fun θ hθ v=>?_⟩;obtain ⟨h0,h1⟩:=(zh7 θ).1 hθ;unfold awS;split;(·rename_i e;subst e;rw[aw_subT,h0,h1];rfl);split;(·rename_i _ e;subst e;rw[aw_subB,h1]);rw[aw_subV]
theorem zki {v:Int} (h:v=0\/v=1) (u:Int):¬(awS v).occ u:=by
 (rcases h with rfl | rfl);(·intro h;have h:u∈awT.rvars []:=h;simp[awT,Ty.rvars,Ty.rvarsL,Ty.k] at h);intro h;have h:u∈(Ty.mk 3 0 []).rvars []:=h;simp[Ty.rvars,Ty.rvarsL,Ty.k] at h
theorem aw_norm:Norm [0,1] awS:=by
 (have hm:∀v∈([0,1]:List Int),v=0\/v=1:=fun v hv=>by simpa using hv);refine ⟨fun v hv=>?_,fun v hv=>?_,fun v hv u hu=>absurd hu (zki (hm v hv) u),fun v hv u hu=>?_⟩;·rcases hm v hv with rfl | rfl <;> decide
 ·simp only[zH,List.not_mem_nil,or_false,not_or] at hv
  unfold awS;rw[if_neg hv.1,if_neg hv.2]
 exact absurd (show (awS v).occ u by rw[hu];exact Ty.occ_vTy.2 rfl) (zki (hm v hv) u)
theorem aw_oke:OkE (aw14.map EqT.p):=fun e he=>by
 simp only[aw14,zu,zQ,EqT.p,zH,List.not_mem_nil,or_false] at he;rcases he with rfl | rfl <;> exact ⟨by decide,by decide,by decide,by decide⟩
theorem aw_occ (v:Int):OccE (aw14.map EqT.p) v↔v∈([0,1]:List Int):=by
 have e:OccE (aw14.map EqT.p) v↔v∈zcP (aw14.map EqT.p):=((zgy _).2 v).symm;rw[e,show zcP (aw14.map EqT.p)=[0,1] from by decide]
theorem aw_sol {S:CS} {c:List Int} (h:SolOk (aw14.map EqT.p) (eqF (aw14.map EqT.p)).1 c S):vsS S=[0,1]/\wF S=awS:=by
 (have hv:vsS S=[0,1]:=zfO h.p.vs_strict tz3 fun v=>(h.p.vs_mem v).trans (aw_occ v));refine ⟨hv,?_⟩;have hn:=h.p.wF_norm h.no;rw[hv] at hn;exact MG.unique hn aw_norm (h.p.wF_mg h.no) aw_mg
theorem aw_cnt (v:Int):(awS v).cnt<=3:=by
 unfold awS;split;(·decide);split;(·decide);rw[zgV];omega
theorem aw_low:LowL (aw14.map EqT.p):=fun S c h v _=>by rw[(aw_sol h).2];have:=aw_cnt v;omega
theorem aw14_sol {r:List Bd×Int} (h:SolM 9 (aw14.map EqT.p) r):r=(awB,0):=by
 rcases h with ⟨s,hE,hne,_⟩ | ⟨S,c,hp,hno,h⟩
 ·rcases hE.1 with ⟨_,h2⟩ | ⟨_,_,S,c,y,h2,h3⟩ | ⟨h1,_⟩
  (·exact absurd h2 (zdt aw_oke aw_mg.solves));(·exact absurd h3 (h2.solves_noLoop aw_mg.solves y));exact absurd h1 hne
 obtain ⟨hv,hw⟩:=aw_sol ⟨hp,hno⟩;(rcases h with ⟨_,rfl⟩ | ⟨⟨v,_,hb⟩,_⟩);(·rw[hv,hw];rfl);unfold ziE at hb;rw[hw] at hb;have:=aw_cnt v;simp only[zz,zd] at hb;omega
theorem awSolve_pure:APure Tryz.prog 13 [.v (.int .i64 9),.sl 8 (aw14.map EqT.cells)] (.tup [.sl 4 (awB.map Bd.cells),.v (.int .i64 0)]) :=
 APure.ofD (zjl 9 aw14 aw_oke tz3 aw_low) (.cons (.v _) (.cons (EqT.dataSl _) .nil)) (.tup (.cons (Bd.dataSl _) (.cons (.v _) .nil))) fun s hs=>by rw[aw14_sol hs]
theorem awE_le:Le (.sl 8 [[.v (.int .i64 1),.v (.int .i64 0),.sl 3 [],.v (.int .i64 4),.v (.int .i64 0),.sl 3 ([vTy 1,.mk 2 0 []].map Ty.cells),.v (.int .i64 0),.v (.int .i64 0)],[.v (.int .i64 1),.v (.int .i64 1),.sl 3 [],.v (.int .i64 3),.v (.int .i64 0),.v (.slice none 0 0),.v (.int .i64 0),.v (.int .i64 0)]]) (.sl 8 (aw14.map EqT.cells)) :=
 Le.slC rfl (by intro y hy;simp[aw14,EqT.cells] at hy;rcases hy with rfl | rfl <;> rfl) ⟨.refl _,.refl _,.refl _,.refl _,.refl _,.refl _,.refl _,.refl _,.refl _,.refl _,.refl _,.refl _,.refl _,Le.slNil 3,.refl _,.refl _,trivial⟩
theorem awArr:APure Tryz.prog 42 [.sl 3 ([vTy 1,.mk 2 0 []].map Ty.cells)] (.agg [.v (.int .i64 4),.v (.int .i64 0),.sl 3 ([vTy 1,.mk 2 0 []].map Ty.cells)]):=by
 have h:=zkP 2 [vTy 1,.mk 2 0 []] rfl tz3;rw[show zfa [vTy 1,.mk 2 0 []]=awA from rfl,Ty.cells_eq] at h;exact h
theorem awE_data:Data (.sl 8 [[.v (.int .i64 1),.v (.int .i64 0),.sl 3 [],.v (.int .i64 4),.v (.int .i64 0),.sl 3 ([vTy 1,.mk 2 0 []].map Ty.cells),.v (.int .i64 0),.v (.int .i64 0)],[.v (.int .i64 1),.v (.int .i64 1),.sl 3 [],.v (.int .i64 3),.v (.int .i64 0),.v (.slice none 0 0),.v (.int .i64 0),.v (.int .i64 0)]]):=.sl fun x hx=>by
 have h0:Data (.sl 3 []):=.sl (by intro x hx;cases hx);simp only[zH,List.not_mem_nil,or_false] at hx;(rcases hx with rfl | rfl);(·exact .cons (.v _) (.cons (.v _) (.cons h0 (.cons (.v _) (.cons (.v _) (.cons (Ty.dataSl _) (.cons (.v _) (.cons (.v _) .nil))))))));exact .cons (.v _) (.cons (.v _) (.cons h0 (.cons (.v _) (.cons (.v _) (.cons (.v _) (.cons (.v _) (.cons (.v _) .nil)))))))
theorem awP1:APure Tryz.prog 43 [.agg (Ty.mk 3 0 []).cells] (.v (.string ⟨#[98,111,111,108]⟩)):=zfo mixed Print1_e
theorem awP2:APure Tryz.prog 43 [.agg awT.cells] (.v (.string ⟨#[98,111,111,108,32,45,62,32,105,110,116]⟩)):=zfo mixed Print2_e
theorem awV (n:Int):APure Tryz.prog 41 [.v (.int .i64 n)] (.agg [.v (.int .i64 1),.v (.int .i64 n),.sl 3 []]):=by
 have h:=zdK n;rw[Ty.cells_eq] at h;exact h
theorem awA_le2:Le (.sl 3 [[.v (.int .i64 1),.v (.int .i64 1),.sl 3 []],[.v (.int .i64 2),.v (.int .i64 0),.v (.slice none 0 0)]]) (.sl 3 ([vTy 1,.mk 2 0 []].map Ty.cells)) :=
 Le.slC rfl (by intro y hy;simp at hy;rcases hy with rfl | rfl <;> simp[Ty.cells_len]) ⟨.refl _,.refl _,.refl _,.refl _,.refl _,Le.slNil 3,trivial⟩
theorem zc1:APure Tryz.prog 11 [] (.v (.bool true)):=by
  refine APure.mkL (.nil) (.v _) ?_;refine aIn Tryz.func11 fun hm=>?_;simp only[Tryz.ntmps11,Tryz.results11,go_sem,seval];(have hl0:(0:Int)<(awB.length:Int):=by decide);(have hl1:(1:Int)<(awB.length:Int):=by decide);have hg0:awB[0]?=some ⟨0,awT⟩:=rfl;have hg1:awB[1]?=some ⟨1,.mk 3 0 []⟩:=rfl;refine sqD ?_;refine sqR fun _ u=>?_;(iterate 5 (refine chS 1 ?_));simp only[↓bO,go_sem,seval];apply u;refine zZ fun _ u=>?_;refine zkr 14 [13] mixed tz0 (fun _ _ h=>h) fun J0 j0=>?_;simp only[go_sem];refine zad 1 fun _ y=>?_;simp only[↓zaz,↓dOp,↓bO,go_sem,seval];refine ⟨_,awV 0,?_⟩;apply y;clear y;refine zad 1 fun _ y=>?_;simp only[↓zaz,↓dOp,↓bO,go_sem,seval];refine ⟨_,awV 1,?_⟩;apply y;clear y;refine zad 1 fun _ y=>?_;simp only[↓zaz,↓dOp,↓bO,go_sem,seval];apply y;clear y;refine zad 1 fun _ y=>?_;simp only[↓zaz,↓dOp,↓bO,go_sem,seval,↓bs2_3];apply y;clear y;refine zad 1 fun _ y=>?_;simp only[↓zaz,↓dOp,↓bO,go_sem,seval];refine ⟨_,awArr.le ⟨awA_le2,trivial⟩ (.cons (.sl (by intro x hx;simp only[zH,List.not_mem_nil,or_false] at hx;rcases hx with rfl | rfl;exact .cons (.v _) (.cons (.v _) (.cons (.sl (by intro x hx;cases hx)) .nil));exact .cons (.v _) (.cons (.v _) (.cons (.v _) .nil)))) .nil),?_⟩;(iterate 2 (apply y;clear y;refine zad 1 fun _ y=>?_;simp only[↓zaz,↓dOp,↓bO,go_sem,seval]));refine ⟨_,awV 1,?_⟩;(iterate 2 (apply y;clear y;refine zad 1 fun _ y=>?_;simp only[↓zaz,↓dOp,↓bO,go_sem,seval]));apply y;clear y;refine zad 1 fun _ y=>?_;simp only[↓zaz,↓dOp,↓bO,go_sem,seval,↓bs2_8];apply y;clear y;refine zad 1 fun _ y=>?_;simp only[↓zaz,↓dOp,↓bO,go_sem,seval];refine ⟨_,awSolve_pure.le ⟨.refl _,awE_le,trivial⟩ (.cons (.v _) (.cons awE_data .nil)),?_⟩;(iterate 2 (apply y;clear y;refine zad 1 fun _ y=>?_;simp only[↓zaz,↓dOp,↓bO,go_sem,seval]));apply y;clear y;simp only[↓zaz,↓dOp,↓bO,go_sem,seval];refine j0 _ ?_;clear j0 J0;refine chS 1 ?_;simp only[↓bO,go_sem,seval];apply u;refine sqR fun _ u=>?_;(iterate 3 (refine chS 1 ?_));refine zag 23 rfl (fun hc23=>?_) (fun hc23=>?_)
  ·
   (iterate 5 (refine chS 1 ?_));refine zag 28 rfl (fun hc28=>?_) (fun hc28=>?_)
   ·
    (iterate 4 (refine chS 1 ?_ (by intro _ q;simp only[↓bO,go_sem,seval,Bd.drop1,hl0,gM hg0];exact q)));refine zY 1 fun _ y=>?_;simp only[↓bO,go_sem,seval];refine APure.call (awP2) ?_;(iterate 3 (apply y;clear y;refine zY 1 fun _ y=>?_;simp only[↓bO,go_sem,seval]));apply y;clear y;refine zag 36 rfl (fun hc36=>?_) (fun hc36=>?_)
    ·
     (iterate 4 (refine chS 1 ?_ (by intro _ q;simp only[↓bO,go_sem,seval,Bd.drop1,hl1,gM hg1];exact q)));refine zY 1 fun _ y=>?_;simp only[↓bO,go_sem,seval];refine APure.call (awP1) ?_;(iterate 2 (apply y;clear y;refine zY 1 fun _ y=>?_;simp only[↓bO,go_sem,seval]));apply y;clear y;simp only[↓bO,go_sem,seval];apply u;apply z8;(try simp only[go_sem]);rw[beq_self_eq_true];exact Le.refl _
    simp only[go_sem];exact absurd hc36 (by first | decide | (simp;done))
   simp only[go_sem];exact absurd hc28 (by first | decide | (simp;done))
  simp only[go_sem];exact absurd hc23 (by first | decide | (simp;done))
def zld (es:List EqT):Prop:=zcY (es.map EqT.p)=false/\LightL ((zaA es).map EqT.p)
theorem Great14_c (es:List EqT):DCalls (σ:=Bool) 10 [.sl 8 (es.map EqT.cells)] (fun s=>(s=false->zld es)) (fun s=>.v (.bool s)):=by
  refine ACalls.clean (C:=fun r os=>∃s:Bool,((s=false->zld es))/\r=(fun s:Bool=>.v (.bool s)) s/\os=[]) ?_;refine aIn Tryz.func10 fun hm=>?_;simp only[Tryz.ntmps10,Tryz.results10,go_sem,seval];refine sqD ?_;refine zZ fun _ u=>?_;refine sqR fun _ w=>?_;refine chS 1 ?_;simp only[↓bO,go_sem,seval];refine APure.call (zh2 es) ?_;apply w;apply z7 rfl <;> intro hb6
  ·
   refine sqD ?_;apply z8;(try simp only[go_sem]);refine ⟨_,[],⟨true,(fun h=>by cases h),rfl,rfl⟩,.v _ _,trivial,Le.refl _,⟨0,rfl,rfl⟩,by omega⟩
  have hg12:zcY (es.map EqT.p)=false:=hb6;have hgl:=zcB hb6;rw[zC] at hgl;obtain ⟨hsP,hol⟩:=zgJ es hgl.2;have hll:=zfg es;(have hrP:∀e∈((zaA es).map EqT.p),(e.1.right&&e.2.right)=true:=fun e he=>(by obtain ⟨x,hx,rfl⟩:=zq.1 he;exact (List.mem_filter.1 hx).2));apply zab;apply u;obtain ⟨M,hM⟩:∃M,M=(eqF ((zaA es).map EqT.p)).1:=⟨_,rfl⟩;have hmlM:=zhn ((zaA es).map EqT.p);rw[<- hM] at hmlM;(have hML:M.length<=1048576:=by omega);refine zc9 (σ:=List Int) (mB 28 8) (fun c=>[(3,.eptr [.sl 4 (M.map RNode.cells),.sl 1 (c.map intC)])]) (fun c=>[]) 0 (fun c=>ColE ((zaA es).map EqT.p) c/\(clB M c=true↔Clashes ((zaA es).map EqT.p))) ?_ (fun c hcj=>?_)
  ·
   apply z6;refine chS 1 ?_;refine zY 1 fun _ y=>?_;simp only[↓bO,go_sem,seval];refine APure.call (zhr es tz1) ?_;apply y;clear y;refine zY 1 fun _ y=>?_;simp only[↓bO,go_sem,seval];refine Close_at (zaA es) hsP hrP (fun c hc hcb=>?_);rw[<- hM] at hcb ⊢;apply y;clear y;refine chS 1 ?_;simp only[↓bO,go_sem,seval];(try simp only[go_sem,seval]);refine ⟨c,⟨hc.colE hol,hcb⟩,?_⟩;refine Weak.freeze ?_ trivial tz2 tz2 ?_ ?_;(· exact clz4);(· repeat' first | exact trivial | exact .any _ | exact .v _ _ | exact Und.data (EqT.dataSl _) | exact Und.data (.eptr (.cons (RNode.dataSl _) (.cons (zao _) .nil))) | (refine ⟨?_,?_⟩));trivial
  simp only[go_sem,seval];obtain ⟨hce,hclx⟩:=hcj;have hcl:=hce.len;rw[<- hM] at hcl;(have hNx:zjY M c:=by (have h9:=nxOk_of hol hce.len;rw[<- hM] at h9;exact h9));refine zZ fun _ u=>?_;refine sqR fun _ w=>?_;refine chS 1 ?_;refine zY 1 fun _ y=>?_;simp only[↓bO,go_sem,seval];refine APure.call (zkw M c hcl hML) ?_;apply y;clear y;refine chS 1 ?_;simp only[go_sem];refine zag 12 rfl (fun hc12=>?_) (fun hc12=>?_)
  ·
   simp only[go_sem];have hc12:clB M c=true:=hc12;have hlight:LightL ((zaA es).map EqT.p):=zgx hce (.inl (hclx.1 hc12));(iterate 3 (refine chS 1 ?_));simp only[↓bO,go_sem,seval];apply w;refine z7 (b:=true) (by first | exact rfl | exact congrArg (fun b=>AV.v (.bool b)) hb16) (fun _=>?_) (fun h=>(by cases h));refine sqD ?_;apply z8;(try simp only[go_sem]);refine ⟨_,[],⟨false,(fun _=>⟨hg12,hlight⟩),rfl,rfl⟩,.v _ _,trivial,Le.refl _,⟨0,rfl,rfl⟩,by omega⟩
  simp only[go_sem];have hc12:clB M c=false:=hc12;refine chS 1 ?_;refine zY 1 fun _ y=>?_;simp only[↓bO,go_sem,seval];refine APure.call (FinR_pure M c hNx hML) ?_;apply y;clear y;refine chS 1 ?_;simp only[↓bO,go_sem,seval];apply w;apply z7 rfl <;> intro hb16
  ·
   (have hfin:zjS M c=false:=by simpa using hb16);have hlight:LightL ((zaA es).map EqT.p):=zgx hce (.inr (by rw[<- hM];exact hfin));refine sqD ?_;apply z8;(try simp only[go_sem]);refine ⟨_,[],⟨false,(fun _=>⟨hg12,hlight⟩),rfl,rfl⟩,.v _ _,trivial,Le.refl _,⟨0,rfl,rfl⟩,by omega⟩
  (have hfin:zjS M c=true:=by simpa using hb16);apply zab;apply u;refine zZ fun _ u=>?_;refine sqD ?_;apply zaa;refine zah (σ:=Nat) (mB 28 24) (fun s=>s<=M.length/\∀i,i<s->∃n,n<=399/\Hv (za9 M c) i n) (fun s=>[(4,.v (.int .i64 (s:Int)))]) (fun s=>[]) (fun s=>M.length-s) 0 (⟨Nat.zero_le _,fun i hi=>by omega⟩) ?_ (fun s hs=>?_)
  ·
   simp only[go_sem,seval];exact zaH
  simp only[go_sem,seval];refine zZ fun _ w=>?_;refine sqR fun _ z=>?_;(iterate 4 (refine chS 1 ?_));simp only[↓bO,go_sem,seval];apply z;apply z7 rfl <;> intro hb21
  ·
   (have hk:s<M.length:=by simpa using hb21);have hw:IntKind.i64.wrap ((s:Int)+1)=(s:Int)+1:=zak tz1 tz1;apply zab;apply w;refine zZ fun _ w=>?_;apply zaa;refine sqR fun _ z=>?_;(iterate 2 (refine chS 1 ?_ (by intro _ q;simp only[↓bO,go_sem,seval,hk];exact q)));refine zY 1 fun _ y=>?_;simp only[↓bO,go_sem,seval];obtain ⟨n,hn⟩:=hv_ex hNx hfin hk;refine APure.call (ziR hNx hML hn hk 400 tz1 tz1) ?_;apply y;clear y;simp only[↓bO,go_sem,seval];apply z;apply z7 rfl <;> intro hb27
   ·
    refine sqD ?_;apply z8;(try simp only[go_sem]);refine ⟨_,[],⟨true,(fun h=>by cases h),rfl,rfl⟩,.v _ _,trivial,Le.refl _,⟨0,rfl,rfl⟩,by omega⟩
   (have hn399:n<=399:=by (have h9:=hb27;simp only[zf] at h9;omega));apply zab;apply w;apply z6;(iterate 2 (refine chS 1 ?_ (by intro _ q;simp only[↓bO,go_sem,seval,hw];exact q)));simp only[↓bO,go_sem,seval];refine ⟨(s+1),⟨by omega,fun i hi=>(by rcases zD i s with h3 | h3 <;> first | exact hs.2 i h3 | (obtain rfl:i=s:=tz1;exact ⟨n,hn399,hn⟩))⟩,by omega,?_⟩;simp only[zar,zas,zaf,zam,mB,seval,zl,zi];exact zaH
  (have hk:s=M.length:=by have:=hs.1;simp at hb21;omega);have hlight:LightL ((zaA es).map EqT.p):=light_of hce (by rw[<- hM];intro i hi;exact hs.2 i tz1);apply zaj;simp only[zan,zai,zae,bA,Nat.reduceEqDiff,↓reduceIte];apply u;refine sqD ?_;apply z8;(try simp only[go_sem]);refine ⟨_,[],⟨false,(fun _=>⟨hg12,hlight⟩),rfl,rfl⟩,.v _ _,trivial,Le.refl _,⟨0,rfl,rfl⟩,by omega⟩
end Go.Proofs.YtpfiliamceimmaaGreatDoor
namespace Go.Proofs.YtpfiliamceimmaaGreatDoor
open Go Go.RowKit
abbrev Bad (es:List EqT):Prop:=(zaA es).length<es.length
theorem zj0 {es:List EqT} (hg:zcY (es.map EqT.p)=false) (hb:¬Bad es):OkE (es.map EqT.p)/\zbm (es.map EqT.p)<=160/\zaA es=es:=by
 have hgl:=zcB hg;obtain ⟨h1,h2⟩:=zgJ es hgl.2;obtain ⟨h3,_⟩:=zkC hb;rw[h3] at h2;exact ⟨h2,hgl.2,h3⟩
theorem EqtR.det {l:List (Ty×Ty)} {s t:CS×Int×Int} (hs:EqtR l s) (ht:EqtR l t):s.2.1=t.2.1:=by
 rcases hs.1 with ⟨h1,h2⟩ | ⟨h1,h2,S,c,y,hp,hy⟩ | ⟨h1,h2,h3,c,hp,hno⟩
 ·rcases ht.1 with ⟨k1,_⟩ | ⟨_,k2,_⟩ | ⟨_,k2,k3,_⟩
  (·rw[h1,k1]);(·exact absurd h2 k2);have:=k2.clash_iff.2 h2;rw[k3] at this;cases this
 ·rcases ht.1 with ⟨_,k2⟩ | ⟨k1,_⟩ | ⟨_,_,_,c2,hp2,hno2⟩
  (·exact absurd k2 h2);(·rw[h1,k1]);have hp3:PSt l (eqF l).1 c t.1:=⟨hp2.h,hp.hc,rfl,hp2.len,hp2.keys⟩;have:=hp3.fin_iff.2 hno2;exact absurd hy (hp.fin_iff.1 this y)
 rcases ht.1 with ⟨_,k2⟩ | ⟨_,_,S,c2,y,hp2,hy⟩ | ⟨k1,_⟩
 ·have:=h2.clash_iff.2 k2
  rw[h3] at this;cases this
 ·have hp3:PSt l (eqF l).1 c2 s.1:=⟨hp.h,hp2.hc,rfl,hp.len,hp.keys⟩
  have:=hp3.fin_iff.2 hno;exact absurd hy (hp2.fin_iff.1 this y)
 rw[h1,k1]
theorem LightL.low {l:List (Ty×Ty)} (h:LightL l):LowL l:=fun S c hp v _=>Nat.le_trans (h S c hp v) tz3
theorem zgA {most0:Int} {σ:Int->Ty} {v:Int} (h:(σ v).cnt<=399) (hm:399<=most0):ziE most0 σ v=false:=zgK (by simp only[most];omega)
theorem SolM.solR {most0:Int} {l:List (Ty×Ty)} {r:List Bd×Int} (h:SolM most0 l r) (ho:OkE l) (hl:LightL l) (hm:399<=most0):SolR l r:=by
 (rcases h with ⟨s,hE,hne,rfl⟩ | ⟨S,c,hp,hno,⟨_,rfl⟩ | ⟨⟨v,_,hb⟩,_⟩⟩);(·exact hE.sol ho hne);(·exact hp.sol_yes hno);rw[zgA (hl S c ⟨hp,hno⟩ v) hm] at hb;cases hb
theorem SolM.err {most0:Int} {l:List (Ty×Ty)} {r:List Bd×Int} {t:CS×Int×Int} (h:SolM most0 l r) (hl:LightL l) (hm:399<=most0) (ht:EqtR l t):r.2=t.2.1:=by
 (rcases h with ⟨s,hE,hne,rfl⟩ | ⟨S,c,hp,hno,⟨_,rfl⟩ | ⟨⟨v,_,hb⟩,_⟩⟩);·exact hE.det ht
 ·rcases ht.1 with ⟨_,k2⟩ | ⟨_,_,S2,c2,y,hp2,hy⟩ | ⟨k1,_⟩
  ·exact absurd k2 hp.h.noClash
  ·have hp3:PSt l (eqF l).1 c2 S:=⟨hp.h,hp2.hc,rfl,hp.len,hp.keys⟩
   exact absurd hy (hp2.fin_iff.1 (hp3.fin_iff.2 hno) y)
  exact k1.symm
 rw[zgA (hl S c ⟨hp,hno⟩ v) hm] at hb;cases hb
theorem ziz {L:List Int} {σ:Int->Ty} {k:Nat} (h:∀v,(σ v).cnt<=k):∀b∈zbr L σ,b.t.cnt<=k:=fun b hb=>by
 obtain ⟨v,_,rfl⟩:=zq.1 hb;exact h v
theorem SolM.small {most0:Int} {l:List (Ty×Ty)} {r:List Bd×Int} (h:SolM most0 l r) (hl:LightL l):∀b∈r.1,b.t.cnt<=399:=by
 (rcases h with ⟨s,_,_,rfl⟩ | ⟨S,c,hp,hno,⟨_,rfl⟩ | ⟨_,rfl⟩⟩);(·intro b hb;cases hb);(·exact ziz (hl S c ⟨hp,hno⟩));intro b hb;cases hb
theorem vs_len {l:List (Ty×Ty)} {L:List Int} (hs:L.Pairwise (· < ·)) (hL:∀v,v∈L↔OccE l v):L.length<=zbm l :=
 Nat.le_trans (ze7 (zeA hs) fun v hv=>((zgy l).2 v).2 ((hL v).1 hv)) (by
  have h:=zkY l
  have e:∀k:List (Ty×Ty),(k.map fun e=>e.1.cnt+e.2.cnt).sum=zbm k:=by
   intro k
   induction k with
   | nil=>rfl
   | cons x k ih=>simp only[zu,List.sum_cons,ih,zbm]
  rw[e] at h;exact h)
theorem SolM.len {most0:Int} {l:List (Ty×Ty)} {r:List Bd×Int} (h:SolM most0 l r):r.1.length<=zbm l:=by
 (rcases h with ⟨s,_,_,rfl⟩ | ⟨S,c,hp,hno,⟨_,rfl⟩ | ⟨_,rfl⟩⟩);(·simp);(·exact Nat.le_trans (zkV _ _) (vs_len hp.vs_strict hp.vs_mem));simp
theorem sumP_eqsB {r:List Bd} (h:∀b∈r,b.t.cnt<=399):zbm (zla r)<=400 * r.length:=by
 induction r with
 | nil=>simp[zla,zbm]
 | cons b r ih =>
  have h1:=h b tz4;(have h2:=ih fun x hx=>h x (by simp[hx]));have h3:=zgV b.v;simp only[zla,zu,zbm,zw] at h2 ⊢;omega
theorem SolM.eqs {most0:Int} {l:List (Ty×Ty)} {r:List Bd×Int} (h:SolM most0 l r) (ho:OkE l) (hl:LightL l) (hm:399<=most0) (h0:r.2=0):OkE (zla r.1)/\LightL (zla r.1):=by
 have hR:=(h.solR ho hl hm).right h0;have hsm:=h.small hl
 have hok:OkE (zla r.1):=fun e he=>by
  obtain ⟨b,hb,rfl⟩:=zq.1 he;obtain ⟨h1,h2⟩:=hR.1.2 b hb;have h3:=hsm b hb;have h4:=zgV b.v;exact ⟨h1,h2,by dsimp only;omega,by dsimp only;omega⟩
 refine ⟨hok,fun S c hp v=>?_⟩;(rcases h with ⟨s,hE,hne,rfl⟩ | ⟨S1,c1,hp1,hno1,⟨_,rfl⟩ | ⟨_,rfl⟩⟩);·exact absurd h0 hne
 ·have hn1:=hp1.wF_norm hno1
  obtain ⟨hN,hM,hout⟩:=hn1.own hp1.vs_strict (L':=vsS S) hp.p.vs_mem;have e:wF S=wF S1:=MG.unique (hp.p.wF_norm hp.no) hN (hp.p.wF_mg hp.no) hM;rw[e];exact hl S1 c1 ⟨hp1,hno1⟩ v
 cases h0
theorem zlo (a:List Bd):ziK a a=true:=by
 unfold ziK
 exact zbB rfl fun k p q hp hq=>by
  rw[hp] at hq;cases hq;simp[(Ty.same_iff p.t p.t).2 rfl]
theorem zlk {l:List Bd} (h:RightB l):(!l.any fun b=>!(vTy b.v).right||!b.t.right)=true:=by
 rw[Bool.not_eq_true',<- Bool.not_eq_true,List.any_eq_true];rintro ⟨b,hb,h1⟩;obtain ⟨h2,h3⟩:=h.2 b hb;rw[h2,h3] at h1;cases h1
end Go.Proofs.YtpfiliamceimmaaGreatDoor
namespace Go.Proofs.YtpfiliamceimmaaGreatDoor
open Go Go.RowKit
attribute [local irreducible] aops zaz
def CntR (es:List EqT) (s:Int×Int):Prop:=if Bad es then s=(1,0) else ∃t,EqtR (es.map EqT.p) t/\s=(t.2.1,t.2.2)
def SatV (es:List EqT) (z:Int):Prop:=if Bad es then z=1 else ∃t,EqtR (es.map EqT.p) t/\z=t.2.1
def SolA (most0:Int) (es:List EqT) (r:List Bd×Int):Prop:=if Bad es then r=([],1) else SolM most0 (es.map EqT.p) r
theorem APure.toD {σ:Type} {f:Nat} {args:List AV} {x:AV} {C:σ->Prop} {R:σ->AV} (h:APure Tryz.prog f args x) (s:σ) (hs:C s) (hx:x=R s):DCalls f args C R :=
 h.call ⟨⟨s,hs,hx,rfl⟩,rfl⟩
theorem DCalls.weak {σ τ:Type} {f:Nat} {args:List AV} {C:σ->Prop} {R:σ->AV} {C':τ->Prop} {R':τ->AV} (h:DCalls f args C R) (g:σ->τ) (hc:∀s,C s->C' (g s)) (hr:∀s,R s=R' (g s)):DCalls f args C' R' :=
 ACalls.mono h fun r os n ⟨⟨s,hs,h1,h2⟩,h3⟩=>⟨⟨g s,hc s hs,h1.trans (hr s),h2⟩,h3⟩
theorem SatA_c (es:List EqT) (hg:zcY (es.map EqT.p)=false):DCalls (σ:=Int) 21 [.sl 8 (es.map EqT.cells)] (SatV es) (fun s=>.v (.int .i64 s)):=by
 by_cases hb:Bad es
 ·have hl:=(zcB hg).1
  rw[zC] at hl;exact APure.toD (SSat_bad es tz1 (zfJ hb)) 1 (by unfold SatV;rw[if_pos hb]) rfl
 obtain ⟨h1,h2,_⟩:=zj0 hg hb;exact (SSat_c es h1 tz1).weak (fun t=>t.2.1) (fun t ht=>by unfold SatV;rw[if_neg hb];exact ⟨t,ht,rfl⟩) (fun _=>rfl)
theorem SolveA_c (most0:Int) (es:List EqT) (hG:zld es):DCalls (σ:=List Bd×Int) 13 [.v (.int .i64 most0),.sl 8 (es.map EqT.cells)] (SolA most0 es) (fun s=>.tup [.sl 4 (s.1.map Bd.cells),.v (.int .i64 s.2)]):=by
 obtain ⟨hg,hlight⟩:=hG
 by_cases hb:Bad es
 ·have hl:=(zcB hg).1
  rw[zC] at hl;exact APure.toD (Solve_bad most0 es tz1 (zfJ hb)) ([],1) (by unfold SolA;rw[if_pos hb]) rfl
 obtain ⟨h1,h2,h3⟩:=zj0 hg hb;rw[h3] at hlight;exact (zjl most0 es h1 tz1 hlight.low).weak id (fun t ht=>by unfold SolA;rw[if_neg hb];exact ht) (fun _=>rfl)
theorem SolA.sat {es:List EqT} {r:List Bd×Int} {z:Int} (hG:zld es) (h:SolA 1073741824 es r) (hz:SatV es z):z=r.2:=by
 unfold SolA at h;unfold SatV at hz;(split at h);(·rename_i hb;rw[if_pos hb] at hz;rw[h,hz]);(rename_i hb;rw[if_neg hb] at hz);obtain ⟨u,hu,rfl⟩:=hz;obtain ⟨_,_,h3⟩:=zj0 hG.1 hb;exact (h.err (h3▸hG.2) tz3 hu).symm
theorem SolA.ok {es:List EqT} {r:List Bd×Int} (hG:zld es) (h:SolA 1073741824 es r) (h0:r.2=0):¬Bad es/\SolM 1073741824 (es.map EqT.p) r/\OkE (es.map EqT.p)/\LightL (es.map EqT.p)/\zbm (es.map EqT.p)<=160:=by
 unfold SolA at h;(split at h);(·rw[h] at h0;cases h0);(rename_i hb);obtain ⟨h1,h2,h3⟩:=zj0 hG.1 hb;exact ⟨hb,h,h1,h3▸hG.2,h2⟩
theorem zfc (es:List EqT):APure Tryz.prog 9 [.sl 8 (es.map EqT.cells)] (.v (.bool true)):=by
  refine APure.mkL (.cons (EqT.dataSl es) .nil) (.v _) ?_;refine aIn Tryz.func9 fun hm=>?_;simp only[Tryz.ntmps9,Tryz.results9,go_sem,seval];refine sqD ?_;refine zZ fun _ y=>?_;refine sqR fun _ u=>?_;refine chS 1 ?_;simp only[↓bO,go_sem,seval];refine DCalls.at (Great14_c es) (.cons (EqT.dataSl _) .nil) (fun _=>.v _) (fun g hG=>?_);apply u;apply z7 rfl <;> intro hb8
  ·
   refine sqR fun _ u=>?_;refine zY 1 fun _ q=>?_;simp only[↓bO,go_sem,seval];refine APure.call (zc1) ?_;apply q;clear q;simp only[↓bO,go_sem,seval];apply u;apply z8;exact Le.refl _
  have hgood:zld es:=hG (by first | exact hb8 | (simpa using hb8));apply zab;apply y;refine sqR fun _ y=>?_;refine chS 1 ?_;refine zY 1 fun _ q=>?_;simp only[↓bO,go_sem,seval];refine DCalls.at (SolveA_c 1073741824 es hgood) (.cons (.v _) (.cons (EqT.dataSl _) .nil)) (fun _=>.tup (.cons (Bd.dataSl _) (.cons (.v _) .nil))) (fun r hr=>?_);(iterate 4 (apply q;clear q;refine zY 1 fun _ q=>?_;simp only[↓bO,go_sem,seval]));apply q;clear q;simp only[↓bO,go_sem,seval];apply y;refine zZ fun _ y=>?_;refine sqR fun _ u=>?_;refine chS 1 ?_;simp only[↓bO,go_sem,seval];apply u;apply z7 rfl <;> intro hb16
  ·
   refine sqR fun _ u=>?_;refine chS 1 ?_;refine zY 1 fun _ q=>?_;simp only[↓bO,go_sem,seval];refine DCalls.at (SatA_c es hgood.1) (.cons (EqT.dataSl _) .nil) (fun _=>.v _) (fun z hz=>?_);have hz1:=hr.sat hgood hz;(iterate 3 (apply q;clear q;refine zY 1 fun _ q=>?_;simp only[↓bO,go_sem,seval]));apply q;clear q;refine zag 21 rfl (fun hc21=>?_) (fun hc21=>?_)
   ·
    simp only[go_sem];refine zY 1 fun _ q=>?_;simp only[↓bO,go_sem,seval];refine APure.call (zc1) ?_;apply q;clear q;refine chS 1 ?_;simp only[↓bO,go_sem,seval];apply u;apply z8;exact Le.refl _
   simp only[go_sem];exact absurd hc21 (by rw[hz1];simp)
  (have h0:r.2=0:=by simpa using hb16);obtain ⟨hnb,hsM,hoe,hlt,hsP⟩:=hr.ok hgood h0;have hsR:=hsM.solR hoe hlt tz3;have hRB:=hsR.right h0;have hsm3:=hsM.small hlt;(have hsm:∀b∈r.1,b.t.cnt<=1099511627776:=fun b hb=>Nat.le_trans (hsm3 b hb) tz3);have hrl:=hsM.len;obtain ⟨hq1,hq2⟩:=hsM.eqs hoe hlt tz3 h0;have hqs:=sumP_eqsB hsm3;(have hcl:∀e∈es,e.l.cnt<=1099511627776/\e.r.cnt<=1099511627776:=fun e he=>(by have h9:=hoe e.p (zq.2 ⟨e,he,rfl⟩);exact ⟨Nat.le_trans h9.2.2.1 tz3,Nat.le_trans h9.2.2.2 tz3⟩));apply zab;apply y;refine sqR fun _ y=>?_;refine chS 1 ?_;refine zY 1 fun _ q=>?_;simp only[↓bO,go_sem,seval];refine APure.call (zfZ r.1 tz1 hsm) ?_;apply q;clear q;refine zY 1 fun _ q=>?_;simp only[↓bO,go_sem,seval];refine DCalls.at (zjl 1073741824 (r.1.map eqB) (by rw[eqB_p];exact hq1) (by rw[eqB_p];omega) (by rw[eqB_p];exact hq2.low)) (.cons (.v _) (.cons (EqT.dataSl _) .nil)) (fun _=>.tup (.cons (Bd.dataSl _) (.cons (.v _) .nil))) (fun r2 hr2=>?_);rw[eqB_p] at hr2;have hagain:=hsR.again h0 hq1 (hr2.solR hq1 hq2 tz3);(have ha1:r2.1=r.1:=by rw[hagain]);(have ha2:r2.2=0:=by rw[hagain];exact h0);(iterate 4 (apply q;clear q;refine zY 1 fun _ q=>?_;simp only[↓bO,go_sem,seval]));apply q;clear q;simp only[↓bO,go_sem,seval];apply y;refine sqR fun _ y=>?_;refine chS 1 ?_;refine zY 1 fun _ q=>?_;simp only[↓bO,go_sem,seval];refine APure.call (zju r.1 hRB.1.1 tz1) ?_;apply q;clear q;refine chS 1 ?_;simp only[go_sem];refine zag 32 rfl (fun hc32=>?_) (fun hc32=>?_)
  ·
   refine chS 1 ?_;refine zY 1 fun _ q=>?_;simp only[↓bO,go_sem,seval];refine APure.call (zim r.1 hRB.1.1 tz1 hsm) ?_;(iterate 2 (apply q;clear q;refine zY 1 fun _ q=>?_;simp only[↓bO,go_sem,seval]));apply q;clear q;refine zag 36 rfl (fun hc36=>?_) (fun hc36=>?_)
   ·
    (iterate 2 (refine chS 1 ?_));refine zY 1 fun _ q=>?_;simp only[↓bO,go_sem,seval];refine APure.call (ziD r.1 es hRB.1.1 tz1 hsm hcl) ?_;(iterate 2 (apply q;clear q;refine zY 1 fun _ q=>?_;simp only[↓bO,go_sem,seval]));apply q;clear q;refine zag 41 rfl (fun hc41=>?_) (fun hc41=>?_)
    ·
     (iterate 4 (refine chS 1 ?_));refine zag 45 rfl (fun hc45=>?_) (fun hc45=>?_)
     ·
      (iterate 2 (refine chS 1 ?_));refine zY 1 fun _ q=>?_;simp only[↓bO,go_sem,seval];refine APure.call (zkX r2.1 r.1) ?_;(iterate 2 (apply q;clear q;refine zY 1 fun _ q=>?_;simp only[↓bO,go_sem,seval]));apply q;clear q;refine zag 50 rfl (fun hc50=>?_) (fun hc50=>?_)
      ·
       simp only[go_sem];refine zY 1 fun _ q=>?_;simp only[↓bO,go_sem,seval];refine APure.call (zc1) ?_;apply q;clear q;refine chS 1 ?_;simp only[↓bO,go_sem,seval];apply y;apply z8;exact Le.refl _
      simp only[go_sem];exact absurd hc50 (by rw[ha1,zlo];decide)
     simp only[go_sem];exact absurd hc45 (by rw[ha2];decide)
    simp only[go_sem];exact absurd hc41 (by rw[(zjv hoe.rightE).2 (hsR.solves h0)];decide)
   simp only[go_sem];exact absurd hc36 (by rw[zi0.2 hRB.2];decide)
  simp only[go_sem];exact absurd hc32 (by rw[zlk hRB.1];decide)
end Go.Proofs.YtpfiliamceimmaaGreatDoor
namespace Go.Proofs.YtpfiliamceimmaaGreatDoor.solveRules
open Go Go.ChangeShapes Go.WideShapes Go.ChangeAt Go.RowKit
theorem own:ownKnob Tryz.prog.godebug=none:=by kernel_rfl
theorem laidOut:laidOutB Tryz.prog=true:=by kernel_rfl
theorem cT:Tryz.prog.cellsOf 28=3:=by kernel_rfl
theorem cI:Tryz.prog.cellsOf 3=1:=by kernel_rfl
theorem cS:Tryz.prog.cellsOf 26=1:=by kernel_rfl
section
variable {H:Type} {enc:TypeId×Value->H} {w:World} {base:Nat} {spare:Nat->Bool} {held:Bool}
theorem rdT (fuel:Nat):Rd enc Tryz.prog w base spare held Env.none fuel 28 Ty.cells :=
 rd_ty Tryz.underlying28 cT rfl rfl rfl rfl rfl rfl Tryz.underlying3 cI Tryz.underlying26 cS fuel
theorem rdS (fuel:Nat):Rd enc Tryz.prog w base spare held Env.none fuel 26 (fun xs:List Ty=>[.sl 3 (xs.map Ty.cells)]) :=
 zgS Tryz.underlying26 cT tz1 Ty.cells_len fun n _=>rdT n
theorem cP:Tryz.prog.cellsOf 30=2:=by kernel_rfl
theorem cE:Tryz.prog.cellsOf 32=8:=by kernel_rfl
theorem rdE (fuel:Nat):Rd enc Tryz.prog w base spare held Env.none fuel 32 EqT.cells :=
 rd_eq Tryz.underlying32 cE cT cP rfl rfl rfl rfl rfl rfl rdT (fun n=>rd_two Tryz.underlying30 cP rfl rfl rfl rfl Tryz.underlying3 cI n) fuel
theorem rdEs (fuel:Nat):Rd enc Tryz.prog w base spare held Env.none fuel 22 (fun xs:List EqT=>[.sl 8 (xs.map EqT.cells)]) :=
 zgS Tryz.underlying22 cE tz1 (fun _=>rfl) fun n _=>rdE n
end
set_option maxRecDepth 100000 in
theorem lifted (os:Go.Os) (started:os.Started) (H:Type) (enc:TypeId×Value->H) :
  ReturnsInHanded {} Tryz.checked os 9 .any (fun w args=>(Rows.solveRulesSpec.pre enc Tryz.prog Tryz.f9 Rows.solveRulesRow.domain false w args/\laidMetH Tryz.prog Rows.solveRulesRow.laid w)/\sizedMet enc Tryz.prog Tryz.f9 (OpenSpec.ofChange Rows.solveRulesSpec) false w args)
   (Rows.solveRulesSpec.post enc Tryz.prog Tryz.f9 false true false false):=by
 refine returnsInHanded_of_change_and (C:=Tryz.checked) (X:=fun w _=>laidMetH Tryz.prog Rows.solveRulesRow.laid w) (fun _ _ _ hh h=>h.of_heap hh) own started tz0 Tryz.func9
  (ChangeSpec.witness_shaped (enc:=enc) (C:=Tryz.checked) (os:=os) (X:=fun w _=>laidMetH Tryz.prog Rows.solveRulesRow.laid w) false (World.laidAll Tryz.prog os Rows.solveRulesRow.laid) #[.slice none 0 0] 8 (World.laidAll_os _ _ _)
   (World.shaped_of_ZipB tz0 tz0) tz0 tz0 tz0
   (by rw[MakeChecks.laidMetH_plain _ _ _ tz0];exact laidMet_laidAll _ tz0 tz0)) ?_
 intro W base args ds gs before hval0 hW hcnd _ hL _;have hval:∀(j:Nat) t v,Tryz.f9.params[j]?=some t->args[j]?=some v->Value.okWide Tryz.prog W .any base t v:=hval0;have hW':=hW;obtain ⟨p,q,hA0,hV,rfl,hfz,hnd⟩:=hW;have hA:DataW.TrodAll enc Tryz.prog W 0 (fun _=>true) true Tryz.f9.params.toList args.toList ds p:=hA0;rw[Tryz.params9] at hA hval;obtain ⟨v0,vs0,d0,ds0,p0,y,hargs,rfl,rfl,h0,r0⟩:=trodAll_cons hA;obtain ⟨rfl,rfl,rfl⟩:=trodAll_nil r0;(obtain rfl:args=#[v0]:=by cases args;simp_all);obtain ⟨rfl,rfl⟩:=trodVars_none hV;have k0:=h0;(have lt0:∀x∈p0,x.block<W.heap.size:=by obtain ⟨m,hm⟩:=k0;exact DataW.trod_lt m _ _ _ hm);obtain ⟨b0,len0,cap0,rfl⟩:=okWide_slice Tryz.underlying22 (hval 0 22 v0 rfl rfl)
 obtain ⟨P0,hr0⟩:∃P:List EqT,Rp Env.none (fun _ _=>False) W (.sl 8 (P.map EqT.cells)) (.slice b0 len0 cap0):=by
  obtain ⟨m,hm⟩:=h0;obtain ⟨P,_,hr⟩:=rdEs m _ _ hm;exact ⟨P,hr 0 _ _ rfl rfl⟩
 clear hA0 hval0;refine ((zfc P0).calls (w:=W) rfl ?_).mono fun e W' ⟨he,bel⟩=>?_
 ·intro i c u hc hu
  match i with
  | 0=>simp at hc hu;subst hc;subst hu;exact hr0
  | i+1=>simp at hc
 subst he;exact ⟨_,rfl,_,_,_,[],_,[],hW',trodAll_mk1 (shut_bool Tryz.underlying4 _),(trodAll_cons_mk (Below.trod laidOut tz0 (of_decide_eq_true tz0) k0 bel lt0) trodAll_mk0),rfl,bel.frame _,fun h=>by cases h⟩
theorem over:Rows.solveRulesRow.holds Tryz.pinned (OpenSpec.ofChange Rows.solveRulesSpec) :=
 OpenClaim.holds_of_wide 9 Tryz.f9 rfl rfl rfl rfl rfl rfl rfl ⟨rfl,rfl,rfl,rfl,rfl⟩ rfl rfl rfl rfl rfl tz0 Tryz.func9 tz0
  (of_decide_eq_true tz0) (by unfold Func.isWrapper;first | (rw[if_pos (by decide +kernel)];kernel_rfl) | (rw[if_neg (by decide +kernel)];exact ⟨rfl,rfl⟩))
  (fun os started H enc _=>lifted os started H enc)
end Go.Proofs.YtpfiliamceimmaaGreatDoor.solveRules
namespace Go.Proofs.YtpfiliamceimmaaGreatDoor
theorem solveRules_proved : Rows.SolveRulesCardSaid :=
 Claim7.holds_tied_plain_at .later [] _ _ _ _ solveRules.over (fun _ h=>by cases h) tz0 (fun _ h=>by cases h) solveRules_row_tie rfl ⟨rfl,rfl⟩ tz0 rfl
  (fun f fn hf hfn=>by
   obtain rfl:f=9:=Option.some.inj ((show Tryz.prog.funcNamed "pangram/pangramlaw14.SolveRules"=some 9 by kernel_rfl).symm.trans hf) |>.symm;obtain rfl:fn=Tryz.f9:=(Option.some.inj (Tryz.func9.symm.trans hfn)).symm;refine ⟨by kernel_rfl,fun j t ht=>?_⟩;rw[Tryz.params9] at ht;(have hm:t∈[22]:=by simpa using Array.mem_of_getElem? ht);(have hall:([22].all fun u=>!Tryz.prog.wantsStandIn u)=true:=by kernel_rfl);have:=zR.1 hall t hm;have h9:Tryz.prog.wantsStandIn t=false:=by simpa using this
   exact h9)
  tz0
#print axioms solveRules_proved
end Go.Proofs.YtpfiliamceimmaaGreatDoor
