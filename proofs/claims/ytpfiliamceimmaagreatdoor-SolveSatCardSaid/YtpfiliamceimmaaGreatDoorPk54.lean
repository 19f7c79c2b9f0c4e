/- packed, part 54 of 54. Conditions: none. -/
import Derived.Test.YtpfiliamceimmaaGreatDoorPk53
import Derived.Test.YtpfiliamceimmaaGreatDoorCards
import Derived.Test.YtpfiliamceimmaaGreatDoorTie
import Derived.OpenShut
import Derived.ChangeOld
import Derived.Below
import Derived.LaidMore
import Derived.Lay
import Derived.SevenTiedAt
set_option linter.unusedVariables false
set_option linter.unusedSimpArgs false
set_option maxRecDepth 100000
set_option maxHeartbeats 4000000
namespace Go.Proofs.YtpfiliamceimmaaGreatDoor
open Go Go.RowKit
attribute [local irreducible] aops za1
theorem Print1_e:ePure Tryz.prog [] 60 30 43 [.agg [.v (.int .i64 3),.v (.int .i64 0),.sl 3 []]] (.v (.string ⟨#[98,111,111,108]⟩))=true:=by kernel_rfl
theorem Print2_e:ePure Tryz.prog [] 60 30 43 [.agg [.v (.int .i64 4),.v (.int .i64 0),.sl 3 [[.v (.int .i64 3),.v (.int .i64 0),.sl 3 []],[.v (.int .i64 2),.v (.int .i64 0),.sl 3 []]]]] (.v (.string ⟨#[98,111,111,108,32,45,62,32,105,110,116]⟩))=true:=by kernel_rfl
theorem APure.ofD {σ:Type} {f:Nat} {args:List AV} {C:σ→Prop} {R:σ→AV} {x:AV} (h:DCalls f args C R) (hd:DataL args) (hx:Data x) (hu:∀s,C s→R s=x):APure Tryz.prog f args x :=
  ⟨hd,hx,ACalls.mono h fun r os n ⟨⟨s,hs,h1,_⟩,_⟩=>h1.trans (hu s hs)⟩
def awT:Ty:=.mk 4 0 [.mk 3 0 [],.mk 2 0 []]
def awA:Ty:=.mk 4 0 [vTy 1,.mk 2 0 []]
def aw14:List EqT:=[⟨vTy 0,awA,0,0⟩,⟨vTy 1,.mk 3 0 [],0,0⟩]
def awS (v:Int):Ty:=if v=0 then awT else if v=1 then .mk 3 0 [] else vTy v
def awB:List Bd:=[⟨0,awT⟩,⟨1,.mk 3 0 []⟩]
theorem aw_subA (θ:Int→Ty):awA.subF θ=.mk 4 0 [θ 1,.mk 2 0 []]:=by simp[awA,vTy,Ty.subF,Ty.subFL]
theorem aw_subT (θ:Int→Ty):awT.subF θ=awT:=by simp[awT,Ty.subF,Ty.subFL]
theorem aw_subB (θ:Int→Ty):(Ty.mk 3 0 []).subF θ=.mk 3 0 []:=by simp[Ty.subF,Ty.subFL]
theorem aw_subV (θ:Int→Ty) (v:Int):(vTy v).subF θ=θ v:=by simp[vTy,Ty.subF]
theorem zh7 (θ:Int→Ty):zbY θ (aw14.map EqT.p)↔θ 0=.mk 4 0 [θ 1,.mk 2 0 []]∧θ 1=.mk 3 0 []:=by
  unfold zbY;simp only[aw14,zK,zab,EqT.p,List.forall_mem_cons,List.not_mem_nil,false_imp_iff,implies_true,and_true,aw_subA,aw_subB,aw_subV]
theorem aw_mg:MG (aw14.map EqT.p) awS:=by
  refine ⟨(zh7 _).2 ⟨by simp[awS,awT],by simp[awS]⟩,fun θ hθ v=>?_⟩;obtain ⟨h0,h1⟩:=(zh7 θ).1 hθ;unfold awS;split;(· rename_i e;subst e;rw[aw_subT,h0,h1];rfl);split;(· rename_i _ e;subst e;rw[aw_subB,h1]);rw[aw_subV]
theorem zjP {v:Int} (h:v=0∨v=1) (u:Int):¬(awS v).occ u:=by
  (rcases h with rfl | rfl);(· intro h;have h:u∈awT.rvars []:=h;simp[awT,Ty.rvars,Ty.rvarsL,Ty.k] at h);intro h;have h:u∈(Ty.mk 3 0 []).rvars []:=h;simp[Ty.rvars,Ty.rvarsL,Ty.k] at h
theorem aw_norm:Norm [0,1] awS:=by
  (have hm:∀v∈([0,1]:List Int),v=0∨v=1:=fun v hv=>by simpa using hv);refine ⟨fun v hv=>?_,fun v hv=>?_,fun v hv u hu=>absurd hu (zjP (hm v hv) u),fun v hv u hu=>?_⟩;· rcases hm v hv with rfl | rfl <;> decide
  · simp only[zR,List.not_mem_nil,or_false,not_or] at hv
    unfold awS;rw[if_neg hv.1,if_neg hv.2]
  exact absurd (show (awS v).occ u by rw[hu];exact Ty.occ_vTy.2 rfl) (zjP (hm v hv) u)
theorem aw_oke:OkE (aw14.map EqT.p):=fun e he=>by
  simp only[aw14,zK,zab,EqT.p,zR,List.not_mem_nil,or_false] at he;rcases he with rfl | rfl <;> exact ⟨by decide,by decide,by decide,by decide⟩
theorem aw_occ (v:Int):OccE (aw14.map EqT.p) v↔v∈([0,1]:List Int):=by
  have e:OccE (aw14.map EqT.p) v↔v∈zfM (aw14.map EqT.p):=((zj7 _).2 v).symm;rw[e,show zfM (aw14.map EqT.p)=[0,1] from by decide]
theorem aw_sol {S:CS} {c:List Int} (h:SolOk (aw14.map EqT.p) (eqF (aw14.map EqT.p)).1 c S):vsS S=[0,1]∧wF S=awS:=by
  (have hv:vsS S=[0,1]:=zin h.p.vs_strict tz3 fun v=>(h.p.vs_mem v).trans (aw_occ v));refine ⟨hv,?_⟩;have hn:=h.p.wF_norm h.no;rw[hv] at hn;exact MG.unique hn aw_norm (h.p.wF_mg h.no) aw_mg
theorem aw_cnt (v:Int):(awS v).cnt≤3:=by
  unfold awS;split;(· decide);split;(· decide);rw[vTy_cnt];omega
theorem aw_low:LowL (aw14.map EqT.p):=fun S c h v _=>by rw[(aw_sol h).2];have:=aw_cnt v;omega
theorem aw14_sol {r:List Bd×Int} (h:SolM 9 (aw14.map EqT.p) r):r=(awB,0):=by
  rcases h with ⟨s,hE,hne,_⟩ | ⟨S,c,hp,hno,h⟩
  · rcases hE.1 with ⟨_,h2⟩ | ⟨_,_,S,c,y,h2,h3⟩ | ⟨h1,_⟩
    (· exact absurd h2 (zf6 aw_oke aw_mg.solves));(· exact absurd h3 (h2.solves_noLoop aw_mg.solves y));exact absurd h1 hne
  obtain ⟨hv,hw⟩:=aw_sol ⟨hp,hno⟩;(rcases h with ⟨_,rfl⟩ | ⟨⟨v,_,hb⟩,_⟩);(· rw[hv,hw];rfl);unfold zja at hb;rw[hw] at hb;have:=aw_cnt v;simp only[zI,zl] at hb;omega
theorem awSolve_pure:APure Tryz.prog 13 [.v (.int .i64 9),.sl 8 (aw14.map EqT.cells)] (.tup [.sl 4 (awB.map Bd.cells),.v (.int .i64 0)]) :=
  APure.ofD (Solve_c 9 aw14 aw_oke tz3 aw_low) (.cons (.v _) (.cons (EqT.dataSl _) .nil)) (.tup (.cons (Bd.dataSl _) (.cons (.v _) .nil))) fun s hs=>by rw[aw14_sol hs]
theorem awE_le:Le (.sl 8 [[.v (.int .i64 1),.v (.int .i64 0),.sl 3 [],.v (.int .i64 4),.v (.int .i64 0),.sl 3 ([vTy 1,.mk 2 0 []].map Ty.cells),.v (.int .i64 0),.v (.int .i64 0)],[.v (.int .i64 1),.v (.int .i64 1),.sl 3 [],.v (.int .i64 3),.v (.int .i64 0),.v (.slice none 0 0),.v (.int .i64 0),.v (.int .i64 0)]]) (.sl 8 (aw14.map EqT.cells)) :=
  Le.slC rfl (by intro y hy;simp[aw14,EqT.cells] at hy;rcases hy with rfl | rfl <;> rfl) ⟨.refl _,.refl _,.refl _,.refl _,.refl _,.refl _,.refl _,.refl _,.refl _,.refl _,.refl _,.refl _,.refl _,Le.slNil 3,.refl _,.refl _,trivial⟩
theorem awArr:APure Tryz.prog 42 [.sl 3 ([vTy 1,.mk 2 0 []].map Ty.cells)] (.agg [.v (.int .i64 4),.v (.int .i64 0),.sl 3 ([vTy 1,.mk 2 0 []].map Ty.cells)]):=by
  have h:=zkz 2 [vTy 1,.mk 2 0 []] rfl tz3;rw[show zfv [vTy 1,.mk 2 0 []]=awA from rfl,Ty.cells_eq] at h;exact h
theorem awE_data:Data (.sl 8 [[.v (.int .i64 1),.v (.int .i64 0),.sl 3 [],.v (.int .i64 4),.v (.int .i64 0),.sl 3 ([vTy 1,.mk 2 0 []].map Ty.cells),.v (.int .i64 0),.v (.int .i64 0)],[.v (.int .i64 1),.v (.int .i64 1),.sl 3 [],.v (.int .i64 3),.v (.int .i64 0),.v (.slice none 0 0),.v (.int .i64 0),.v (.int .i64 0)]]):=.sl fun x hx=>by
  have h0:Data (.sl 3 []):=.sl (by intro x hx;cases hx);simp only[zR,List.not_mem_nil,or_false] at hx;(rcases hx with rfl | rfl);(· exact .cons (.v _) (.cons (.v _) (.cons h0 (.cons (.v _) (.cons (.v _) (.cons (Ty.dataSl _) (.cons (.v _) (.cons (.v _) .nil))))))));exact .cons (.v _) (.cons (.v _) (.cons h0 (.cons (.v _) (.cons (.v _) (.cons (.v _) (.cons (.v _) (.cons (.v _) .nil)))))))
theorem awP1:APure Tryz.prog 43 [.agg (Ty.mk 3 0 []).cells] (.v (.string ⟨#[98,111,111,108]⟩)):=zfb mixed Print1_e
theorem awP2:APure Tryz.prog 43 [.agg awT.cells] (.v (.string ⟨#[98,111,111,108,32,45,62,32,105,110,116]⟩)):=zfb mixed Print2_e
theorem awV (n:Int):APure Tryz.prog 41 [.v (.int .i64 n)] (.agg [.v (.int .i64 1),.v (.int .i64 n),.sl 3 []]):=by
  have h:=zhS n;rw[Ty.cells_eq] at h;exact h
theorem awA_le2:Le (.sl 3 [[.v (.int .i64 1),.v (.int .i64 1),.sl 3 []],[.v (.int .i64 2),.v (.int .i64 0),.v (.slice none 0 0)]]) (.sl 3 ([vTy 1,.mk 2 0 []].map Ty.cells)) :=
  Le.slC rfl (by intro y hy;simp at hy;rcases hy with rfl | rfl <;> simp[Ty.cells_len]) ⟨.refl _,.refl _,.refl _,.refl _,.refl _,Le.slNil 3,trivial⟩
theorem zeR:APure Tryz.prog 11 [] (.v (.bool true)):=by
  refine APure.mkL (.nil) (.v _) ?_;refine zai Tryz.func11 tz0 rfl (by rw[Tryz.ntmps11];simp) (fun hm=>?_);simp only[Tryz.ntmps11,Tryz.results11,zh,zk,Nat.reduceAdd,Nat.reduceSub,zt,zu,zi,zj];(have hl0:(0:Int)<(awB.length:Int):=by decide);(have hl1:(1:Int)<(awB.length:Int):=by decide);have hg0:awB[0]?=some ⟨0,awT⟩:=rfl;have hg1:awB[1]?=some ⟨1,.mk 3 0 []⟩:=rfl;refine sqR fun Y0 y0=>?_;simp only[↓bO,go_sem,seval,Bd.take1,Bd.drop1,Bd.cells_len,Bd.one,Bd.take4,hl0,hl1,gM hg0,gM hg1];refine y0 _ ?_;(try clear y0 Y0);refine sqR fun Y0 y0=>?_;(iterate 5 (refine zad 1 fun Q0 q0=>?_;simp only[↓bO,go_sem,seval,Bd.take1,Bd.drop1,Bd.cells_len,Bd.one,Bd.take4,hl0,hl1,gM hg0,gM hg1];refine q0 _ ?_;clear q0 Q0;simp only[go_sem]));simp only[↓bO,go_sem,seval,Bd.take1,Bd.drop1,Bd.cells_len,Bd.one,Bd.take4,hl0,hl1,gM hg0,gM hg1];refine y0 _ ?_;(try clear y0 Y0);refine zah fun Y0 y0=>?_;refine zkB 14 [13] mixed tz0 (fun _ _ h=>h) fun J0 j0=>?_;simp only[go_sem];refine zaw 1 fun Q0 q0=>?_;simp only[↓za1,↓dOp,↓bO,go_sem,seval,Bd.take1,Bd.drop1,Bd.cells_len,Bd.one,Bd.take4,hl0,hl1,gM hg0,gM hg1];refine ⟨_,awV 0,?_⟩;(try simp only[bS,bA,zag,zaf,zae]);refine q0 _ ?_;clear q0 Q0;simp only[go_sem];refine zaw 1 fun Q0 q0=>?_;simp only[↓za1,↓dOp,↓bO,go_sem,seval,Bd.take1,Bd.drop1,Bd.cells_len,Bd.one,Bd.take4,hl0,hl1,gM hg0,gM hg1];refine ⟨_,awV 1,?_⟩;(try simp only[bS,bA,zag,zaf,zae]);refine q0 _ ?_;clear q0 Q0;simp only[go_sem];refine zaw 1 fun Q0 q0=>?_;simp only[↓za1,↓dOp,↓bO,go_sem,seval,Bd.take1,Bd.drop1,Bd.cells_len,Bd.one,Bd.take4,hl0,hl1,gM hg0,gM hg1];refine q0 _ ?_;clear q0 Q0;simp only[go_sem];refine zaw 1 fun Q0 q0=>?_;simp only[↓za1,↓dOp,↓bO,go_sem,seval,↓bs2_1,↓bs2_2,↓bs2_3,↓bs2_4,↓bs2_5,↓bs2_6,↓bs2_7,↓bs2_8,↓bs2_9,↓bs2_10,↓bs2_11,↓bs2_12,Bd.take1,Bd.drop1,Bd.cells_len,Bd.one,Bd.take4,hl0,hl1,gM hg0,gM hg1];refine q0 _ ?_;clear q0 Q0;simp only[go_sem];refine zaw 1 fun Q0 q0=>?_;simp only[↓za1,↓dOp,↓bO,go_sem,seval,Bd.take1,Bd.drop1,Bd.cells_len,Bd.one,Bd.take4,hl0,hl1,gM hg0,gM hg1];refine ⟨_,awArr.le ⟨awA_le2,trivial⟩ (.cons (.sl (by intro x hx;simp only[zR,List.not_mem_nil,or_false] at hx;rcases hx with rfl | rfl;exact .cons (.v _) (.cons (.v _) (.cons (.sl (by intro x hx;cases hx)) .nil));exact .cons (.v _) (.cons (.v _) (.cons (.v _) .nil)))) .nil),?_⟩;(try simp only[bS,bA,zag,zaf,zae]);(iterate 2 (refine q0 _ ?_;clear q0 Q0;simp only[go_sem];refine zaw 1 fun Q0 q0=>?_;simp only[↓za1,↓dOp,↓bO,go_sem,seval,Bd.take1,Bd.drop1,Bd.cells_len,Bd.one,Bd.take4,hl0,hl1,gM hg0,gM hg1]));refine ⟨_,awV 1,?_⟩;(try simp only[bS,bA,zag,zaf,zae]);(iterate 2 (refine q0 _ ?_;clear q0 Q0;simp only[go_sem];refine zaw 1 fun Q0 q0=>?_;simp only[↓za1,↓dOp,↓bO,go_sem,seval,Bd.take1,Bd.drop1,Bd.cells_len,Bd.one,Bd.take4,hl0,hl1,gM hg0,gM hg1]));refine q0 _ ?_;clear q0 Q0;simp only[go_sem];refine zaw 1 fun Q0 q0=>?_;simp only[↓za1,↓dOp,↓bO,go_sem,seval,↓bs2_1,↓bs2_2,↓bs2_3,↓bs2_4,↓bs2_5,↓bs2_6,↓bs2_7,↓bs2_8,↓bs2_9,↓bs2_10,↓bs2_11,↓bs2_12,Bd.take1,Bd.drop1,Bd.cells_len,Bd.one,Bd.take4,hl0,hl1,gM hg0,gM hg1];refine q0 _ ?_;clear q0 Q0;simp only[go_sem];refine zaw 1 fun Q0 q0=>?_;simp only[↓za1,↓dOp,↓bO,go_sem,seval,Bd.take1,Bd.drop1,Bd.cells_len,Bd.one,Bd.take4,hl0,hl1,gM hg0,gM hg1];refine ⟨_,awSolve_pure.le ⟨.refl _,awE_le,trivial⟩ (.cons (.v _) (.cons awE_data .nil)),?_⟩;(try simp only[bS,bA,zag,zaf,zae]);(iterate 2 (refine q0 _ ?_;clear q0 Q0;simp only[go_sem];refine zaw 1 fun Q0 q0=>?_;simp only[↓za1,↓dOp,↓bO,go_sem,seval,Bd.take1,Bd.drop1,Bd.cells_len,Bd.one,Bd.take4,hl0,hl1,gM hg0,gM hg1]));refine q0 _ ?_;clear q0 Q0;simp only[go_sem];simp only[↓za1,↓dOp,↓bO,go_sem,seval,Bd.take1,Bd.drop1,Bd.cells_len,Bd.one,Bd.take4,hl0,hl1,gM hg0,gM hg1];refine j0 _ ?_;clear j0 J0;simp only[go_sem];refine zad 1 fun Q0 q0=>?_;simp only[↓bO,go_sem,seval,Bd.take1,Bd.drop1,Bd.cells_len,Bd.one,Bd.take4,hl0,hl1,gM hg0,gM hg1];refine q0 _ ?_;clear q0 Q0;simp only[go_sem];simp only[↓bO,go_sem,seval,Bd.take1,Bd.drop1,Bd.cells_len,Bd.one,Bd.take4,hl0,hl1,gM hg0,gM hg1];refine y0 _ ?_;(try clear y0 Y0);refine sqR fun Y0 y0=>?_;(iterate 3 (refine zad 1 fun Q0 q0=>?_;simp only[↓bO,go_sem,seval,Bd.take1,Bd.drop1,Bd.cells_len,Bd.one,Bd.take4,hl0,hl1,gM hg0,gM hg1];refine q0 _ ?_;clear q0 Q0;simp only[go_sem]));refine zaG 23 rfl (fun hc23=>?_) (fun hc23=>?_)
  ·
   simp only[zc,zb];(iterate 5 (refine zad 1 fun Q0 q0=>?_;simp only[↓bO,go_sem,seval,Bd.take1,Bd.drop1,Bd.cells_len,Bd.one,Bd.take4,hl0,hl1,gM hg0,gM hg1];refine q0 _ ?_;clear q0 Q0;simp only[go_sem]));refine zaG 28 rfl (fun hc28=>?_) (fun hc28=>?_)
   ·
    simp only[zc,zb];(iterate 4 (refine zad 1 fun Q0 q0=>?_;simp only[↓bO,go_sem,seval,Bd.take1,Bd.drop1,Bd.cells_len,Bd.one,Bd.take4,hl0,hl1,gM hg0,gM hg1];refine q0 _ ?_;clear q0 Q0;simp only[go_sem]));refine zad 1 fun Q0 q0=>?_;simp only[↓bO,go_sem,seval,Bd.take1,Bd.drop1,Bd.cells_len,Bd.one,Bd.take4,hl0,hl1,gM hg0,gM hg1];refine APure.call (awP2) ?_;(try simp only[bS,bA,zag,zaf,zae]);(iterate 3 (refine q0 _ ?_;clear q0 Q0;simp only[go_sem];refine zad 1 fun Q0 q0=>?_;simp only[↓bO,go_sem,seval,Bd.take1,Bd.drop1,Bd.cells_len,Bd.one,Bd.take4,hl0,hl1,gM hg0,gM hg1]));refine q0 _ ?_;clear q0 Q0;simp only[go_sem];refine zaG 36 rfl (fun hc36=>?_) (fun hc36=>?_)
    ·
     simp only[zc,zb];(iterate 4 (refine zad 1 fun Q0 q0=>?_;simp only[↓bO,go_sem,seval,Bd.take1,Bd.drop1,Bd.cells_len,Bd.one,Bd.take4,hl0,hl1,gM hg0,gM hg1];refine q0 _ ?_;clear q0 Q0;simp only[go_sem]));refine zad 1 fun Q0 q0=>?_;simp only[↓bO,go_sem,seval,Bd.take1,Bd.drop1,Bd.cells_len,Bd.one,Bd.take4,hl0,hl1,gM hg0,gM hg1];refine APure.call (awP1) ?_;(try simp only[bS,bA,zag,zaf,zae]);(iterate 2 (refine q0 _ ?_;clear q0 Q0;simp only[go_sem];refine zad 1 fun Q0 q0=>?_;simp only[↓bO,go_sem,seval,Bd.take1,Bd.drop1,Bd.cells_len,Bd.one,Bd.take4,hl0,hl1,gM hg0,gM hg1]));refine q0 _ ?_;clear q0 Q0;simp only[go_sem];simp only[↓bO,go_sem,seval,Bd.take1,Bd.drop1,Bd.cells_len,Bd.one,Bd.take4,hl0,hl1,gM hg0,gM hg1];refine y0 _ ?_;(try clear y0 Y0);refine zal ?_;(try simp only[zag,zaf,zae,zaY,zaV,zaD,bS,bA]);rw[beq_self_eq_true];exact Le.refl _
    simp only[zc,zb];exact absurd hc36 (by first | decide | (simp;done))
   simp only[zc,zb];exact absurd hc28 (by first | decide | (simp;done))
  simp only[zc,zb];exact absurd hc23 (by first | decide | (simp;done))
def GoodE (es:List EqT):Prop:=zcO (es.map EqT.p)=false∧LightL ((za4 es).map EqT.p)
theorem sat_c (es:List EqT) (hg:zcO (es.map EqT.p)=false):DCalls (σ:=Int) 20 [.sl 8 (es.map EqT.cells)] (fun s=>(if (za4 es).length<es.length then s=1 else SatR (es.map EqT.p) s)) (fun s=>.v (.int .i64 s)):=by
  refine ACalls.clean (C:=fun r os=>∃s:Int,((if (za4 es).length<es.length then s=1 else SatR (es.map EqT.p) s))∧r=(fun s:Int=>.v (.int .i64 s)) s∧os=[]) ?_;refine zai Tryz.func20 tz0 rfl (by rw[Tryz.ntmps20];simp) (fun hm=>?_);simp only[Tryz.ntmps20,Tryz.results20,zh,zk,Nat.reduceAdd,Nat.reduceSub,zt,zu,zi,zj];have hgl:=zcd hg;rw[zO] at hgl;have hll:=zfm es;refine sqR fun Y0 y0=>?_;simp only[↓bO,go_sem,seval];refine y0 _ ?_;(try clear y0 Y0);refine zah fun Y0 y0=>?_;refine sqR fun Y1 y1=>?_;refine chS 1 ?_;simp only[go_sem];refine zad 1 fun Q0 q0=>?_;simp only[↓bO,go_sem,seval];refine APure.call (zg0 es tz1) ?_;(try simp only[bS,bA,zag,zaf,zae]);(iterate 3 (refine q0 _ ?_;clear q0 Q0;simp only[go_sem];refine zad 1 fun Q0 q0=>?_;simp only[↓bO,go_sem,seval]));refine q0 _ ?_;clear q0 Q0;simp only[go_sem];simp only[↓bO,go_sem,seval];refine y1 _ ?_;(try clear y1 Y1);refine zak rfl (fun hb9=>?_) (fun hb9=>?_)
  ·
   (have hlt:(za4 es).length<es.length:=by (have h9:=hb9;simp at h9;omega));refine sqR fun Y1 y1=>?_;simp only[↓bO,go_sem,seval];refine y1 _ ?_;(try clear y1 Y1);refine zal ?_;(try simp only[zag,zaf,zae,zaY,zaV,zaD,bS,bA]);refine ⟨_,[],⟨1,?_,rfl,rfl⟩,.v _ _,trivial,Le.refl _,⟨0,rfl,rfl⟩,by omega⟩;rw[if_pos hlt]
  (have hlt:¬(za4 es).length<es.length:=by (have h9:=hb9;simp at h9;omega));obtain ⟨hre,hok9⟩:=zgb hlt;obtain ⟨hsP,hol⟩:=zgj es hgl.2;rw[hre] at hol;(have hrP:∀e∈(es.map EqT.p),(e.1.right&&e.2.right)=true:=fun e he=>(by obtain ⟨x,hx,rfl⟩:=zH.1 he;exact hok9 x hx));refine zaq ?_;(try simp only[zag,zaf,zae]);refine y0 _ ?_;(try clear y0 Y0);obtain ⟨M,hM⟩:∃M,M=(eqF (es.map EqT.p)).1:=⟨_,rfl⟩;have hmlM:=zhl (es.map EqT.p);rw[← hM] at hmlM;(have hML:M.length≤1048576:=by omega);refine zdu (σ:=List Int) (mB 17 8) (fun c=>[(3,.eptr [.sl 4 (M.map RNode.cells),.sl 1 (c.map intC)])]) (fun c=>[]) 0 (fun c=>ColE (es.map EqT.p) c∧(clB M c=true↔Clashes (es.map EqT.p))) ?_ (fun c hcj=>?_)
  ·
   refine zaj ?_;refine chS 1 ?_;simp only[go_sem];refine zad 1 fun Q0 q0=>?_;simp only[↓bO,go_sem,seval];refine Close_at es hgl.2 hrP (fun c hc hcb=>?_);rw[← hM] at hcb ⊢;(try simp only[bS,bA,zag,zaf,zae]);refine q0 _ ?_;clear q0 Q0;simp only[go_sem];refine chS 1 ?_;simp only[go_sem];simp only[↓bO,go_sem,seval];(try simp only[zat,zau,zam,zay,mB,zc,zb,seval]);refine ⟨c,⟨hc.colE hol,hcb⟩,?_⟩;refine Weak.freeze ?_ trivial tz2 tz2 ?_ ?_;(· exact clz4);(· repeat' first | exact trivial | exact .any _ | exact .v _ _ | exact Und.data (EqT.dataSl _) | exact Und.data (.eptr (.cons (RNode.dataSl _) (.cons (zaP _) .nil))) | (refine ⟨?_,?_⟩));trivial
  simp only[zat,zau,zam,zay,mB,zc,zb,seval];obtain ⟨hce,hclx⟩:=hcj;have hcl:=hce.len;rw[← hM] at hcl;(have hNx:NxOk M c:=by (have h9:=nxOk_of hol hce.len;rw[← hM] at h9;exact h9));refine zah fun Y0 y0=>?_;refine sqR fun Y1 y1=>?_;refine chS 1 ?_;simp only[go_sem];simp only[↓bO,go_sem,seval];refine APure.call (zko M c hcl hML) ?_;(try simp only[bS,bA,zag,zaf,zae]);refine y1 _ ?_;(try clear y1 Y1);refine zak rfl (fun hb13=>?_) (fun hb13=>?_)
  ·
   have hc13:clB M c=true:=hb13;refine sqR fun Y1 y1=>?_;simp only[↓bO,go_sem,seval];refine y1 _ ?_;(try clear y1 Y1);refine zal ?_;(try simp only[zag,zaf,zae,zaY,zaV,zaD,bS,bA]);refine ⟨_,[],⟨7,?_,rfl,rfl⟩,.v _ _,trivial,Le.refl _,⟨0,rfl,rfl⟩,by omega⟩;rw[if_neg hlt];exact .inl ⟨rfl,hclx.1 hc13⟩
  have hc13:clB M c=false:=hb13;(have hnc:¬Clashes (es.map EqT.p):=fun h=>by (have:=hclx.2 h;rw[hc13] at this;cases this));refine zaq ?_;(try simp only[zag,zaf,zae]);refine y0 _ ?_;(try clear y0 Y0);refine zah fun Y0 y0=>?_;refine sqR fun Y1 y1=>?_;refine chS 1 ?_;simp only[go_sem];refine zad 1 fun Q0 q0=>?_;simp only[↓bO,go_sem,seval];refine APure.call (FinR_pure M c hNx hML) ?_;(try simp only[bS,bA,zag,zaf,zae]);refine q0 _ ?_;clear q0 Q0;simp only[go_sem];simp only[↓bO,go_sem,seval];refine y1 _ ?_;(try clear y1 Y1);refine zak rfl (fun hb16=>?_) (fun hb16=>?_)
  ·
   (have hfin:finB M c=false:=by simpa using hb16);refine sqR fun Y1 y1=>?_;simp only[↓bO,go_sem,seval];refine y1 _ ?_;(try clear y1 Y1);refine zal ?_;(try simp only[zag,zaf,zae,zaY,zaV,zaD,bS,bA]);refine ⟨_,[],⟨8,?_,rfl,rfl⟩,.v _ _,trivial,Le.refl _,⟨0,rfl,rfl⟩,by omega⟩;rw[if_neg hlt];exact .inr ⟨c,hce,hnc,by rw[← hM,hfin];rfl⟩
  (have hfin:finB M c=true:=by simpa using hb16);refine zaq ?_;(try simp only[zag,zaf,zae]);refine y0 _ ?_;(try clear y0 Y0);refine sqR fun Y0 y0=>?_;simp only[↓bO,go_sem,seval];refine y0 _ ?_;(try clear y0 Y0);refine zal ?_;(try simp only[zag,zaf,zae,zaY,zaV,zaD,bS,bA]);refine ⟨_,[],⟨0,?_,rfl,rfl⟩,.v _ _,trivial,Le.refl _,⟨0,rfl,rfl⟩,by omega⟩;rw[if_neg hlt];exact .inr ⟨c,hce,hnc,by rw[← hM,hfin];rfl⟩
end Go.Proofs.YtpfiliamceimmaaGreatDoor
namespace Go.Proofs.YtpfiliamceimmaaGreatDoor
open Go Go.RowKit
abbrev Bad (es:List EqT):Prop:=(za4 es).length<es.length
theorem okE_of {es:List EqT} (hg:zcO (es.map EqT.p)=false) (hb:¬Bad es):OkE (es.map EqT.p)∧zbW (es.map EqT.p)≤160∧za4 es=es:=by
  have hgl:=zcd hg;obtain ⟨h1,h2⟩:=zgj es hgl.2;obtain ⟨h3,_⟩:=zgb hb;rw[h3] at h2;exact ⟨h2,hgl.2,h3⟩
theorem EqtR.det {l:List (Ty×Ty)} {s t:CS×Int×Int} (hs:EqtR l s) (ht:EqtR l t):s.2.1=t.2.1:=by
  rcases hs.1 with ⟨h1,h2⟩ | ⟨h1,h2,S,c,y,hp,hy⟩ | ⟨h1,h2,h3,c,hp,hno⟩
  · rcases ht.1 with ⟨k1,_⟩ | ⟨_,k2,_⟩ | ⟨_,k2,k3,_⟩
    (· rw[h1,k1]);(· exact absurd h2 k2);have:=k2.clash_iff.2 h2;rw[k3] at this;cases this
  · rcases ht.1 with ⟨_,k2⟩ | ⟨k1,_⟩ | ⟨_,_,_,c2,hp2,hno2⟩
    (· exact absurd k2 h2);(· rw[h1,k1]);have hp3:PSt l (eqF l).1 c t.1:=⟨hp2.h,hp.hc,rfl,hp2.len,hp2.keys⟩;have:=hp3.fin_iff.2 hno2;exact absurd hy (hp.fin_iff.1 this y)
  rcases ht.1 with ⟨_,k2⟩ | ⟨_,_,S,c2,y,hp2,hy⟩ | ⟨k1,_⟩
  · have:=h2.clash_iff.2 k2
    rw[h3] at this;cases this
  · have hp3:PSt l (eqF l).1 c2 s.1:=⟨hp.h,hp2.hc,rfl,hp.len,hp.keys⟩
    have:=hp3.fin_iff.2 hno;exact absurd hy (hp2.fin_iff.1 this y)
  rw[h1,k1]
end Go.Proofs.YtpfiliamceimmaaGreatDoor
namespace Go.Proofs.YtpfiliamceimmaaGreatDoor
open Go Go.RowKit
attribute [local irreducible] aops za1
def CntR (es:List EqT) (s:Int×Int):Prop:=if Bad es then s=(1,0) else ∃t,EqtR (es.map EqT.p) t∧s=(t.2.1,t.2.2)
def SatV (es:List EqT) (z:Int):Prop:=if Bad es then z=1 else ∃t,EqtR (es.map EqT.p) t∧z=t.2.1
def SolA (most0:Int) (es:List EqT) (r:List Bd×Int):Prop:=if Bad es then r=([],1) else SolM most0 (es.map EqT.p) r
theorem APure.toD {σ:Type} {f:Nat} {args:List AV} {x:AV} {C:σ→Prop} {R:σ→AV} (h:APure Tryz.prog f args x) (s:σ) (hs:C s) (hx:x=R s):DCalls f args C R :=
  h.call ⟨⟨s,hs,hx,rfl⟩,rfl⟩
theorem DCalls.weak {σ τ:Type} {f:Nat} {args:List AV} {C:σ→Prop} {R:σ→AV} {C':τ→Prop} {R':τ→AV} (h:DCalls f args C R) (g:σ→τ) (hc:∀s,C s→C' (g s)) (hr:∀s,R s=R' (g s)):DCalls f args C' R' :=
  ACalls.mono h fun r os n ⟨⟨s,hs,h1,h2⟩,h3⟩=>⟨⟨g s,hc s hs,h1.trans (hr s),h2⟩,h3⟩
theorem CountA_c (es:List EqT) (hg:zcO (es.map EqT.p)=false):DCalls (σ:=Int×Int) 19 [.sl 8 (es.map EqT.cells)] (CntR es) (fun s=>.tup [.v (.int .i64 s.1),.v (.int .i64 s.2)]):=by
  by_cases hb:Bad es
  · have hl:=(zcd hg).1
    rw[zO] at hl;exact APure.toD (zgf es tz1 (zfH hb)) (1,0) (by unfold CntR;rw[if_pos hb]) rfl
  obtain ⟨h1,h2,_⟩:=okE_of hg hb;exact (zjE es h1 tz1).weak (fun t=>(t.2.1,t.2.2)) (fun t ht=>by unfold CntR;rw[if_neg hb];exact ⟨t,ht,rfl⟩) (fun _=>rfl)
theorem SatA_c (es:List EqT) (hg:zcO (es.map EqT.p)=false):DCalls (σ:=Int) 21 [.sl 8 (es.map EqT.cells)] (SatV es) (fun s=>.v (.int .i64 s)):=by
  by_cases hb:Bad es
  · have hl:=(zcd hg).1
    rw[zO] at hl;exact APure.toD (SSat_bad es tz1 (zfH hb)) 1 (by unfold SatV;rw[if_pos hb]) rfl
  obtain ⟨h1,h2,_⟩:=okE_of hg hb;exact (SSat_c es h1 tz1).weak (fun t=>t.2.1) (fun t ht=>by unfold SatV;rw[if_neg hb];exact ⟨t,ht,rfl⟩) (fun _=>rfl)
theorem CntR.sat {es:List EqT} {s:Int×Int} {z:Int} (h:CntR es s) (hz:if (za4 es).length<es.length then z=1 else SatR (es.map EqT.p) z):s.1=z:=by
  unfold CntR Bad at h;(split at h);(· rename_i hb;rw[if_pos hb] at hz;rw[h,hz]);(rename_i hb;rw[if_neg hb] at hz);obtain ⟨t,ht,rfl⟩:=h;exact hz.eq ht
theorem CntR.same {es:List EqT} {s:Int×Int} {z:Int} (h:CntR es s) (hz:SatV es z):z=s.1:=by
  unfold CntR at h;unfold SatV at hz;(split at h);(· rename_i hb;rw[if_pos hb] at hz;rw[h,hz]);(rename_i hb;rw[if_neg hb] at hz);obtain ⟨t,ht,rfl⟩:=h;obtain ⟨u,hu,rfl⟩:=hz;exact hu.det ht
theorem CntR.low {es:List EqT} {s:Int×Int} (hg:zcO (es.map EqT.p)=false) (h:CntR es s):0≤s.2∧s.2≤22 * (zbW (es.map EqT.p):Int):=by
  have hs:=(zcd hg).2;unfold CntR at h;(split at h);(· rw[h];exact ⟨Int.le_refl _,by dsimp only;omega⟩);obtain ⟨t,ht,rfl⟩:=h;exact ht.2 tz1
theorem prod_ok14 {a d:Int} (ha0:0≤a) (ha:a≤161) (hd0:0≤d) (hd:d≤42):0≤100 * a * (d+2)∧100 * a * (d+2)≤708400∧200 * a≤100 * a * (d+2):=by
  have h1:100 * a * 2≤100 * a * (d+2):=Int.mul_le_mul_of_nonneg_left tz1 tz1;have h2:100 * a * (d+2)≤16100 * (d+2):=Int.mul_le_mul_of_nonneg_right tz1 tz1;refine ⟨by omega,by omega,by omega⟩
theorem zgS (n:Nat) (hn:n≤1099511627776):APure Tryz.prog 22 [.v (.int .i64 (n:Int))] (.v (.int .i64 (ziM n:Nat))):=by
  refine APure.mkL (.cons (.v _) .nil) (.v _) ?_;refine zai Tryz.func22 tz0 rfl (by rw[Tryz.ntmps22];simp) (fun hm=>?_);simp only[Tryz.ntmps22,Tryz.results22,zh,zk,Nat.reduceAdd,Nat.reduceSub,zt,zu,zi,zj];(iterate 2 (refine zah fun Y0 y0=>?_;refine zaj ?_;simp only[↓bO,go_sem,seval];refine y0 _ ?_;(try clear y0 Y0)));refine zah fun Y0 y0=>?_;refine zap ?_;refine zaJ (σ:=Nat×Nat) [true,false,false,true,false,false,false,false,false,false,false] (fun s=>s.1≤n∧ziM n=ziM s.1+s.2) (fun s=>[(0,.v (.int .i64 (s.1:Int))),(3,.v (.int .i64 (s.2:Int)))]) (fun s=>[]) (fun s=>s.1) (n,0) (⟨z6 _,rfl⟩) ?_ (fun s hs=>?_)
  ·
   simp only[zat,zau,zam,zay,mB,zc,zb,seval];exact zbj
  simp only[zat,zau,zam,zay,mB,zc,zb,seval];refine zah fun Y1 y1=>?_;refine sqR fun Y2 y2=>?_;refine chS 1 ?_;simp only[go_sem];simp only[↓bO,go_sem,seval];refine y2 _ ?_;(try clear y2 Y2);refine zak rfl (fun hb5=>?_) (fun hb5=>?_)
  ·
   (have hk:0<s.1:=by (have h9:=hb5;simp at h9;omega));have hst:=digN_step hk;have hdl:=digN_le hn;(have hw1:IntKind.i64.wrap (Int.tdiv (s.1:Int) 2)=((s.1 / 2:Nat):Int):=by rw[show Int.tdiv (s.1:Int) 2=((s.1 / 2:Nat):Int) from rfl];exact zaM tz1 tz1);have hw2:IntKind.i64.wrap ((s.2:Int)+1)=(s.2:Int)+1:=zaM tz1 tz1;refine zaq ?_;(try simp only[zag,zaf,zae]);refine y1 _ ?_;(try clear y1 Y1);refine zap ?_;refine sqR fun Y1 y1=>?_;(iterate 2 (refine zad 1 fun Q0 q0=>?_;simp only[↓bO,go_sem,seval,hw1,hw2,za,ne_eq,Int.reduceEq,not_false_eq_true];refine q0 _ ?_;clear q0 Q0;simp only[go_sem]));simp only[↓bO,go_sem,seval,hw1,hw2,za,ne_eq,Int.reduceEq,not_false_eq_true];refine y1 _ ?_;(try clear y1 Y1);refine zaj ?_;(iterate 2 (refine zad 1 fun Q0 q0=>?_;simp only[↓bO,go_sem,seval,hw1,hw2,za,ne_eq,Int.reduceEq,not_false_eq_true];refine q0 _ ?_;clear q0 Q0;simp only[go_sem]));simp only[↓bO,go_sem,seval,hw1,hw2,za,ne_eq,Int.reduceEq,not_false_eq_true];refine ⟨(s.1 / 2,s.2+1),⟨by simp only;omega,by simp only;rw[hs.2,hst];omega⟩,tz5,?_⟩;simp only[zat,zau,zam,zay,mB,zc,zb,seval,hw1,hw2,za,zC,ne_eq,Int.reduceEq,not_false_eq_true];exact zbj
  (have hk:s.1=0:=by (have h9:=hb5;simp at h9;omega));(have hres:ziM n=s.2:=by (have h9:=hs.2;rw[hk] at h9;rw[h9];simp[ziM]));refine zaK ?_;simp only[zag,zaf,zae,bA,Nat.reduceEqDiff,↓reduceIte];refine y0 _ ?_;(try clear y0 Y0);refine sqR fun Y0 y0=>?_;refine chS 1 ?_;simp only[go_sem];simp only[↓bO,go_sem,seval];refine y0 _ ?_;(try clear y0 Y0);refine zal ?_;(try simp only[zag,zaf,zae,zaY,zaV,zaD,bS,bA]);rw[hres];exact Le.refl _
theorem zhf (es:List EqT):APure Tryz.prog 5 [.sl 8 (es.map EqT.cells)] (.v (.bool true)):=by
  refine APure.mkL (.cons (EqT.dataSl es) .nil) (.v _) ?_;refine zai Tryz.func5 tz0 rfl (by rw[Tryz.ntmps5];simp) (fun hm=>?_);simp only[Tryz.ntmps5,Tryz.results5,zh,zk,Nat.reduceAdd,Nat.reduceSub,zt,zu,zi,zj];refine sqR fun Y0 y0=>?_;simp only[↓bO,go_sem,seval];refine y0 _ ?_;(try clear y0 Y0);refine zah fun Y0 y0=>?_;refine sqR fun Y1 y1=>?_;refine chS 1 ?_;simp only[go_sem];simp only[↓bO,go_sem,seval];refine APure.call (zhQ es) ?_;(try simp only[bS,bA,zag,zaf,zae]);refine y1 _ ?_;(try clear y1 Y1);refine zak rfl (fun hb8=>?_) (fun hb8=>?_)
  ·
   refine sqR fun Y1 y1=>?_;refine zad 1 fun Q0 q0=>?_;simp only[↓bO,go_sem,seval];refine APure.call (zeR) ?_;(try simp only[bS,bA,zag,zaf,zae]);refine q0 _ ?_;clear q0 Q0;simp only[go_sem];simp only[↓bO,go_sem,seval];refine y1 _ ?_;(try clear y1 Y1);refine zal ?_;(try simp only[zag,zaf,zae,zaY,zaV,zaD,bS,bA]);exact Le.refl _
  have hg:zcO (es.map EqT.p)=false:=hb8;have hgl:=zcd hg;rw[zO] at hgl;refine zaq ?_;(try simp only[zag,zaf,zae]);refine y0 _ ?_;(try clear y0 Y0);refine sqR fun Y0 y0=>?_;simp only[↓bO,go_sem,seval];refine y0 _ ?_;(try clear y0 Y0);refine zah fun Y0 y0=>?_;refine sqR fun Y1 y1=>?_;simp only[↓bO,go_sem,seval];refine y1 _ ?_;(try clear y1 Y1);refine zap ?_;refine zaJ (σ:=Nat) (mB 63 25) (fun s=>s≤es.length) (fun s=>[(3,.v (.int .i64 ((1+(zbW ((es.map EqT.p).take s)):Nat):Int))),(4,.v (.int .i64 (s:Int)))]) (fun s=>[]) (fun s=>es.length-s) 0 tz1 ?_ (fun s hs=>?_)
  ·
   simp only[zat,zau,zam,zay,mB,zc,zb,seval,bL,zbW,zC];exact zbj
  simp only[zat,zau,zam,zay,mB,zc,zb,seval];refine zah fun Y1 y1=>?_;refine sqR fun Y2 y2=>?_;(iterate 3 (refine chS 1 ?_;simp only[go_sem]));simp only[↓bO,go_sem,seval];refine y2 _ ?_;(try clear y2 Y2);refine zak rfl (fun hb13=>?_) (fun hb13=>?_)
  ·
   (have hk:s<es.length:=by simpa using hb13);obtain ⟨e,he⟩:∃e,es[s]?=some e:=⟨_,ze hk⟩;(have hep:(es.map EqT.p)[s]?=some e.p:=by rw[zY,he];rfl);have hss:=zhD hep;simp only[EqT.p] at hss;have hst:=zc2 (es.map EqT.p) (s+1);have hsz1:=Ty.sizeW_cnt e.l tz1;have hsz2:=Ty.sizeW_cnt e.r tz1;have hw:IntKind.i64.wrap ((s:Int)+1)=(s:Int)+1:=zaM tz1 tz1;have hw2:IntKind.i64.wrap (((1+(zbW ((es.map EqT.p).take s)):Nat):Int)+(e.l.cnt:Int))=((1+(zbW ((es.map EqT.p).take s)):Nat):Int)+(e.l.cnt:Int):=zaM tz1 tz1;(have hw3:IntKind.i64.wrap (((1+(zbW ((es.map EqT.p).take s)):Nat):Int)+(e.l.cnt:Int)+(e.r.cnt:Int))=((1+zbW ((es.map EqT.p).take (s+1)):Nat):Int):=by (rw[zaM tz1 tz1];omega));refine zaq ?_;(try simp only[zag,zaf,zae]);refine y1 _ ?_;(try clear y1 Y1);refine zah fun Y1 y1=>?_;refine zap ?_;refine za2 15 mixed tz0 fun J0 j0=>?_;(iterate 6 (simp only[go_sem];refine zaw 1 fun Q0 q0=>?_;simp only[↓za1,↓dOp,↓bO,go_sem,seval,hk,gM he,EqT.cells,Ty.refold,hw,hsz1,hsz2,hw2,hw3];refine q0 _ ?_;clear q0 Q0));simp only[go_sem];refine zaw 1 fun Q0 q0=>?_;simp only[↓za1,↓dOp,↓bO,go_sem,seval,hk,gM he,EqT.cells,Ty.refold,hw,hsz1,hsz2,hw2,hw3];refine ⟨_,zej e.l,?_⟩;(try simp only[bS,bA,zag,zaf,zae]);(iterate 7 (refine q0 _ ?_;clear q0 Q0;simp only[go_sem];refine zaw 1 fun Q0 q0=>?_;simp only[↓za1,↓dOp,↓bO,go_sem,seval,hk,gM he,EqT.cells,Ty.refold,hw,hsz1,hsz2,hw2,hw3]));refine ⟨_,zej e.r,?_⟩;(try simp only[bS,bA,zag,zaf,zae]);refine q0 _ ?_;clear q0 Q0;simp only[go_sem];simp only[↓za1,↓dOp,↓bO,go_sem,seval,hk,gM he,EqT.cells,Ty.refold,hw,hsz1,hsz2,hw2,hw3];refine j0 _ ?_;clear j0 J0;simp only[go_sem];simp only[↓bO,go_sem,seval,hk,gM he,EqT.cells,Ty.refold,hw,hsz1,hsz2,hw2,hw3];refine y1 _ ?_;(try clear y1 Y1);refine zaj ?_;(iterate 2 (refine zad 1 fun Q0 q0=>?_;simp only[↓bO,go_sem,seval,hk,gM he,EqT.cells,Ty.refold,hw,hsz1,hsz2,hw2,hw3];refine q0 _ ?_;clear q0 Q0;simp only[go_sem]));simp only[↓bO,go_sem,seval,hk,gM he,EqT.cells,Ty.refold,hw,hsz1,hsz2,hw2,hw3];refine ⟨(s+1),tz1,by omega,?_⟩;(try simp only[zat,zau,zam,zay,mB,zc,zb,seval]);refine Weak.mk ?_ (fun _ _ h=>h) rfl rfl;simp only[go_sem,Le.refl,Le.any];exact Le.of_eq (by rw[za,zC])
  (have hk:s=es.length:=by simp at hb13;omega);obtain ⟨n9,hn9⟩:∃n:Nat,n=1+zbW (es.map EqT.p):=⟨_,rfl⟩;(have hsE:((1+(zbW ((es.map EqT.p).take s)):Nat):Int)=(n9:Int):=by rw[hk,List.take_of_length_le tz4,hn9]);rw[hsE];have hd9:=digN_le (n:=n9) tz1;obtain ⟨hp1,hp2,hp3⟩:=prod_ok14 (a:=(n9:Int)) (d:=(ziM n9:Int)) tz1 tz1 tz1 tz1;have hm1:IntKind.i64.wrap (100 * (n9:Int))=100 * (n9:Int):=zaM tz1 tz1;have hm2:IntKind.i64.wrap ((ziM n9:Int)+2)=(ziM n9:Int)+2:=zaM tz1 tz1;have hm3:IntKind.i64.wrap (100 * (n9:Int) * ((ziM n9:Int)+2))=100 * (n9:Int) * ((ziM n9:Int)+2):=zaM tz1 tz1;refine zaK ?_;simp only[zag,zaf,zae,bA,Nat.reduceEqDiff,↓reduceIte];refine y0 _ ?_;(try clear y0 Y0);refine sqR fun Y0 y0=>?_;refine zad 1 fun Q0 q0=>?_;simp only[↓bO,go_sem,seval,hm1,hm2,hm3];refine q0 _ ?_;clear q0 Q0;simp only[go_sem];refine zad 1 fun Q0 q0=>?_;simp only[↓bO,go_sem,seval,hm1,hm2,hm3];refine DCalls.at (CountA_c es hg) (.cons (EqT.dataSl _) .nil) (fun _=>.tup (.cons (.v _) (.cons (.v _) .nil))) (fun s1 hC=>?_);(try simp only[bS,bA,zag,zaf,zae]);(iterate 4 (refine q0 _ ?_;clear q0 Q0;simp only[go_sem];refine zad 1 fun Q0 q0=>?_;simp only[↓bO,go_sem,seval,hm1,hm2,hm3]));refine q0 _ ?_;clear q0 Q0;simp only[go_sem];simp only[↓bO,go_sem,seval,hm1,hm2,hm3];refine y0 _ ?_;(try clear y0 Y0);refine sqR fun Y0 y0=>?_;(iterate 2 (refine zad 1 fun Q0 q0=>?_;simp only[↓bO,go_sem,seval,hm1,hm2,hm3];refine q0 _ ?_;clear q0 Q0;simp only[go_sem]));refine zad 1 fun Q0 q0=>?_;simp only[↓bO,go_sem,seval,hm1,hm2,hm3];refine DCalls.at (sat_c es hg) (.cons (EqT.dataSl _) .nil) (fun _=>.v _) (fun z hz=>?_);have hz1:=hC.sat hz;(try simp only[bS,bA,zag,zaf,zae]);(iterate 2 (refine q0 _ ?_;clear q0 Q0;simp only[go_sem];refine zad 1 fun Q0 q0=>?_;simp only[↓bO,go_sem,seval,hm1,hm2,hm3]));refine q0 _ ?_;clear q0 Q0;simp only[go_sem];refine zaG 40 rfl (fun hc40=>?_) (fun hc40=>?_)
  ·
   simp only[zc,zb];refine zad 1 fun Q0 q0=>?_;simp only[↓bO,go_sem,seval,hm1,hm2,hm3];refine q0 _ ?_;clear q0 Q0;simp only[go_sem];refine zad 1 fun Q0 q0=>?_;simp only[↓bO,go_sem,seval,hm1,hm2,hm3];refine DCalls.at (SatA_c es hg) (.cons (EqT.dataSl _) .nil) (fun _=>.v _) (fun y hy=>?_);have hy1:=hC.same hy;(try simp only[bS,bA,zag,zaf,zae]);(iterate 4 (refine q0 _ ?_;clear q0 Q0;simp only[go_sem];refine zad 1 fun Q0 q0=>?_;simp only[↓bO,go_sem,seval,hm1,hm2,hm3]));refine q0 _ ?_;clear q0 Q0;simp only[go_sem];refine zaG 46 rfl (fun hc46=>?_) (fun hc46=>?_)
   ·
    simp only[zc,zb];(iterate 4 (refine zad 1 fun Q0 q0=>?_;simp only[↓bO,go_sem,seval,hm1,hm2,hm3];refine q0 _ ?_;clear q0 Q0;simp only[go_sem]));refine zaG 50 rfl (fun hc50=>?_) (fun hc50=>?_)
    ·
     simp only[zc,zb];(iterate 4 (refine zad 1 fun Q0 q0=>?_;simp only[↓bO,go_sem,seval,hm1,hm2,hm3];refine q0 _ ?_;clear q0 Q0;simp only[go_sem]));refine zad 1 fun Q0 q0=>?_;simp only[↓bO,go_sem,seval,hm1,hm2,hm3];refine APure.call (zgS n9 tz1) ?_;(try simp only[bS,bA,zag,zaf,zae]);(iterate 5 (refine q0 _ ?_;clear q0 Q0;simp only[go_sem];refine zad 1 fun Q0 q0=>?_;simp only[↓bO,go_sem,seval,hm1,hm2,hm3]));refine q0 _ ?_;clear q0 Q0;simp only[go_sem];refine zaG 60 rfl (fun hc60=>?_) (fun hc60=>?_)
     ·
      simp only[zc,zb];refine zad 1 fun Q0 q0=>?_;simp only[↓bO,go_sem,seval,hm1,hm2,hm3];refine APure.call (zeR) ?_;(try simp only[bS,bA,zag,zaf,zae]);refine q0 _ ?_;clear q0 Q0;simp only[go_sem];refine zad 1 fun Q0 q0=>?_;simp only[↓bO,go_sem,seval,hm1,hm2,hm3];refine q0 _ ?_;clear q0 Q0;simp only[go_sem];simp only[↓bO,go_sem,seval,hm1,hm2,hm3];refine y0 _ ?_;(try clear y0 Y0);refine zal ?_;(try simp only[zag,zaf,zae,zaY,zaV,zaD,bS,bA]);exact Le.refl _
     simp only[zc,zb];exact absurd hc60 (by (have h9:=hC.low hg;simp only[zl,zn];omega))
    simp only[zc,zb];exact absurd hc50 (by (have h9:=hC.low hg;simp;omega))
   simp only[zc,zb];exact absurd hc46 (by rw[hy1];simp)
  simp only[zc,zb];exact absurd hc40 (by rw[hz1];simp)
end Go.Proofs.YtpfiliamceimmaaGreatDoor
namespace Go.Proofs.YtpfiliamceimmaaGreatDoor.solveSat
open Go Go.ChangeShapes Go.WideShapes Go.ChangeAt Go.RowKit
theorem own:ownKnob Tryz.prog.godebug=none:=by kernel_rfl
theorem laidOut:laidOutB Tryz.prog=true:=by kernel_rfl
theorem cT:Tryz.prog.cellsOf 28=3:=by kernel_rfl
theorem cI:Tryz.prog.cellsOf 3=1:=by kernel_rfl
theorem cS:Tryz.prog.cellsOf 26=1:=by kernel_rfl
section
variable {H:Type} {enc:TypeId×Value→H} {w:World} {base:Nat} {spare:Nat→Bool} {held:Bool}
theorem rdT (fuel:Nat):Rd enc Tryz.prog w base spare held Env.none fuel 28 Ty.cells :=
  rd_ty Tryz.underlying28 cT rfl rfl rfl rfl rfl rfl Tryz.underlying3 cI Tryz.underlying26 cS fuel
theorem rdS (fuel:Nat):Rd enc Tryz.prog w base spare held Env.none fuel 26 (fun xs:List Ty=>[.sl 3 (xs.map Ty.cells)]) :=
  zhp Tryz.underlying26 cT tz1 Ty.cells_len fun n _=>rdT n
theorem cP:Tryz.prog.cellsOf 30=2:=by kernel_rfl
theorem cE:Tryz.prog.cellsOf 32=8:=by kernel_rfl
theorem rdE (fuel:Nat):Rd enc Tryz.prog w base spare held Env.none fuel 32 EqT.cells :=
  rd_eq Tryz.underlying32 cE cT cP rfl rfl rfl rfl rfl rfl rdT (fun n=>rd_two Tryz.underlying30 cP rfl rfl rfl rfl Tryz.underlying3 cI n) fuel
theorem rdEs (fuel:Nat):Rd enc Tryz.prog w base spare held Env.none fuel 22 (fun xs:List EqT=>[.sl 8 (xs.map EqT.cells)]) :=
  zhp Tryz.underlying22 cE tz1 (fun _=>rfl) fun n _=>rdE n
end
set_option maxRecDepth 100000 in
theorem lifted (os:Go.Os) (started:os.Started) (H:Type) (enc:TypeId×Value→H) :
    ReturnsInHanded {} Tryz.checked os 5 .any (fun w args=>(Rows.solveSatSpec.pre enc Tryz.prog Tryz.f5 Rows.solveSatRow.domain false w args∧laidMetH Tryz.prog Rows.solveSatRow.laid w)∧sizedMet enc Tryz.prog Tryz.f5 (OpenSpec.ofChange Rows.solveSatSpec) false w args)
      (Rows.solveSatSpec.post enc Tryz.prog Tryz.f5 false true false false):=by
  refine returnsInHanded_of_change_and (C:=Tryz.checked) (X:=fun w _=>laidMetH Tryz.prog Rows.solveSatRow.laid w) (fun _ _ _ hh h=>h.of_heap hh) own started tz0 Tryz.func5
    (ChangeSpec.witness_shaped (enc:=enc) (C:=Tryz.checked) (os:=os) (X:=fun w _=>laidMetH Tryz.prog Rows.solveSatRow.laid w) false (World.laidAll Tryz.prog os Rows.solveSatRow.laid) #[.slice none 0 0] 8 (World.laidAll_os _ _ _)
      (World.shaped_of_ZipB tz0 tz0) tz0 tz0 tz0
      (by rw[MakeChecks.laidMetH_plain _ _ _ tz0];exact laidMet_laidAll _ tz0 tz0)) ?_
  intro W base args ds gs before hval0 hW hcnd _ hL _;have hval:∀(j:Nat) t v,Tryz.f5.params[j]?=some t→args[j]?=some v→Value.okWide Tryz.prog W .any base t v:=hval0;have hW':=hW;obtain ⟨p,q,hA0,hV,rfl,hfz,hnd⟩:=hW;have hA:DataW.TrodAll enc Tryz.prog W 0 (fun _=>true) true Tryz.f5.params.toList args.toList ds p:=hA0;rw[Tryz.params5] at hA hval;obtain ⟨v0,vs0,d0,ds0,p0,q0,hargs,rfl,rfl,h0,r0⟩:=trodAll_cons hA;obtain ⟨rfl,rfl,rfl⟩:=trodAll_nil r0;(obtain rfl:args=#[v0]:=by cases args;simp_all);obtain ⟨rfl,rfl⟩:=trodVars_none hV;have k0:=h0;(have lt0:∀x∈p0,x.block<W.heap.size:=by obtain ⟨m,hm⟩:=k0;exact DataW.trod_lt m _ _ _ hm);obtain ⟨b0,len0,cap0,rfl⟩:=okWide_slice Tryz.underlying22 (hval 0 22 v0 rfl rfl)
  obtain ⟨P0,hr0⟩:∃P:List EqT,Rp Env.none (fun _ _=>False) W (.sl 8 (P.map EqT.cells)) (.slice b0 len0 cap0):=by
    obtain ⟨m,hm⟩:=h0;obtain ⟨P,_,hr⟩:=rdEs m _ _ hm;exact ⟨P,hr 0 _ _ rfl rfl⟩
  clear hA0 hval0;refine ((zhf P0).calls (w:=W) rfl ?_).mono fun e W' ⟨he,bel⟩=>?_
  · intro i c u hc hu
    match i with
    | 0=>simp at hc hu;subst hc;subst hu;exact hr0
    | i+1=>simp at hc
  subst he;exact ⟨_,rfl,_,_,_,[],_,[],hW',trodAll_mk1 (shut_bool Tryz.underlying4 _),(trodAll_cons_mk (Below.trod laidOut tz0 (of_decide_eq_true tz0) k0 bel lt0) trodAll_mk0),rfl,bel.frame _,fun h=>by cases h⟩
theorem over:Rows.solveSatRow.holds Tryz.pinned (OpenSpec.ofChange Rows.solveSatSpec) :=
  OpenClaim.holds_of_wide 5 Tryz.f5 rfl rfl rfl rfl rfl rfl rfl ⟨rfl,rfl,rfl,rfl,rfl⟩ rfl rfl rfl rfl rfl tz0 Tryz.func5 tz0
    (of_decide_eq_true tz0) (by unfold Func.isWrapper;first | (rw[if_pos (by decide +kernel)];kernel_rfl) | (rw[if_neg (by decide +kernel)];exact ⟨rfl,rfl⟩))
    (fun os started H enc _=>lifted os started H enc)
end Go.Proofs.YtpfiliamceimmaaGreatDoor.solveSat
namespace Go.Proofs.YtpfiliamceimmaaGreatDoor
theorem solveSat_proved : Rows.SolveSatCardSaid :=
  Claim7.holds_tied_plain_at .later [] _ _ _ _ solveSat.over (fun _ h=>by cases h) tz0 (fun _ h=>by cases h) solveSat_row_tie rfl ⟨rfl,rfl⟩ tz0 rfl
    (fun f fn hf hfn=>by
      obtain rfl:f=5:=Option.some.inj ((show Tryz.prog.funcNamed "pangram/pangramlaw14.SolveSat"=some 5 by kernel_rfl).symm.trans hf) |>.symm;obtain rfl:fn=Tryz.f5:=(Option.some.inj (Tryz.func5.symm.trans hfn)).symm;refine ⟨by kernel_rfl,fun j t ht=>?_⟩;rw[Tryz.params5] at ht;(have hm:t∈[22]:=by simpa using Array.mem_of_getElem? ht);(have hall:([22].all fun u=>!Tryz.prog.wantsStandIn u)=true:=by kernel_rfl);have:=z8.1 hall t hm;have h9:Tryz.prog.wantsStandIn t=false:=by simpa using this
      exact h9)
    tz0
#print axioms solveSat_proved
end Go.Proofs.YtpfiliamceimmaaGreatDoor
