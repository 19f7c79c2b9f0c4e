/- Texts of the abstract walk, of the contracts and of the plain laws, packed (part 41 of 50): Un9. Conditions: none. -/
import Derived.Test.YtjjjckjebkmnjaaGreatPk40
set_option linter.unusedVariables false
set_option linter.unusedSimpArgs false
set_option maxRecDepth 100000
set_option maxHeartbeats 4000000
namespace Go.Proofs.YtjjjckjebkmnjaaGreat
open Go Go.RowKit
attribute [local irreducible] aops zaV
theorem vGet (V:List (Int×Int)) (n:Int):((za3 V n).map fun i=>AV.v (.int .i64 i)).getD (.v (.int .i64 0))=.v (.int .i64 ((za3 V n).getD 0)):=by cases za3 V n <;> rfl
theorem vIs (V:List (Int×Int)) (n:Int):((za3 V n).map fun i=>AV.v (.int .i64 i)).isSome=(za3 V n).isSome:=by cases za3 V n <;> rfl
def zhY (S:CS) (n:Int):Int×Bool:=if S.clash=true then (0,false) else ((za3 S.G.V n).getD 0,(za3 S.G.V n).isSome)
theorem nodeG_of {S:CS} {n k:Int} (h:S.clash=false) (hv:za3 S.G.V n=some k):zhY S n=(k,true):=by
  unfold zhY;rw[h,hv];rfl
theorem ziu (G:GS) (n:Int):GCalls 88 [.ptr 0 0,.v (.int .i64 n)] (G.N) (G.V) (.tup [.v (.int .i64 ((za3 G.V n).getD 0)),.v (.bool (za3 G.V n).isSome)]) (G.N) (G.V):=by
  refine ACalls.clean (C:=fun r os=>r=_∧os=_) ?_;refine zaj Tryz.func88 (by kernel_rfl) rfl (by rw[Tryz.ntmps88];simp) (fun hm=>?_);simp only[Tryz.ntmps88,Tryz.results88,zh,zm,Nat.reduceAdd,Nat.reduceSub,zu,zw,zi,zj];simp only[zce,zar,Nat.reduceAdd];refine zad fun Y0 y0=>?_;refine zac ?_;refine zab 1 fun Q0 q0=>?_;simp only[↓bO,go_sem,seval,zaz,vGet,vIs];refine q0 _ ?_;clear q0 Q0;simp only[go_sem];simp only[↓bO,go_sem,seval,zaz,vGet,vIs];refine y0 _ ?_;(try clear y0 Y0);refine zad fun Y0 y0=>?_;refine zad fun Y1 y1=>?_;refine zac ?_;refine zab 1 fun Q0 q0=>?_;simp only[↓bO,go_sem,seval,zaz,vGet,vIs];refine q0 _ ?_;clear q0 Q0;simp only[go_sem];simp only[↓bO,go_sem,seval,zaz,vGet,vIs];refine y1 _ ?_;(try clear y1 Y1);refine zak rfl (fun hb9=>?_) (fun hb9=>?_)
  ·
   cases hb9
  ·
   refine zap ?_;(try simp only[zah,zaf,zae]);refine y0 _ ?_;(try clear y0 Y0);refine zad fun Y0 y0=>?_;refine zac ?_;(iterate 10 (refine zab 1 fun Q0 q0=>?_;simp only[↓bO,go_sem,seval,zaz,vGet,vIs];refine q0 _ ?_;clear q0 Q0;simp only[go_sem]));simp only[↓bO,go_sem,seval,zaz,vGet,vIs];refine y0 _ ?_;(try clear y0 Y0);refine zad fun Y0 y0=>?_;refine zac ?_;(iterate 3 (refine zab 1 fun Q0 q0=>?_;simp only[↓bO,go_sem,seval,zaz,vGet,vIs];refine q0 _ ?_;clear q0 Q0;simp only[go_sem]));simp only[↓bO,go_sem,seval,zaz,vGet,vIs];refine y0 _ ?_;(try clear y0 Y0);refine zaq ?_;(try simp only[zah,zaf,zae,za1,zaZ,zaE,bS,bA]);refine ⟨_,zar 0 (zce (G.N) (G.V)),⟨rfl,rfl⟩,.tup ⟨.v _ _,.v _ _,trivial⟩,zgR (by omega) _ _,?_,?_,by omega⟩
   ·
    refine Le.of_eq ?_;rfl
   · first | (refine ⟨0,?_,rfl⟩;first | rfl | (simp only[zce,zar,zt,zy,zp,zL,z7,zd,zh,zm,GNode.cells,zW,Nat.reduceAdd,zN];done))
theorem node_c (S:CS) (n:Int):CCalls (σ:=Int×Bool) 77 [.ptr 0 0,.v (.int .i64 n)] (S) (fun s=>s.1=S∧s.2=zhY S n) (fun s=>.tup [.v (.int .i64 s.1),.v (.bool s.2)]):=by
  refine ACalls.clean (C:=fun r os=>∃s:CS×Int×Bool,(s.1=S∧s.2=zhY S n)∧r=(fun s:Int×Bool=>.tup [.v (.int .i64 s.1),.v (.bool s.2)]) s.2∧os=zar 0 (zaN s.1)) ?_;refine zaj Tryz.func77 (by kernel_rfl) rfl (by rw[Tryz.ntmps77];simp) (fun hm=>?_);simp only[Tryz.ntmps77,Tryz.results77,zh,zm,Nat.reduceAdd,Nat.reduceSub,zu,zw,zi,zj];simp only[zaN,zar,Nat.reduceAdd];refine zad fun Y0 y0=>?_;refine zac ?_;simp only[↓bO,go_sem,seval];refine y0 _ ?_;(try clear y0 Y0);refine zad fun Y0 y0=>?_;refine zad fun Y1 y1=>?_;refine zac ?_;refine zab 1 fun Q0 q0=>?_;simp only[↓bO,go_sem,seval];refine q0 _ ?_;clear q0 Q0;simp only[go_sem];refine zab 1 fun Q0 q0=>?_;simp only[↓bO,go_sem,seval];refine CCalls.at (Err_c S) (.nil) (fun _=>.v _) (i0:=0) (i1:=1) (i2:=2) (i3:=3) (i4:=4) (i5:=5) (i6:=6) (i7:=7) (by decide) (by simp) ⟨rfl,rfl,rfl,rfl,rfl,rfl,rfl,rfl,trivial⟩ (fun Z9 u9 hZ9=>?_);(try dsimp only at hZ9);simp only[zaX,zB,zF,zD,zan,zaA,Nat.reduceEqDiff,↓reduceIte];obtain rfl:S=Z9:=hZ9.symm;(try simp only[bS,bA,zah,zaf,zae]);refine q0 _ ?_;clear q0 Q0;simp only[go_sem];simp only[↓bO,go_sem,seval];refine y1 _ ?_;(try clear y1 Y1);refine zak rfl (fun hb8=>?_) (fun hb8=>?_)
  ·
   (have hcs:S.clash=true:=by (have h9:=hb8;cases hc:S.clash <;> simp[hc] at h9 ⊢));refine zad fun Y1 y1=>?_;refine zac ?_;simp only[↓bO,go_sem,seval];refine y1 _ ?_;(try clear y1 Y1);refine zaq ?_;(try simp only[zah,zaf,zae,za1,zaZ,zaE,bS,bA]);refine ⟨_,zar 0 (zaN (S)),⟨(S,(0,false)),?_,rfl,rfl⟩,.tup ⟨.v _ _,.v _ _,trivial⟩,zdo (by omega) _,?_,?_,by omega⟩;· exact ⟨rfl,by rw[zhY,hcs];rfl⟩
   ·
    exact Le.refl _
   · first | (refine ⟨0,rfl,rfl⟩) | (refine ⟨0,by simp only[zaN,zar,zy,zt,Nat.reduceAdd],rfl⟩)
  ·
   (have hcs:S.clash=false:=by (have h9:=hb8;cases hc:S.clash <;> simp[hc] at h9 ⊢));refine zap ?_;(try simp only[zah,zaf,zae]);refine y0 _ ?_;(try clear y0 Y0);refine zad fun Y0 y0=>?_;refine zac ?_;refine zab 4 fun Q0 q0=>?_;(iterate 2 (simp only[↓bO,go_sem,seval];refine q0 _ ?_;clear q0 Q0;simp only[go_sem];refine zab 1 fun Q0 q0=>?_));simp only[↓bO,go_sem,seval];refine GCalls.at (ziu S.G n) (.cons (.v _) .nil) (.tup (.cons (.v _) (.cons (.v _) .nil))) (i:=1) (j:=2) (k:=3) rfl rfl rfl (by decide) (by decide) (by decide) (by first | omega | (simp only;omega)) (by first | omega | (simp only;omega)) (by first | omega | (simp only;omega)) ?_;simp only[zaA,Nat.reduceEqDiff,↓reduceIte];(try simp only[bS,bA,zah,zaf,zae]);refine q0 _ ?_;clear q0 Q0;simp only[go_sem];simp only[↓bO,go_sem,seval];refine y0 _ ?_;(try clear y0 Y0);refine zaq ?_;(try simp only[zah,zaf,zae,za1,zaZ,zaE,bS,bA]);refine ⟨_,zar 0 (zaN (S)),⟨(S,((za3 S.G.V n).getD 0,(za3 S.G.V n).isSome)),?_,rfl,rfl⟩,.tup ⟨.v _ _,.v _ _,trivial⟩,zdo (by omega) _,?_,?_,by omega⟩;· exact ⟨rfl,by rw[zhY,hcs];rfl⟩
   ·
    exact Le.refl _
   · first | (refine ⟨0,rfl,rfl⟩) | (refine ⟨0,by simp only[zaN,zar,zy,zt,Nat.reduceAdd],rfl⟩)
theorem PKind_c (S:CS) (hw:∀w∈S.W,w=-1∨(0≤w∧w<(S.G.N.length:Int))) (r:Nat) (x:Int) (hx:S.W[r]?=some x):ACalls Tryz.prog 78 [.agg [.ptr 0 0,.v (.int .i64 (r:Int))]] (zar 0 (zaN S)) 8 fun z os n=>(∃s:CS×Int,(s.1=S∧((x<0∧s.2=0)∨(0≤x∧∃g,S.G.N[x.toNat]?=some g∧s.2=g.k)))∧z=(fun s:Int=>.v (.int .i64 s)) s.2∧os=zar 0 (zaN s.1))∧n=8:=by
  refine ACalls.clean (C:=fun z os=>∃s:CS×Int,(s.1=S∧((x<0∧s.2=0)∨(0≤x∧∃g,S.G.N[x.toNat]?=some g∧s.2=g.k)))∧z=(fun s:Int=>.v (.int .i64 s)) s.2∧os=zar 0 (zaN s.1)) ?_;refine zaj Tryz.func78 (by kernel_rfl) rfl (by rw[Tryz.ntmps78];simp) (fun hm=>?_);simp only[Tryz.ntmps78,Tryz.results78,zh,zm,Nat.reduceAdd,Nat.reduceSub,zu,zw,zi,zj];simp only[zaN,zar,Nat.reduceAdd];have hrl:=(zf.1 hx).1;have hwx:=hw x (zn hx);refine zad fun Y0 y0=>?_;refine zac ?_;refine zab 1 fun Q0 q0=>?_;simp only[↓bO,go_sem,seval,hrl,gM hx,intC];refine q0 _ ?_;clear q0 Q0;simp only[go_sem];simp only[↓bO,go_sem,seval,hrl,gM hx,intC];refine y0 _ ?_;(try clear y0 Y0);refine zad fun Y0 y0=>?_;refine zad fun Y1 y1=>?_;refine zaU 15 mixed (by kernel_rfl) fun J0 j0=>?_;(iterate 4 (simp only[go_sem];refine zaw 1 fun Q0 q0=>?_;simp only[↓zaV,↓dOp,↓bO,go_sem,seval,hrl,gM hx,intC];refine q0 _ ?_;clear q0 Q0));simp only[go_sem];refine zbp 6 rfl (fun hc6=>?_) (fun hc6=>?_)
  ·
   simp only[zc,zb];cases hc6
  ·
   simp only[zc,zb];(iterate 10 (refine zaw 1 fun Q0 q0=>?_;simp only[↓zaV,↓dOp,↓bO,go_sem,seval,hrl,gM hx,intC];refine q0 _ ?_;clear q0 Q0;simp only[go_sem]));simp only[↓zaV,↓dOp,↓bO,go_sem,seval,hrl,gM hx,intC];refine j0 _ ?_;clear j0 J0;simp only[bL,aops,zah,zaf,zae];refine y1 _ ?_;(try clear y1 Y1);refine zak rfl (fun hb17=>?_) (fun hb17=>?_)
   ·
    (have hneg:x<0:=by simpa using hb17);refine zad fun Y1 y1=>?_;refine zac ?_;simp only[↓bO,go_sem,seval,hrl,gM hx,intC];refine y1 _ ?_;(try clear y1 Y1);refine zaq ?_;(try simp only[zah,zaf,zae,za1,zaZ,zaE,bS,bA]);refine ⟨_,zar 0 (zaN (S)),⟨(S,(0:Int)),?_,rfl,rfl⟩,.v _ _,zdo (by omega) _,?_,?_,by omega⟩;· exact ⟨rfl,.inl ⟨hneg,rfl⟩⟩
    ·
     exact Le.refl _
    · first | (refine ⟨1,rfl,rfl⟩) | (refine ⟨0,rfl,rfl⟩) | (refine ⟨1,by simp only[zaN,zar,zy,zt,Nat.reduceAdd],rfl⟩) | (refine ⟨0,by simp only[zaN,zar,zy,zt,Nat.reduceAdd],rfl⟩)
   ·
    (have hpos:0≤x:=by simpa using hb17);obtain ⟨g,hg⟩:∃g,S.G.N[x.toNat]?=some g:=⟨_,ze (by omega)⟩;refine zap ?_;(try simp only[zah,zaf,zae]);refine y0 _ ?_;(try clear y0 Y0);refine zad fun Y0 y0=>?_;refine zaU 14 mixed (by kernel_rfl) fun J0 j0=>?_;(iterate 13 (simp only[go_sem];refine zaw 1 fun Q0 q0=>?_;simp only[↓zaV,↓dOp,↓bO,go_sem,seval,hrl,gM hx,intC];refine q0 _ ?_;clear q0 Q0));simp only[go_sem];simp only[↓zaV,↓dOp,↓bO,go_sem,seval,hrl,gM hx,intC];refine j0 _ ?_;clear j0 J0;simp only[go_sem];refine zab 1 fun Q0 q0=>?_;simp only[↓bO,go_sem,seval,hrl,gM hx,intC];refine GCalls.at (zc9 S.G x g hpos hg) (.cons (.v _) .nil) (.v _) (i:=1) (j:=2) (k:=3) rfl rfl rfl (by decide) (by decide) (by decide) (by first | omega | (simp only;omega)) (by first | omega | (simp only;omega)) (by first | omega | (simp only;omega)) ?_;simp only[zaA,Nat.reduceEqDiff,↓reduceIte];(try simp only[bS,bA,zah,zaf,zae]);refine q0 _ ?_;clear q0 Q0;simp only[go_sem];simp only[↓bO,go_sem,seval,hrl,gM hx,intC];refine y0 _ ?_;(try clear y0 Y0);refine zaq ?_;(try simp only[zah,zaf,zae,za1,zaZ,zaE,bS,bA]);refine ⟨_,zar 0 (zaN (S)),⟨(S,g.k),?_,rfl,rfl⟩,.v _ _,zdo (by omega) _,?_,?_,by omega⟩;· exact ⟨rfl,.inr ⟨hpos,g,hg,rfl⟩⟩
    ·
     exact Le.refl _
    · first | (refine ⟨1,rfl,rfl⟩) | (refine ⟨0,rfl,rfl⟩) | (refine ⟨1,by simp only[zaN,zar,zy,zt,Nat.reduceAdd],rfl⟩) | (refine ⟨0,by simp only[zaN,zar,zy,zt,Nat.reduceAdd],rfl⟩)
end Go.Proofs.YtjjjckjebkmnjaaGreat
