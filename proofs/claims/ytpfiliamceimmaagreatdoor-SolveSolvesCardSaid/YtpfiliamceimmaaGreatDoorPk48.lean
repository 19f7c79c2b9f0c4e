/- packed, part 48 of 48. Conditions: none. -/
import Derived.Test.YtpfiliamceimmaaGreatDoorPk47
import Derived.Test.YtpfiliamceimmaaGreatDoorCards
import Derived.Test.YtpfiliamceimmaaGreatDoorTie
import Derived.OpenShut
import Derived.ChangeOld
import Derived.Below
import Derived.LaidMore
import Derived.Lay
import Derived.SevenTiedAt
set_option linter.unusedVariables false
set_option linter.unusedSimpArgs false
set_option maxRecDepth 100000
set_option maxHeartbeats 4000000
namespace Go.Proofs.YtpfiliamceimmaaGreatDoor
open Go Go.RowKit
attribute [local irreducible] aops zaA
theorem zjA (v:Int):Le (.agg [.v (.int .i64 1),.v (.int .i64 v),.v (.slice none 0 0)]) (.agg (vTy v).cells):=.agg (by rw[Ty.cells_eq];exact ⟨.refl _,.refl _,Le.slNil 3,trivial⟩)
theorem zgm (v:Int):Data (.agg [.v (.int .i64 1),.v (.int .i64 v),.v (.slice none 0 0)]):=.agg (.cons (.v _) (.cons (.v _) (.cons (.v _) .nil)))
theorem zh1 (v:Int):(vTy v).cnt=1:=by simp[vTy,Ty.cnt_eq,Ty.ps,Ty.cntL]
def LeS1 (os os':Os) (n:Nat) (x y:AV):Prop:=Le x y\/∃id k e sz xs ys,x=.own id k/\y=.sl sz ys/\zav os id=some (.row e sz xs)/\k=xs.length/\zav os' id=none/\Und n (.sl sz xs)/\Le (.sl sz xs) (.sl sz ys)
def LeS (os os':Os) (n:Nat):List AV->List AV->Prop
 | [],[]=>True
 | x::xs,y::ys=>LeS1 os os' n x y/\LeS os os' n xs ys
 | _,_=>False
theorem LeS.mid {os os':Os} {n:Nat}:∀{l m:List AV},LeS os os' n l m->UndL n m->∃k,LeR os os' l k/\LeL k m/\UndL n k
 | [],[],_,_=>⟨[],trivial,trivial,trivial⟩
 | x::_,y::_,h,hu=>by
  obtain ⟨k,h1,h2,h3⟩:=LeS.mid h.2 hu.2;(rcases h.1 with h4 | ⟨id,m,e,sz,xs,ys,rfl,rfl,h5,h6,h7,h8,h9⟩);(·exact ⟨y::k,⟨.inl h4,h1⟩,⟨.refl _,h2⟩,⟨hu.1,h3⟩⟩);exact ⟨.sl sz xs::k,⟨.inr ⟨id,m,e,sz,xs,rfl,rfl,h5,h6,h7⟩,h1⟩,⟨h9,h2⟩,⟨h8,h3⟩⟩
theorem Weak.freezeS {st:St} {sl':List AV} {os':Os} {n:Nat} (h1:LeS st.os os' n st.sl sl') (ho:OsSub st.os os') (hn:n<=st.nx) (h0:st.n0<=n) (h6:UndL n sl') (h7:UndOs n os'):Weak st ⟨sl',os',n,st.n0⟩:=by
 obtain ⟨k,h2,h3,h4⟩:=h1.mid h6;exact Weak.trans (Weak.freezeR h2 ho hn h0 h4 h7) (Weak.mk h3 (fun _ _ h=>h) rfl rfl)
theorem zlR (σ:Int->Ty):zaB [] σ=[]:=rfl
theorem zlA (o:Int->Ty):za7 [] o=[]:=rfl
theorem clz18 {p:Prop} (h:p:=by repeat' first | exact trivial | exact .any _ | exact .v _ _ | exact Und.data (Bd.dataSl _) | exact Und.data (zap _) | exact Und.data (.eptr (Ty.data _)) | exact Und.data (.eptr (.cons (.v _) (.cons (.v _) (.cons (.v _) .nil)))) | exact .osl tz1 (.data (Bd.dataSl _)) | (refine ⟨?_,?_⟩)):p:=h
theorem clz19 {p:Prop} (h:p:=by repeat' first | exact trivial | (with_reducible omega) | (refine ⟨?_,?_⟩)):p:=h
theorem Told_pure (b:List Bd) (vs:List Int) (hvs:vs.length<=1048576) (hc1:∀v∈vs,((vTy v).sub b).cnt<=1099511627776):APure Tryz.prog 33 [.sl 4 (b.map Bd.cells),.sl 1 (vs.map intC)] (.sl 4 ((zaB vs (fun v=>((vTy v).sub b).sub (za7 vs (fun v=>(vTy v).sub b)))).map Bd.cells)):=by
  refine APure.mkL (.cons (Bd.dataSl b) (.cons (zap _) .nil)) ((Bd.dataSl _)) ?_;refine aIn Tryz.func33 fun hm=>?_;simp only[Tryz.ntmps33,Tryz.results33,go_sem,seval];have hw0:IntKind.i64.wrap ((vs.length:Int)-1)=(vs.length:Int)-1:=zal tz1 tz1;(iterate 2 (refine z6 fun _ w=>?_;apply z7;simp only[↓bO,go_sem,seval];apply w));refine z6 fun _ w=>?_;refine sqR fun _ j=>?_;(iterate 3 (refine chS 1 ?_));simp only[↓bO,go_sem,seval];apply j;apply zac;refine zai (σ:=Nat) (mB 70 99) (fun s=>s<=vs.length) (fun s=>[(5,.sl 4 ((za7 (vs.drop s) (fun v=>(vTy v).sub b)).map Bd.cells)),(6,.v (.int .i64 ((s:Int)-1)))]) (fun s=>[]) (fun s=>s) vs.length (zQ _) ?_ (fun s hs=>?_)
  ·
   simp only[go_sem,seval,List.drop_length,zlA,bL,hw0];exact clz6
  simp only[go_sem,seval];refine z6 fun _ j=>?_;refine sqR fun _ g=>?_;refine chS 1 ?_;simp only[↓bO,go_sem,seval];apply g;apply z8 rfl <;> intro hb16
  ·
   (have hk1:1<=s:=by (have h9:=hb16;simp at h9;omega));obtain ⟨k,rfl⟩:∃k,s=k+1:=⟨s-1,by omega⟩;rw[show (((k+1:Nat):Int)-1)=(k:Int) from by omega];(have hk:k<vs.length:=by omega);obtain ⟨v,hv⟩:∃v,vs[k]?=some v:=⟨_,za hk⟩;(have hdr:vs.drop k=v::vs.drop (k+1):=by (rw[List.drop_eq_getElem_cons hk];rw[za hk] at hv;cases hv;rfl));obtain ⟨T,hT⟩:∃T,T=(vTy v).sub b:=⟨_,rfl⟩;have hw:IntKind.i64.wrap ((k:Int)-1)=(k:Int)-1:=zal tz1 tz1;have hll:=zl9 (vs.drop (k+1)) (fun v=>(vTy v).sub b);rw[List.length_drop] at hll;(have hlq:(za7 (vs.drop (k+1)) (fun v=>(vTy v).sub b)).length<=1048576:=by omega);(have hb1:(1+(za7 (vs.drop (k+1)) (fun v=>(vTy v).sub b)).length) * 48<=140737488355328:=by omega);(have hb2:1+(za7 (vs.drop (k+1)) (fun v=>(vTy v).sub b)).length<=maxLen:=by (simp only[maxLen];omega));have hol:=Bd.oneL (za7 (vs.drop (k+1)) (fun v=>(vTy v).sub b));apply zaa;apply j;refine zaQ (mB 70 99) ([(5,.sl 4 ((za7 (vs.drop k) (fun v=>(vTy v).sub b)).map Bd.cells))]) [] 0 (True) ?_ (fun hC=>?_)
   ·
    apply zac;refine zaQ (mB 70 227) ([(7,.eptr T.cells)]) [] 0 (True) ?_ (fun hC=>?_)
    ·
     apply z7;(iterate 6 (refine chS 1 ?_ (by intro _ q;simp only[↓bO,go_sem,seval,hk,gM hv,intC];exact q)));refine zZ 1 fun _ u=>?_;simp only[↓bO,go_sem,seval];refine APure.call ((show APure Tryz.prog 34 [.sl 4 (b.map Bd.cells),.agg [.v (.int .i64 1),.v (.int .i64 v),.v (.slice none 0 0)]] (.agg T.cells) from by rw[hT];exact (zbo (vTy v) b (by rw[zh1];omega)).le ⟨.refl _,zjA _,trivial⟩ (.cons (Bd.dataSl _) (.cons (zgm _) .nil)))) ?_;apply u;clear u;refine chS 1 ?_;simp only[↓bO,go_sem,seval];(try simp only[go_sem,seval]);(first | refine ⟨trivial,?_⟩ | skip);refine Weak.freeze ?_ trivial tz2 tz2 ?_ ?_;(· exact zjz);(· exact clz18);exact clz19
    simp only[go_sem,seval];refine sqR fun _ j=>?_;(iterate 2 (refine chS 1 ?_));simp only[↓bO,go_sem,seval];apply j;apply z8 rfl <;> intro hb28
    ·
     (have hk9:T.k=1:=by (first | exact of_decide_eq_true hb28 | simpa using hb28));have hund:Und 0 (.sl 4 ([.v (.int .i64 T.n),.v (.int .i64 1),.v (.int .i64 v),.v (.slice none 0 0)]::(za7 (vs.drop (k+1)) (fun v=>(vTy v).sub b)).map Bd.cells)):=.data (.sl fun x hx=>by (rcases zE.1 hx with rfl | hx;exact .cons (.v _) (.cons (.v _) (.cons (.v _) (.cons (.v _) .nil)));obtain ⟨y,_,rfl⟩:=zq.1 hx;exact y.data));(have hle:Le (.sl 4 ([.v (.int .i64 T.n),.v (.int .i64 1),.v (.int .i64 v),.v (.slice none 0 0)]::(za7 (vs.drop (k+1)) (fun v=>(vTy v).sub b)).map Bd.cells)) (.sl 4 ((za7 (vs.drop k) (fun v=>(vTy v).sub b)).map Bd.cells)):=by (rw[hdr,zec,if_pos (by rw[<- hT];exact hk9),zt,Bd.cells_eq,<- hT];exact Le.slC rfl (fun y hy=>by (rcases zE.1 hy with rfl | hy;rfl;obtain ⟨z,_,rfl⟩:=zq.1 hy;exact z.cells_len)) ⟨.refl _,.refl _,.refl _,Le.slNil 3,LeL.refl _⟩));refine zco 12 [7,1,6] rfl mixed ?_;dsimp only;refine zaD 0 rfl tz0 tz0 tz0 (fun _ _ h=>h) tz0 (fun d h=>by cases h;rfl) tz0 (G':=[29,7,1,6]) tz0 fun _ u=>?_;simp only[↓bO,go_sem,seval,zbW,isE];apply u;clear u;refine zaD 1 rfl tz0 tz0 tz0 (fun _ _ h=>h) tz0 (fun d h=>by cases h;rfl) tz0 (G':=[30,29,7,1,6]) tz0 fun _ u=>?_;simp only[↓bO,go_sem,seval,zbW,isE];apply u;clear u;refine zaD 2 rfl tz0 tz0 tz0 (fun _ _ h=>h) tz0 (fun d h=>by cases h;rfl) tz0 (G':=[31,30,29,7,1,6]) tz0 fun _ u=>?_;simp only[↓bO,go_sem,seval,zbW];apply u;clear u;refine zaD 3 rfl tz0 tz0 tz0 (fun _ _ h=>h) tz0 (fun d h=>by cases h;rfl) tz0 (G':=[32,31,30,29,7,1,6]) tz0 fun _ u=>?_;simp only[↓bO,go_sem,seval,zbW];apply u;clear u;refine zaD 4 rfl tz0 tz0 tz0 (fun _ _ h=>h) tz0 (fun d h=>by cases h;rfl) tz0 (G':=[33,32,31,30,29,7,1,6]) tz0 fun _ u=>?_;simp only[↓bO,go_sem,seval,zbW,zkR,isV,hk,gM hv,intC];apply u;clear u;refine zaD 5 rfl tz0 tz0 tz0 (fun _ _ h=>h) tz0 (fun d h=>by cases h;rfl) tz0 (G':=[34,33,32,31,30,29,7,1,6]) tz0 fun _ u=>?_;simp only[↓bO,go_sem,seval,zbW,isE];apply u;clear u;refine zaD 9 rfl tz0 tz0 tz0 (fun _ _ h=>h) tz0 (fun d h=>by cases h;rfl) tz0 (G':=[34,33,32,31,30,29,7,1,6]) tz0 fun _ u=>?_;simp only[↓bO,go_sem,seval,zbW];apply u;clear u;refine zaq (i:=6) tz0 rfl (fun d h=>by cases h;rfl) ?_;refine opT fun _ u=>?_;simp only[↓bO,go_sem,seval];refine u _ ⟨tz13,?_⟩;clear u;refine zaq (i:=7) tz0 rfl (fun d h=>by cases h;rfl) ?_;refine opT fun _ u=>?_;simp only[↓bO,go_sem,seval];refine u _ ⟨tz13,?_⟩;clear u;refine NAny_own (i:=8) tz0 rfl (fun d h=>by cases h;rfl) ei33 tz3 rfl tz3 (by intro p hp;simp only[List.mem_singleton] at hp;subst hp;exact ⟨rfl,rfl⟩) fun _ u=>?_;simp only[↓bO,go_sem,seval];refine u _ tz13 ?_;clear u;refine zaq (i:=10) tz0 rfl (fun d h=>by cases h;rfl) ?_;refine opT fun _ u=>?_;simp only[↓bO,go_sem,seval,hb1,hb2,hol];refine u _ ⟨tz13,?_⟩;clear u;refine zaq (i:=11) tz0 rfl (fun d h=>by cases h;rfl) ?_;refine opT fun _ u=>?_;simp only[↓bO,go_sem,seval];refine u _ ⟨tz13,?_⟩;clear u;refine zbw tz0 ?_;simp only[go_sem];(try simp only[go_sem,seval]);(first | refine ⟨trivial,?_⟩ | skip);refine Weak.freezeS ?_ trivial tz2 tz2 ?_ ?_;(· repeat' first | trivial | exact .inl (.refl _) | exact .inl (.any _) | exact .inr ⟨_,_,_,_,_,_,rfl,rfl,rfl,by simp only[zi,zz,zJ,zx];omega,rfl,hund,hle⟩ | (refine ⟨?_,?_⟩));(· exact clz18);exact clz19
    (have hk9:¬T.k=1:=by (first | exact of_decide_eq_false hb28 | simpa using hb28));(have hst:(za7 (vs.drop k) (fun v=>(vTy v).sub b))=(za7 (vs.drop (k+1)) (fun v=>(vTy v).sub b)):=by (rw[hdr,zec,if_neg (by rw[<- hT];exact hk9)]));rw[hst];apply zaa;(try simp only[go_sem]);(try simp only[go_sem,seval]);(first | refine ⟨trivial,?_⟩ | skip);refine Weak.freezeS ?_ trivial tz2 tz2 ?_ ?_;(· repeat' first | trivial | exact .inl (.refl _) | exact .inl (.any _) | exact .inr ⟨_,_,_,_,_,_,rfl,rfl,rfl,by simp only[zi,zz,zJ,zx];omega,rfl,hund,hle⟩ | (refine ⟨?_,?_⟩));(· exact clz18);exact clz19
   simp only[go_sem,seval];apply z7;(iterate 2 (refine chS 1 ?_ (by intro _ q;simp only[↓bO,go_sem,seval,hw];exact q)));simp only[↓bO,go_sem,seval];refine ⟨k,tz1,tz1,?_⟩;exact zh9
  (have hk0:s=0:=by (have h9:=hb16;simp at h9;omega));subst hk0;apply zak;simp only[zao,zaj,zaf,bA,Nat.reduceEqDiff,↓reduceIte];apply w;obtain ⟨W,hW⟩:∃W,W=(za7 vs (fun v=>(vTy v).sub b)):=⟨_,rfl⟩;rw[show (za7 (vs.drop 0) (fun v=>(vTy v).sub b))=W from by rw[hW,zk]];refine sqD ?_;refine z6 fun _ w=>?_;refine sqD ?_;apply zac;refine zaH (Weak.tokSlot 8 43 4 rfl) ?_;simp only[go_sem];refine zai (σ:=Nat) (mB 70 803) (fun z=>z<=vs.length) (fun z=>[(8,.osl 0 4 ((zaB (vs.take z) (fun v=>((vTy v).sub b).sub W)).map Bd.cells)),(9,.v (.int .i64 (z:Int)))]) (fun z=>[(0,.tok 43 4 (zaB (vs.take z) (fun v=>((vTy v).sub b).sub W)).length)]) (fun z=>vs.length-z) 0 tz1 ?_ (fun z hz=>?_)
  ·
   simp only[go_sem,seval,bL,zlR];exact zaL
  simp only[go_sem,seval];refine z6 fun _ j=>?_;refine sqR fun _ g=>?_;(iterate 3 (refine chS 1 ?_));simp only[↓bO,go_sem,seval];apply g;apply z8 rfl <;> intro hb43
  ·
   (have hk:z<vs.length:=by (have h9:=hb43;simp at h9;omega));obtain ⟨v,hv⟩:∃v,vs[z]?=some v:=⟨_,za hk⟩;have hw:IntKind.i64.wrap ((z:Int)+1)=(z:Int)+1:=zal tz1 tz1;obtain ⟨T,hT⟩:∃T,T=(vTy v).sub b:=⟨_,rfl⟩;obtain ⟨U,hU⟩:∃U,U=T.sub W:=⟨_,rfl⟩;(have hUs:((vTy v).sub b).sub W=U:=by rw[hU,hT]);have hlb:=zgT (vs.take z) (fun v=>((vTy v).sub b).sub W);rw[List.length_take] at hlb;(have hb1:((zaB (vs.take z) (fun v=>((vTy v).sub b).sub W)).length+1) * 48<=140737488355328:=by omega);(have hb2:(zaB (vs.take z) (fun v=>((vTy v).sub b).sub W)).length+1<=maxLen:=by (simp only[maxLen];omega));apply zaa;apply j;refine z6 fun _ j=>?_;apply zac;refine zaQ (mB 70 1827) ([(10,.eptr [.v (.int .i64 1),.v (.int .i64 v),.v (.slice none 0 0)])]) [(0,.tok 43 4 (zaB (vs.take z) (fun v=>((vTy v).sub b).sub W)).length)] 1 (True) ?_ (fun hC=>?_)
   ·
    apply z7;(iterate 6 (refine chS 1 ?_ (by intro _ q;simp only[↓bO,go_sem,seval,hk,gM hv,intC];exact q)));simp only[↓bO,go_sem,seval,hk];(try simp only[go_sem,seval]);(first | refine ⟨trivial,?_⟩ | skip);refine Weak.freeze ?_ ⟨rfl,trivial⟩ tz2 tz2 ?_ ?_;(· exact zjz);(· exact clz18);exact clz19
   simp only[go_sem,seval];refine zaQ (mB 70 3875) ([(11,.eptr U.cells)]) [(0,.tok 43 4 (zaB (vs.take z) (fun v=>((vTy v).sub b).sub W)).length)] 1 (True) ?_ (fun hC=>?_)
   ·
    apply z7;(iterate 3 (refine chS 1 ?_));refine zZ 1 fun _ u=>?_;simp only[↓bO,go_sem,seval];refine APure.call ((show APure Tryz.prog 34 [.sl 4 (b.map Bd.cells),.agg [.v (.int .i64 1),.v (.int .i64 v),.v (.slice none 0 0)]] (.agg T.cells) from by rw[hT];exact (zbo (vTy v) b (by rw[zh1];omega)).le ⟨.refl _,zjA _,trivial⟩ (.cons (Bd.dataSl _) (.cons (zgm _) .nil)))) ?_;apply u;clear u;refine zZ 1 fun _ u=>?_;simp only[↓bO,go_sem,seval];refine APure.call ((show APure Tryz.prog 34 [.sl 4 (W.map Bd.cells),.agg T.cells] (.agg U.cells) from by rw[hU];exact zbo T W (by rw[hT];exact hc1 v (zc hv)))) ?_;apply u;clear u;refine chS 1 ?_;simp only[↓bO,go_sem,seval];(try simp only[go_sem,seval]);(first | refine ⟨trivial,?_⟩ | skip);refine Weak.freeze ?_ ⟨rfl,trivial⟩ tz2 tz2 ?_ ?_;(· exact zjz);(· exact clz18);exact clz19
   simp only[go_sem,seval];refine sqR fun _ g=>?_;(iterate 2 (refine chS 1 ?_));refine zZ 1 fun _ u=>?_;simp only[↓bO,go_sem,seval];refine APure.call ((show APure Tryz.prog 17 [.agg U.cells,.agg [.v (.int .i64 1),.v (.int .i64 v),.v (.slice none 0 0)]] (.v (.bool (U.same (vTy v)))) from (zbb U (vTy v)).le ⟨.refl _,zjA _,trivial⟩ (.cons (Ty.dataAgg _) (.cons (zgm _) .nil)))) ?_;apply u;clear u;simp only[↓bO,go_sem,seval];apply g;apply z8 rfl <;> intro hb59
   ·
    (have hs9:U.same (vTy v)=false:=by simpa using hb59);have hst:=zlr (σ:=(fun v=>((vTy v).sub b).sub W)) hv (by rw[hUs];exact hs9);rw[hUs] at hst;refine zco 10 [11,1,9] rfl mixed ?_;dsimp only;refine zaD 0 rfl tz0 tz0 tz0 (fun _ _ h=>h) tz0 (fun d h=>by cases h;rfl) tz0 (G':=[11,1,9]) tz0 fun _ u=>?_;simp only[↓bO,go_sem,seval,zbW];apply u;clear u;refine zaD 1 rfl tz0 tz0 tz0 (fun _ _ h=>h) tz0 (fun d h=>by cases h;rfl) tz0 (G':=[61,11,1,9]) tz0 fun _ u=>?_;simp only[↓bO,go_sem,seval,zbW];apply u;clear u;refine zaD 2 rfl tz0 tz0 tz0 (fun _ _ h=>h) tz0 (fun d h=>by cases h;rfl) tz0 (G':=[62,61,11,1,9]) tz0 fun _ u=>?_;simp only[↓bO,go_sem,seval,zbW];apply u;clear u;refine zaD 3 rfl tz0 tz0 tz0 (fun _ _ h=>h) tz0 (fun d h=>by cases h;rfl) tz0 (G':=[63,62,61,11,1,9]) tz0 fun _ u=>?_;simp only[↓bO,go_sem,seval,zbW,zkR,isV,hk,gM hv,intC];apply u;clear u;refine zaD 4 rfl tz0 tz0 tz0 (fun _ _ h=>h) tz0 (fun d h=>by cases h;rfl) tz0 (G':=[64,63,62,61,11,1,9]) tz0 fun _ u=>?_;simp only[↓bO,go_sem,seval,zbW,isE];apply u;clear u;refine zaD 5 rfl tz0 tz0 tz0 (fun _ _ h=>h) tz0 (fun d h=>by cases h;rfl) tz0 (G':=[65,64,63,62,61,11,1,9]) tz0 fun _ u=>?_;simp only[↓bO,go_sem,seval,zbW,isE];apply u;clear u;refine zaq (i:=6) tz0 rfl (fun d h=>by cases h;rfl) ?_;refine opT fun _ u=>?_;simp only[↓bO,go_sem,seval];refine u _ ⟨zbc,?_⟩;clear u;refine zaq (i:=7) tz0 rfl (fun d h=>by cases h;rfl) ?_;refine opT fun _ u=>?_;simp only[↓bO,go_sem,seval,↓zee];refine u _ ⟨zbc,?_⟩;clear u;refine zaq (i:=8) tz0 rfl (fun d h=>by cases h;rfl) ?_;refine opT fun _ u=>?_;simp only[↓bO,go_sem,seval,hb1,hb2];refine u _ ⟨zbc,?_⟩;clear u;refine zaq (i:=9) tz0 rfl (fun d h=>by cases h;rfl) ?_;refine opT fun _ u=>?_;simp only[↓bO,go_sem,seval];refine u _ ⟨zbc,?_⟩;clear u;refine zbw tz0 ?_;simp only[go_sem];apply j;apply z7;(iterate 2 (refine chS 1 ?_ (by intro _ q;simp only[↓bO,go_sem,seval,hw];exact q)));simp only[↓bO,go_sem,seval];refine ⟨z+1,tz1,tz1,?_⟩;simp only[zar,zas,zah,zam,mB,seval,Bd.cells,zj,zh,hst,zu,bL,zi];exact zaL
   (have hs9:U.same (vTy v)=true:=by simpa using hb59);have hst:=bindsL_no (σ:=(fun v=>((vTy v).sub b).sub W)) hv (by rw[hUs];exact hs9);apply zaa;apply j;apply z7;(iterate 2 (refine chS 1 ?_ (by intro _ q;simp only[↓bO,go_sem,seval,hw];exact q)));simp only[↓bO,go_sem,seval];refine ⟨z+1,tz1,tz1,?_⟩;simp only[zar,zas,zah,zam,mB,seval,zj,zh,hst];exact zaL
  (have hk:z=vs.length:=by (have h9:=hb43;simp at h9;omega));apply zak;simp only[zao,zaj,zaf,bA,Nat.reduceEqDiff,↓reduceIte];apply w;refine sqR fun _ w=>?_;refine chS 1 ?_;simp only[↓bO,go_sem,seval];apply w;apply zab;(try simp only[go_sem]);rw[hk,zI,hW];exact Le.oslL
theorem Ty.cells_drop3c (t:Ty):t.cells.drop 3=[]:=by rw[Ty.cells_eq];rfl
def zpE (a b:Ty):List EqT:=(a.ps.zip b.ps).map fun p=>⟨p.1,p.2,0,0⟩
theorem zpE_p (a b:Ty):(zpE a b).map EqT.p=a.ps.zip b.ps:=by
 unfold zpE;rw[List.map_map];exact List.map_id _
theorem zpE_len {a b:Ty} (h:a.ps.length=b.ps.length):(zpE a b).length=a.ps.length:=by simp[zpE,h]
theorem zpE_step {a b p q:Ty} {i:Nat} (hp:a.ps[i]?=some p) (hq:b.ps[i]?=some q):(zpE a b).take (i+1)=(zpE a b).take i++[⟨p,q,0,0⟩]:=by
 have h:(zpE a b)[i]?=some ⟨p,q,0,0⟩:=by
  have h9:(a.ps.zip b.ps)[i]?=some (p,q):=List.getElem?_zip_eq_some.2 ⟨hp,hq⟩;unfold zpE;rw[zN,h9];rfl
 rw[zM,h];rfl
def sbE (n:Int) (y:Ty) (e:EqT):EqT:=⟨e.l.sub [⟨n,y⟩],e.r.sub [⟨n,y⟩],0,0⟩
theorem sbE_p (n:Int) (y:Ty) (l:List EqT):(l.map (sbE n y)).map EqT.p=subE n y (l.map EqT.p):=by
 simp[subE,sbE,EqT.p,Function.comp_def]
theorem EqT.mkC (a b:Ty):(EqT.mk a b 0 0).cells=a.cells++(b.cells++[.v (.int .i64 0),.v (.int .i64 0)]):=by
 rw[EqT.cells,Ty.cells_eq,Ty.cells_eq];rfl
theorem Ty.len_appS (t:Ty) (l:List AV):(t.cells++l).length=3+l.length:=by rw[zi,Ty.cells_len]
theorem Ty.take3_appS (t:Ty) (l:List AV):(t.cells++l).take 3=t.cells:=by rw[List.take_append_of_le_length (by rw[Ty.cells_len];exact zQ _),List.take_of_length_le (by rw[Ty.cells_len];exact zQ _)]
theorem Ty.drop6_appS (t:Ty) (l:List AV):(t.cells++l).drop 6=l.drop 3:=by rw[List.drop_append,List.drop_of_length_le (by rw[Ty.cells_len];omega),Ty.cells_len];rfl
theorem EqT.oneS (l:List EqT):((l.map EqT.cells).all fun y=>y.all AV.one)=true:=by
 induction l with
 | nil=>rfl
 | cons x l ih=>rw[zt,List.all_cons,ih];rfl
theorem Weak.backPP {st:St} (i j:Nat) {sl':List AV} {os':Os} {n:Nat} (hij:st.n0<=0/\st.n0<=1/\0<st.nx/\1<st.nx) (hn:n<=st.nx) (h0:st.n0<=n) (h1:LeL st.sl ((sl'.set i (.ptr 1 0)).set j (.ptr 0 0))) (hl:RenL (zde 0 1) ((sl'.set i (.ptr 1 0)).set j (.ptr 0 0)) sl') (ho:OsFrom (zde 0 1) st.os os') (h6:UndL n sl') (h7:UndOs n os'):Weak st ⟨sl',os',n,st.n0⟩:=Weak.back 0 1 h1 hij hl ho hn h0 h6 h7
theorem rin_iff {t:Ty} {v:Int}:((t.rvars []).any fun x=>x==v)=true↔t.occ v:=by
 rw[List.any_eq_true];exact ⟨fun ⟨x,hx,h⟩=>by rw[<- show x=v by simpa using h];exact hx,fun h=>⟨v,h,by simp⟩⟩
theorem RenL.dataL {ρ:Nat->Nat}:∀{l:List AV},DataL l->RenL ρ l l
 | [],_=>trivial
 | _::_,h=>⟨.data (h _ (List.mem_cons_self ..)),RenL.dataL fun x hx=>h x (List.mem_cons_of_mem _ hx)⟩
theorem RInv.alike {l l':List (Ty×Ty)} {o:List Bd} {a b:Ty} {σ:Int->Ty} (h:RInv l ((a,b)::l') o) (hs:zaV σ l) (ha:a.k≠1) (hb:b.k≠1):a.k=b.k/\a.ps.length=b.ps.length:=by
 have h1:=(h.fwd σ hs).1 (a,b) tz4;(simp only at h1);rw[Ty.subF_more ha,Ty.subF_more hb] at h1;have h2:=congrArg Ty.k h1;have h3:=congrArg (fun t=>t.ps.length) h1;simp only[Ty.k_mk,Ty.ps_mk,zx] at h2 h3;exact ⟨h2,h3⟩
structure SolI (l:List (Ty×Ty)) (σ:Int->Ty) (E:List EqT) (o:List Bd):Prop where
 inv:RInv l (E.map EqT.p) o
 low:2 * o.length+mu σ (E.map EqT.p)<=1048576
section
variable {l:List (Ty×Ty)} {σ:Int->Ty} {E:List EqT} {e:EqT} {o:List Bd}
theorem SolI.drop (h:SolI l σ (e::E) o) (he:e.l=e.r):SolI l σ E o/\mu σ (E.map EqT.p)<mu σ ((e::E).map EqT.p):=by
 have h1:=(e.l.subF σ).cnt_pos;have h2:=h.low;have h3:mu σ ((e::E).map EqT.p)=(e.l.subF σ).cnt+(e.r.subF σ).cnt+mu σ (E.map EqT.p):=rfl;exact ⟨⟨RInv.drop h.inv he,by omega⟩,by omega⟩
theorem SolI.split (h:SolI l σ (e::E) o) (hs:zaV σ l) (ha:e.l.k≠1) (hb:e.r.k≠1):SolI l σ (E++zpE e.l e.r) o/\mu σ ((E++zpE e.l e.r).map EqT.p)<mu σ ((e::E).map EqT.p):=by
 have h1:=h.inv.alike hs ha hb;have h2:mu σ (E.map EqT.p++e.l.ps.zip e.r.ps)+2=mu σ ((e::E).map EqT.p):=mu_split ha hb h1.2;have h3:=h.low;(have h4:(E++zpE e.l e.r).map EqT.p=E.map EqT.p++e.l.ps.zip e.r.ps:=by rw[zu,zpE_p]);rw[h4];exact ⟨⟨by rw[h4];exact h.inv.split ha hb h1.1 h1.2,by rw[h4];omega⟩,by omega⟩
theorem SolI.bind (h:SolI l σ (e::E) o) (hs:zaV σ l) {x y:Ty} (hx:x.k=1) (he:e.p=(x,y)\/e.p=(y,x)) (hn:¬y.occ x.n):SolI l σ (E.map (sbE x.n y)) (zme o [⟨x.n,y⟩])/\mu σ ((E.map (sbE x.n y)).map EqT.p)<mu σ ((e::E).map EqT.p):=by
 have hr:=h.inv.rl e.p tz4
 have hxr:x.right=true:=by
  (rcases he with he | he);(·rw[he] at hr;exact hr.1);rw[he] at hr;exact hr.2
 have hxv:=Ty.right_var hxr hx;(have he2:e.p=(vTy x.n,y)\/e.p=(y,vTy x.n):=by rw[<- show x=vTy x.n from hxv];exact he);have h1:=RInv.bind (l':=E.map EqT.p) h.inv he2 hn
 have hnot:x.n∉o.map Bd.v:=(h.inv.vl x.n ⟨e.p,by simp,by
  (rcases he2 with h9 | h9 <;> rw[h9]);·exact .inl (Ty.occ_vTy.2 rfl)
  exact .inr (Ty.occ_vTy.2 rfl)⟩).2
 have hf:=(h.inv.fwd σ hs).1 e.p tz4
 have hb:y.subF σ=σ x.n:=by
  (rcases he2 with h9 | h9 <;> rw[h9] at hf <;> simp only at hf);(·rw[Ty.subF_var (t:=vTy x.n) rfl] at hf;exact hf.symm);rw[Ty.subF_var (t:=vTy x.n) rfl] at hf;exact hf
 (have h2:=mu_subE hb (E.map EqT.p) fun z hz=>h.inv.rl z (by simp only[zt];exact List.mem_cons_of_mem _ hz));have h3:mu σ ((e::E).map EqT.p)=(e.l.subF σ).cnt+(e.r.subF σ).cnt+mu σ (E.map EqT.p):=rfl;have h4:=(e.l.subF σ).cnt_pos;have h5:=(e.r.subF σ).cnt_pos;have h6:=h.low;refine ⟨⟨by rw[sbE_p,zji hnot];exact h1,?_⟩,by rw[sbE_p,h2];omega⟩;rw[sbE_p,h2,zji hnot];(have:(subB x.n y o).length=o.length+1:=by simp[subB]);omega
theorem SolI.occ (h:SolI l σ (e::E) o) (hs:zaV σ l) (hne:¬e.l=e.r) {x y:Ty} (hx:x.k=1) (he:e.p=(x,y)\/e.p=(y,x)):¬y.occ x.n:=fun hn=>by
 have hr:=h.inv.rl e.p tz4
 have hxr:x.right=true:=by
  (rcases he with he | he);(·rw[he] at hr;exact hr.1);rw[he] at hr;exact hr.2
 have hxv:x=vTy x.n:=Ty.right_var hxr hx;(have he2:e.p=(vTy x.n,y)\/e.p=(y,vTy x.n):=by rw[<- hxv];exact he);refine RInv.cycle (l':=E.map EqT.p) h.inv he2 (fun h9=>hne ?_) hn σ hs;rw[h9,<- hxv] at he;have h8:e.p=(x,x):=he.elim id id;exact (congrArg Prod.fst h8).trans (congrArg Prod.snd h8).symm
theorem SolI.small (h:SolI l σ E o) (hs:zaV σ l):(∀x∈E,x.l.cnt<=1048576/\x.r.cnt<=1048576)/\E.length<=524288/\o.length<=524288:=by
 have h1:=h.low;refine ⟨fun x hx=>?_,?_,by omega⟩
 ·have h2:=mu_cnt (σ:=σ) h.inv.rl x.p (zq.2 ⟨x,hx,rfl⟩)
  have h3:x.l.cnt+x.r.cnt<=mu σ (E.map EqT.p):=h2;omega
 have h2:=mu_len σ (E.map EqT.p);rw[zx] at h2;omega
theorem SolI.binds (h:SolI l σ E o) (hs:zaV σ l) (hv:∀v,OccE l v->(σ v).cnt<=1048576):∀x∈o,x.t.cnt<=1099511627776:=fun x hx=>by
 have h1:=(h.inv.fwd σ hs).2 x hx;have h2:=Ty.cnt_subF (σ:=σ) x.t (h.inv.ro x hx);have h3:=hv x.v (h.inv.vo x hx).1;rw[h1] at h2;omega
end
theorem zht {p:Prop} (h:p:=by repeat' first | exact trivial | exact .refl _ | exact .any _ | exact Le.oslL | exact Le.slNil _ | (refine ⟨?_,?_⟩)):p:=h
theorem zgA {p:Prop} (h:p:=by repeat' first | exact trivial | exact Und.data (.eptr (Ty.data _)) | exact .any _ | exact .v _ _ | exact .ptr tz1 | exact Und.data (EqT.dataSl _) | exact Und.data (EqT.dataSl (e::E)) | exact Und.data (Bd.dataSl _) | exact .osl tz1 (.data (EqT.dataSl _)) | (refine ⟨?_,?_⟩)):p:=h
theorem zgz {p:Prop} (h:p:=by repeat' first | exact trivial | (with_reducible omega) | exact UndL.data (Ty.data _) | (refine ⟨?_,?_⟩)):p:=h
theorem RSolve_c (es:List EqT) {σ:Int->Ty} (hσ:zaV σ (es.map EqT.p)) (hr:zdc (es.map EqT.p)) (hmu:mu σ (es.map EqT.p)<=1048576) (hv:∀v,OccE (es.map EqT.p) v->(σ v).cnt<=1048576):DCalls (σ:=List Bd) 32 [.sl 8 (es.map EqT.cells)] (fun s=>RInv (es.map EqT.p) [] s) (fun s=>.tup [.sl 4 (s.map Bd.cells),.v (.bool true)]):=by
  refine ACalls.clean (C:=fun r os=>∃s:List Bd,(RInv (es.map EqT.p) [] s)/\r=(fun s:List Bd=>.tup [.sl 4 (s.map Bd.cells),.v (.bool true)]) s/\os=[]) ?_;refine aIn Tryz.func32 fun hm=>?_;simp only[Tryz.ntmps32,Tryz.results32,go_sem,seval];refine sqR fun _ w=>?_;refine chS 1 ?_;simp only[↓bO,go_sem,seval];apply w;refine sqD ?_;refine z6 fun _ w=>?_;apply zac;refine zai (σ:=List EqT×List Bd) (mB 109 17) (fun s=>SolI (es.map EqT.p) σ s.1 s.2) (fun s=>[(0,.sl 8 (s.1.map EqT.cells)),(4,.sl 4 (s.2.map Bd.cells))]) (fun s=>[]) (fun s=>mu σ (s.1.map EqT.p)) (es,[]) (⟨RInv.start hr,by simpa using hmu⟩) ?_ (fun s hs=>?_)
  ·
   simp only[go_sem,seval,bL];exact clz6
  simp only[go_sem,seval];obtain ⟨E0,o⟩:=s;dsimp only at hs;dsimp only;refine z6 fun _ g=>?_;refine sqR fun _ c=>?_;(iterate 2 (refine chS 1 ?_));simp only[↓bO,go_sem,seval];apply c;apply z8 rfl <;> intro hb13
  ·
   obtain ⟨e,E,rfl⟩:∃e E,E0=e::E:=(by cases E0 with | nil=>(simp at hb13) | cons e E=>exact ⟨e,E,rfl⟩);obtain ⟨hsm1,hsm2,hsm3⟩:=hs.small hσ;have hel:=hsm1 e tz4;simp only[zz] at hsm2;have hbo:=hs.binds hσ hv;(have hln0:((0:Int)<((E.length+1:Nat):Int)):=by omega);(have hln1:((1:Int)<=((E.length+1:Nat):Int)):=by omega);apply zaa;apply g;apply zac;refine zaQ (mB 109 113) ([(5,.ptr 0 0),(6,.ptr 1 0)]) [(1,.cells 28 e.r.cells),(0,.cells 28 e.l.cells)] 2 (True) ?_ (fun hC=>?_)
   ·
    refine zha 12 rfl mixed ?_;dsimp only;refine tkH 0 rfl fun _ u=>?_;simp only[↓bO,go_sem,seval,zcJ,EqT.cells,hln0];apply u;clear u;refine tkH 1 rfl fun _ u=>?_;simp only[↓bO,go_sem,seval,zcJ,zkR,hln0];apply u;clear u;refine tkH 2 rfl fun _ u=>?_;simp only[↓bO,go_sem,seval,zcJ,zia];apply u;clear u;refine tkH 3 rfl fun _ u=>?_;simp only[↓bO,go_sem,seval,zcJ,zia,Ty.refold];apply u;clear u;refine tkH 4 rfl fun _ u=>?_;simp only[↓bO,go_sem,seval,zcJ];apply u;clear u;refine tkH 5 rfl fun _ u=>?_;simp only[↓bO,go_sem,seval,zcJ,zkR,hln0];apply u;clear u;refine tkH 6 rfl fun _ u=>?_;simp only[↓bO,go_sem,seval,zcJ,zia];apply u;clear u;refine tkH 7 rfl fun _ u=>?_;simp only[↓bO,go_sem,seval,zcJ,zia,Ty.refold];apply u;clear u;refine ziW ?_;refine ziB (i:=8) (j:=9) tz0 ?_ ?_
    ·
     refine zb8 rfl rfl rfl rfl tz4 tz3 fun _ u=>?_;simp only[↓bO,go_sem,seval];apply u;clear u;refine zbn (i:=9) tz0 ?_;refine zb8 rfl rfl rfl rfl tz4 tz3 fun _ u=>?_;simp only[↓bO,go_sem,seval];apply u;clear u;refine zbn (i:=10) tz0 ?_;refine zca rfl rfl rfl rfl tz3 rfl fun _ u=>?_;simp only[↓bO,go_sem,seval];apply u;clear u;refine zbn (i:=11) tz0 ?_;refine zca rfl rfl rfl rfl tz3 rfl fun _ u=>?_;simp only[↓bO,go_sem,seval];apply u;clear u;refine zep tz0 ?_;simp only[go_sem];(try simp only[go_sem,seval]);(first | refine ⟨trivial,?_⟩ | skip);first | exact Weak.mk (by repeat' first | exact trivial | exact .refl _ | exact .any _ | (refine ⟨?_,?_⟩)) (fun _ _ h=>h) rfl rfl | exact Weak.backPP 5 6 tz2 tz2 tz2 (by simp only[go_sem];repeat' first | exact trivial | exact .refl _ | exact .any _ | (refine ⟨?_,?_⟩)) (by simp only[go_sem];repeat' first | exact trivial | exact .any | exact .v _ | exact .ptr rfl | exact .data (EqT.dataSl _) | exact .data (EqT.dataSl (e::E)) | exact .data (Bd.dataSl _) | (refine ⟨?_,?_⟩)) ⟨⟨_,rfl,.cells (.dataL (Ty.data _))⟩,⟨_,rfl,.cells (.dataL (Ty.data _))⟩,trivial⟩ (by repeat' first | exact trivial | exact Und.data (.eptr (Ty.data _)) | exact .any _ | exact .v _ _ | exact .ptr tz1 | exact Und.data (EqT.dataSl _) | exact Und.data (EqT.dataSl (e::E)) | exact Und.data (Bd.dataSl _) | exact .osl tz1 (.data (EqT.dataSl _)) | (refine ⟨?_,?_⟩)) (by repeat' first | exact trivial | (with_reducible omega) | exact UndL.data (Ty.data _) | (refine ⟨?_,?_⟩))
    refine zb8 rfl rfl rfl rfl tz4 tz3 fun _ u=>?_;simp only[↓bO,go_sem,seval];apply u;clear u;refine zbn (i:=8) tz0 ?_;refine zb8 rfl rfl rfl rfl tz4 tz3 fun _ u=>?_;simp only[↓bO,go_sem,seval];apply u;clear u;refine zbn (i:=10) tz0 ?_;refine zca rfl rfl rfl rfl tz3 rfl fun _ u=>?_;simp only[↓bO,go_sem,seval];apply u;clear u;refine zbn (i:=11) tz0 ?_;refine zca rfl rfl rfl rfl tz3 rfl fun _ u=>?_;simp only[↓bO,go_sem,seval];apply u;clear u;refine zep tz0 ?_;simp only[go_sem];(try simp only[go_sem,seval]);(first | refine ⟨trivial,?_⟩ | skip);first | exact Weak.mk (by repeat' first | exact trivial | exact .refl _ | exact .any _ | (refine ⟨?_,?_⟩)) (fun _ _ h=>h) rfl rfl | exact Weak.backPP 5 6 tz2 tz2 tz2 (by simp only[go_sem];repeat' first | exact trivial | exact .refl _ | exact .any _ | (refine ⟨?_,?_⟩)) (by simp only[go_sem];repeat' first | exact trivial | exact .any | exact .v _ | exact .ptr rfl | exact .data (EqT.dataSl _) | exact .data (EqT.dataSl (e::E)) | exact .data (Bd.dataSl _) | (refine ⟨?_,?_⟩)) ⟨⟨_,rfl,.cells (.dataL (Ty.data _))⟩,⟨_,rfl,.cells (.dataL (Ty.data _))⟩,trivial⟩ (by repeat' first | exact trivial | exact Und.data (.eptr (Ty.data _)) | exact .any _ | exact .v _ _ | exact .ptr tz1 | exact Und.data (EqT.dataSl _) | exact Und.data (EqT.dataSl (e::E)) | exact Und.data (Bd.dataSl _) | exact .osl tz1 (.data (EqT.dataSl _)) | (refine ⟨?_,?_⟩)) (by repeat' first | exact trivial | (with_reducible omega) | exact UndL.data (Ty.data _) | (refine ⟨?_,?_⟩))
   simp only[go_sem,seval];refine sqR fun _ g=>?_;(iterate 2 (refine chS 1 ?_ (by intro _ q;simp only[↓bO,go_sem,seval,EqT.cells,hln1];exact q)));simp only[↓bO,go_sem,seval];apply g;refine z6 fun _ g=>?_;refine sqR fun _ c=>?_;(iterate 2 (refine chS 1 ?_));simp only[↓bO,go_sem,seval];refine APure.call (zbb e.l e.r) ?_;apply c;apply z8 rfl <;> intro hb26
   ·
    have hee:e.l=e.r:=(Ty.same_iff _ _).1 (by first | exact hb26 | simpa using hb26);obtain ⟨nx9,hnx⟩:∃s:List EqT×List Bd,s=(E,o):=⟨_,rfl⟩;have hnI:=hs.drop hee;apply zak;simp only[zao,zaj,zaf,bA,Nat.reduceEqDiff,↓reduceIte];refine ⟨nx9,(by rw[hnx];exact hnI.1),(by rw[hnx];exact hnI.2),?_⟩;rw[hnx];simp only[zar,zas,zah,zam,mB,seval,zh,zn];refine Weak.all ?_ (fun _ _ h=>by cases h) tz2 rfl tz2 ?_ ?_;(· exact zht);(· exact zgA);exact zgz
   (have hee:¬e.l=e.r:=fun h9=>(by have h8:=(Ty.same_iff _ _).2 h9;have h7:=hb26;simp[h8] at h7));apply zaa;apply g;refine z6 fun _ g=>?_;refine zaP (mB 109 17179869297) ([(34,.v (.bool (decide (¬e.l.k=1/\¬e.r.k=1))))]) ([]) ?_ ?_
   ·
    apply z7;(iterate 4 (refine chS 1 ?_));refine zag 30 rfl (fun hc30=>?_) (fun hc30=>?_)
    ·
     simp only[go_sem];(have ha9:¬e.l.k=1:=by simpa using hc30);(iterate 3 (refine chS 1 ?_));simp only[↓bO,go_sem,seval,ha9];(try simp only[go_sem,seval]);refine Weak.mk ?_ (fun _ _ h=>h) rfl rfl;simp only[go_sem,Le.refl,Le.any];all_goals (refine Le.of_eq (congrArg (fun b=>AV.v (.bool b)) ?_);rw[zF];simp[ha9])
    simp only[go_sem];(have ha9:e.l.k=1:=by simpa using hc30);(iterate 3 (refine chS 1 ?_));simp only[↓bO,go_sem,seval];(try simp only[go_sem,seval]);refine Weak.mk ?_ (fun _ _ h=>h) rfl rfl;simp only[go_sem,Le.refl,Le.any];all_goals (refine Le.of_eq (congrArg (fun b=>AV.v (.bool b)) ?_);rw[zF];simp[ha9])
   simp only[go_sem,seval];apply z8 rfl <;> intro hb34
   ·
    (obtain ⟨hka,hkb⟩:¬e.l.k=1/\¬e.r.k=1:=by (first | exact of_decide_eq_true hb34 | simpa using hb34));have hal:=hs.inv.alike hσ hka hkb;have hpl:=Ty.cntL_len e.l.ps;have hpl2:=e.l.cnt_eq;have hnI:=hs.split hσ hka hkb;obtain ⟨nx9,hnx⟩:∃s:List EqT×List Bd,s=(E++zpE e.l e.r,o):=⟨_,rfl⟩;refine z6 fun _ c=>?_;refine zaQ (mB 109 241) ([(5,.eptr e.l.cells),(6,.eptr e.r.cells),(7,.v (.int .i64 0))]) [] 0 (True) ?_ (fun hC=>?_)
    ·
     apply z7;simp only[↓bO,go_sem,seval];(try simp only[go_sem,seval]);(first | refine ⟨trivial,?_⟩ | skip);refine Weak.freeze ?_ trivial tz2 tz2 ?_ ?_;(· exact zjz);(· exact zgA);exact zgz
    simp only[go_sem,seval];apply zac;refine zai (σ:=Nat) (mB 109 241) (fun i=>i<=e.l.ps.length) (fun i=>[(0,.sl 8 ((E++(zpE e.l e.r).take i).map EqT.cells)),(7,.v (.int .i64 (i:Int)))]) (fun i=>[]) (fun i=>e.l.ps.length-i) 0 (Nat.zero_le _) ?_ (fun i hi=>?_)
    ·
     simp only[go_sem,seval,bL];exact clz5
    simp only[go_sem,seval];refine z6 fun _ a=>?_;refine zaP (mB 109 70368744177905) ([(46,.v (.bool (decide (i<e.l.ps.length))))]) ([]) ?_ ?_
    ·
     apply z7;(iterate 6 (refine chS 1 ?_));refine zag 40 rfl (fun hc40=>?_) (fun hc40=>?_)
     ·
      simp only[go_sem];(have hil:i<e.l.ps.length:=by simpa using hc40);(have hil2:i<e.r.ps.length:=by omega);(iterate 5 (refine chS 1 ?_ (by intro _ q;simp only[↓bO,go_sem,seval,hil,hil2];exact q)));simp only[↓bO,go_sem,seval,hil];(try simp only[go_sem,seval]);refine Weak.mk ?_ (fun _ _ h=>h) rfl rfl;simp only[go_sem,Le.refl,Le.any];all_goals (refine Le.of_eq (congrArg (fun b=>AV.v (.bool b)) ?_);rw[zF];simp[hil])
     simp only[go_sem];(have hil:¬i<e.l.ps.length:=by simpa using hc40);(iterate 5 (refine chS 1 ?_));simp only[↓bO,go_sem,seval];(try simp only[go_sem,seval]);refine Weak.mk ?_ (fun _ _ h=>h) rfl rfl;simp only[go_sem,Le.refl,Le.any];all_goals (refine Le.of_eq (congrArg (fun b=>AV.v (.bool b)) ?_);rw[zF];simp[hil])
    simp only[go_sem,seval];apply z8 rfl <;> intro hb46
    ·
     (have hk:i<e.l.ps.length:=by (first | exact of_decide_eq_true hb46 | (simpa using hb46)));obtain ⟨p,hp⟩:∃p,e.l.ps[i]?=some p:=⟨_,za hk⟩;obtain ⟨q,hq⟩:∃q,e.r.ps[i]?=some q:=⟨_,za tz1⟩;have hzs:=zpE_step hp hq;(have hk2:i<e.r.ps.length:=by omega);have hw:IntKind.i64.wrap ((i:Int)+1)=(i:Int)+1:=zal tz1 tz1;(have hzl:(E++(zpE e.l e.r).take i).length=E.length+i:=by (rw[zi,List.length_take,zpE_len hal.2];omega));(have hb1:(E.length+i) * 96<=140737488355328:=by omega);(have hb2:E.length+i<=maxLen:=by (simp only[maxLen];omega));(have hb3:(E.length+i+1) * 96<=140737488355328:=by omega);(have hb4:E.length+i+1<=maxLen:=by (simp only[maxLen];omega));have hon:=EqT.oneS (E++(zpE e.l e.r).take i);(have hon2:(p.cells++(q.cells++[AV.v (.int .i64 0),AV.v (.int .i64 0)])).all AV.one=true:=by (rw[<- EqT.mkC];rfl));(have hst:(E++(zpE e.l e.r).take (i+1)).map EqT.cells=(E++(zpE e.l e.r).take i).map EqT.cells++[p.cells++(q.cells++[.v (.int .i64 0),.v (.int .i64 0)])]:=by (rw[hzs,<- List.append_assoc,zu,<- EqT.mkC];rfl));apply zaa;apply a;refine z6 fun _ a=>?_;apply zac;refine zgY 17 rfl mixed ?_;dsimp only;refine zaI 1 rfl tz0 tz0 tz0 (fun _ _ h=>h) fun _ u=>?_;simp only[↓bO,go_sem,seval,zcB,hk];apply u;clear u;refine zaI 3 rfl tz0 tz0 tz0 (fun _ _ h=>h) fun _ u=>?_;simp only[↓bO,go_sem,seval,zcB,zia];apply u;clear u;refine zaI 4 rfl tz0 tz0 tz0 (fun _ _ h=>h) fun _ u=>?_;simp only[↓bO,go_sem,seval,zcB,isE];apply u;clear u;refine zaI 5 rfl tz0 tz0 tz0 (fun _ _ h=>h) fun _ u=>?_;simp only[↓bO,go_sem,seval,zcB];apply u;clear u;refine zaI 6 rfl tz0 tz0 tz0 (fun _ _ h=>h) fun _ u=>?_;simp only[↓bO,go_sem,seval,zcB,zkR,hk,gM hp];apply u;clear u;refine zaI 7 rfl tz0 tz0 tz0 (fun _ _ h=>h) fun _ u=>?_;simp only[↓bO,go_sem,seval,zcB,isE];apply u;clear u;refine zaI 8 rfl tz0 tz0 tz0 (fun _ _ h=>h) fun _ u=>?_;simp only[↓bO,go_sem,seval,zcB,zia];apply u;clear u;refine zaI 9 rfl tz0 tz0 tz0 (fun _ _ h=>h) fun _ u=>?_;simp only[↓bO,go_sem,seval,zcB,isE];apply u;clear u;refine zaI 10 rfl tz0 tz0 tz0 (fun _ _ h=>h) fun _ u=>?_;simp only[↓bO,go_sem,seval,zcB];apply u;clear u;refine zaI 11 rfl tz0 tz0 tz0 (fun _ _ h=>h) fun _ u=>?_;simp only[↓bO,go_sem,seval,zcB,zkR,gM hq,hk2];apply u;clear u;refine zaI 12 rfl tz0 tz0 tz0 (fun _ _ h=>h) fun _ u=>?_;simp only[↓bO,go_sem,seval,zcB,isE];apply u;clear u;refine zja ?_;refine zcw (i:=0) (j:=13) tz0 ?_ ?_
     ·
      refine opT fun _ u=>?_;simp only[↓bO,go_sem,seval,↓bs0_8];apply u;clear u;refine zcw (i:=2) (j:=13) tz0 ?_ ?_
      ·
       refine opT fun _ u=>?_;simp only[↓bO,go_sem,seval,hzl,hb1,hb2,hon];apply u;clear u;refine zaz (i:=13) tz0 ?_;refine opT fun _ u=>?_;simp only[↓bO,go_sem,seval,Ty.len_appS,Ty.take3_appS,Ty.drop6_appS,List.append_assoc];apply u;clear u;refine zaz (i:=14) tz0 ?_;refine opT fun _ u=>?_;simp only[↓bO,go_sem,seval,↓zjp,Ty.len_appS];apply u;clear u;refine zaz (i:=15) tz0 ?_;refine opT fun _ u=>?_;simp only[↓bO,go_sem,seval,hzl,hb3,hb4,hon2];apply u;clear u;refine zaz (i:=16) tz0 ?_;refine opT fun _ u=>?_;simp only[↓bO,go_sem,seval];apply u;clear u;refine zbU tz0 ?_;simp only[go_sem];apply a;apply z7;(iterate 2 (refine chS 1 ?_ (by intro _ q;simp only[↓bO,go_sem,seval,hw];exact q)));simp only[↓bO,go_sem,seval];refine ⟨(i+1),tz1,tz1,?_⟩;simp only[zar,zas,zah,zam,mB,seval,zj,zh,zn];rw[<- hst];refine Weak.all ?_ (fun _ _ h=>by cases h) tz2 rfl tz2 ?_ ?_;(· exact zht);(· exact zgA);exact zgz
      refine opT fun _ u=>?_;simp only[↓bO,go_sem,seval,Ty.len_appS,Ty.take3_appS,Ty.drop6_appS,List.append_assoc];apply u;clear u;refine zcw (i:=2) (j:=14) tz0 ?_ ?_
      ·
       refine opT fun _ u=>?_;simp only[↓bO,go_sem,seval,hzl,hb1,hb2,hon];apply u;clear u;refine zaz (i:=14) tz0 ?_;refine opT fun _ u=>?_;simp only[↓bO,go_sem,seval,↓zjp,Ty.len_appS];apply u;clear u;refine zaz (i:=15) tz0 ?_;refine opT fun _ u=>?_;simp only[↓bO,go_sem,seval,hzl,hb3,hb4,hon2];apply u;clear u;refine zaz (i:=16) tz0 ?_;refine opT fun _ u=>?_;simp only[↓bO,go_sem,seval];apply u;clear u;refine zbU tz0 ?_;simp only[go_sem];apply a;apply z7;(iterate 2 (refine chS 1 ?_ (by intro _ q;simp only[↓bO,go_sem,seval,hw];exact q)));simp only[↓bO,go_sem,seval];refine ⟨(i+1),tz1,tz1,?_⟩;simp only[zar,zas,zah,zam,mB,seval,zj,zh,zn];rw[<- hst];refine Weak.all ?_ (fun _ _ h=>by cases h) tz2 rfl tz2 ?_ ?_;(· exact zht);(· exact zgA);exact zgz
      refine opT fun _ u=>?_;simp only[↓bO,go_sem,seval,↓zjp,Ty.len_appS];apply u;clear u;refine zaz (i:=2) tz0 ?_;refine opT fun _ u=>?_;simp only[↓bO,go_sem,seval,hzl,hb1,hb2,hon];apply u;clear u;refine zaz (i:=15) tz0 ?_;refine opT fun _ u=>?_;simp only[↓bO,go_sem,seval,hzl,hb3,hb4,hon2];apply u;clear u;refine zaz (i:=16) tz0 ?_;refine opT fun _ u=>?_;simp only[↓bO,go_sem,seval];apply u;clear u;refine zbU tz0 ?_;simp only[go_sem];apply a;apply z7;(iterate 2 (refine chS 1 ?_ (by intro _ q;simp only[↓bO,go_sem,seval,hw];exact q)));simp only[↓bO,go_sem,seval];refine ⟨(i+1),tz1,tz1,?_⟩;simp only[zar,zas,zah,zam,mB,seval,zj,zh,zn];rw[<- hst];refine Weak.all ?_ (fun _ _ h=>by cases h) tz2 rfl tz2 ?_ ?_;(· exact zht);(· exact zgA);exact zgz
     refine opT fun _ u=>?_;simp only[↓bO,go_sem,seval,Ty.len_appS,Ty.take3_appS,Ty.drop6_appS,List.append_assoc];apply u;clear u;refine zcw (i:=0) (j:=14) tz0 ?_ ?_
     ·
      refine opT fun _ u=>?_;simp only[↓bO,go_sem,seval,↓bs0_8];apply u;clear u;refine zcw (i:=2) (j:=14) tz0 ?_ ?_
      ·
       refine opT fun _ u=>?_;simp only[↓bO,go_sem,seval,hzl,hb1,hb2,hon];apply u;clear u;refine zaz (i:=14) tz0 ?_;refine opT fun _ u=>?_;simp only[↓bO,go_sem,seval,↓zjp,Ty.len_appS];apply u;clear u;refine zaz (i:=15) tz0 ?_;refine opT fun _ u=>?_;simp only[↓bO,go_sem,seval,hzl,hb3,hb4,hon2];apply u;clear u;refine zaz (i:=16) tz0 ?_;refine opT fun _ u=>?_;simp only[↓bO,go_sem,seval];apply u;clear u;refine zbU tz0 ?_;simp only[go_sem];apply a;apply z7;(iterate 2 (refine chS 1 ?_ (by intro _ q;simp only[↓bO,go_sem,seval,hw];exact q)));simp only[↓bO,go_sem,seval];refine ⟨(i+1),tz1,tz1,?_⟩;simp only[zar,zas,zah,zam,mB,seval,zj,zh,zn];rw[<- hst];refine Weak.all ?_ (fun _ _ h=>by cases h) tz2 rfl tz2 ?_ ?_;(· exact zht);(· exact zgA);exact zgz
      refine opT fun _ u=>?_;simp only[↓bO,go_sem,seval,↓zjp,Ty.len_appS];apply u;clear u;refine zaz (i:=2) tz0 ?_;refine opT fun _ u=>?_;simp only[↓bO,go_sem,seval,hzl,hb1,hb2,hon];apply u;clear u;refine zaz (i:=15) tz0 ?_;refine opT fun _ u=>?_;simp only[↓bO,go_sem,seval,hzl,hb3,hb4,hon2];apply u;clear u;refine zaz (i:=16) tz0 ?_;refine opT fun _ u=>?_;simp only[↓bO,go_sem,seval];apply u;clear u;refine zbU tz0 ?_;simp only[go_sem];apply a;apply z7;(iterate 2 (refine chS 1 ?_ (by intro _ q;simp only[↓bO,go_sem,seval,hw];exact q)));simp only[↓bO,go_sem,seval];refine ⟨(i+1),tz1,tz1,?_⟩;simp only[zar,zas,zah,zam,mB,seval,zj,zh,zn];rw[<- hst];refine Weak.all ?_ (fun _ _ h=>by cases h) tz2 rfl tz2 ?_ ?_;(· exact zht);(· exact zgA);exact zgz
     refine opT fun _ u=>?_;simp only[↓bO,go_sem,seval,↓zjp,Ty.len_appS];apply u;clear u;refine zaz (i:=0) tz0 ?_;refine opT fun _ u=>?_;simp only[↓bO,go_sem,seval,↓bs0_8];apply u;clear u;refine zaz (i:=2) tz0 ?_;refine opT fun _ u=>?_;simp only[↓bO,go_sem,seval,hzl,hb1,hb2,hon];apply u;clear u;refine zaz (i:=15) tz0 ?_;refine opT fun _ u=>?_;simp only[↓bO,go_sem,seval,hzl,hb3,hb4,hon2];apply u;clear u;refine zaz (i:=16) tz0 ?_;refine opT fun _ u=>?_;simp only[↓bO,go_sem,seval];apply u;clear u;refine zbU tz0 ?_;simp only[go_sem];apply a;apply z7;(iterate 2 (refine chS 1 ?_ (by intro _ q;simp only[↓bO,go_sem,seval,hw];exact q)));simp only[↓bO,go_sem,seval];refine ⟨(i+1),tz1,tz1,?_⟩;simp only[zar,zas,zah,zam,mB,seval,zj,zh,zn];rw[<- hst];refine Weak.all ?_ (fun _ _ h=>by cases h) tz2 rfl tz2 ?_ ?_;(· exact zht);(· exact zgA);exact zgz
    (have hk:i=e.l.ps.length:=by (have h9:=hb46;simp at h9;omega));rw[show (E++(zpE e.l e.r).take i)=E++zpE e.l e.r from by rw[hk,<- zpE_len hal.2,zI]];apply zak;simp only[zao,zaj,zaf,bA,Nat.reduceEqDiff,↓reduceIte];apply c;apply zak;simp only[zao,zaj,zaf,bA,Nat.reduceEqDiff,↓reduceIte];refine ⟨nx9,(by rw[hnx];exact hnI.1),(by rw[hnx];exact hnI.2),?_⟩;rw[hnx];simp only[zar,zas,zah,zam,mB,seval,zh,zn];refine Weak.all ?_ (fun _ _ h=>by cases h) tz2 rfl tz2 ?_ ?_;(· exact zht);(· exact zgA);exact zgz
   (have hor:¬e.l.k=1->e.r.k=1:=fun h8=>Decidable.byContradiction fun h7=>by simp[h8,h7] at hb34);apply zaa;apply g;refine zcA (σ:=Ty×Ty) (mB 109 113) (fun a=>[]) (fun a=>[(1,.cells 28 a.2.cells),(0,.cells 28 a.1.cells)]) 2 (fun a=>a.1.k=1/\(e.p=(a.1,a.2)\/e.p=(a.2,a.1))) ?_ (fun a hy3=>?_)
   ·
    refine sqR fun _ g=>?_;(iterate 2 (refine chS 1 ?_));simp only[↓bO,go_sem,seval];apply g;apply z8 rfl <;> intro hb67
    ·
     (have hlk:¬e.l.k=1:=by simpa using hb67);obtain ⟨z9,hz9⟩:∃z:Ty×Ty,z=(e.r,e.l):=⟨_,rfl⟩;have hzp:(e.r.k=1)/\(e.p=(e.r,e.l)\/e.p=(e.l,e.r)):=⟨hor hlk,.inr rfl⟩;apply z7;(iterate 3 (refine chS 1 ?_ (by intro _ q;simp only[↓bO,go_sem,seval,Ty.cells_drop3c];exact q)));simp only[↓bO,go_sem,seval,Ty.cells_drop3c];(try simp only[go_sem,seval]);refine ⟨z9,(by rw[hz9];exact hzp),?_⟩;rw[hz9];simp only[zar,zas,zah,zam,mB,seval,zh,zn];refine Weak.mk ?_ (fun _ _ h=>h) rfl rfl;simp only[go_sem,Le.refl,Le.any]
    (have hlk:e.l.k=1:=by simpa using hb67);obtain ⟨z9,hz9⟩:∃z:Ty×Ty,z=(e.l,e.r):=⟨_,rfl⟩;have hzp:(e.l.k=1)/\(e.p=(e.l,e.r)\/e.p=(e.r,e.l)):=⟨hlk,.inl rfl⟩;apply zaa;(try simp only[go_sem]);(try simp only[zar,zas,zah,zam,mB,seval]);refine ⟨z9,(by rw[hz9];exact hzp),?_⟩;rw[hz9];simp only[zar,zas,zah,zam,mB,seval,zh,zn];refine Weak.mk ?_ (fun _ _ h=>h) rfl rfl;simp only[go_sem,Le.refl,Le.any]
   simp only[zar,zas,zah,zam,mB,seval];obtain ⟨x,y⟩:=a;obtain ⟨hxk,hxe⟩:=hy3;dsimp only at hxk hxe;dsimp only;have hocc:=hs.occ hσ hee hxk hxe;have hyc:x.cnt<=1048576/\y.cnt<=1048576:=(by rcases hxe with h9 | h9;exact ⟨(show e.l=x from congrArg Prod.fst h9)▸hel.1,(show e.r=y from congrArg Prod.snd h9)▸hel.2⟩;exact ⟨(show e.r=x from congrArg Prod.snd h9)▸hel.2,(show e.l=y from congrArg Prod.fst h9)▸hel.1⟩);have hnI:=hs.bind hσ hxk hxe hocc;obtain ⟨nx9,hnx⟩:∃s:List EqT×List Bd,s=(E.map (sbE x.n y),zme o [⟨x.n,y⟩]):=⟨_,rfl⟩;refine z6 fun _ g=>?_;refine z6 fun _ c=>?_;refine zay 5 mixed tz0 fun J0 j0=>?_;simp only[go_sem];refine zae 1 fun _ u=>?_;simp only[↓zaA,↓dOp,↓bO,go_sem,seval];apply u;clear u;refine zae 1 fun _ u=>?_;simp only[↓zaA,↓dOp,↓bO,go_sem,seval];refine ⟨_,(show APure Tryz.prog 62 [.agg y.cells,.v (.slice none 0 0)] (.sl 1 ((y.rvars []).map intC)) from (zeM y [] (by simp only[zJ];omega)).le ⟨.refl _,Le.slNil 1,trivial⟩ (.cons (Ty.dataAgg _) (.cons (.v _) .nil))),?_⟩;(iterate 2 (apply u;clear u;refine zae 1 fun _ u=>?_;simp only[↓zaA,↓dOp,↓bO,go_sem,seval]));apply u;clear u;simp only[↓zaA,↓dOp,↓bO,go_sem,seval];refine ⟨_,In_pure (y.rvars []) x.n,?_⟩;(try simp only[go_sem]);refine j0 _ ?_;clear j0 J0;simp only[bL,aops,zao,zaj,zaf];apply c;apply z8 rfl <;> intro hb74
   ·
    exact absurd (rin_iff.1 (by first | exact hb74 | simpa using hb74)) hocc
   apply zaa;apply g;refine sqR fun _ g=>?_;(iterate 4 (refine chS 1 ?_));refine chS 1 ?_ (by intro _ q;simp only[↓bO,go_sem,seval,↓zee];exact q);simp only[↓bO,go_sem,seval];apply g;refine sqD ?_;refine z6 fun _ g=>?_;refine sqD ?_;apply zac;refine zaH (Weak.tokSlot 9 32 8 rfl) ?_;simp only[go_sem];refine zai (σ:=Nat) (mB 109 1809) (fun z=>z<=E.length) (fun z=>[(9,.osl 2 8 (((E.take z).map (sbE x.n y)).map EqT.cells)),(10,.v (.int .i64 (z:Int)))]) (fun z=>[(2,.tok 32 8 z)]) (fun z=>E.length-z) 0 (Nat.zero_le _) ?_ (fun z hz=>?_)
   ·
    simp only[go_sem,seval,bL];exact zaL
   simp only[go_sem,seval];refine z6 fun _ c=>?_;refine sqR fun _ a=>?_;(iterate 3 (refine chS 1 ?_));simp only[↓bO,go_sem,seval];apply a;apply z8 rfl <;> intro hb83
   ·
    (have hk:z<E.length:=by simpa using hb83);obtain ⟨d,hd⟩:∃d,E[z]?=some d:=⟨_,za hk⟩;have hdm:=hsm1 d (List.mem_cons_of_mem _ (zc hd));have hw:IntKind.i64.wrap ((z:Int)+1)=(z:Int)+1:=zal tz1 tz1;(have hln:((E.take z).map (sbE x.n y)).length=z:=by simp;omega);(have hb1:(z+1) * 96<=140737488355328:=by omega);(have hb2:z+1<=maxLen:=by (simp only[maxLen];omega));(have hst:((E.take (z+1)).map (sbE x.n y)).map EqT.cells=((E.take z).map (sbE x.n y)).map EqT.cells++[(d.l.sub [⟨x.n,y⟩]).cells++((d.r.sub [⟨x.n,y⟩]).cells++[.v (.int .i64 0),.v (.int .i64 0)])]:=by (rw[zaM (sbE x.n y) hd,zu,<- EqT.mkC];rfl));(have hon:((d.l.sub [⟨x.n,y⟩]).cells++((d.r.sub [⟨x.n,y⟩]).cells++[AV.v (.int .i64 0),AV.v (.int .i64 0)])).all AV.one=true:=by (rw[<- EqT.mkC];rfl));apply zaa;apply c;refine z6 fun _ c=>?_;apply zac;refine zay 17 mixed tz0 fun J0 j0=>?_;(iterate 7 (simp only[go_sem];refine zae 1 fun _ u=>?_;simp only[↓zaA,↓dOp,↓bO,go_sem,seval,EqT.cells,Ty.refold,hk,gM hd];apply u;clear u));simp only[go_sem];refine zae 1 fun _ u=>?_;simp only[↓zaA,↓dOp,↓bO,go_sem,seval];refine ⟨_,zbo d.l [⟨x.n,y⟩] tz1,?_⟩;(iterate 7 (apply u;clear u;refine zae 1 fun _ u=>?_;simp only[↓zaA,↓dOp,↓bO,go_sem,seval,EqT.cells,Ty.refold,hk,gM hd]));refine ⟨_,zbo d.r [⟨x.n,y⟩] tz1,?_⟩;apply u;clear u;refine zae 1 fun _ u=>?_;simp only[↓zaA,↓dOp,↓bO,go_sem,seval,Ty.len_appS,Ty.take3_appS,Ty.drop6_appS,List.append_assoc];apply u;clear u;simp only[↓zaA,↓dOp,↓bO,go_sem,seval,↓zjp,Ty.len_appS];refine j0 _ ?_;clear j0 J0;refine chS 1 ?_ (by intro _ q;simp only[↓bO,go_sem,seval,hln,hb1,hb2,hon];exact q);simp only[↓bO,go_sem,seval];apply c;apply z7;(iterate 2 (refine chS 1 ?_ (by intro _ q;simp only[↓bO,go_sem,seval,hw];exact q)));simp only[↓bO,go_sem,seval];refine ⟨(z+1),tz1,tz1,?_⟩;simp only[zar,zas,zah,zam,mB,seval,hst,zj,zh];exact zaL
   (have hk:z=E.length:=by (have h9:=hb83;simp at h9;omega));rw[show ((E.take z).map (sbE x.n y))=E.map (sbE x.n y) from by rw[hk,zI]];apply zak;simp only[zao,zaj,zaf,bA,Nat.reduceEqDiff,↓reduceIte];apply g;refine sqR fun _ g=>?_;refine chS 1 ?_;simp only[↓bO,go_sem,seval];apply g;apply z7;(iterate 2 (refine chS 1 ?_));refine zZ 1 fun _ u=>?_;simp only[↓bO,go_sem,seval];refine APure.call (zlj o [⟨x.n,y⟩] hs.inv.nd tz1 hbo tz4 tz4) ?_;apply u;clear u;simp only[↓bO,go_sem,seval];refine ⟨nx9,(by rw[hnx];exact hnI.1),(by rw[hnx];exact hnI.2),?_⟩;rw[hnx];simp only[zar,zas,zah,zam,mB,seval,zh,zn];refine Weak.all ?_ (fun _ _ h=>by cases h) tz2 rfl tz2 ?_ ?_;(· exact zht);(· exact zgA);exact zgz
  have hE0:E0=[]:=(by cases E0 with | nil=>rfl | cons e E=>(simp at hb13));subst hE0;apply zak;simp only[zao,zaj,zaf,bA,Nat.reduceEqDiff,↓reduceIte];apply w;refine sqR fun _ w=>?_;(iterate 2 (refine chS 1 ?_));simp only[↓bO,go_sem,seval];apply w;apply zab;(try simp only[go_sem]);refine ⟨_,[],⟨o,hs.inv,rfl,rfl⟩,.tup ⟨Und.data (Bd.dataSl _),.v _ _,trivial⟩,trivial,?_,?_,by omega⟩;(· exact Le.refl _);exact ⟨0,rfl,rfl⟩
end Go.Proofs.YtpfiliamceimmaaGreatDoor
namespace Go.Proofs.YtpfiliamceimmaaGreatDoor
open Go Go.RowKit
def toldB (L:List Int) (o:List Bd):List Bd:=zaB L (fun v=>((vTy v).sub o).sub (za7 L (fun v=>(vTy v).sub o)))
theorem told_eq {l:List (Ty×Ty)} {o:List Bd} {σ:Int->Ty} {L:List Int} (hI:RInv l [] o) (hr:zdc l) (k:Norm L σ) (ks:MG l σ) (hs:L.Pairwise (· < ·)) (hL:∀v,v∈L↔OccE l v):toldB L o=zaB L σ:=by
 have hraw:=hI.raw hr hL;rw[<- hraw.told_binds k ks hs]
 have hv:∀v∈L,(vTy v).sub o=zem o v:=fun v hv=>by
  obtain ⟨e,he,h9⟩:=(hL v).1 hv;have h8:(vTy v).right=true:=h9.elim (fun h=>Ty.var_right (hr e he).1 h) (fun h=>Ty.var_right (hr e he).2 h);rw[Ty.sub_subF _ _ h8,Ty.subF_var rfl];rfl
 have hl:za7 L (fun v=>(vTy v).sub o)=za7 L (zem o):=by
  unfold za7;rw[List.filter_congr (q:=fun v=>decide ((zem o v).k=1)) fun v h=>by simp only[hv v h]];exact List.map_congr_left fun v h=>by dsimp only;rw[hv v (List.mem_filter.1 h).1]
 refine ze2 fun v h=>?_;rw[hl,hv v h];exact Ty.sub_subF _ _ (hraw.right v h)
def TypA (most0:Int) (es:List EqT) (t:Ty) (u:Ty×Int):Prop:=(t.right=false/\u=(zTy,1))\/(t.right=true/\Bad es/\u=(zTy,1))\/(t.right=true/\¬Bad es/\TypR most0 (es.map EqT.p) t u)
abbrev SatA (es:List EqT) (z:Int):Prop:=if Bad es then z=1 else SatR (es.map EqT.p) z
theorem SatR.zero {l:List (Ty×Ty)} {z:Int} (h:SatR l z) {S:CS} {c:List Int} (hp:PSt l (eqF l).1 c S) (hno:∀y,¬Pls (zaK S) y y):z=0:=by
 (rcases h with ⟨_,h2⟩ | ⟨c2,hc,hn,rfl⟩);(·exact absurd h2 hp.h.noClash);have hp3:PSt l (eqF l).1 c2 S:=⟨hp.h,hc,rfl,hp.len,hp.keys⟩;rw[if_pos (hp3.fin_iff.2 hno)]
theorem sol_bad {m:Int} {es:List EqT} {T:Ty} {r:List Bd×Int} {u:Ty×Int} {z:Int} (hA:SolA m es r) (hT:TypA m es T u) (hz:SatA es z) (h0:z≠0):r=([],z)/\(T.right=true->u=(zTy,z)):=by
 unfold SolA at hA;unfold SatA at hz
 by_cases hb:Bad es
 ·rw[if_pos hb] at hA hz
  subst hz;refine ⟨hA,fun hr=>?_⟩;(rcases hT with ⟨h1,_⟩ | ⟨_,_,h1⟩ | ⟨_,h1,_⟩);(·rw[hr] at h1;cases h1);(·exact h1);exact absurd hb h1
 rw[if_neg hb] at hA hz;refine ⟨?_,fun hr=>?_⟩
 ·rcases hA with ⟨s,hE,_,rfl⟩ | ⟨S,c,hp,hno,_⟩
  (·rw[hz.eq hE]);exact absurd (hz.zero hp hno) h0
 (rcases hT with ⟨h1,_⟩ | ⟨_,h1,_⟩ | ⟨_,_,h1⟩);(·rw[hr] at h1;cases h1);(·exact absurd h1 hb);(rcases h1 with ⟨s,hE,_,rfl⟩ | ⟨S,c,hp,_⟩);(·rw[hz.eq hE]);exact absurd (hz.zero hp.p hp.no) h0
structure SolY (m:Int) (es:List EqT) (T:Ty) (r:List Bd×Int) (u:Ty×Int) (L:List Int) (σ:Int->Ty):Prop where
 ok:OkE (es.map EqT.p)
 norm:Norm L σ
 mg:MG (es.map EqT.p) σ
 strict:L.Pairwise (· < ·)
 occ:∀v,v∈L↔OccE (es.map EqT.p) v
 small:∀v,(σ v).cnt<=399
 sum:zbD (es.map EqT.p)<=160
 got:((∀v∈L,zgX m σ v=false)/\r=(zaB L σ,0))\/((∃v∈L,zgX m σ v=true)/\r=([],6))
 typ:T.right=true->(m<((T.subF σ).cnt:Int)/\u=(zTy,6))\/(¬m<((T.subF σ).cnt:Int)/\u=(T.subF σ,0))
theorem sol_yes0 {m:Int} {es:List EqT} {T:Ty} {r:List Bd×Int} {u:Ty×Int} {z:Int} (hG:zlM es) (hA:SolA m es r) (hT:TypA m es T u) (hz:SatA es z) (h0:z=0):∃(L:List Int) (σ:Int->Ty),SolY m es T r u L σ:=by
 subst h0;unfold SolA at hA;unfold SatA at hz
 by_cases hb:Bad es
 (·rw[if_pos hb] at hz;exact absurd hz tz3);rw[if_neg hb] at hA hz;obtain ⟨hok,hsum,hre⟩:=okE_of hG.1 hb;have hlight:LightL (es.map EqT.p):=hre▸hG.2;(rcases hA with ⟨s,hE,hne,_⟩ | ⟨S,c,hp,hno,hgot⟩);(·exact absurd (hz.eq hE) hne);refine ⟨vsS S,wF S,hok,hp.wF_norm hno,hp.wF_mg hno,hp.vs_strict,hp.vs_mem,hlight S c ⟨hp,hno⟩,hsum,hgot,fun hr=>?_⟩;(rcases hT with ⟨h1,_⟩ | ⟨_,h1,_⟩ | ⟨_,_,h1⟩);(·rw[hr] at h1;cases h1);(·exact absurd h1 hb);(rcases h1 with ⟨s,hE,hne,_⟩ | ⟨S2,c2,hp2,h2⟩);(·exact absurd (hz.eq hE) hne);(have hL:vsS S2=vsS S:=zet hp2.p.vs_strict hp.vs_strict fun v=>(hp2.p.vs_mem v).trans (hp.vs_mem v).symm);have hn2:=hp2.p.wF_norm hp2.no;rw[hL] at hn2;rw[show wF S=wF S2 from MG.unique (hp.wF_norm hno) hn2 (hp.wF_mg hno) (hp2.p.wF_mg hp2.no)];exact h2
theorem mu_le {σ:Int->Ty} (h:∀v,(σ v).cnt<=399):∀l:List (Ty×Ty),mu σ l<=399 * zbD l
 | []=>by simp[mu]
 | e::l=>by
  have h1:=mu_le h l;have h2:=zbI h tz1 e.1;have h3:=zbI h tz1 e.2;simp only[mu,zbD];omega
def bigD (m:Int) (b:Bd):Bool:=decide (m<(b.t.cnt:Int))
theorem many_iff {m:Int} {σ:Int->Ty} (h:∀v,(σ v).cnt<=399) (L:List Int):(zaB L σ).any (bigD m)=L.any (zgX m σ):=by
 rw[zF,List.any_eq_true,List.any_eq_true]
 have hv:∀v,zgX m σ v=(decide (m<((σ v).cnt:Int))&&!(σ v).same (vTy v)):=fun v=>by
  unfold zgX;rw[show min most ((σ v).cnt:Int)=((σ v).cnt:Int) from by have:=h v;simp only[most];omega]
 constructor
 ·rintro ⟨b,hb,h2⟩
  obtain ⟨v,hv2,rfl⟩:=zq.1 hb;obtain ⟨h3,h4⟩:=List.mem_filter.1 hv2;exact ⟨v,h3,by rw[hv,h4,Bool.and_true];exact h2⟩
 rintro ⟨v,h3,h4⟩;rw[hv,zy] at h4;exact ⟨⟨v,σ v⟩,zq.2 ⟨v,List.mem_filter.2 ⟨h3,h4.2⟩,rfl⟩,h4.1⟩
theorem any_take {α:Type} {P:α->Bool} {L:List α} {s:Nat} {x:α} (h:L[s]?=some x):(L.take (s+1)).any P=((L.take s).any P||P x):=by
 rw[zM,h,List.any_append];simp
section
variable {m:Int} {es:List EqT} {T:Ty} {r:List Bd×Int} {u:Ty×Int} {L:List Int} {σ:Int->Ty}
theorem SolY.many (h:SolY m es T r u L σ):(r.2=6/\r.1=[]/\(zaB L σ).any (bigD m)=true)\/(r.2=0/\r.1=zaB L σ/\(zaB L σ).any (bigD m)=false):=by
 rw[many_iff h.small];(rcases h.got with ⟨h1,rfl⟩ | ⟨⟨v,h1,h2⟩,rfl⟩);(·exact .inr ⟨rfl,rfl,List.any_eq_false.2 fun v hv=>by rw[h1 v hv];decide⟩);exact .inl ⟨rfl,rfl,List.any_eq_true.2 ⟨v,h1,h2⟩⟩
theorem SolY.made (h:SolY m es T r u L σ) (hr:T.right=true):T.sub (zaB L σ)=T.subF σ:=by
 rw[Ty.sub_subF _ _ hr,zl0 h.strict h.norm.out]
theorem SolY.rise (h:SolY m es T r u L σ):zaT (zby (es.map EqT.p))=L :=
 zet ((zfI _).2.2 (zdJ _).1) h.strict fun v=>(((zfI _).2.1 v).trans ((zdJ _).2 v)).trans (h.occ v).symm
theorem SolY.told (h:SolY m es T r u L σ) {o:List Bd} (hI:RInv (es.map EqT.p) [] o):toldB L o=zaB L σ:=told_eq hI h.ok.rightE h.norm h.mg h.strict h.occ
theorem SolY.low (h:SolY m es T r u L σ) {o:List Bd} (hI:RInv (es.map EqT.p) [] o):∀v∈L,((vTy v).sub o).cnt<=1099511627776:=fun v hv=>by
 obtain ⟨e,he,h9⟩:=(h.occ v).1 hv;have hr:=h.ok.rightE;have h8:(vTy v).right=true:=h9.elim (fun h=>Ty.var_right (hr e he).1 h) (fun h=>Ty.var_right (hr e he).2 h);rw[Ty.sub_subF _ _ h8,Ty.subF_var rfl];show (zem o v).cnt<=_
 by_cases hm:v∈o.map Bd.v
 ·obtain ⟨b,hb,rfl⟩:=zq.1 hm
  rw[zeO hI.nd hb];have h1:=Ty.cnt_subF (σ:=σ) b.t (hI.ro b hb);rw[(hI.fwd σ h.mg.solves).2 b hb] at h1;have h2:=h.small b.v;omega
 rw[zbs hm,zh1];omega
end
end Go.Proofs.YtpfiliamceimmaaGreatDoor
namespace Go.Proofs.YtpfiliamceimmaaGreatDoor
open Go Go.RowKit
attribute [local irreducible] aops zaA
theorem zdM:Data (.agg [.v (.int .i64 0),.v (.int .i64 0),.v (.slice none 0 0)]):=.agg (.cons (.v _) (.cons (.v _) (.cons (.v _) .nil)))
theorem TypeA_c (most0:Int) (T:Ty) (es:List EqT) (hG:zlM es) (hTc:T.cnt<=1000000):DCalls (σ:=Ty×Int) 30 [.v (.int .i64 most0),.agg T.cells,.sl 8 (es.map EqT.cells)] (TypA most0 es T) (fun s=>.tup [.agg s.1.cells,.v (.int .i64 s.2)]):=by
 obtain ⟨hg,hlight⟩:=hG
 cases hr:T.right with
 | false=>exact APure.toD (Type_arg most0 T es hr) (zTy,1) (.inl ⟨hr,rfl⟩) rfl
 | true =>
  by_cases hb:Bad es
  ·have hl:=(zcr hg).1
   rw[zx] at hl;exact APure.toD (Type_bad most0 T es tz1 (zfK hb) hr) (zTy,1) (.inr (.inl ⟨hr,hb,rfl⟩)) rfl
  obtain ⟨h1,h2,h3⟩:=okE_of hg hb;rw[h3] at hlight;exact (Type_c most0 T hr hTc es h1 tz1 hlight).weak id (fun t ht=>.inr (.inr ⟨hr,hb,ht⟩)) (fun _=>rfl)
theorem zfj (es:List EqT) (m:Int) (T:Ty):APure Tryz.prog 7 [.sl 8 (es.map EqT.cells),.v (.int .i64 m),.agg T.cells] (.v (.bool true)):=by
  refine APure.mkL (.cons (EqT.dataSl es) (.cons (.v _) (.cons T.dataAgg .nil))) (.v _) ?_;refine aIn Tryz.func7 fun hm=>?_;simp only[Tryz.ntmps7,Tryz.results7,go_sem,seval];refine sqR fun _ w=>?_;refine chS 1 ?_;simp only[↓bO,go_sem,seval];apply w;refine z6 fun _ w=>?_;refine sqR fun _ x=>?_;refine chS 1 ?_;refine zZ 1 fun _ y=>?_;simp only[↓bO,go_sem,seval];refine DCalls.at (Great14_c es) (.cons (EqT.dataSl _) .nil) (fun _=>.v _) (fun g hG=>?_);apply y;clear y;refine chS 1 ?_;simp only[go_sem];refine zag 20 rfl (fun hc20=>?_) (fun hc20=>?_)
  ·
   (iterate 7 (refine chS 1 ?_));simp only[↓bO,go_sem,seval];apply x;refine z8 (b:=true) (by first | exact rfl | exact congrArg (fun b=>AV.v (.bool b)) hb28) (fun _=>?_) (fun h=>(by cases h));refine sqR fun _ x=>?_;refine zZ 1 fun _ y=>?_;simp only[↓bO,go_sem,seval];refine APure.call (zaG) ?_;apply y;clear y;simp only[↓bO,go_sem,seval];apply x;apply zab;exact Le.refl _
  simp only[go_sem];have hgood:zlM es:=hG (by first | exact hc20 | (simpa using hc20));refine chS 1 ?_;refine zZ 1 fun _ y=>?_;simp only[↓bO,go_sem,seval];refine APure.call (zj5 T) ?_;(iterate 2 (apply y;clear y;refine zZ 1 fun _ y=>?_;simp only[↓bO,go_sem,seval]));apply y;clear y;refine zag 24 rfl (fun hc24=>?_) (fun hc24=>?_)
  ·
   (iterate 3 (refine chS 1 ?_));simp only[↓bO,go_sem,seval];apply x;refine z8 (b:=true) (by first | exact rfl | exact congrArg (fun b=>AV.v (.bool b)) hb28) (fun _=>?_) (fun h=>(by cases h));refine sqR fun _ x=>?_;refine zZ 1 fun _ y=>?_;simp only[↓bO,go_sem,seval];refine APure.call (zaG) ?_;apply y;clear y;simp only[↓bO,go_sem,seval];apply x;apply zab;exact Le.refl _
  simp only[go_sem];have hTc:=Ty.great_cnt (by first | exact hc24 | (simpa using hc24));have hTz:=Ty.sizeW_cnt T tz1;refine chS 1 ?_;refine zZ 1 fun _ y=>?_;simp only[↓bO,go_sem,seval];refine APure.call (zb5 T) ?_;apply y;clear y;refine chS 1 ?_;simp only[↓bO,go_sem,seval];apply x;apply z8 rfl <;> intro hb28
  ·
   refine sqR fun _ x=>?_;refine zZ 1 fun _ y=>?_;simp only[↓bO,go_sem,seval];refine APure.call (zaG) ?_;apply y;clear y;simp only[↓bO,go_sem,seval];apply x;apply zab;exact Le.refl _
  (have hT60:T.cnt<=60:=by (have h9:=hb28;simp at h9;omega));apply zaa;apply w;refine sqR fun _ w=>?_;(iterate 2 (refine chS 1 ?_));refine zZ 1 fun _ y=>?_;simp only[↓bO,go_sem,seval];refine DCalls.at (SolveA_c m es hgood) (.cons (.v _) (.cons (EqT.dataSl _) .nil)) (fun _=>.tup (.cons (Bd.dataSl _) (.cons (.v _) .nil))) (fun r hr=>?_);(iterate 4 (apply y;clear y;refine zZ 1 fun _ y=>?_;simp only[↓bO,go_sem,seval]));apply y;clear y;simp only[↓bO,go_sem,seval];apply w;refine sqR fun _ w=>?_;(iterate 3 (refine chS 1 ?_));refine zZ 1 fun _ y=>?_;simp only[↓bO,go_sem,seval];refine DCalls.at (TypeA_c m T es hgood tz1) (.cons (.v _) (.cons (Ty.dataAgg _) (.cons (EqT.dataSl _) .nil))) (fun _=>.tup (.cons (Ty.dataAgg _) (.cons (.v _) .nil))) (fun u hu=>?_);obtain ⟨U,f⟩:=u;dsimp only;(iterate 5 (apply y;clear y;refine zZ 1 fun _ y=>?_;simp only[↓bO,go_sem,seval]));apply y;clear y;simp only[↓bO,go_sem,seval];apply w;refine zaP (mB 167 1955) ([]) ([]) ?_ ?_
  ·
   refine sqR fun _ w=>?_;refine chS 1 ?_;refine zZ 1 fun _ y=>?_;simp only[↓bO,go_sem,seval];refine APure.call (za2 T) ?_;apply y;clear y;simp only[↓bO,go_sem,seval];apply w;apply z8 rfl <;> intro hb45
   ·
    (have hTf:T.right=false:=by simpa using hb45);have hu1:U=zTy/\f=1:=(by rcases hu with ⟨_,h9⟩ | ⟨h8,_⟩ | ⟨h8,_⟩;exact ⟨congrArg Prod.fst h9,congrArg Prod.snd h9⟩;(rw[hTf] at h8;cases h8);(rw[hTf] at h8;cases h8));refine sqR fun _ w=>?_;(iterate 3 (refine chS 1 ?_));refine zag 48 rfl (fun hc48=>?_) (fun hc48=>?_)
    ·
     simp only[go_sem];exact absurd hc48 (by rw[hu1.2];decide)
    (iterate 2 (refine chS 1 ?_));refine zZ 1 fun _ y=>?_;simp only[↓bO,go_sem,seval];refine APure.call ((show APure Tryz.prog 17 [.agg U.cells,.agg [.v (.int .i64 0),.v (.int .i64 0),.v (.slice none 0 0)]] (.v (.bool (U.same zTy))) from (zbb U zTy).le ⟨.refl _,zcK,trivial⟩ (.cons (Ty.dataAgg _) (.cons zdM .nil)))) ?_;apply y;clear y;refine chS 1 ?_;simp only[↓bO,go_sem,seval];apply w;apply z8 rfl <;> intro hb53
    ·
     exact absurd hb53 (by rw[hu1.1,Ty.same_refl];decide)
    apply zaa;(try simp only[go_sem]);(try simp only[zar,zas,zah,zam,mB,seval]);refine Weak.mk ?_ (fun _ _ h=>h) rfl rfl;simp only[go_sem,Le.refl,Le.any];all_goals (refine Le.of_eq (congrArg (fun b=>AV.v (.bool b)) ?_);first | (simp_all;done) | (simp at *;omega))
   apply zaa;(try simp only[go_sem]);(try simp only[zar,zas,zah,zam,mB,seval]);refine Weak.mk ?_ (fun _ _ h=>h) rfl rfl;simp only[go_sem,Le.refl,Le.any];all_goals (refine Le.of_eq (congrArg (fun b=>AV.v (.bool b)) ?_);first | (simp_all;done) | (simp at *;omega))
  simp only[zar,zas,zah,zam,mB,seval];refine z6 fun _ w=>?_;refine sqR fun _ x=>?_;refine chS 1 ?_;refine zZ 1 fun _ y=>?_;simp only[↓bO,go_sem,seval];refine DCalls.at (sat_c es hgood.1) (.cons (EqT.dataSl _) .nil) (fun _=>.v _) (fun z hz=>?_);apply y;clear y;simp only[↓bO,go_sem,seval];apply x;refine sqR fun _ x=>?_;refine chS 1 ?_;simp only[↓bO,go_sem,seval];apply x;apply z8 rfl <;> intro hb57
  ·
   (have hz0:z≠0:=by simpa using hb57);obtain ⟨hr1,hu2⟩:=sol_bad hr hu hz hz0;subst hr1;dsimp only;refine sqR fun _ x=>?_;(iterate 4 (refine chS 1 ?_));refine zag 61 rfl (fun hc61=>?_) (fun hc61=>?_)
   ·
    (iterate 5 (refine chS 1 ?_));refine zag 66 rfl (fun hc66=>?_) (fun hc66=>?_)
    ·
     refine chS 1 ?_;refine zZ 1 fun _ y=>?_;simp only[↓bO,go_sem,seval];refine APure.call (za2 T) ?_;(iterate 2 (apply y;clear y;refine zZ 1 fun _ y=>?_;simp only[↓bO,go_sem,seval]));apply y;clear y;refine zag 70 rfl (fun hc70=>?_) (fun hc70=>?_)
     ·
      (iterate 11 (refine chS 1 ?_));refine zZ 1 fun _ y=>?_;simp only[↓bO,go_sem,seval];refine APure.call (zaG) ?_;apply y;clear y;refine chS 1 ?_;simp only[↓bO,go_sem,seval];apply x;apply zab;exact Le.refl _
     simp only[go_sem];(have hTr:T.right=true:=by simpa using hc70);have hu3:=hu2 hTr;have hU3:U=zTy:=congrArg Prod.fst hu3;have hf3:f=z:=congrArg Prod.snd hu3;(iterate 4 (refine chS 1 ?_));refine zag 74 rfl (fun hc74=>?_) (fun hc74=>?_)
     ·
      (iterate 2 (refine chS 1 ?_));refine zZ 1 fun _ y=>?_;simp only[↓bO,go_sem,seval];refine APure.call ((show APure Tryz.prog 17 [.agg U.cells,.agg [.v (.int .i64 0),.v (.int .i64 0),.v (.slice none 0 0)]] (.v (.bool (U.same zTy))) from (zbb U zTy).le ⟨.refl _,zcK,trivial⟩ (.cons (Ty.dataAgg _) (.cons zdM .nil)))) ?_;(iterate 4 (apply y;clear y;refine zZ 1 fun _ y=>?_;simp only[↓bO,go_sem,seval]));apply y;clear y;refine zag 81 rfl (fun hc81=>?_) (fun hc81=>?_)
      ·
       simp only[go_sem];refine zZ 1 fun _ y=>?_;simp only[↓bO,go_sem,seval];refine APure.call (zaG) ?_;apply y;clear y;refine chS 1 ?_;simp only[↓bO,go_sem,seval];apply x;apply zab;exact Le.refl _
      simp only[go_sem];exact absurd hc81 (by rw[hU3,Ty.same_refl];decide)
     simp only[go_sem];exact absurd hc74 (by rw[hf3];simp)
    simp only[go_sem];exact absurd hc66 tz4
   simp only[go_sem];exact absurd hc61 tz4
  (have hz0:z=0:=by simpa using hb57);obtain ⟨L,σ,hY⟩:=sol_yes0 hgood hr hu hz hz0;have hmy:=hY.many;have hLl:=Nat.le_trans (zgT L σ) (vs_len hY.strict hY.occ);have hsum:=hY.sum;have hbs:=zi0 (L:=L) hY.small;apply zaa;apply w;refine sqR fun _ w=>?_;refine chS 1 ?_;refine zZ 1 fun _ y=>?_;simp only[↓bO,go_sem,seval];refine DCalls.at (RSolve_c es hY.mg.solves hY.ok.rightE (Nat.le_trans (mu_le hY.small _) (by have h9:=hY.sum;omega)) (fun v _=>Nat.le_trans (hY.small v) tz3)) (.cons (EqT.dataSl _) .nil) (fun _=>.tup (.cons (Bd.dataSl _) (.cons (.v _) .nil))) (fun o hI=>?_);(iterate 4 (apply y;clear y;refine zZ 1 fun _ y=>?_;simp only[↓bO,go_sem,seval]));apply y;clear y;simp only[↓bO,go_sem,seval];apply w;refine sqR fun _ w=>?_;(iterate 2 (refine chS 1 ?_));refine zZ 1 fun _ y=>?_;simp only[↓bO,go_sem,seval];refine APure.call ((show APure Tryz.prog 28 [.sl 8 (es.map EqT.cells)] (.sl 1 (L.map intC)) from by rw[<- hY.rise];exact zjY es (by have h9:=hY.sum;omega))) ?_;apply y;clear y;refine zZ 1 fun _ y=>?_;simp only[↓bO,go_sem,seval];refine APure.call ((show APure Tryz.prog 33 [.sl 4 (o.map Bd.cells),.sl 1 (L.map intC)] (.sl 4 ((zaB L σ).map Bd.cells)) from by rw[<- hY.told hI];exact Told_pure o L (Nat.le_trans (vs_len hY.strict hY.occ) (by have h9:=hY.sum;omega)) (hY.low hI))) ?_;apply y;clear y;simp only[↓bO,go_sem,seval];apply w;refine sqD ?_;refine z6 fun _ w=>?_;refine sqD ?_;apply zac;refine zai (σ:=Nat) (mB 167 116642) (fun s=>s<=(zaB L σ).length) (fun s=>[(15,.v (.bool (((zaB L σ).take s).any (bigD m)))),(16,.v (.int .i64 (s:Int)))]) (fun s=>[]) (fun s=>(zaB L σ).length-s) 0 tz1 ?_ (fun s hs=>?_)
  ·
   simp only[go_sem,seval,bL,List.any_nil];exact zaL
  simp only[go_sem,seval];refine z6 fun _ x=>?_;refine sqR fun _ k=>?_;(iterate 3 (refine chS 1 ?_));simp only[↓bO,go_sem,seval];apply k;apply z8 rfl <;> intro hb96
  ·
   (have hk:s<(zaB L σ).length:=by simpa using hb96);obtain ⟨b,hb9⟩:∃b,(zaB L σ)[s]?=some b:=⟨_,za hk⟩;have hbc:=hbs b (zc hb9);have hbz:=Ty.sizeW_cnt b.t tz1;have hw:IntKind.i64.wrap ((s:Int)+1)=(s:Int)+1:=zal tz1 tz1;have hst:=any_take (P:=bigD m) hb9;obtain ⟨mb,hmb⟩:∃z,z=(((zaB L σ).take s).any (bigD m)):=⟨_,rfl⟩;rw[<- hmb];rw[<- hmb] at hst;simp only[bigD] at hst;apply zaa;apply x;refine z6 fun _ x=>?_;apply zac;apply z7;(iterate 2 (refine chS 1 ?_ (by intro _ q;simp only[↓bO,go_sem,seval,hk];exact q)));refine zag 100 rfl (fun hc100=>?_) (fun hc100=>?_)
   ·
    simp only[go_sem];(have hmT:mb=true:=by (first | exact hc100 | simpa using hc100));(iterate 9 (refine chS 1 ?_ (by intro _ q;simp only[↓bO,go_sem,seval,hmT];exact q)));simp only[↓bO,go_sem,seval];apply x;apply z7;(iterate 2 (refine chS 1 ?_ (by intro _ q;simp only[↓bO,go_sem,seval,hw];exact q)));simp only[↓bO,go_sem,seval];refine ⟨(s+1),tz1,by omega,?_⟩;simp only[zar,zas,zah,zam,mB,seval,hst,zj,zh,hmT,Bool.true_or];exact zaL
   simp only[go_sem];(have hmT:mb=false:=by (first | exact hc100 | simpa using hc100));(iterate 5 (refine chS 1 ?_ (by intro _ q;simp only[↓bO,go_sem,seval,hk,gM hb9,Bd.cells,hmT];exact q)));refine zZ 1 fun _ y=>?_;simp only[↓bO,go_sem,seval];refine APure.call (zb5 b.t) ?_;(iterate 3 (apply y;clear y;refine zZ 1 fun _ y=>?_;simp only[↓bO,go_sem,seval,hbz]));apply y;clear y;simp only[↓bO,go_sem,seval];apply x;apply z7;(iterate 2 (refine chS 1 ?_ (by intro _ q;simp only[↓bO,go_sem,seval,hw];exact q)));simp only[↓bO,go_sem,seval];refine ⟨(s+1),tz1,by omega,?_⟩;simp only[zar,zas,zah,zam,mB,seval,hst,zj,zh,hmT,Bool.false_or];exact zaL
  (have hk:s=(zaB L σ).length:=by simp at hb96;omega);rw[show (((zaB L σ).take s).any (bigD m))=(zaB L σ).any (bigD m) from by rw[hk,zI]];apply zak;simp only[zao,zaj,zaf,bA,Nat.reduceEqDiff,↓reduceIte];apply w;refine z6 fun _ w=>?_;refine sqR fun _ x=>?_;(iterate 5 (refine chS 1 ?_));refine zag 114 rfl (fun hc114=>?_) (fun hc114=>?_)
  ·
   simp only[go_sem];exact absurd hc114 (by (rcases hmy with ⟨h1,_,h2⟩ | ⟨h1,_,h2⟩ <;> rw[h1,h2] <;> decide))
  (iterate 3 (refine chS 1 ?_));refine zag 117 rfl (fun hc117=>?_) (fun hc117=>?_)
  ·
   simp only[go_sem];(have hmF:(zaB L σ).any (bigD m)=false:=by simpa using hc117);obtain ⟨hr2,hr1⟩:r.2=0/\r.1=(zaB L σ):=(by rcases hmy with ⟨_,_,h9⟩ | ⟨h9,h8,_⟩;(rw[hmF] at h9;cases h9);exact ⟨h9,h8⟩);(iterate 3 (refine chS 1 ?_));refine zag 120 rfl (fun hc120=>?_) (fun hc120=>?_)
   ·
    simp only[go_sem];exact absurd hc120 (by rw[hr2];decide)
   (iterate 2 (refine chS 1 ?_));refine zZ 1 fun _ y=>?_;simp only[↓bO,go_sem,seval];refine APure.call (zlk r.1 (zaB L σ)) ?_;(iterate 5 (apply y;clear y;refine zZ 1 fun _ y=>?_;simp only[↓bO,go_sem,seval]));apply y;clear y;refine zag 128 rfl (fun hc128=>?_) (fun hc128=>?_)
   ·
    simp only[go_sem];exact absurd hc128 (by rw[hr1,zll];decide)
   (iterate 2 (refine chS 1 ?_));refine zag 130 rfl (fun hc130=>?_) (fun hc130=>?_)
   ·
    (iterate 4 (refine chS 1 ?_));simp only[↓bO,go_sem,seval];apply x;apply z8 rfl <;> intro hb135
    ·
     exact absurd hb135 (by first | (rw[hr1];simp;done) | (rw[hmF] at hc130;cases hc130) | (simp;done))
    apply zaa;apply w;refine z6 fun _ w=>?_;refine sqR fun _ x=>?_;refine chS 1 ?_;refine zZ 1 fun _ y=>?_;simp only[↓bO,go_sem,seval];refine APure.call (za2 T) ?_;apply y;clear y;simp only[↓bO,go_sem,seval];apply x;apply z8 rfl <;> intro hb138
    ·
     refine sqR fun _ x=>?_;refine zZ 1 fun _ y=>?_;simp only[↓bO,go_sem,seval];refine APure.call (zaG) ?_;apply y;clear y;simp only[↓bO,go_sem,seval];apply x;apply zab;exact Le.refl _
    (have hTr:T.right=true:=by simpa using hb138);obtain ⟨M,hM⟩:∃M,M=T.subF σ:=⟨_,rfl⟩;(have hMc:M.cnt<=1000000:=by (rw[hM];have h9:=zbI hY.small tz1 T;omega));have hMs:=Ty.sizeW_cnt M tz1;have htp:=hY.typ hTr;rw[<- hM] at htp;apply zaa;apply w;refine sqR fun _ w=>?_;(iterate 2 (refine chS 1 ?_));refine zZ 1 fun _ y=>?_;simp only[↓bO,go_sem,seval];refine APure.call ((show APure Tryz.prog 34 [.sl 4 ((zaB L σ).map Bd.cells),.agg T.cells] (.agg M.cells) from by rw[hM,<- hY.made hTr];exact zbo T _ tz1)) ?_;apply y;clear y;refine chS 1 ?_;simp only[↓bO,go_sem,seval];apply w;refine z6 fun _ w=>?_;refine sqR fun _ x=>?_;refine chS 1 ?_;refine zZ 1 fun _ y=>?_;simp only[↓bO,go_sem,seval];refine APure.call (zb5 M) ?_;apply y;clear y;refine chS 1 ?_ (by intro _ q;simp only[↓bO,go_sem,seval,hMs];exact q);simp only[↓bO,go_sem,seval];apply x;apply z8 rfl <;> intro hb146
    ·
     (have hmk:m<(M.cnt:Int):=by simpa using hb146);obtain ⟨hU4,hf4⟩:U=zTy/\f=6:=(by rcases htp with ⟨_,h9⟩ | ⟨h9,_⟩;exact ⟨congrArg Prod.fst h9,congrArg Prod.snd h9⟩;exact absurd hmk h9);refine sqR fun _ x=>?_;(iterate 3 (refine chS 1 ?_));refine zag 149 rfl (fun hc149=>?_) (fun hc149=>?_)
     ·
      (iterate 2 (refine chS 1 ?_));refine zZ 1 fun _ y=>?_;simp only[↓bO,go_sem,seval];refine APure.call ((show APure Tryz.prog 17 [.agg U.cells,.agg [.v (.int .i64 0),.v (.int .i64 0),.v (.slice none 0 0)]] (.v (.bool (U.same zTy))) from (zbb U zTy).le ⟨.refl _,zcK,trivial⟩ (.cons (Ty.dataAgg _) (.cons zdM .nil)))) ?_;(iterate 2 (apply y;clear y;refine zZ 1 fun _ y=>?_;simp only[↓bO,go_sem,seval]));apply y;clear y;refine zag 154 rfl (fun hc154=>?_) (fun hc154=>?_)
      ·
       simp only[go_sem];refine zZ 1 fun _ y=>?_;simp only[↓bO,go_sem,seval];refine APure.call (zaG) ?_;apply y;clear y;refine chS 1 ?_;simp only[↓bO,go_sem,seval];apply x;apply zab;exact Le.refl _
      simp only[go_sem];exact absurd hc154 (by rw[hU4,Ty.same_refl];decide)
     simp only[go_sem];exact absurd hc149 (by rw[hf4];decide)
    (have hmk:¬m<(M.cnt:Int):=by (have h9:=hb146;simp at h9;omega));obtain ⟨hU4,hf4⟩:U=M/\f=0:=(by rcases htp with ⟨h9,_⟩ | ⟨_,h9⟩;exact absurd h9 hmk;exact ⟨congrArg Prod.fst h9,congrArg Prod.snd h9⟩);apply zaa;apply w;refine sqR fun _ w=>?_;(iterate 3 (refine chS 1 ?_));refine zag 159 rfl (fun hc159=>?_) (fun hc159=>?_)
    ·
     (iterate 2 (refine chS 1 ?_));refine zZ 1 fun _ y=>?_;simp only[↓bO,go_sem,seval];refine APure.call (zbb U M) ?_;(iterate 2 (apply y;clear y;refine zZ 1 fun _ y=>?_;simp only[↓bO,go_sem,seval]));apply y;clear y;refine zag 164 rfl (fun hc164=>?_) (fun hc164=>?_)
     ·
      simp only[go_sem];refine zZ 1 fun _ y=>?_;simp only[↓bO,go_sem,seval];refine APure.call (zaG) ?_;apply y;clear y;refine chS 1 ?_;simp only[↓bO,go_sem,seval];apply w;apply zab;exact Le.refl _
     simp only[go_sem];exact absurd hc164 (by rw[hU4,Ty.same_refl];decide)
    simp only[go_sem];exact absurd hc159 (by rw[hf4];decide)
   (iterate 4 (refine chS 1 ?_));simp only[↓bO,go_sem,seval];apply x;refine z8 (b:=false) (by first | exact rfl | exact congrArg (fun b=>AV.v (.bool b)) hb135) (fun h=>(by cases h)) (fun _=>?_);apply zaa;apply w;refine z6 fun _ w=>?_;refine sqR fun _ x=>?_;refine chS 1 ?_;refine zZ 1 fun _ y=>?_;simp only[↓bO,go_sem,seval];refine APure.call (za2 T) ?_;apply y;clear y;simp only[↓bO,go_sem,seval];apply x;apply z8 rfl <;> intro hb138
   ·
    refine sqR fun _ x=>?_;refine zZ 1 fun _ y=>?_;simp only[↓bO,go_sem,seval];refine APure.call (zaG) ?_;apply y;clear y;simp only[↓bO,go_sem,seval];apply x;apply zab;exact Le.refl _
   (have hTr:T.right=true:=by simpa using hb138);obtain ⟨M,hM⟩:∃M,M=T.subF σ:=⟨_,rfl⟩;(have hMc:M.cnt<=1000000:=by (rw[hM];have h9:=zbI hY.small tz1 T;omega));have hMs:=Ty.sizeW_cnt M tz1;have htp:=hY.typ hTr;rw[<- hM] at htp;apply zaa;apply w;refine sqR fun _ w=>?_;(iterate 2 (refine chS 1 ?_));refine zZ 1 fun _ y=>?_;simp only[↓bO,go_sem,seval];refine APure.call ((show APure Tryz.prog 34 [.sl 4 ((zaB L σ).map Bd.cells),.agg T.cells] (.agg M.cells) from by rw[hM,<- hY.made hTr];exact zbo T _ tz1)) ?_;apply y;clear y;refine chS 1 ?_;simp only[↓bO,go_sem,seval];apply w;refine z6 fun _ w=>?_;refine sqR fun _ x=>?_;refine chS 1 ?_;refine zZ 1 fun _ y=>?_;simp only[↓bO,go_sem,seval];refine APure.call (zb5 M) ?_;apply y;clear y;refine chS 1 ?_ (by intro _ q;simp only[↓bO,go_sem,seval,hMs];exact q);simp only[↓bO,go_sem,seval];apply x;apply z8 rfl <;> intro hb146
   ·
    (have hmk:m<(M.cnt:Int):=by simpa using hb146);obtain ⟨hU4,hf4⟩:U=zTy/\f=6:=(by rcases htp with ⟨_,h9⟩ | ⟨h9,_⟩;exact ⟨congrArg Prod.fst h9,congrArg Prod.snd h9⟩;exact absurd hmk h9);refine sqR fun _ x=>?_;(iterate 3 (refine chS 1 ?_));refine zag 149 rfl (fun hc149=>?_) (fun hc149=>?_)
    ·
     (iterate 2 (refine chS 1 ?_));refine zZ 1 fun _ y=>?_;simp only[↓bO,go_sem,seval];refine APure.call ((show APure Tryz.prog 17 [.agg U.cells,.agg [.v (.int .i64 0),.v (.int .i64 0),.v (.slice none 0 0)]] (.v (.bool (U.same zTy))) from (zbb U zTy).le ⟨.refl _,zcK,trivial⟩ (.cons (Ty.dataAgg _) (.cons zdM .nil)))) ?_;(iterate 2 (apply y;clear y;refine zZ 1 fun _ y=>?_;simp only[↓bO,go_sem,seval]));apply y;clear y;refine zag 154 rfl (fun hc154=>?_) (fun hc154=>?_)
     ·
      simp only[go_sem];refine zZ 1 fun _ y=>?_;simp only[↓bO,go_sem,seval];refine APure.call (zaG) ?_;apply y;clear y;refine chS 1 ?_;simp only[↓bO,go_sem,seval];apply x;apply zab;exact Le.refl _
     simp only[go_sem];exact absurd hc154 (by rw[hU4,Ty.same_refl];decide)
    simp only[go_sem];exact absurd hc149 (by rw[hf4];decide)
   (have hmk:¬m<(M.cnt:Int):=by (have h9:=hb146;simp at h9;omega));obtain ⟨hU4,hf4⟩:U=M/\f=0:=(by rcases htp with ⟨h9,_⟩ | ⟨_,h9⟩;exact absurd h9 hmk;exact ⟨congrArg Prod.fst h9,congrArg Prod.snd h9⟩);apply zaa;apply w;refine sqR fun _ w=>?_;(iterate 3 (refine chS 1 ?_));refine zag 159 rfl (fun hc159=>?_) (fun hc159=>?_)
   ·
    (iterate 2 (refine chS 1 ?_));refine zZ 1 fun _ y=>?_;simp only[↓bO,go_sem,seval];refine APure.call (zbb U M) ?_;(iterate 2 (apply y;clear y;refine zZ 1 fun _ y=>?_;simp only[↓bO,go_sem,seval]));apply y;clear y;refine zag 164 rfl (fun hc164=>?_) (fun hc164=>?_)
    ·
     simp only[go_sem];refine zZ 1 fun _ y=>?_;simp only[↓bO,go_sem,seval];refine APure.call (zaG) ?_;apply y;clear y;refine chS 1 ?_;simp only[↓bO,go_sem,seval];apply w;apply zab;exact Le.refl _
    simp only[go_sem];exact absurd hc164 (by rw[hU4,Ty.same_refl];decide)
   simp only[go_sem];exact absurd hc159 (by rw[hf4];decide)
  simp only[go_sem];(have hmF:(zaB L σ).any (bigD m)=true:=by simpa using hc117);obtain ⟨hr2,hr1⟩:r.2=6/\r.1=[]:=(by rcases hmy with ⟨h9,h8,_⟩ | ⟨_,_,h9⟩;exact ⟨h9,h8⟩;(rw[hmF] at h9;cases h9));(iterate 13 (refine chS 1 ?_));refine zag 130 rfl (fun hc130=>?_) (fun hc130=>?_)
  ·
   (iterate 4 (refine chS 1 ?_));simp only[↓bO,go_sem,seval];apply x;apply z8 rfl <;> intro hb135
   ·
    exact absurd hb135 (by first | (rw[hr1];simp;done) | (rw[hmF] at hc130;cases hc130) | (simp;done))
   apply zaa;apply w;refine z6 fun _ w=>?_;refine sqR fun _ x=>?_;refine chS 1 ?_;refine zZ 1 fun _ y=>?_;simp only[↓bO,go_sem,seval];refine APure.call (za2 T) ?_;apply y;clear y;simp only[↓bO,go_sem,seval];apply x;apply z8 rfl <;> intro hb138
   ·
    refine sqR fun _ x=>?_;refine zZ 1 fun _ y=>?_;simp only[↓bO,go_sem,seval];refine APure.call (zaG) ?_;apply y;clear y;simp only[↓bO,go_sem,seval];apply x;apply zab;exact Le.refl _
   (have hTr:T.right=true:=by simpa using hb138);obtain ⟨M,hM⟩:∃M,M=T.subF σ:=⟨_,rfl⟩;(have hMc:M.cnt<=1000000:=by (rw[hM];have h9:=zbI hY.small tz1 T;omega));have hMs:=Ty.sizeW_cnt M tz1;have htp:=hY.typ hTr;rw[<- hM] at htp;apply zaa;apply w;refine sqR fun _ w=>?_;(iterate 2 (refine chS 1 ?_));refine zZ 1 fun _ y=>?_;simp only[↓bO,go_sem,seval];refine APure.call ((show APure Tryz.prog 34 [.sl 4 ((zaB L σ).map Bd.cells),.agg T.cells] (.agg M.cells) from by rw[hM,<- hY.made hTr];exact zbo T _ tz1)) ?_;apply y;clear y;refine chS 1 ?_;simp only[↓bO,go_sem,seval];apply w;refine z6 fun _ w=>?_;refine sqR fun _ x=>?_;refine chS 1 ?_;refine zZ 1 fun _ y=>?_;simp only[↓bO,go_sem,seval];refine APure.call (zb5 M) ?_;apply y;clear y;refine chS 1 ?_ (by intro _ q;simp only[↓bO,go_sem,seval,hMs];exact q);simp only[↓bO,go_sem,seval];apply x;apply z8 rfl <;> intro hb146
   ·
    (have hmk:m<(M.cnt:Int):=by simpa using hb146);obtain ⟨hU4,hf4⟩:U=zTy/\f=6:=(by rcases htp with ⟨_,h9⟩ | ⟨h9,_⟩;exact ⟨congrArg Prod.fst h9,congrArg Prod.snd h9⟩;exact absurd hmk h9);refine sqR fun _ x=>?_;(iterate 3 (refine chS 1 ?_));refine zag 149 rfl (fun hc149=>?_) (fun hc149=>?_)
    ·
     (iterate 2 (refine chS 1 ?_));refine zZ 1 fun _ y=>?_;simp only[↓bO,go_sem,seval];refine APure.call ((show APure Tryz.prog 17 [.agg U.cells,.agg [.v (.int .i64 0),.v (.int .i64 0),.v (.slice none 0 0)]] (.v (.bool (U.same zTy))) from (zbb U zTy).le ⟨.refl _,zcK,trivial⟩ (.cons (Ty.dataAgg _) (.cons zdM .nil)))) ?_;(iterate 2 (apply y;clear y;refine zZ 1 fun _ y=>?_;simp only[↓bO,go_sem,seval]));apply y;clear y;refine zag 154 rfl (fun hc154=>?_) (fun hc154=>?_)
     ·
      simp only[go_sem];refine zZ 1 fun _ y=>?_;simp only[↓bO,go_sem,seval];refine APure.call (zaG) ?_;apply y;clear y;refine chS 1 ?_;simp only[↓bO,go_sem,seval];apply x;apply zab;exact Le.refl _
     simp only[go_sem];exact absurd hc154 (by rw[hU4,Ty.same_refl];decide)
    simp only[go_sem];exact absurd hc149 (by rw[hf4];decide)
   (have hmk:¬m<(M.cnt:Int):=by (have h9:=hb146;simp at h9;omega));obtain ⟨hU4,hf4⟩:U=M/\f=0:=(by rcases htp with ⟨h9,_⟩ | ⟨_,h9⟩;exact absurd h9 hmk;exact ⟨congrArg Prod.fst h9,congrArg Prod.snd h9⟩);apply zaa;apply w;refine sqR fun _ w=>?_;(iterate 3 (refine chS 1 ?_));refine zag 159 rfl (fun hc159=>?_) (fun hc159=>?_)
   ·
    (iterate 2 (refine chS 1 ?_));refine zZ 1 fun _ y=>?_;simp only[↓bO,go_sem,seval];refine APure.call (zbb U M) ?_;(iterate 2 (apply y;clear y;refine zZ 1 fun _ y=>?_;simp only[↓bO,go_sem,seval]));apply y;clear y;refine zag 164 rfl (fun hc164=>?_) (fun hc164=>?_)
    ·
     simp only[go_sem];refine zZ 1 fun _ y=>?_;simp only[↓bO,go_sem,seval];refine APure.call (zaG) ?_;apply y;clear y;refine chS 1 ?_;simp only[↓bO,go_sem,seval];apply w;apply zab;exact Le.refl _
    simp only[go_sem];exact absurd hc164 (by rw[hU4,Ty.same_refl];decide)
   simp only[go_sem];exact absurd hc159 (by rw[hf4];decide)
  (iterate 4 (refine chS 1 ?_));simp only[↓bO,go_sem,seval];apply x;refine z8 (b:=false) (by first | exact rfl | exact congrArg (fun b=>AV.v (.bool b)) hb135) (fun h=>(by cases h)) (fun _=>?_);apply zaa;apply w;refine z6 fun _ w=>?_;refine sqR fun _ x=>?_;refine chS 1 ?_;refine zZ 1 fun _ y=>?_;simp only[↓bO,go_sem,seval];refine APure.call (za2 T) ?_;apply y;clear y;simp only[↓bO,go_sem,seval];apply x;apply z8 rfl <;> intro hb138
  ·
   refine sqR fun _ x=>?_;refine zZ 1 fun _ y=>?_;simp only[↓bO,go_sem,seval];refine APure.call (zaG) ?_;apply y;clear y;simp only[↓bO,go_sem,seval];apply x;apply zab;exact Le.refl _
  (have hTr:T.right=true:=by simpa using hb138);obtain ⟨M,hM⟩:∃M,M=T.subF σ:=⟨_,rfl⟩;(have hMc:M.cnt<=1000000:=by (rw[hM];have h9:=zbI hY.small tz1 T;omega));have hMs:=Ty.sizeW_cnt M tz1;have htp:=hY.typ hTr;rw[<- hM] at htp;apply zaa;apply w;refine sqR fun _ w=>?_;(iterate 2 (refine chS 1 ?_));refine zZ 1 fun _ y=>?_;simp only[↓bO,go_sem,seval];refine APure.call ((show APure Tryz.prog 34 [.sl 4 ((zaB L σ).map Bd.cells),.agg T.cells] (.agg M.cells) from by rw[hM,<- hY.made hTr];exact zbo T _ tz1)) ?_;apply y;clear y;refine chS 1 ?_;simp only[↓bO,go_sem,seval];apply w;refine z6 fun _ w=>?_;refine sqR fun _ x=>?_;refine chS 1 ?_;refine zZ 1 fun _ y=>?_;simp only[↓bO,go_sem,seval];refine APure.call (zb5 M) ?_;apply y;clear y;refine chS 1 ?_ (by intro _ q;simp only[↓bO,go_sem,seval,hMs];exact q);simp only[↓bO,go_sem,seval];apply x;apply z8 rfl <;> intro hb146
  ·
   (have hmk:m<(M.cnt:Int):=by simpa using hb146);obtain ⟨hU4,hf4⟩:U=zTy/\f=6:=(by rcases htp with ⟨_,h9⟩ | ⟨h9,_⟩;exact ⟨congrArg Prod.fst h9,congrArg Prod.snd h9⟩;exact absurd hmk h9);refine sqR fun _ x=>?_;(iterate 3 (refine chS 1 ?_));refine zag 149 rfl (fun hc149=>?_) (fun hc149=>?_)
   ·
    (iterate 2 (refine chS 1 ?_));refine zZ 1 fun _ y=>?_;simp only[↓bO,go_sem,seval];refine APure.call ((show APure Tryz.prog 17 [.agg U.cells,.agg [.v (.int .i64 0),.v (.int .i64 0),.v (.slice none 0 0)]] (.v (.bool (U.same zTy))) from (zbb U zTy).le ⟨.refl _,zcK,trivial⟩ (.cons (Ty.dataAgg _) (.cons zdM .nil)))) ?_;(iterate 2 (apply y;clear y;refine zZ 1 fun _ y=>?_;simp only[↓bO,go_sem,seval]));apply y;clear y;refine zag 154 rfl (fun hc154=>?_) (fun hc154=>?_)
    ·
     simp only[go_sem];refine zZ 1 fun _ y=>?_;simp only[↓bO,go_sem,seval];refine APure.call (zaG) ?_;apply y;clear y;refine chS 1 ?_;simp only[↓bO,go_sem,seval];apply x;apply zab;exact Le.refl _
    simp only[go_sem];exact absurd hc154 (by rw[hU4,Ty.same_refl];decide)
   simp only[go_sem];exact absurd hc149 (by rw[hf4];decide)
  (have hmk:¬m<(M.cnt:Int):=by (have h9:=hb146;simp at h9;omega));obtain ⟨hU4,hf4⟩:U=M/\f=0:=(by rcases htp with ⟨h9,_⟩ | ⟨_,h9⟩;exact absurd h9 hmk;exact ⟨congrArg Prod.fst h9,congrArg Prod.snd h9⟩);apply zaa;apply w;refine sqR fun _ w=>?_;(iterate 3 (refine chS 1 ?_));refine zag 159 rfl (fun hc159=>?_) (fun hc159=>?_)
  ·
   (iterate 2 (refine chS 1 ?_));refine zZ 1 fun _ y=>?_;simp only[↓bO,go_sem,seval];refine APure.call (zbb U M) ?_;(iterate 2 (apply y;clear y;refine zZ 1 fun _ y=>?_;simp only[↓bO,go_sem,seval]));apply y;clear y;refine zag 164 rfl (fun hc164=>?_) (fun hc164=>?_)
   ·
    simp only[go_sem];refine zZ 1 fun _ y=>?_;simp only[↓bO,go_sem,seval];refine APure.call (zaG) ?_;apply y;clear y;refine chS 1 ?_;simp only[↓bO,go_sem,seval];apply w;apply zab;exact Le.refl _
   simp only[go_sem];exact absurd hc164 (by rw[hU4,Ty.same_refl];decide)
  simp only[go_sem];exact absurd hc159 (by rw[hf4];decide)
end Go.Proofs.YtpfiliamceimmaaGreatDoor
namespace Go.Proofs.YtpfiliamceimmaaGreatDoor.solveSolves
open Go Go.ChangeShapes Go.WideShapes Go.ChangeAt Go.RowKit
theorem own:ownKnob Tryz.prog.godebug=none:=by kernel_rfl
theorem laidOut:laidOutB Tryz.prog=true:=by kernel_rfl
theorem cT:Tryz.prog.cellsOf 28=3:=by kernel_rfl
theorem cI:Tryz.prog.cellsOf 3=1:=by kernel_rfl
theorem cS:Tryz.prog.cellsOf 26=1:=by kernel_rfl
section
variable {H:Type} {enc:TypeId×Value->H} {w:World} {base:Nat} {spare:Nat->Bool} {held:Bool}
theorem rdT (fuel:Nat):Rd enc Tryz.prog w base spare held Env.none fuel 28 Ty.cells :=
 rd_ty Tryz.underlying28 cT rfl rfl rfl rfl rfl rfl Tryz.underlying3 cI Tryz.underlying26 cS fuel
theorem rdS (fuel:Nat):Rd enc Tryz.prog w base spare held Env.none fuel 26 (fun xs:List Ty=>[.sl 3 (xs.map Ty.cells)]) :=
 zh4 Tryz.underlying26 cT tz1 Ty.cells_len fun n _=>rdT n
theorem cP:Tryz.prog.cellsOf 30=2:=by kernel_rfl
theorem cE:Tryz.prog.cellsOf 32=8:=by kernel_rfl
theorem rdE (fuel:Nat):Rd enc Tryz.prog w base spare held Env.none fuel 32 EqT.cells :=
 rd_eq Tryz.underlying32 cE cT cP rfl rfl rfl rfl rfl rfl rdT (fun n=>rd_two Tryz.underlying30 cP rfl rfl rfl rfl Tryz.underlying3 cI n) fuel
theorem rdEs (fuel:Nat):Rd enc Tryz.prog w base spare held Env.none fuel 22 (fun xs:List EqT=>[.sl 8 (xs.map EqT.cells)]) :=
 zh4 Tryz.underlying22 cE tz1 (fun _=>rfl) fun n _=>rdE n
end
set_option maxRecDepth 100000 in
theorem lifted (os:Go.Os) (started:os.Started) (H:Type) (enc:TypeId×Value->H) :
  ReturnsInHanded {} Tryz.checked os 7 .any (fun w args=>(Rows.solveSolvesSpec.pre enc Tryz.prog Tryz.f7 Rows.solveSolvesRow.domain false w args/\laidMetH Tryz.prog Rows.solveSolvesRow.laid w)/\sizedMet enc Tryz.prog Tryz.f7 (OpenSpec.ofChange Rows.solveSolvesSpec) false w args)
   (Rows.solveSolvesSpec.post enc Tryz.prog Tryz.f7 false true false false):=by
 refine returnsInHanded_of_change_and (C:=Tryz.checked) (X:=fun w _=>laidMetH Tryz.prog Rows.solveSolvesRow.laid w) (fun _ _ _ hh h=>h.of_heap hh) own started tz0 Tryz.func7
  (ChangeSpec.witness_shaped (enc:=enc) (C:=Tryz.checked) (os:=os) (X:=fun w _=>laidMetH Tryz.prog Rows.solveSolvesRow.laid w) false (World.laidAll Tryz.prog os Rows.solveSolvesRow.laid) #[.slice none 0 0,.int .i64 0,.agg #[.int .i64 0,.int .i64 0,.slice none 0 0]] 8 (World.laidAll_os _ _ _)
   (World.shaped_of_ZipB tz0 tz0) tz0 tz0 tz0
   (by rw[MakeChecks.laidMetH_plain _ _ _ tz0];exact laidMet_laidAll _ tz0 tz0)) ?_
 intro W base args ds gs before hval0 hW hcnd _ hL _;have hval:∀(j:Nat) t v,Tryz.f7.params[j]?=some t->args[j]?=some v->Value.okWide Tryz.prog W .any base t v:=hval0;have hW':=hW;obtain ⟨p,q,hA0,hV,rfl,hfz,hnd⟩:=hW;have hA:DataW.TrodAll enc Tryz.prog W 0 (fun _=>true) true Tryz.f7.params.toList args.toList ds p:=hA0;rw[Tryz.params7] at hA hval;obtain ⟨v0,vs0,d0,ds0,p0,y,hargs,rfl,rfl,h0,r0⟩:=trodAll_cons hA;obtain ⟨v1,vs1,d1,ds1,p1,z,rfl,rfl,rfl,h1,r1⟩:=trodAll_cons r0;obtain ⟨v2,vs2,d2,ds2,p2,q2,rfl,rfl,rfl,h2,r2⟩:=trodAll_cons r1;obtain ⟨rfl,rfl,rfl⟩:=trodAll_nil r2;(obtain rfl:args=#[v0,v1,v2]:=by cases args;simp_all);obtain ⟨rfl,rfl⟩:=trodVars_none hV;have k0:=h0;(have lt0:∀x∈p0,x.block<W.heap.size:=by obtain ⟨m,hm⟩:=k0;exact DataW.trod_lt m _ _ _ hm);obtain ⟨b0,len0,cap0,rfl⟩:=okWide_slice Tryz.underlying22 (hval 0 22 v0 rfl rfl)
 obtain ⟨P0,hr0⟩:∃P:List EqT,Rp Env.none (fun _ _=>False) W (.sl 8 (P.map EqT.cells)) (.slice b0 len0 cap0):=by
  obtain ⟨m,hm⟩:=h0;obtain ⟨P,_,hr⟩:=rdEs m _ _ hm;exact ⟨P,hr 0 _ _ rfl rfl⟩
 obtain ⟨a1,rfl,rfl,rfl,w1⟩:=open_int Tryz.underlying3 (hval 1 3 v1 rfl rfl) h1;have k2:=h2;(have lt2:∀x∈p2,x.block<W.heap.size:=by obtain ⟨m,hm⟩:=k2;exact DataW.trod_lt m _ _ _ hm);obtain ⟨us2,hus2⟩:∃us,v2=.agg us:=(by obtain ⟨cs,h,_⟩:=okWide_struct Tryz.underlying28 (hval 2 28 v2 rfl rfl);exact ⟨cs,h⟩);subst hus2
 obtain ⟨T2,hr2⟩:∃T:Ty,Rp Env.none (fun _ _=>False) W (.agg T.cells) (.agg us2):=by
  obtain ⟨m,hm⟩:=h2;obtain ⟨T,hl,hr⟩:=rdT m _ _ hm;exact ⟨T,.agg (by simpa [Value.cells] using hl) fun i c u hc hu=>hr i c u hc (by simpa [Value.cells] using hu)⟩
 clear hA0 hval0;refine ((zfj P0 a1 T2).calls (w:=W) rfl ?_).mono fun e W' ⟨he,bel⟩=>?_
 ·intro i c u hc hu
  match i with
  | 0=>simp at hc hu;subst hc;subst hu;exact hr0
  | 1=>simp at hc hu;subst hc;subst hu;exact .v _
  | 2=>simp at hc hu;subst hc;subst hu;exact hr2
  | i+3=>simp at hc
 subst he;exact ⟨_,rfl,_,_,_,[],_,[],hW',trodAll_mk1 (shut_bool Tryz.underlying4 _),(trodAll_cons_mk (Below.trod laidOut tz0 (of_decide_eq_true tz0) k0 bel lt0) (trodAll_cons_mk (shut_int Tryz.underlying3 w1) (trodAll_cons_mk (Below.trod laidOut tz0 (of_decide_eq_true tz0) k2 bel lt2) trodAll_mk0))),rfl,bel.frame _,fun h=>by cases h⟩
theorem over:Rows.solveSolvesRow.holds Tryz.pinned (OpenSpec.ofChange Rows.solveSolvesSpec) :=
 OpenClaim.holds_of_wide 7 Tryz.f7 rfl rfl rfl rfl rfl rfl rfl ⟨rfl,rfl,rfl,rfl,rfl⟩ rfl rfl rfl rfl rfl tz0 Tryz.func7 tz0
  (of_decide_eq_true tz0) (by unfold Func.isWrapper;first | (rw[if_pos (by decide +kernel)];kernel_rfl) | (rw[if_neg (by decide +kernel)];exact ⟨rfl,rfl⟩))
  (fun os started H enc _=>lifted os started H enc)
end Go.Proofs.YtpfiliamceimmaaGreatDoor.solveSolves
namespace Go.Proofs.YtpfiliamceimmaaGreatDoor
theorem solveSolves_proved : Rows.SolveSolvesCardSaid :=
 Claim7.holds_tied_plain_at .later [] _ _ _ _ solveSolves.over (fun _ h=>by cases h) tz0 (fun _ h=>by cases h) solveSolves_row_tie rfl ⟨rfl,rfl⟩ tz0 rfl
  (fun f fn hf hfn=>by
   obtain rfl:f=7:=Option.some.inj ((show Tryz.prog.funcNamed "pangram/pangramlaw14.SolveSolves"=some 7 by kernel_rfl).symm.trans hf) |>.symm;obtain rfl:fn=Tryz.f7:=(Option.some.inj (Tryz.func7.symm.trans hfn)).symm;refine ⟨by kernel_rfl,fun j t ht=>?_⟩;rw[Tryz.params7] at ht;(have hm:t∈[22,3,28]:=by simpa using Array.mem_of_getElem? ht);(have hall:([22,3,28].all fun u=>!Tryz.prog.wantsStandIn u)=true:=by kernel_rfl);have:=zV.1 hall t hm;have h9:Tryz.prog.wantsStandIn t=false:=by simpa using this
   exact h9)
  tz0
#print axioms solveSolves_proved
end Go.Proofs.YtpfiliamceimmaaGreatDoor
