/- Texts of the abstract walk, of the contracts and of the plain laws, packed (part 44 of 50): Ga1 Lay Sk Ga2 GaL UmL UoL UoL2 UcL PtL Um1 Uo1 Up Ur1 Ur2 Ur3 Ur5 Up2 UpL. Conditions: none. -/
import Derived.Test.YtjjjckjebkmnjaaGreatPk43
import Derived.Shelf.SlIterI.Nil
import Derived.Shelf.SortM.Plain
import Derived.Shelf.SortM.SortNone
import Derived.Ground.GgzProg
import Derived.Ground.SlgmProg
import Derived.Test.YtjjjckjebkmnjaaGreatProg
set_option linter.unusedVariables false
set_option linter.unusedSimpArgs false
set_option maxRecDepth 100000
set_option maxHeartbeats 4000000
namespace Go.Proofs.YtjjjckjebkmnjaaGreat
open Go Go.RowKit
attribute [local irreducible] aops zaV
def insI (n:Int) (l:List Int):List Int:=l.takeWhile (fun x=>decide (x<n))++n::l.dropWhile (fun x=>decide (x<n))
theorem insI_len (n:Int) (l:List Int):(insI n l).length=l.length+1:=by
  have h:=congrArg List.length (List.takeWhile_append_dropWhile (p:=fun x=>decide (x<n)) (l:=l));simp only[zd] at h;simp only[insI,zd,zh];omega
theorem zho {p:Int→Bool}:∀{l:List Int} {v:Nat},v≤l.length→(∀(j:Nat) (x:Int),j<v→l[j]?=some x→p x=true)→(∀x,l[v]?=some x→p x=false)→l.takeWhile p=l.take v∧l.dropWhile p=l.drop v
  | [],v,hv,_,_=>by simp
  | a::l,0,_,_,h=>by
    have:=h a rfl
    simp[List.takeWhile_cons,List.dropWhile_cons,this]
  | a::l,v+1,hv,h1,h2=>by
    have ha:=h1 0 a (by omega) rfl;have ih:=zho (l:=l) (v:=v) (by simpa using hv) (fun j x hj hx=>h1 (j+1) x (by omega) (by simpa using hx)) (fun x hx=>h2 x (by simpa using hx));simp[List.takeWhile_cons,List.dropWhile_cons,ha,ih.1,ih.2]
theorem zer (l:List Int):((l.map intC).all fun y=>y.all AV.one)=true:=by
  induction l with
  | nil=>rfl
  | cons x l ih=>rw[zL,List.all_cons,ih];rfl
def zdN (l:List Int) (r:RNode):List Int:=if r.t.k=1 then insI r.t.n l else l
def zbc (g:List RNode):List Int:=g.foldl zdN []
theorem ziI {g:List RNode} {s:Nat} {r:RNode} (h:g[s]?=some r):zbc (g.take (s+1))=zdN (zbc (g.take s)) r:=by
  rw[List.take_add_one,h,zbc,List.foldl_append];rfl
theorem varsS_len (l:List Int) (r:RNode):(zdN l r).length≤l.length+1:=by
  unfold zdN;split;(· rw[insI_len];omega);· omega
theorem zgI:∀(g:List RNode) (l:List Int),(g.foldl zdN l).length≤l.length+g.length
  | [],l=>by simp
  | r::g,l=>by
    have h1:=zgI g (zdN l r);have h2:=varsS_len l r;simp only[List.foldl_cons,zh];omega
theorem clz4 {p:Prop} (h:p:=by repeat' first | exact trivial | exact .any _ | exact .v _ _ | exact Und.data (RNode.dataSl _) | exact Und.data (zaJ _) | (refine ⟨?_,?_⟩)):p:=h
theorem zg1 (g:List RNode) (hg:g.length≤1048576):APure Tryz.prog 14 [.sl 4 (g.map RNode.cells)] (.sl 1 ((zbc g).map intC)):=by
  refine APure.mkL (.cons (RNode.dataSl g) .nil) (zaJ _) ?_;refine zaj Tryz.func14 (by kernel_rfl) rfl (by rw[Tryz.ntmps14];simp) (fun hm=>?_);simp only[Tryz.ntmps14,Tryz.results14,zh,zm,Nat.reduceAdd,Nat.reduceSub,zu,zw,zi,zj];(iterate 2 (refine zad fun Y0 y0=>?_;refine zac ?_;simp only[↓bO,go_sem,seval];refine y0 _ ?_;(try clear y0 Y0)));refine zad fun Y0 y0=>?_;refine zad fun Y1 y1=>?_;refine zac ?_;simp only[↓bO,go_sem,seval];refine y1 _ ?_;(try clear y1 Y1);refine zao ?_;refine zaG (σ:=Nat) (mB 56 25) (fun s=>s≤g.length) (fun s=>[(3,.sl 1 ((zbc (g.take s)).map intC)),(4,.v (.int .i64 (s:Int)))]) (fun s=>[]) (fun s=>g.length-s) 0 (by omega) ?_ (fun s hs=>?_)
  ·
   simp only[zau,zav,zan,zaA,mB,zc,zb,seval,bL,zbc,List.foldl_nil];exact zbl
  simp only[zau,zav,zan,zaA,mB,zc,zb,seval];refine zad fun Y1 y1=>?_;refine zad fun Y2 y2=>?_;refine zac ?_;(iterate 3 (refine zab 1 fun Q0 q0=>?_;simp only[↓bO,go_sem,seval];refine q0 _ ?_;clear q0 Q0;simp only[go_sem]));simp only[↓bO,go_sem,seval];refine y2 _ ?_;(try clear y2 Y2);refine zak rfl (fun hb9=>?_) (fun hb9=>?_)
  ·
   (have hk:s<g.length:=by simpa using hb9);obtain ⟨r,hr⟩:∃r,g[s]?=some r:=⟨_,ze hk⟩;have hw:IntKind.i64.wrap ((s:Int)+1)=(s:Int)+1:=zaO (by omega) (by omega);have hvt:=ziI hr;have hvl:=zgI (g.take s) [];(have hvl2:(zbc (g.take s)).length≤1048576:=by (unfold zbc;simp at hvl ⊢;omega));refine zap ?_;(try simp only[zah,zaf,zae]);refine y1 _ ?_;(try clear y1 Y1);refine zad fun Y1 y1=>?_;refine zao ?_;refine zad fun Y2 y2=>?_;refine zad fun Y3 y3=>?_;refine zac ?_;(iterate 6 (refine zab 1 fun Q0 q0=>?_;simp only[↓bO,go_sem,seval,hk,gM hr,RNode.cells,za,hw];refine q0 _ ?_;clear q0 Q0;simp only[go_sem]));simp only[↓bO,go_sem,seval,hk,gM hr,RNode.cells,za,hw];refine y3 _ ?_;(try clear y3 Y3);refine zak rfl (fun hb18=>?_) (fun hb18=>?_)
   ·
    (have hk1:r.t.k≠1:=by simpa using hb18);(have hst:zbc (g.take (s+1))=(zbc (g.take s)):=by rw[hvt,zdN,if_neg hk1]);refine zaK ?_;simp only[zah,zaf,zae,bA,Nat.reduceEqDiff,↓reduceIte];refine y1 _ ?_;(try clear y1 Y1);refine zac ?_;(iterate 2 (refine zab 1 fun Q0 q0=>?_;simp only[↓bO,go_sem,seval,hk,gM hr,RNode.cells,za,hw];refine q0 _ ?_;clear q0 Q0;simp only[go_sem]));simp only[↓bO,go_sem,seval,hk,gM hr,RNode.cells,za,hw];refine ⟨(s+1),(by omega),by omega,?_⟩;simp only[zau,zav,zan,zaA,mB,zc,zb,seval,za,zA];refine Weak.bare ?_ rfl ?_
    ·
     simp only[go_sem,Le.refl,Le.any];first | (rw[hst2];exact Le.oslL) | (rw[hst];exact Le.refl _)
    · exact clz4
   ·
    (have hk1:r.t.k=1:=by simpa using hb18);refine zap ?_;(try simp only[zah,zaf,zae]);refine y2 _ ?_;(try clear y2 Y2);refine zad fun Y2 y2=>?_;refine zac ?_;simp only[↓bO,go_sem,seval,hk,gM hr,RNode.cells,za,hw];refine y2 _ ?_;(try clear y2 Y2);refine zad fun Y2 y2=>?_;refine zao ?_;refine zaG (σ:=Nat) (mB 56 57) (fun v=>v≤(zbc (g.take s)).length∧∀(j:Nat) (x:Int),j<v→(zbc (g.take s))[j]?=some x→x<r.t.n) (fun v=>[(5,.v (.int .i64 (v:Int)))]) (fun v=>[]) (fun v=>(zbc (g.take s)).length-v) 0 (⟨Nat.zero_le _,fun j x hj=>by omega⟩) ?_ (fun v hv=>?_)
    ·
     simp only[zau,zav,zan,zaA,mB,zc,zb,seval];exact zbl
    simp only[zau,zav,zan,zaA,mB,zc,zb,seval];refine zad fun Y3 y3=>?_;refine zbA (mB 56 34359738425) ([(35,.v (.bool (decide (v<(zbc (g.take s)).length∧(zbc (g.take s)).getD v 0<r.t.n))))]) ([]) ?_ ?_
    ·
     refine zaU 17 mixed (by kernel_rfl) fun J0 j0=>?_;(iterate 5 (simp only[go_sem];refine zaw 1 fun Q0 q0=>?_;simp only[↓zaV,↓dOp,↓bO,go_sem,seval,hk,gM hr,RNode.cells,za,hw];refine q0 _ ?_;clear q0 Q0));simp only[go_sem];refine zbp 23 rfl (fun hc23=>?_) (fun hc23=>?_)
     ·
      simp only[zc,zb];(have hlv:v<(zbc (g.take s)).length:=by simpa using hc23);obtain ⟨x1,hx1⟩:∃x,(zbc (g.take s))[v]?=some x:=⟨_,ze hlv⟩;(iterate 11 (refine zaw 1 fun Q0 q0=>?_;simp only[↓zaV,↓dOp,↓bO,go_sem,seval,hk,gM hr,RNode.cells,za,hw,gM hx1,hlv,intC];refine q0 _ ?_;clear q0 Q0;simp only[go_sem]));simp only[↓zaV,↓dOp,↓bO,go_sem,seval,hk,gM hr,RNode.cells,za,hw,gM hx1,hlv,intC];refine j0 _ ?_;clear j0 J0;simp only[bL,aops,zah,zaf,zae];(try simp only[zau,zav,zan,zaA,mB,zc,zb,seval]);refine Weak.mk ?_ (fun _ _ h=>h) rfl rfl;simp only[go_sem,Le.refl,Le.any];all_goals (refine Le.of_eq (congrArg (fun b=>AV.v (.bool b)) ?_);rw[zJ];simp only[zl,zR,false_iff,zH];first | (rw[hx1];simp[hlv];done) | (simp[hlv];done))
     ·
      simp only[zc,zb];(have hlv:¬v<(zbc (g.take s)).length:=by simpa using hc23);(iterate 11 (refine zaw 1 fun Q0 q0=>?_;simp only[↓zaV,↓dOp,↓bO,go_sem,seval,hk,gM hr,RNode.cells,za,hw];refine q0 _ ?_;clear q0 Q0;simp only[go_sem]));simp only[↓zaV,↓dOp,↓bO,go_sem,seval,hk,gM hr,RNode.cells,za,hw];refine j0 _ ?_;clear j0 J0;simp only[bL,aops,zah,zaf,zae];(try simp only[zau,zav,zan,zaA,mB,zc,zb,seval]);refine Weak.mk ?_ (fun _ _ h=>h) rfl rfl;simp only[go_sem,Le.refl,Le.any];all_goals (refine Le.of_eq (congrArg (fun b=>AV.v (.bool b)) ?_);rw[zJ];simp only[zl,zR,false_iff,zH];first | (rw[hx1];simp[hlv];done) | (simp[hlv];done))
    simp only[zau,zav,zan,zaA,mB,zc,zb,seval];refine zak rfl (fun hb35=>?_) (fun hb35=>?_)
    ·
     (have hk0:v<(zbc (g.take s)).length∧(zbc (g.take s)).getD v 0<r.t.n:=by simpa using hb35);obtain ⟨x0,hxv⟩:∃x,(zbc (g.take s))[v]?=some x:=⟨_,ze hk0.1⟩;(have hlt:x0<r.t.n:=by (have h9:=hk0.2;rw[zH,hxv] at h9;exact h9));have hk1:=hk0.1;have hw2:IntKind.i64.wrap ((v:Int)+1)=(v:Int)+1:=zaO (by omega) (by omega);refine zap ?_;(try simp only[zah,zaf,zae]);refine y3 _ ?_;(try clear y3 Y3);refine zao ?_;refine zac ?_;(iterate 2 (refine zab 1 fun Q0 q0=>?_;simp only[↓bO,go_sem,seval,hk,gM hr,RNode.cells,za,hw,hw2];refine q0 _ ?_;clear q0 Q0;simp only[go_sem]));simp only[↓bO,go_sem,seval,hk,gM hr,RNode.cells,za,hw,hw2];refine ⟨(v+1),⟨by omega,fun j x hj hx=>by (rcases zM j v with h9 | h9 <;> first | exact hv.2 j x h9 hx | (obtain rfl:j=v:=(by omega);rw[hxv] at hx;cases hx;exact hlt))⟩,by omega,?_⟩;simp only[zau,zav,zan,zaA,mB,zc,zb,seval,hw2,za,zA,zG];exact zbl
    ·
     (have hk0:¬(v<(zbc (g.take s)).length∧(zbc (g.take s)).getD v 0<r.t.n):=by simpa using hb35);have hvv:=hv.1;obtain ⟨htw,hdw⟩:=zho (p:=fun x=>decide (x<r.t.n)) hv.1 (fun j x hj hx=>by simpa using hv.2 j x hj hx) (fun x hx=>by (have h9:=(zf.1 hx).1;rw[zH,hx] at hk0;simp only[h9,true_and,zx] at hk0;simpa using hk0));(have hst:zbc (g.take (s+1))=(zbc (g.take s)).take v++r.t.n::(zbc (g.take s)).drop v:=by rw[hvt,zdN,if_pos hk1,insI,htw,hdw]);(have hst2:(zbc (g.take (s+1))).map intC=List.take v ((zbc (g.take s)).map intC)++[[.v (.int .i64 r.t.n)]]++List.drop v ((zbc (g.take s)).map intC):=by rw[hst];simp[intC]);(have hb0:(v:Int)≤((zbc (g.take s)).length:Int):=by omega);(have hl1:((zbc (g.take s)).take v).length=v:=by simp;omega);(have hl2:((zbc (g.take s)).drop v).length=(zbc (g.take s)).length-v:=by simp);(have hq1:v * 8≤140737488355328:=by omega);(have hq2:v≤maxLen:=by simp only[maxLen];omega);(have hq3:(v+1) * 8≤140737488355328:=by omega);(have hq4:v+1≤maxLen:=by simp only[maxLen];omega);(have hq5:(v+1+((zbc (g.take s)).length-v)) * 8≤140737488355328:=by omega);(have hq6:v+1+((zbc (g.take s)).length-v)≤maxLen:=by simp only[maxLen];omega);(have ha1:((List.take v ((zbc (g.take s)).map intC)).all fun y=>y.all AV.one)=true:=by (rw[← List.map_take];exact zer _));(have ha2:((List.drop v ((zbc (g.take s)).map intC)).all fun y=>y.all AV.one)=true:=by (rw[← List.map_drop];exact zer _));(have hl3:(List.take v ((zbc (g.take s)).map intC)).length=v:=by simp;omega);(have hl4:(List.drop v ((zbc (g.take s)).map intC)).length=(zbc (g.take s)).length-v:=by simp);(have hb9:(0:Int)≤(v:Int):=by omega);have ht0:List.take (zbc (g.take s)).length ((zbc (g.take s)).map intC)=(zbc (g.take s)).map intC:=List.take_of_length_le (by simp);refine zaK ?_;simp only[zah,zaf,zae,bA,Nat.reduceEqDiff,↓reduceIte];refine y2 _ ?_;(try clear y2 Y2);refine zh5 18 rfl mixed ?_;dsimp only;refine zbj 1 rfl (by kernel_rfl) (by kernel_rfl) (by kernel_rfl) (fun _ _ h=>h) fun Q0 q0=>?_;simp only[↓bO,go_sem,seval,zdA,isE,zdT,zdm,zhp,hk,gM hr,RNode.cells,za,hw,ht0,zd,hb0,ha1,ha2,hl3,hl4,hq1,hq2,hq3,hq4,hq5,hq6];refine q0 _ ?_;clear q0 Q0;refine zbj 2 rfl (by kernel_rfl) (by kernel_rfl) (by kernel_rfl) (fun _ _ h=>h) fun Q0 q0=>?_;simp only[↓bO,go_sem,seval,zdA,isE,zdT,zdm,zhp,hk,gM hr,RNode.cells,za,hw,ht0,zd,hb0,ha1,ha2,hl3,hl4,hq1,hq2,hq3,hq4,hq5,hq6];refine q0 _ ?_;clear q0 Q0;refine zbj 3 rfl (by kernel_rfl) (by kernel_rfl) (by kernel_rfl) (fun _ _ h=>h) fun Q0 q0=>?_;simp only[↓bO,go_sem,seval,zdA,isE,zdT,zdm,zhp,hk,gM hr,RNode.cells,za,hw,ht0,zd,hb0,ha1,ha2,hl3,hl4,hq1,hq2,hq3,hq4,hq5,hq6];refine q0 _ ?_;clear q0 Q0;refine zbj 5 rfl (by kernel_rfl) (by kernel_rfl) (by kernel_rfl) (fun _ _ h=>h) fun Q0 q0=>?_;simp only[↓bO,go_sem,seval,zdA,isE,zdT,zdm,zhp,hk,gM hr,RNode.cells,za,hw,ht0,zd,hb0,ha1,ha2,hl3,hl4,hq1,hq2,hq3,hq4,hq5,hq6];refine q0 _ ?_;clear q0 Q0;refine zbj 6 rfl (by kernel_rfl) (by kernel_rfl) (by kernel_rfl) (fun _ _ h=>h) fun Q0 q0=>?_;simp only[↓bO,go_sem,seval,zdA,isE,zdT,zdm,zhp,hk,gM hr,RNode.cells,za,hw,ht0,zd,hb0,ha1,ha2,hl3,hl4,hq1,hq2,hq3,hq4,hq5,hq6];refine q0 _ ?_;clear q0 Q0;refine zbj 7 rfl (by kernel_rfl) (by kernel_rfl) (by kernel_rfl) (fun _ _ h=>h) fun Q0 q0=>?_;simp only[↓bO,go_sem,seval,zdA,isE,zdT,zdm,zhp,hk,gM hr,RNode.cells,za,hw,ht0,zd,hb0,ha1,ha2,hl3,hl4,hq1,hq2,hq3,hq4,hq5,hq6];refine q0 _ ?_;clear q0 Q0;refine zbj 8 rfl (by kernel_rfl) (by kernel_rfl) (by kernel_rfl) (fun _ _ h=>h) fun Q0 q0=>?_;simp only[↓bO,go_sem,seval,zdA,isE,zdT,zdm,zhp,hk,gM hr,RNode.cells,za,hw,ht0,zd,hb0,ha1,ha2,hl3,hl4,hq1,hq2,hq3,hq4,hq5,hq6];refine q0 _ ?_;clear q0 Q0;refine zbj 9 rfl (by kernel_rfl) (by kernel_rfl) (by kernel_rfl) (fun _ _ h=>h) fun Q0 q0=>?_;simp only[↓bO,go_sem,seval,zdA,isE,zdT,zdm,zhp,hk,gM hr,RNode.cells,za,hw,ht0,zd,hb0,ha1,ha2,hl3,hl4,hq1,hq2,hq3,hq4,hq5,hq6];refine q0 _ ?_;clear q0 Q0;refine zbj 10 rfl (by kernel_rfl) (by kernel_rfl) (by kernel_rfl) (fun _ _ h=>h) fun Q0 q0=>?_;simp only[↓bO,go_sem,seval,zdA,isE,zdT,zdm,zhp,hk,gM hr,RNode.cells,za,hw,ht0,zd,hb0,ha1,ha2,hl3,hl4,hq1,hq2,hq3,hq4,hq5,hq6];refine q0 _ ?_;clear q0 Q0;refine zbj 13 rfl (by kernel_rfl) (by kernel_rfl) (by kernel_rfl) (fun _ _ h=>h) fun Q0 q0=>?_;simp only[↓bO,go_sem,seval,zdA,isE,zdT,zdm,zhp,hk,gM hr,RNode.cells,za,hw,ht0,zd,hb0,ha1,ha2,hl3,hl4,hq1,hq2,hq3,hq4,hq5,hq6];refine q0 _ ?_;clear q0 Q0;refine zbj 14 rfl (by kernel_rfl) (by kernel_rfl) (by kernel_rfl) (fun _ _ h=>h) fun Q0 q0=>?_;simp only[↓bO,go_sem,seval,zdA,isE,zdT,zdm,zhp,hk,gM hr,RNode.cells,za,hw,ht0,zd,hb0,ha1,ha2,hl3,hl4,hq1,hq2,hq3,hq4,hq5,hq6];refine q0 _ ?_;clear q0 Q0;refine zbj 15 rfl (by kernel_rfl) (by kernel_rfl) (by kernel_rfl) (fun _ _ h=>h) fun Q0 q0=>?_;simp only[↓bO,go_sem,seval,zdA,isE,zdT,zdm,zhp,hk,gM hr,RNode.cells,za,hw,ht0,zd,hb0,ha1,ha2,hl3,hl4,hq1,hq2,hq3,hq4,hq5,hq6];refine q0 _ ?_;clear q0 Q0;refine RAny_rest ?_;refine zgB (i:=0) (j:=11) (by kernel_rfl) ?_ ?_
     ·
      refine zas rfl rfl fun Q0 q0=>?_;simp only[↓bO,go_sem,seval,↓zil,↓zic,↓zh9,↓zir,↓zh6,↓zid,↓zih,↓zis,↓ziD,↓zfv,↓zfq,↓zfs,hk,gM hr,RNode.cells,za,hw,ht0,zd,hb0,ha1,ha2,hl3,hl4,hq1,hq2,hq3,hq4,hq5,hq6];refine q0 _ ?_;clear q0 Q0;refine zgB (i:=4) (j:=11) (by kernel_rfl) ?_ ?_
      ·
       refine zas rfl rfl fun Q0 q0=>?_;simp only[↓bO,go_sem,seval,hk,gM hr,RNode.cells,za,hw,ht0,zd,hb0,ha1,ha2,hl3,hl4,hq1,hq2,hq3,hq4,hq5,hq6];refine q0 _ ?_;clear q0 Q0;refine zbq (i:=11) (by kernel_rfl) ?_
       ·
        refine zas rfl rfl fun Q0 q0=>?_;simp only[↓bO,go_sem,seval,↓zbE,↓zby,↓zbI,↓zbC,↓zbG,↓zbF,↓zbD,↓zbz,↓zbB,↓zba,↓za9,↓zbb,hk,gM hr,RNode.cells,za,hw,ht0,zd,hb0,ha1,ha2,hl3,hl4,hq1,hq2,hq3,hq4,hq5,hq6];refine q0 _ ?_;clear q0 Q0;refine zbq (i:=12) (by kernel_rfl) ?_
        ·
         refine zas rfl rfl fun Q0 q0=>?_;simp only[↓bO,go_sem,seval,hk,gM hr,RNode.cells,za,hw,ht0,zd,hb0,ha1,ha2,hl3,hl4,hq1,hq2,hq3,hq4,hq5,hq6];refine q0 _ ?_;clear q0 Q0;refine zbq (i:=16) (by kernel_rfl) ?_
         ·
          refine zas rfl rfl fun Q0 q0=>?_;simp only[↓bO,go_sem,seval,hk,gM hr,RNode.cells,za,hw,ht0,zd,hb0,ha1,ha2,hl3,hl4,hq1,hq2,hq3,hq4,hq5,hq6];refine q0 _ ?_;clear q0 Q0;refine zbq (i:=17) (by kernel_rfl) ?_
          ·
           refine zas rfl rfl fun Q0 q0=>?_;simp only[↓bO,go_sem,seval,hk,gM hr,RNode.cells,za,hw,ht0,zd,hb0,ha1,ha2,hl3,hl4,hq1,hq2,hq3,hq4,hq5,hq6];refine q0 _ ?_;clear q0 Q0;refine zex (by kernel_rfl) ?_;simp only[zah,zaf,zae];refine y1 _ ?_;(try clear y1 Y1);refine zac ?_;(iterate 2 (refine zab 1 fun Q0 q0=>?_;simp only[↓bO,go_sem,seval,hk,gM hr,RNode.cells,za,hw,ht0,zd,hb0,ha1,ha2,hl3,hl4,hq1,hq2,hq3,hq4,hq5,hq6];refine q0 _ ?_;clear q0 Q0;simp only[go_sem]));simp only[↓bO,go_sem,seval,hk,gM hr,RNode.cells,za,hw,ht0,zd,hb0,ha1,ha2,hl3,hl4,hq1,hq2,hq3,hq4,hq5,hq6];refine ⟨(s+1),(by omega),by omega,?_⟩;simp only[zau,zav,zan,zaA,mB,zc,zb,seval,za,zA];refine Weak.bare ?_ rfl ?_
           ·
            simp only[go_sem,Le.refl,Le.any];first | (rw[hst2];exact Le.oslL) | (rw[hst];exact Le.refl _)
           · exact clz4
      ·
       refine zas rfl rfl fun Q0 q0=>?_;simp only[↓bO,go_sem,seval,↓zbE,↓zby,↓zbI,↓zbC,↓zbG,↓zbF,↓zbD,↓zbz,↓zbB,↓zba,↓za9,↓zbb,hk,gM hr,RNode.cells,za,hw,ht0,zd,hb0,ha1,ha2,hl3,hl4,hq1,hq2,hq3,hq4,hq5,hq6];refine q0 _ ?_;clear q0 Q0;refine zbq (i:=4) (by kernel_rfl) ?_
       ·
        refine zas rfl rfl fun Q0 q0=>?_;simp only[↓bO,go_sem,seval,hk,gM hr,RNode.cells,za,hw,ht0,zd,hb0,ha1,ha2,hl3,hl4,hq1,hq2,hq3,hq4,hq5,hq6];refine q0 _ ?_;clear q0 Q0;refine zbq (i:=12) (by kernel_rfl) ?_
        ·
         refine zas rfl rfl fun Q0 q0=>?_;simp only[↓bO,go_sem,seval,hk,gM hr,RNode.cells,za,hw,ht0,zd,hb0,ha1,ha2,hl3,hl4,hq1,hq2,hq3,hq4,hq5,hq6];refine q0 _ ?_;clear q0 Q0;refine zbq (i:=16) (by kernel_rfl) ?_
         ·
          refine zas rfl rfl fun Q0 q0=>?_;simp only[↓bO,go_sem,seval,hk,gM hr,RNode.cells,za,hw,ht0,zd,hb0,ha1,ha2,hl3,hl4,hq1,hq2,hq3,hq4,hq5,hq6];refine q0 _ ?_;clear q0 Q0;refine zbq (i:=17) (by kernel_rfl) ?_
          ·
           refine zas rfl rfl fun Q0 q0=>?_;simp only[↓bO,go_sem,seval,hk,gM hr,RNode.cells,za,hw,ht0,zd,hb0,ha1,ha2,hl3,hl4,hq1,hq2,hq3,hq4,hq5,hq6];refine q0 _ ?_;clear q0 Q0;refine zex (by kernel_rfl) ?_;simp only[zah,zaf,zae];refine y1 _ ?_;(try clear y1 Y1);refine zac ?_;(iterate 2 (refine zab 1 fun Q0 q0=>?_;simp only[↓bO,go_sem,seval,hk,gM hr,RNode.cells,za,hw,ht0,zd,hb0,ha1,ha2,hl3,hl4,hq1,hq2,hq3,hq4,hq5,hq6];refine q0 _ ?_;clear q0 Q0;simp only[go_sem]));simp only[↓bO,go_sem,seval,hk,gM hr,RNode.cells,za,hw,ht0,zd,hb0,ha1,ha2,hl3,hl4,hq1,hq2,hq3,hq4,hq5,hq6];refine ⟨(s+1),(by omega),by omega,?_⟩;simp only[zau,zav,zan,zaA,mB,zc,zb,seval,za,zA];refine Weak.bare ?_ rfl ?_
           ·
            simp only[go_sem,Le.refl,Le.any];first | (rw[hst2];exact Le.oslL) | (rw[hst];exact Le.refl _)
           · exact clz4
     ·
      refine zas rfl rfl fun Q0 q0=>?_;simp only[↓bO,go_sem,seval,↓zbE,↓zby,↓zbI,↓zbC,↓zbG,↓zbF,↓zbD,↓zbz,↓zbB,↓zba,↓za9,↓zbb,hk,gM hr,RNode.cells,za,hw,ht0,zd,hb0,ha1,ha2,hl3,hl4,hq1,hq2,hq3,hq4,hq5,hq6];refine q0 _ ?_;clear q0 Q0;refine zbq (i:=0) (by kernel_rfl) ?_
      ·
       refine zas rfl rfl fun Q0 q0=>?_;simp only[↓bO,go_sem,seval,↓zil,↓zic,↓zh9,↓zir,↓zh6,↓zid,↓zih,↓zis,↓ziD,↓zfv,↓zfq,↓zfs,hk,gM hr,RNode.cells,za,hw,ht0,zd,hb0,ha1,ha2,hl3,hl4,hq1,hq2,hq3,hq4,hq5,hq6];refine q0 _ ?_;clear q0 Q0;refine zbq (i:=4) (by kernel_rfl) ?_
       ·
        refine zas rfl rfl fun Q0 q0=>?_;simp only[↓bO,go_sem,seval,hk,gM hr,RNode.cells,za,hw,ht0,zd,hb0,ha1,ha2,hl3,hl4,hq1,hq2,hq3,hq4,hq5,hq6];refine q0 _ ?_;clear q0 Q0;refine zbq (i:=12) (by kernel_rfl) ?_
        ·
         refine zas rfl rfl fun Q0 q0=>?_;simp only[↓bO,go_sem,seval,hk,gM hr,RNode.cells,za,hw,ht0,zd,hb0,ha1,ha2,hl3,hl4,hq1,hq2,hq3,hq4,hq5,hq6];refine q0 _ ?_;clear q0 Q0;refine zbq (i:=16) (by kernel_rfl) ?_
         ·
          refine zas rfl rfl fun Q0 q0=>?_;simp only[↓bO,go_sem,seval,hk,gM hr,RNode.cells,za,hw,ht0,zd,hb0,ha1,ha2,hl3,hl4,hq1,hq2,hq3,hq4,hq5,hq6];refine q0 _ ?_;clear q0 Q0;refine zbq (i:=17) (by kernel_rfl) ?_
          ·
           refine zas rfl rfl fun Q0 q0=>?_;simp only[↓bO,go_sem,seval,hk,gM hr,RNode.cells,za,hw,ht0,zd,hb0,ha1,ha2,hl3,hl4,hq1,hq2,hq3,hq4,hq5,hq6];refine q0 _ ?_;clear q0 Q0;refine zex (by kernel_rfl) ?_;simp only[zah,zaf,zae];refine y1 _ ?_;(try clear y1 Y1);refine zac ?_;(iterate 2 (refine zab 1 fun Q0 q0=>?_;simp only[↓bO,go_sem,seval,hk,gM hr,RNode.cells,za,hw,ht0,zd,hb0,ha1,ha2,hl3,hl4,hq1,hq2,hq3,hq4,hq5,hq6];refine q0 _ ?_;clear q0 Q0;simp only[go_sem]));simp only[↓bO,go_sem,seval,hk,gM hr,RNode.cells,za,hw,ht0,zd,hb0,ha1,ha2,hl3,hl4,hq1,hq2,hq3,hq4,hq5,hq6];refine ⟨(s+1),(by omega),by omega,?_⟩;simp only[zau,zav,zan,zaA,mB,zc,zb,seval,za,zA];refine Weak.bare ?_ rfl ?_
           ·
            simp only[go_sem,Le.refl,Le.any];first | (rw[hst2];exact Le.oslL) | (rw[hst];exact Le.refl _)
           · exact clz4
  ·
   (have hks:s=g.length:=by simp at hb9;omega);refine zaK ?_;simp only[zah,zaf,zae,bA,Nat.reduceEqDiff,↓reduceIte];refine y0 _ ?_;(try clear y0 Y0);refine zad fun Y0 y0=>?_;refine zac ?_;refine zab 1 fun Q0 q0=>?_;simp only[↓bO,go_sem,seval];refine q0 _ ?_;clear q0 Q0;simp only[go_sem];simp only[↓bO,go_sem,seval];refine y0 _ ?_;(try clear y0 Y0);refine zaq ?_;(try simp only[zah,zaf,zae,za1,zaZ,zaE,bS,bA]);rw[hks,zW];exact Le.refl _
end Go.Proofs.YtjjjckjebkmnjaaGreat
namespace Go.Proofs.YtjjjckjebkmnjaaGreat
open Go Go.Shelf
def keysA_ren:Go.Shelf.Ren:=⟨fun | 7=>87 | 10=>92 | n=>n,fun | 23=>79 | 26=>3 | 3=>3 | 28=>136 | 0=>0 | 27=>135 | 33=>103 | 4=>4 | n=>n,fun | n=>n⟩
theorem keysA:Go.Proofs.SlLaysZI.n7 Tryz.prog keysA_ren:={
  mixed:=by kernel_rfl
  f7:=⟨Tryz.f87.name,by decide,Tryz.func87.trans (congrArg some (by kernel_rfl))⟩
  f10:=⟨Tryz.f92.name,by decide,Tryz.func92.trans (congrArg some (by kernel_rfl))⟩
  t0:=Tryz.underlying0
  a0:=Tryz.isAgg0
  z0:=Tryz.sizeOf0
  v0:=Tryz.zeroValue0
  t4:=Tryz.underlying4
  a4:=Tryz.isAgg4
  z4:=Tryz.sizeOf4
  v4:=Tryz.zeroValue4
  t23:=Tryz.underlying79
  a23:=Tryz.isAgg79
  z23:=Tryz.sizeOf79
  v23:=Tryz.zeroValue79
  t26:=Tryz.underlying3
  a26:=Tryz.isAgg3
  z26:=Tryz.sizeOf3
  v26:=Tryz.zeroValue3
  t27:=Tryz.underlying135
  a27:=Tryz.isAgg135
  z27:=Tryz.sizeOf135
  v27:=Tryz.zeroValue135
  t28:=Tryz.underlying136
  a28:=Tryz.isAgg136
  z28:=Tryz.sizeOf136
  v28:=Tryz.zeroValue136
  t33:=Tryz.underlying103
  a33:=Tryz.isAgg103
  z33:=Tryz.sizeOf103
  v33:=Tryz.zeroValue103}
def sortedA_ren:Go.Shelf.Ren:=⟨fun | 6=>86 | 8=>90 | 9=>91 | 11=>93 | 13=>95 | 12=>94 | 23=>105 | 24=>106 | 14=>96 | 15=>97 | 16=>98 | 17=>99 | 18=>100 | 19=>101 | 20=>102 | 21=>103 | 22=>104 | 25=>107 | 26=>108 | 27=>109 | 28=>110 | 29=>111 | 30=>112 | 31=>113 | n=>n,fun | 26=>3 | 28=>136 | 24=>30 | 0=>0 | 3=>3 | 37=>143 | 48=>152 | 50=>154 | 4=>4 | 40=>146 | 39=>145 | 45=>54 | 5=>5 | 9=>9 | 51=>155 | 55=>159 | 57=>161 | 58=>57 | 33=>103 | n=>n,fun | n=>n⟩
theorem sortedA:Go.Proofs.SlLaysZI.n6 Tryz.prog sortedA_ren:={
  mixed:=by kernel_rfl
  f6:=⟨Tryz.f86.name,by decide,Tryz.func86.trans (congrArg some (by kernel_rfl))⟩
  f8:=⟨Tryz.f90.name,by decide,Tryz.func90.trans (congrArg some (by kernel_rfl))⟩
  f11:=⟨Tryz.f93.name,by decide,Tryz.func93.trans (congrArg some (by kernel_rfl))⟩
  t0:=Tryz.underlying0
  a0:=Tryz.isAgg0
  z0:=Tryz.sizeOf0
  v0:=Tryz.zeroValue0
  t24:=Tryz.underlying30
  a24:=Tryz.isAgg30
  z24:=Tryz.sizeOf30
  v24:=Tryz.zeroValue30
  t26:=Tryz.underlying3
  a26:=Tryz.isAgg3
  z26:=Tryz.sizeOf3
  v26:=Tryz.zeroValue3
  t28:=Tryz.underlying136
  a28:=Tryz.isAgg136
  z28:=Tryz.sizeOf136
  v28:=Tryz.zeroValue136
  i26:=by kernel_rfl}
def sortA_ren:Go.Shelf.Ren:=⟨fun | 5=>91 | 8=>95 | 7=>94 | 19=>105 | 20=>106 | 10=>96 | 11=>97 | 12=>98 | 13=>99 | 14=>100 | 15=>101 | 16=>102 | 17=>103 | 18=>104 | 30=>107 | 31=>108 | 32=>109 | 33=>110 | 34=>111 | 35=>112 | 40=>113 | n=>n,fun | 23=>30 | 25=>3 | 3=>3 | 32=>143 | 22=>30 | 0=>0 | 44=>152 | 46=>154 | 4=>4 | 36=>146 | 35=>145 | 41=>54 | 5=>5 | 9=>9 | 53=>155 | 57=>159 | 63=>161 | 64=>57 | n=>n,fun | n=>n⟩
theorem sortA:Go.Proofs.SlLaysM.n5 Tryz.prog sortA_ren:={
  mixed:=by kernel_rfl
  f5:=⟨Tryz.f91.name,by decide,Tryz.func91.trans (congrArg some (by kernel_rfl))⟩
  f7:=⟨Tryz.f94.name,by decide,Tryz.func94.trans (congrArg some (by kernel_rfl))⟩
  f8:=Tryz.func95.trans (congrArg some (by kernel_rfl))
  f10:=⟨Tryz.f96.name,by decide,Tryz.func96.trans (congrArg some (by kernel_rfl))⟩
  f11:=⟨Tryz.f97.name,by decide,Tryz.func97.trans (congrArg some (by kernel_rfl))⟩
  f12:=⟨Tryz.f98.name,by decide,Tryz.func98.trans (congrArg some (by kernel_rfl))⟩
  f13:=⟨Tryz.f99.name,by decide,Tryz.func99.trans (congrArg some (by kernel_rfl))⟩
  f14:=⟨Tryz.f100.name,by decide,Tryz.func100.trans (congrArg some (by kernel_rfl))⟩
  f15:=⟨Tryz.f101.name,by decide,Tryz.func101.trans (congrArg some (by kernel_rfl))⟩
  f16:=⟨Tryz.f102.name,by decide,Tryz.func102.trans (congrArg some (by kernel_rfl))⟩
  f17:=⟨Tryz.f103.name,by decide,Tryz.func103.trans (congrArg some (by kernel_rfl))⟩
  f18:=⟨Tryz.f104.name,by decide,Tryz.func104.trans (congrArg some (by kernel_rfl))⟩
  f19:=Tryz.func105.trans (congrArg some (by kernel_rfl))
  f20:=Tryz.func106.trans (congrArg some (by kernel_rfl))
  f30:=⟨Tryz.f107.name,by decide,Tryz.func107.trans (congrArg some (by kernel_rfl))⟩
  f31:=Tryz.func108.trans (congrArg some (by kernel_rfl))
  f32:=Tryz.func109.trans (congrArg some (by kernel_rfl))
  f33:=⟨Tryz.f110.name,by decide,Tryz.func110.trans (congrArg some (by kernel_rfl))⟩
  f34:=⟨Tryz.f111.name,by decide,Tryz.func111.trans (congrArg some (by kernel_rfl))⟩
  f35:=⟨Tryz.f112.name,by decide,Tryz.func112.trans (congrArg some (by kernel_rfl))⟩
  f40:=⟨Tryz.f113.name,by decide,Tryz.func113.trans (congrArg some (by kernel_rfl))⟩
  t0:=Tryz.underlying0
  a0:=Tryz.isAgg0
  z0:=Tryz.sizeOf0
  v0:=Tryz.zeroValue0
  t3:=Tryz.underlying3
  a3:=Tryz.isAgg3
  z3:=Tryz.sizeOf3
  v3:=Tryz.zeroValue3
  t4:=Tryz.underlying4
  a4:=Tryz.isAgg4
  z4:=Tryz.sizeOf4
  v4:=Tryz.zeroValue4
  t5:=Tryz.underlying5
  a5:=Tryz.isAgg5
  z5:=Tryz.sizeOf5
  v5:=Tryz.zeroValue5
  t9:=Tryz.underlying9
  a9:=Tryz.isAgg9
  z9:=Tryz.sizeOf9
  v9:=Tryz.zeroValue9
  t22:=Tryz.underlying30
  a22:=Tryz.isAgg30
  z22:=Tryz.sizeOf30
  v22:=Tryz.zeroValue30
  t23:=Tryz.underlying30
  a23:=Tryz.isAgg30
  z23:=Tryz.sizeOf30
  v23:=Tryz.zeroValue30
  t25:=Tryz.underlying3
  a25:=Tryz.isAgg3
  z25:=Tryz.sizeOf3
  v25:=Tryz.zeroValue3
  t32:=Tryz.underlying143
  a32:=Tryz.isAgg143
  z32:=Tryz.sizeOf143
  v32:=Tryz.zeroValue143
  t35:=Tryz.underlying145
  a35:=Tryz.isAgg145
  z35:=Tryz.sizeOf145
  v35:=Tryz.zeroValue145
  t36:=Tryz.underlying146
  a36:=Tryz.isAgg146
  z36:=Tryz.sizeOf146
  v36:=Tryz.zeroValue146
  t41:=Tryz.underlying54
  a41:=Tryz.isAgg54
  z41:=Tryz.sizeOf54
  v41:=Tryz.zeroValue54
  t44:=Tryz.underlying152
  a44:=Tryz.isAgg152
  z44:=Tryz.sizeOf152
  v44:=Tryz.zeroValue152
  t46:=Tryz.underlying154
  a46:=Tryz.isAgg154
  z46:=Tryz.sizeOf154
  v46:=Tryz.zeroValue154
  t53:=Tryz.underlying155
  a53:=Tryz.isAgg155
  z53:=Tryz.sizeOf155
  v53:=Tryz.zeroValue155
  t57:=Tryz.underlying159
  a57:=Tryz.isAgg159
  z57:=Tryz.sizeOf159
  v57:=Tryz.zeroValue159
  t63:=Tryz.underlying161
  a63:=Tryz.isAgg161
  z63:=Tryz.sizeOf161
  v63:=Tryz.zeroValue161
  t64:=Tryz.underlying57
  a64:=Tryz.isAgg57
  z64:=Tryz.sizeOf57
  v64:=Tryz.zeroValue57}
end Go.Proofs.YtjjjckjebkmnjaaGreat
namespace Go.Proofs.YtjjjckjebkmnjaaGreat
open Go Go.RowKit Go.Maps Go.Sort Go.Shelf Go.WideElems Go.WideShapes
theorem sortsI (m:Nat):AnyZI.SortsIn Tryz.prog sortedA_ren Fence.wide m :=
  ⟨fun blk off cap ss W hH hblk hsz=>callsIn_wide.2 (AnyM.slices_Sort_int sortA blk off cap ss W hH hblk hsz),fun p cap W=>callsIn_wide.2 (AnyM.slices_Sort_int_none sortA p cap W)⟩
theorem zie {H:Type} (p b nn:Nat) (D0:DataW H) (R:Value→Option (DataW H×List MemPlace)) (w:World) (hown:w.ownsMap Tryz.prog 3 R b nn D0) (hcell:w.cell? ⟨p,0,none⟩=some (.map (some b))) (hmax:Maps.size D0≤maxLen) (hbytes:Maps.size D0 * 8≤140737488355328) :
    Calls Tryz.prog 86 #[.func (.func 92) #[] #[.pointer (some ⟨p,0,none⟩)]] w fun e w'=>∃(v:Value) (ss:List Int),e=.returned v∧ss.Perm (intKeys D0) ∧
      w'.ownsRow w.heap.size 3 1 v ss.length ((ss.mergeSort (fun x y=>decide (x≤y))).map encZ)∧(v=.slice none 0 0↔ss=[])∧Below w.heap.size w w':=by
  refine (callsIn_wide (n:=5)).1 ?_
  have hseq:SeqGives Fence.wide 2 Tryz.prog 92 #[.pointer (some ⟨p,0,none⟩)] encZ (fun ss=>ss.Perm (intKeys D0)) (Maps.size D0) w :=
    AnyZI.keys_gives (ρ:=keysA_ren) {keysA with} Fence.wide _ trivial rfl (by omega) p b nn D0 w (World.block_lt_of_cell? w _ hcell) hcell hown
  exact AnyZI.sorted_in sortedA Fence.wide 5 trivial trivial trivial trivial rfl (by omega) (sortsI _) (enters_of Tryz.func91 (by kernel_rfl) rfl) 92 #[.pointer (some ⟨p,0,none⟩)] trivial (enters_of Tryz.func92 (by kernel_rfl) rfl) _ _ hmax hbytes _ hseq
def is64 (n:Int):Prop:=-9223372036854775808≤n∧n<9223372036854775808
theorem is64_wf {n:Int} (h:is64 n):(Lit.int .i64 n).wf=true:=by
  obtain ⟨h1,h2⟩:=h;(have e1:IntKind.i64.min=-9223372036854775808:=by decide);(have e2:IntKind.i64.max=9223372036854775807:=by decide);simp only[Lit.wf,e1,e2,Bool.and_eq_true,zl];omega
abbrev zcx (l:List Int):List Int:=l.mergeSort fun x y=>decide (x≤y)
theorem rpInts {E:Env} {A:Nat→Nat→Prop} {w:World} {base n:Nat} {v:Value} {l:List Int} (h:w.ownsRow base 3 1 v n (l.map encZ)) (hA:∀b o,A b o→b<base) (hcap:n≤maxLen):Rp E A w (.sl 1 (l.map intC)) v:=by
  obtain ⟨hl,h⟩:=h;(have hn:l.length=n:=by simpa using hl);rcases h with ⟨rfl,h0⟩ | ⟨g,cap,cur,rfl,hb,hh,h1,h2,h3,h4⟩
  · have:l=[]:=List.eq_nil_of_length_eq_zero (by omega)
    subst this;exact .sl0 (by simp[maxLen])
  · have hfl:∀l:List Int,(l.map intC).flatten=l.map fun x=>AV.v (.int .i64 x):=fun l=>by
      induction l with
      | nil=>rfl
      | cons x l ih=>simp[intC,ih]
    have hlen:(l.map intC).flatten.length=n:=by rw[hfl,zY,hn]
    have hcur:∀j x,l[j]?=some x→cur[j]?=some (encZ x):=fun j x hj=>by
      have hjl:=(zf.1 hj).1;(have h5:(l.map encZ)[j]?=some (encZ x):=by rw[zV,hj];rfl);rw[← h4,List.getElem?_take,if_pos (by omega)] at h5;rw[← zT];exact h5
    refine .sl (fun j=>cur.getD j undef) (by rw[zY,hn]) h1 h2 (fun x hx=>by obtain ⟨y,_,rfl⟩:=zP.1 hx;rfl) (fun j hj=>⟨?_,fun ha=>?_⟩) fun j c hj=>?_
    · rw[hlen] at hj
      (have hlt:j<cur.size:=by rw[h3];omega);rw[zN,cell_of_row w _ _ cur 3 (0,0) hh];simp[Array.getD,hlt]
    · have:=hA _ _ ha;omega
    · rw[hfl,zV] at hj
      cases hx:l[j]? with
      | none=>rw[hx] at hj;cases hj
      | some x =>
        rw[hx] at hj;(cases hj);have h5:=hcur j x hx;have hlt:j<cur.size:=(Array.getElem?_eq_some_iff.1 h5).1
        have h6:cur.getD j undef=encZ x:=by
          rw[zU hlt] at h5;simp[Array.getD,hlt,Option.some.inj h5]
        rw[h6];exact .v _
theorem zgE {os:Os} {nx p m:Nat} {es:List (Int×AV)} {Q:AV→Os→Nat→Prop} (hp:zaQ os p=some (.cells 79 [.map m])) (hm:zaQ os m=some (.map es)) (hwf:∀q∈es,is64 q.1) (hlen:es.length≤1099511627776)
    (hq:Q (.sl 1 ((zcx (es.map Prod.fst)).map intC)) os nx):ACalls Tryz.prog 86 [.clo 92 [.ptr p 0]] os nx Q:=by
  refine ⟨⟨Tryz.f86,Tryz.func86,by kernel_rfl,rfl⟩,fun A0 E w vs hok hnx hr=>?_⟩;obtain ⟨hsz,hv⟩:=hr;have hsz:vs.size=1:=hsz;obtain ⟨hvp,cur,hh,hcs,hc⟩:=hok.ok p _ hp;obtain ⟨hvm,ents,clock,hme,hes,hent,hst⟩:=hok.ok m _ hm;have hcs:cur.size=1:=hcs;have hv0:=hv 0 (.clo 92 [.ptr p 0]) vs[0] rfl (zU (by omega))
  have hvs:vs=#[.func (.func 92) #[] #[.pointer (some ⟨E.blk p,0,none⟩)]]:=by
    have e0:vs[0]=.func (.func 92) #[] #[.pointer (some ⟨E.blk p,0,none⟩)]:=by
      generalize vs[0]=u at hv0
      cases hv0 with
      | @clo _ _ us hs hr =>
        have hs:us.size=1:=hs;have h1:=hr 0 (.ptr p 0) us[0] rfl (zU (by omega))
        have e1:us[0]=.pointer (some ⟨E.blk p,0,none⟩):=by
          (generalize us[0]=u at h1);cases h1;rfl
        (congr 1);(apply Array.ext (by simp[hs]));intro i h2 h3;(have:i=0:=by omega);subst this;simpa using e1
    (apply Array.ext (by simp[hsz]));intro i h2 h3;(have:i=0:=by omega);subst this;simpa using e0
  have hcell:w.cell? ⟨E.blk p,0,none⟩=some (.map (some (E.blk m))):=by
    have h1:cur[0]?=some cur[0]:=zU (by omega);have h2:=hc 0 (.map m) _ rfl h1
    have e2:cur[0]=.map (some (E.blk m)):=by
      (generalize cur[0]=u at h2);cases h2;rfl
    rw[cell_of_row w _ _ cur 79 (0,0) hh,h1,e2]
  have hkey:∀x∈ents.toList,∃q∈es,x.key=.int .i64 q.1:=fun x hx=>by
    obtain ⟨i,hi,rfl⟩:=zX.1 hx;(have hie:i<es.length:=by rw[← hes];simpa using hi);exact ⟨_,List.getElem_mem hie,(hent i _ _ (ze hie) (by rw[← zT];exact ze hi)).1⟩
  have hk64:∀x∈ents.toList,∃n:Int,x.key=.int .i64 n∧keyOf Tryz.prog 3 x.key=some (.int .i64 n):=fun x hx=>by
    obtain ⟨q,hq,he⟩:=hkey x hx;refine ⟨q.1,he,?_⟩;rw[he];simp[keyOf,Tryz.underlying3,mapKey,is64_wf (hwf q hq)]
  let R:Value→Option (DataW Unit×List MemPlace):=fun _=>some (.nil,[])
  have hF:Fit Tryz.prog 3 R ents clock:=⟨by rw[hes];simp only[maxLen];omega,hst,fun x hx=>by
    obtain ⟨n,_,hk⟩:=hk64 x hx
    exact ⟨_,by simp only[Go.WideElems.rd,hk,R,Option.bind_some,Option.map_some];rfl⟩⟩
  have hown:=World.ownsMap_of_fit (R:=R) hme hF (fun x _ z hz=>hz)
  have hsize:Maps.size (DataW.map ((ents.toList.map (rg Tryz.prog 3 R)).foldr DataW.insert []))=es.length:=by
    simp[Maps.size,length_sorted,hes]
  have hperm:(intKeys (DataW.map ((ents.toList.map (rg Tryz.prog 3 R)).foldr DataW.insert []))).Perm (es.map Prod.fst):=by
    (show List.Perm (((ents.toList.map (rg Tryz.prog 3 R)).foldr DataW.insert []).map fun p=>Go.intOf p.1) _);refine ((sorted_perm _).map _).trans (List.Perm.of_eq ?_);(apply List.ext_getElem (by simp[hes]));intro i h1 h2;simp only[List.getElem_map];(have hi:i<ents.size:=by simpa using h1);(have hie:i<es.length:=by rw[← hes];exact hi);have he:=(hent i _ _ (ze hie) (zU hi)).1;have hx:=hwf _ (List.getElem_mem hie);simp[Go.WideElems.rg,Go.WideElems.rd,he,keyOf,Tryz.underlying3,mapKey,is64_wf hx,R,Go.intOf]
  rw[hvs];refine (zie (E.blk p) (E.blk m) _ _ R w hown hcell (by rw[hsize];simp only[maxLen];omega) (by rw[hsize];omega)).mono ?_;rintro e w' ⟨v,ss,rfl,hS,hrow,_,hb⟩;have hsort:ss.mergeSort (fun x y=>decide (x≤y))=zcx (es.map Prod.fst):=mergeSort_of_perm_i (hS.trans hperm);rw[hsort] at hrow
  have hAv:∀b o,AvX A0 E os b o→b<w.heap.size:=by
    rintro b o (h | ⟨id,ob,hg,hbk,_⟩);(· exact hok.bnd b o h);· exact Ob.blk_lt (hok.ok id ob hg).2 hbk
  have hssl:ss.length≤maxLen:=by
    have:=(hS.trans hperm).length_eq;rw[zY] at this;simp only[maxLen];omega
  exact ⟨_,v,os,nx,E,rfl,hq,rpInts hrow hAv hssl,hok.keep hb,hnx,.refl E,.of_below hb,fun b o ha=>.inl ha⟩
end Go.Proofs.YtjjjckjebkmnjaaGreat
namespace Go.Proofs.YtjjjckjebkmnjaaGreat
open Go Go.RowKit
attribute [local irreducible] aops zaV
theorem vC_fst (V:List (Int×Int)):(V.map vC).map Prod.fst=V.map Prod.fst:=by simp[vC,List.map_map,Function.comp_def]
theorem vC_64 {V:List (Int×Int)} (h:∀q∈V,is64 q.1):∀q∈V.map vC,is64 q.1:=fun q hq=>by
  obtain ⟨p,hp,rfl⟩:=zP.1 hq;exact h p hp
def kindG (G:GS) (i:Int):Int:=if 0≤i∧i<(G.N.length:Int) then ((G.N[i.toNat]?).map GNode.k).getD 0 else 0
def nameG (G:GS) (i:Int):Int×Bool:=if kindG G i=1 then (((G.N[i.toNat]?).map GNode.n).getD 0,true) else (0,false)
theorem zhP {G:GS} {i:Int} {x:GNode} (h:0≤i) (hx:G.N[i.toNat]?=some x):kindG G i=x.k:=by
  have:=(zf.1 hx).1;rw[kindG,if_pos ⟨h,by omega⟩,hx];rfl
theorem nameG_at {G:GS} {i:Int} {x:GNode} (h:0≤i) (hx:G.N[i.toNat]?=some x):nameG G i=if x.k=1 then (x.n,true) else (0,false):=by
  rw[nameG,zhP h hx,hx];rfl
theorem Keys_at {m:Nat} {os:Os} {nx:Nat} {Q:AV→Os→Nat→Prop} (hq:Q (.clo 92 [.ptr nx 0]) ((nx,.cells 79 [.map m])::os) (nx+1)):ACalls Tryz.prog 87 [.map m] os nx Q:=by
  refine zaj Tryz.func87 (by kernel_rfl) rfl (by rw[Tryz.ntmps87];simp) (fun hm=>?_);simp only[Tryz.ntmps87,Tryz.results87,zh,zm,Nat.reduceAdd,Nat.reduceSub,zu,zw,zi,zj];refine zad fun Y0 y0=>?_;refine zac ?_;refine zab 1 fun Q0 q0=>?_;simp only[↓bO,go_sem,seval];refine q0 _ ?_;clear q0 Q0;simp only[go_sem];simp only[↓bO,go_sem,seval];refine y0 _ ?_;(try clear y0 Y0);refine zad fun Y0 y0=>?_;refine zac ?_;refine zab 1 fun Q0 q0=>?_;simp only[↓bO,go_sem,seval];refine q0 _ ?_;clear q0 Q0;simp only[go_sem];simp only[↓bO,go_sem,seval];refine y0 _ ?_;(try clear y0 Y0);refine zaq ?_;(try simp only[zah,zaf,zae,za1,zaZ,zaE,bS,bA]);exact hq
theorem zg8 (G:GS) (hw:∀q∈G.V,is64 q.1) (hl:G.V.length≤1099511627776):GCalls 76 [.ptr 0 0] (G.N) (G.V) (.sl 1 ((zcx (G.V.map Prod.fst)).map intC)) (G.N) (G.V):=by
  refine ACalls.clean (C:=fun r os=>r=_∧os=_) ?_;refine zaj Tryz.func76 (by kernel_rfl) rfl (by rw[Tryz.ntmps76];simp) (fun hm=>?_);simp only[Tryz.ntmps76,Tryz.results76,zh,zm,Nat.reduceAdd,Nat.reduceSub,zu,zw,zi,zj];simp only[zce,zar,Nat.reduceAdd];refine zad fun Y0 y0=>?_;refine zac ?_;simp only[↓bO,go_sem,seval];refine y0 _ ?_;(try clear y0 Y0);refine zad fun Y0 y0=>?_;refine zad fun Y1 y1=>?_;refine zac ?_;refine zab 1 fun Q0 q0=>?_;simp only[↓bO,go_sem,seval];refine q0 _ ?_;clear q0 Q0;simp only[go_sem];simp only[↓bO,go_sem,seval];refine y1 _ ?_;(try clear y1 Y1);refine zak rfl (fun hb4=>?_) (fun hb4=>?_)
  ·
   cases hb4
  ·
   refine zap ?_;(try simp only[zah,zaf,zae]);refine y0 _ ?_;(try clear y0 Y0);refine zad fun Y0 y0=>?_;refine zac ?_;(iterate 4 (refine zab 1 fun Q0 q0=>?_;simp only[↓bO,go_sem,seval];refine q0 _ ?_;clear q0 Q0;simp only[go_sem]));refine zab 1 fun Q0 q0=>?_;simp only[↓bO,go_sem,seval];refine Keys_at ?_;(try simp only[bS,bA,zah,zaf,zae]);refine q0 _ ?_;clear q0 Q0;simp only[go_sem];refine zab 1 fun Q0 q0=>?_;simp only[↓bO,go_sem,seval];refine zgE (p:=3) (m:=2) (es:=G.V.map vC) rfl rfl (vC_64 hw) (by rw[zY];exact hl) ?_;rw[vC_fst];(try simp only[bS,bA,zah,zaf,zae]);refine q0 _ ?_;clear q0 Q0;simp only[go_sem];simp only[↓bO,go_sem,seval];refine y0 _ ?_;(try clear y0 Y0);refine zaq ?_;(try simp only[zah,zaf,zae,za1,zaZ,zaE,bS,bA]);refine ⟨_,zar 0 (zce (G.N) (G.V)),⟨rfl,rfl⟩,Und.data (zaJ _),zgR (by omega) _ _,?_,?_,by omega⟩
   ·
    refine Le.of_eq ?_;rfl
   · first | (refine ⟨1,?_,rfl⟩;first | rfl | (simp only[zce,zar,zt,zy,zp,zL,z7,zd,zh,zm,GNode.cells,zW,Nat.reduceAdd,zN];done))
end Go.Proofs.YtjjjckjebkmnjaaGreat
namespace Go.Proofs.YtjjjckjebkmnjaaGreat
open Go Go.RowKit
def vns (m:List RNode):List Int:=(m.filter fun r=>r.t.k==1).map fun r=>r.t.n
theorem vns_app (m:List RNode) (r:RNode):vns (m++[r])=if r.t.k=1 then vns m++[r.t.n] else vns m:=by
  unfold vns;rw[List.filter_append]
  by_cases h:r.t.k=1
  (· simp[h]);· simp[h]
theorem vset_none {V:List (Int×Int)} {k:Int} (x:Int) (h:za3 V k=none):zfn V k x=V++[(k,x)]:=by
  induction V with
  | nil=>rfl
  | cons a V ih =>
    obtain ⟨a,b⟩:=a;simp only[za3] at h;(split at h);· cases h
    · rename_i hne
      simp only[zfn,if_neg hne,ih h,zi]
theorem zgo:∀(ps:List Ty) (_:∀p∈ps,∀(G:GS) (m:List RNode),Rel G m→G.V.map Prod.fst=vns m→(p.gadd G).1.V.map Prod.fst=vns (p.radd m).1∧Rel (p.gadd G).1 (p.radd m).1) (G:GS) (m:List RNode) (l l':List Int),Rel G m→G.V.map Prod.fst=vns m →
    (Ty.gaddL ps G l).1.V.map Prod.fst=vns (Ty.raddL ps m l').1
  | [],_,G,m,l,l',_,h=>by simpa [Ty.gaddL,Ty.raddL] using h
  | p::ps,hp,G,m,l,l',hr,h=>by
    obtain ⟨h1,h2⟩:=hp p (by simp) G m hr h;simp only[Ty.gaddL,Ty.raddL];exact zgo ps (fun q hq=>hp q (by simp[hq])) _ _ _ _ h2 h1
theorem zhz:∀(T:Ty),T.right=true→T.cnt≤400→∀(G:GS) (m:List RNode),Rel G m→G.V.map Prod.fst=vns m→(T.gadd G).1.V.map Prod.fst=vns (T.radd m).1:=by
  refine Ty.ind fun T ih=>?_;intro hr hc G m h hk;obtain ⟨hok,hps⟩:=T.right_ok hr
  by_cases h1:T.k=1
  · have hps0:T.ps=[]:=by rw[T.var_eq hr h1];rfl
    rcases h.vars T.n with ⟨hv,hi⟩ | ⟨k,hv,hi,h0⟩
    · have em:T.radd m=(m++[⟨T,[]⟩],(m.length:Int)):=by rw[Ty.radd_eq,if_neg (by omega),hps0];rfl
      rw[Ty.gadd_var h1,hv,em];(simp only);rw[vset_none _ hv,zp,hk,vns_app,if_pos h1];rfl
    · rw[Ty.gadd_var h1,hv,Ty.radd_eq,hi,if_pos ⟨h1,h0⟩]
      exact hk
  · rw[Ty.gadd_more h1,Ty.radd_eq,if_neg (by omega)]
    (simp only);rw[vns_app,if_neg h1];exact zgo T.ps (fun p hp G m hr' hk'=>⟨ih p hp (hps p hp) (Nat.le_trans (Ty.cnt_le_mem hp) hc) G m hr' hk',(zb2 p (hps p hp) (Nat.le_trans (Ty.cnt_le_mem hp) hc) G m hr').rel⟩) G m [] [] h hk
theorem insI_perm (n:Int) (l:List Int):(insI n l).Perm (n::l):=by
  unfold insI;refine List.perm_middle.trans ?_;rw[List.takeWhile_append_dropWhile]
theorem zcO {p:Int→Bool}:∀{l:List Int} {x:Int},x∈l.takeWhile p→x∈l∧p x=true
  | a::l,x,h=>by
    rw[List.takeWhile_cons] at h;split at h
    · rename_i ha
      (rcases zZ.1 h with rfl | h);(· exact ⟨by simp,ha⟩);· exact ⟨by simp[(zcO h).1],(zcO h).2⟩
    · cases h
theorem zej {n:Int}:∀{l:List Int},l.Pairwise (fun a b=>a≤b)→∀x∈l.dropWhile (fun y=>decide (y<n)),n≤x
  | [],_,x,h=>by simp at h
  | a::l,hs,x,h=>by
    rw[List.dropWhile_cons] at h;have hs':=List.pairwise_cons.1 hs;(split at h);· exact zej hs'.2 x h
    · rename_i ha
      (have ha:n≤a:=by simpa using ha);(rcases zZ.1 h with rfl | h);(· exact ha);· have:=hs'.1 x h;omega
theorem zg4 {n:Int} {l:List Int} (h:l.Pairwise (fun a b=>a≤b)):(insI n l).Pairwise (fun a b=>a≤b):=by
  (have hlt:∀x∈l.takeWhile (fun y=>decide (y<n)),x<n:=fun x hx=>by simpa using (zcO hx).2);have hge:=zej (n:=n) h;(have hsp:(l.takeWhile (fun y=>decide (y<n))++l.dropWhile (fun y=>decide (y<n))).Pairwise (fun a b=>a≤b):=by rw[List.takeWhile_append_dropWhile];exact h);obtain ⟨h1,h2,h3⟩:=List.pairwise_append.1 hsp;unfold insI;refine List.pairwise_append.2 ⟨h1,List.pairwise_cons.2 ⟨hge,h2⟩,fun a ha b hb=>?_⟩;have:=hlt a ha;(rcases zZ.1 hb with rfl | hb);(· omega);· have:=hge b hb;omega
theorem zfw:∀(m:List RNode) (l:List Int),l.Pairwise (fun a b=>a≤b)→(m.foldl zdN l).Pairwise (fun a b=>a≤b)∧(m.foldl zdN l).Perm (l++vns m)
  | [],l,h=>by simpa [vns] using h
  | r::m,l,h=>by
    have key:(zdN l r).Pairwise (fun a b=>a≤b)∧(zdN l r++vns m).Perm (l++vns (r::m)):=by
      unfold zdN
      by_cases hk:r.t.k=1
      · rw[if_pos hk]
        refine ⟨zg4 h,?_⟩;(have e:vns (r::m)=r.t.n::vns m:=by simp[vns,hk]);rw[e];exact ((insI_perm _ _).append_right _).trans List.perm_middle.symm
      · rw[if_neg hk]
        (have e:vns (r::m)=vns m:=by simp[vns,hk]);rw[e];exact ⟨h,.refl _⟩
    obtain ⟨h1,h2⟩:=zfw m (zdN l r) key.1;exact ⟨h1,h2.trans key.2⟩
theorem zf2 (m:List RNode):zbc m=zcx (vns m):=by
  obtain ⟨h1,h2⟩:=zfw m [] .nil;(have tr:∀a b c:Int,decide (a≤b)=true→decide (b≤c)=true→decide (a≤c)=true:=fun a b c h1 h2=>by simp only[zl] at *;omega);(have to:∀a b:Int,(decide (a≤b)||decide (b≤a))=true:=fun a b=>by simp only[Bool.or_eq_true,zl];omega);have h3:=List.pairwise_mergeSort (le:=fun x y:Int=>decide (x≤y)) tr to (vns m);refine List.Perm.eq_of_pairwise (le:=fun a b:Int=>a≤b) (fun a b _ _ h1 h2=>by omega) h1 (h3.imp fun h=>by simpa using h) (h2.trans (List.mergeSort_perm _ _).symm)
theorem vns_64 {G:GS} {m:List RNode} (h:Rel G m):∀n∈vns m,is64 n:=fun n hn=>by
  unfold vns at hn;obtain ⟨r,hr,rfl⟩:=zP.1 hn;obtain ⟨hrm,hk⟩:=List.mem_filter.1 hr;obtain ⟨i,hi⟩:=List.mem_iff_getElem?.1 hrm;have hl:=(zf.1 hi).1;have hGi:G.N[i]?=some (G.N[i]'(by have:=h.len;omega)):=ze (by have:=h.len;omega);have hright:=(h.node i _ _ hGi hi).2.2.2.2.2.1;have hok:=(r.t.right_ok hright).1;(have hk1:r.t.k=1:=by simpa using hk);simp only[okN,zl] at hok;unfold is64;omega
theorem Rel.at {G:GS} {m:List RNode} (h:Rel G m) {i:Nat} {r:RNode} (hr:m[i]?=some r):∃x,G.N[i]?=some x∧kindG G (i:Int)=r.t.k∧G.parts (i:Int)=r.parts∧nameG G (i:Int)=if r.t.k=1 then (r.t.n,true) else (0,false):=by
  have hl:=(zf.1 hr).1;obtain ⟨x,hGi⟩:∃x,G.N[i]?=some x:=⟨_,ze (by have:=h.len;omega)⟩;obtain ⟨h1,h2,h3,_⟩:=h.node i _ _ hGi hr;refine ⟨_,hGi,?_,?_,?_⟩;(· rw[zhP (x:=x) (by omega) (by rw[zaa];exact hGi),h1]);(· rw[GS.parts_in (x:=x) (by omega) (by rw[zaa];exact hGi),h3]);· rw[nameG_at (x:=x) (by omega) (by rw[zaa];exact hGi),h1,h2]
end Go.Proofs.YtjjjckjebkmnjaaGreat
namespace Go.Proofs.YtjjjckjebkmnjaaGreat
open Go Go.RowKit
def OkE (l:List (Ty×Ty)):Prop:=∀e∈l,e.1.right=true∧e.2.right=true∧e.1.cnt≤400∧e.2.cnt≤400
theorem zhH {l:List (Ty×Ty)} {e:Ty×Ty} (h:OkE (l++[e])):Pre (eqF l).1 (eqF (l++[e])).1:=by
  (obtain ⟨⟨G,hG⟩,_⟩:=zfx l fun x hx=>h x (by simp[hx]));obtain ⟨h1,h2,h3,h4⟩:=h e (by simp);have s1:=zb2 e.1 h1 h3 G _ hG;have s2:=zb2 e.2 h2 h4 _ _ s1.rel;rw[zbQ];exact s1.pre.trans s2.pre
theorem zhw (l:List (Ty×Ty)) (e:Ty×Ty):∀x∈zca (eqF l).2,x∈zca (eqF (l++[e])).2:=fun x hx=>by
  rw[zbQ];simp only[zdl,zca,zp,zQ];exact .inl hx
theorem zhC:∀(k l:List (Ty×Ty)),OkE (l++k)→Pre (eqF l).1 (eqF (l++k)).1∧∀x∈zca (eqF l).2,x∈zca (eqF (l++k)).2
  | [],l,_=>by simp only[List.append_nil];exact ⟨.refl _,fun _ h=>h⟩
  | e::k,l,h=>by
    (have e1:l++e::k=(l++[e])++k:=by simp);rw[e1] at h ⊢;obtain ⟨h1,h2⟩:=zhC k (l++[e]) h;exact ⟨(zhH fun x hx=>h x (by simp only[zQ] at hx ⊢;exact .inl hx)).trans h1,fun x hx=>h2 x (zhw l e x hx)⟩
theorem Clashes.more {l k:List (Ty×Ty)} (h:Clashes l) (hk:OkE (l++k)):Clashes (l++k):=by
  obtain ⟨h1,h2⟩:=zhC k l hk;exact Clash.mono h1.sh h2 h
structure CSt (l:List (Ty×Ty)) (S:CS):Prop where
  st:(Holds l S∧S.G.V.map Prod.fst=vns (eqF l).1)∨(S.clash=true∧Clashes l)
  len:S.G.N.length≤zbY l
  ok:OkE l
theorem CSt.none:CSt [] CS0:=⟨.inl ⟨Holds.none,rfl⟩,by simp[CS0],fun e he=>by cases he⟩
theorem CSt.good {l:List (Ty×Ty)} {S:CS} (h:CSt l S) (hc:S.clash=false):Holds l S∧S.G.V.map Prod.fst=vns (eqF l).1:=by
  (rcases h.st with h | h);(· exact h);· rw[hc] at h;cases h.1
theorem CSt.bad {l:List (Ty×Ty)} {S:CS} (h:CSt l S) (hc:S.clash=true):Clashes l:=by
  (rcases h.st with h | h);(· rw[h.1.1] at hc;cases hc);· exact h.2
theorem CSt.step {l:List (Ty×Ty)} {S:CS} {e:Ty×Ty} {s:CS×Int} (h:CSt l S) (he:e.1.right=true∧e.2.right=true∧e.1.cnt≤400∧e.2.cnt≤400) (hs:EqR S (zca (eqF l).2) (eqF l).1 e.1 e.2 s):CSt (l++[e]) s.1:=by
  have hok:OkE (l++[e]):=fun x hx=>by
    (rcases zQ.1 hx with hx | hx);(· exact h.ok x hx);· simp at hx;subst hx;exact he
  have hsum:=zb0 l e;have hlen:=h.len;rcases h.st with ⟨hH,hK⟩ | ⟨hc,hcl⟩
  · have hG:s.1.G=(e.2.gadd (e.1.gadd S.G).1).1:=by
      (rcases hs with ⟨h1,_⟩ | ⟨_,h1,_⟩ | ⟨_,_,_,h3,_⟩);(· rw[hH.1] at h1;cases h1);(· rw[he.1,he.2.1] at h1;cases h1);· exact h3
    have hle:s.1.G.N.length≤zbY (l++[e]):=by
      have g1:=e.1.gadd_inv S.G hH.2.w.c.g;have g2:=e.2.gadd_inv _ g1.1.inv;have:=g1.1.le;have:=g2.1.le;rw[hG];omega
    refine ⟨?_,hle,hok⟩;(rcases hH.step (e:=e) hs with ⟨h1,_⟩ | ⟨_,h1,h2⟩ | ⟨_,_,_,h3,_⟩);· rw[he.1,he.2.1] at h1;cases h1
    · refine .inr ⟨?_,h1⟩
      (rcases hs with ⟨h4,_⟩ | ⟨_,h4,_⟩ | ⟨_,_,_,_,⟨h4,_⟩ | ⟨_,h4,_⟩⟩);(· rw[hH.1] at h4;cases h4);(· rw[he.1,he.2.1] at h4;cases h4);(· rw[h4] at h2;cases h2);· exact h4
    · refine .inl ⟨h3,?_⟩
      have s1:=zb2 e.1 he.1 he.2.2.1 S.G _ hH.2.rel;have k1:=zhz e.1 he.1 he.2.2.1 S.G _ hH.2.rel hK;have k2:=zhz e.2 he.2.1 he.2.2.2 _ _ s1.rel k1;rw[hG,k2,zbQ];rfl
  · rcases hs with ⟨_,rfl⟩ | ⟨h1,_⟩ | ⟨h1,_⟩
    (· exact ⟨.inr ⟨hc,hcl.more hok⟩,by simp only;omega,hok⟩);(· rw[hc] at h1;cases h1);· rw[hc] at h1;cases h1
theorem CSt.fsame {l:List (Ty×Ty)} {S S1:CS} (h:CSt l S) (k:FSame S.F S1.F) (e:S1={S with F:=S1.F}):CSt l S1:=by
  have hst:=h.st;have hlen:=h.len;have hok:=h.ok;(have e1:S1.G=S.G:=by rw[e]);(have e2:S1.clash=S.clash:=by rw[e]);refine ⟨?_,by rw[e1];exact hlen,hok⟩;(rcases hst with ⟨h1,h2⟩ | ⟨h1,h2⟩);(· exact .inl ⟨h1.fsame k e,by rw[e1];exact h2⟩);· exact .inr ⟨by rw[e2];exact h1,h2⟩
def SameR (S:CS) (a b:Int) (r:Bool):Prop:=r=true↔S.clash=false∧∃i k,za3 S.G.V a=some i∧za3 S.G.V b=some k∧One S.F.up i.toNat k.toNat
end Go.Proofs.YtjjjckjebkmnjaaGreat
namespace Go.Proofs.YtjjjckjebkmnjaaGreat
open Go Go.RowKit
structure Hom (m:List RNode) (E:List (Nat×Nat)) (m':List RNode) (E':List (Nat×Nat)) (f:Nat→Nat):Prop where
  node:∀(i:Nat) (r:RNode),m[i]?=some r→∃r',m'[f i]?=some r'∧r'.t=r.t∧r'.parts.length=r.parts.length∧∀(j:Nat) (p p':Int),r.parts[j]?=some p→r'.parts[j]?=some p'→p'.toNat=f p.toNat
  eqs:∀e∈E,Cl (shR m') E' (f e.1) (f e.2)
theorem Hom.cl {m m':List RNode} {E E':List (Nat×Nat)} {f:Nat→Nat} (h:Hom m E m' E' f) {i k:Nat} (hc:Cl (shR m) E i k):Cl (shR m') E' (f i) (f k):=by
  refine Cl.least (R:=fun i k=>Cl (shR m') E' (f i) (f k)) ⟨h.eqs,fun _=>.refl _,fun _ _ h=>.symm h,fun _ _ _ h k=>.trans h k,?_⟩ hc;intro i k j c p q ps qs hik hi hk h1 hl hp hq;obtain ⟨x,hx,rfl,rfl⟩:=zcy hi;obtain ⟨y,hy,hyk,rfl⟩:=zcy hk;obtain ⟨x',hx',hxt,hxl,hxp⟩:=h.node i x hx;obtain ⟨y',hy',hyt,hyl,hyp⟩:=h.node k y hy;have hj:=(zf.1 hp).1;have hp':x'.parts[j]?=some (x'.parts[j]'(by omega)):=ze (by omega);have hq':y'.parts[j]?=some (y'.parts[j]'(by omega)):=ze (by omega);rw[← hxp j p _ hp hp',← hyp j q _ hq hq'];exact Cl.part hik (zcH hx') (by rw[zcH hy',hyt,hyk,← hxt]) (by rw[hxt];exact h1) (by omega) hp' hq'
theorem Hom.clash {m m':List RNode} {E E':List (Nat×Nat)} {f:Nat→Nat} (h:Hom m E m' E' f) (hc:Clash (shR m) E):Clash (shR m') E':=by
  obtain ⟨i,k,hik,c,d,ps,qs,hi,hk,h1,h2,h3⟩:=hc;obtain ⟨x,hx,rfl,rfl⟩:=zcy hi;obtain ⟨y,hy,rfl,rfl⟩:=zcy hk;obtain ⟨x',hx',hxt,hxl,_⟩:=h.node i x hx;obtain ⟨y',hy',hyt,hyl,_⟩:=h.node k y hy;refine ⟨f i,f k,h.cl hik,_,_,_,_,zcH hx',zcH hy',by rw[hxt];exact h1,by rw[hyt];exact h2,?_⟩;rw[hxt,hyt,hxl,hyl];exact h3
def HomN (m m':List RNode) (f:Nat→Nat):Prop :=
  ∀(i:Nat) (r:RNode),m[i]?=some r→∃r',m'[f i]?=some r'∧r'.t=r.t∧r'.parts.length=r.parts.length∧∀(j:Nat) (p p':Int),r.parts[j]?=some p→r'.parts[j]?=some p'→p'.toNat=f p.toNat
def VarU (m:List RNode):Prop:=∀(i j:Nat) (r s:RNode),m[i]?=some r→m[j]?=some s→r.t.k=1→s.t.k=1→r.t.n=s.t.n→i=j
theorem HomN.ext {G:GS} {m m':List RNode} {f g:Nat→Nat} (hR:Rel G m) (h:HomN m m' f) (e:∀i,i<m.length→g i=f i):HomN m m' g:=fun i r hr=>by
  have hil:=(zf.1 hr).1;obtain ⟨r',h1,h2,h3,h4⟩:=h i r hr;refine ⟨r',by rw[e i hil];exact h1,h2,h3,fun j p p' hp hp'=>?_⟩;have hm:=hR.mok r (zn hr) p (zn hp);rw[h4 j p p' hp hp',e _ (by omega)]
theorem HomN.snoc {G:GS} {m m':List RNode} {f:Nat→Nat} (hR:Rel G m) (h:HomN m m' f) {x:RNode} (hx:∀p∈x.parts,0≤p∧p<(m.length:Int)) {a:Nat} {y:RNode} (hy:m'[a]?=some y) (ht:y.t=x.t) (hl:y.parts.length=x.parts.length)
    (hp:∀(j:Nat) (p p':Int),x.parts[j]?=some p→y.parts[j]?=some p'→p'.toNat=f p.toNat):HomN (m++[x]) m' (fun i=>if i=m.length then a else f i):=by
  have h':=HomN.ext (g:=fun i=>if i=m.length then a else f i) hR h (fun i hi=>by rw[if_neg (by omega)]);intro i r hr;rcases zM i m.length with hi | hi
  · rw[zE hi] at hr
    exact h' i r hr
  · have hi2:i=m.length:=by
      have:=(zf.1 hr).1;simp only[zd,zh,zm] at this;omega
    subst hi2;rw[zK (zS _),Nat.sub_self] at hr;simp only[List.getElem?_cons_zero,Option.some.injEq] at hr;subst hr;refine ⟨y,by simp only[if_true];exact hy,ht,hl,fun j p p' h1 h2=>?_⟩;have h5:=hx p (zn h1);(have h6:¬p.toNat=m.length:=by omega);simp only[if_neg h6];exact hp j p p' h1 h2
end Go.Proofs.YtjjjckjebkmnjaaGreat
namespace Go.Proofs.YtjjjckjebkmnjaaGreat
open Go Go.RowKit
theorem idxI_no {g:RNode→Bool} {m:List RNode} (h:zb3 g m=-1) {i:Nat} {r:RNode} (hr:m[i]?=some r):g r=false:=by
  cases hg:g r with
  | false=>rfl
  | true =>
    have ha:m.any g=true:=List.any_eq_true.2 ⟨r,zn hr,hg⟩;unfold zb3 at h;rw[if_pos ha] at h;omega
theorem idxI_neg (g:RNode→Bool) (m:List RNode) (h:zb3 g m<0):zb3 g m=-1:=by
  unfold zb3 at h ⊢;(split at h);(· omega);· rename_i hn;rw[if_neg hn]
theorem VarU.empty:VarU []:=by intro i j r s h;simp at h
theorem snoc_at {m:List RNode} {x r:RNode} {i:Nat} (h:(m++[x])[i]?=some r):(i<m.length∧m[i]?=some r)∨(i=m.length∧r=x):=by
  rcases zM i m.length with hi | hi
  · rw[zE hi] at h
    exact .inl ⟨hi,h⟩
  · have hi2:i=m.length:=by
      have:=(zf.1 h).1;simp only[zd,zh,zm] at this;omega
    subst hi2;rw[zK (zS _),Nat.sub_self] at h;simp only[List.getElem?_cons_zero,Option.some.injEq] at h;exact .inr ⟨rfl,h.symm⟩
theorem VarU.snoc {m:List RNode} (h:VarU m) {x:RNode} (hx:x.t.k=1→zb3 (RNode.isVar x.t.n) m=-1):VarU (m++[x]):=by
  intro i j r s hr hs h1 h2 h3;(rcases snoc_at hr with ⟨_,hr2⟩ | ⟨hi,rfl⟩ <;> rcases snoc_at hs with ⟨_,hs2⟩ | ⟨hj,rfl⟩);· exact h i j r s hr2 hs2 h1 h2 h3
  · have:=idxI_no (hx h2) hr2
    simp[RNode.isVar,h1,h3] at this
  · have:=idxI_no (hx h1) hs2
    simp[RNode.isVar,h2,h3] at this
  · omega
theorem zgu:∀(ps:List Ty) (_:∀p∈ps,∀(m:List RNode),VarU m→VarU (p.radd m).1) (m:List RNode) (l:List Int),VarU m→VarU (Ty.raddL ps m l).1
  | [],_,m,l,h=>by simpa [Ty.raddL] using h
  | p::ps,hp,m,l,h=>by
    simp only[Ty.raddL];exact zgu ps (fun q hq=>hp q (by simp[hq])) _ _ (hp p (by simp) m h)
theorem zhK:∀(T:Ty),T.right=true→∀(m:List RNode),VarU m→VarU (T.radd m).1:=by
  refine Ty.ind fun T ih=>?_;intro hr m h;obtain ⟨hok,hps⟩:=T.right_ok hr;rw[Ty.radd_eq];split;· exact h
  · rename_i hn
    refine (zgu T.ps (fun p hp=>ih p hp (hps p hp)) m [] h).snoc fun h1=>?_;(simp only at h1);(have hps0:T.ps=[]:=by rw[T.var_eq hr h1];rfl);rw[hps0];simp only[Ty.raddL];exact idxI_neg _ _ (by omega)
theorem Rel.nodeT {G:GS} {m:List RNode} (h:Rel G m) {i:Nat} {r:RNode} (hr:m[i]?=some r):r.t.right=true∧r.parts.length=r.t.ps.length ∧
    ∀(j:Nat) (p:Int) (q:Ty),r.parts[j]?=some p→r.t.ps[j]?=some q→(m[p.toNat]?).map RNode.t=some q:=by
  have hl:=(zf.1 hr).1;have hGi:G.N[i]?=some (G.N[i]'(by have:=h.len;omega)):=ze (by have:=h.len;omega);obtain ⟨_,_,_,_,_,h6,h7,h8⟩:=h.node i _ _ hGi hr;exact ⟨h6,h7,fun j p q hp hq=>(h8 j p q hp hq).2.2⟩
theorem map_t {m:List RNode} {i:Nat} {T:Ty} (h:(m[i]?).map RNode.t=some T):∃r,m[i]?=some r∧r.t=T∧i<m.length:=by
  cases hm:m[i]? with
  | none=>rw[hm] at h;cases h
  | some r=>rw[hm] at h;exact ⟨r,rfl,Option.some.inj h,(zf.1 hm).1⟩
theorem zhN {m':List RNode}:∀(ps:List Ty) (_:∀p∈ps,∀(G:GS) (m:List RNode) (f:Nat→Nat) (a':Nat),Rel G m→HomN m m' f→(m'[a']?).map RNode.t=some p→RelStep p G m∧∃g,HomN (p.radd m).1 m' g∧g (p.radd m).2.toNat=a'∧∀i,i<m.length→g i=f i)
    (G:GS) (m:List RNode) (f:Nat→Nat) (l cs:List Int),Rel G m→HomN m m' f→cs.length=ps.length→(∀(j:Nat) (a:Int) (q:Ty),cs[j]?=some a→ps[j]?=some q→(m'[a.toNat]?).map RNode.t=some q) →
    ∃g l',HomN (Ty.raddL ps m l).1 m' g∧(Ty.raddL ps m l).2=l++l'∧(∀(j:Nat) (p a:Int),l'[j]?=some p→cs[j]?=some a→g p.toNat=a.toNat)∧∀i,i<m.length→g i=f i
  | [],_,G,m,f,l,cs,hR,h,hl,_=>⟨f,[],by simpa [Ty.raddL] using h,by simp[Ty.raddL],by simp,fun _ _=>rfl⟩
  | p::ps,hp,G,m,f,l,[],_,_,hl,_=>by simp at hl
  | p::ps,hp,G,m,f,l,a::cs,hR,h,hl,ha=>by
    obtain ⟨s,g1,h1,h2,h3⟩:=hp p (by simp) G m f a.toNat hR h (ha 0 a p rfl rfl);obtain ⟨g2,l',h4,h5,h6,h7⟩:=zhN ps (fun q hq=>hp q (by simp[hq])) (p.gadd G).1 (p.radd m).1 g1 (l++[(p.radd m).2]) cs s.rel h1 (by simpa using hl) (fun j a q h8 h9=>ha (j+1) a q (by simpa using h8) (by simpa using h9));have hlen:=s.pre.len;obtain ⟨_,_,_,h10⟩:=map_t s.at';simp only[Ty.raddL];refine ⟨g2,(p.radd m).2::l',h4,by rw[h5];simp,fun j b c hb hc=>?_,fun i hi=>by rw[h7 i (by omega),h3 i hi]⟩
    cases j with
    | zero=>simp at hb hc;subst hb;subst hc;rw[h7 _ h10,h2]
    | succ j=>exact h6 j b c (by simpa using hb) (by simpa using hc)
theorem hom_add {G':GS} {m':List RNode} (hR':Rel G' m') (hV:VarU m'):∀(T:Ty),T.right=true→T.cnt≤400→∀(G:GS) (m:List RNode) (f:Nat→Nat) (a':Nat),Rel G m→HomN m m' f→(m'[a']?).map RNode.t=some T →
    ∃g,HomN (T.radd m).1 m' g∧g (T.radd m).2.toNat=a'∧∀i,i<m.length→g i=f i:=by
  refine Ty.ind fun T ih=>?_;intro hr hc G m f a' h hf ha;obtain ⟨hok,hps⟩:=T.right_ok hr;obtain ⟨y,hy,hyt,_⟩:=map_t ha;obtain ⟨_,hyl,hyp⟩:=hR'.nodeT hy;rw[hyt] at hyl hyp
  by_cases hk:T.k=1
  · have hT:=T.var_eq hr hk
    (have hps0:T.ps=[]:=by rw[hT];rfl);rcases h.vars T.n with ⟨hv,hi⟩ | ⟨k,hv,hi,h0⟩
    · have em:T.radd m=(m++[⟨T,[]⟩],(m.length:Int)):=by rw[Ty.radd_eq,if_neg (by omega),hps0];rfl
      rw[em];refine ⟨_,HomN.snoc h hf (x:=⟨T,[]⟩) (by simp) hy hyt (by rw[hyl,hps0];rfl) (by simp),?_,fun i hi=>?_⟩;(· simp);· simp only[if_neg (show ¬i=m.length by omega)]
    · have em:T.radd m=(m,k):=by rw[Ty.radd_eq,hi,if_pos ⟨hk,h0⟩]
      rw[em];refine ⟨f,hf,?_,fun _ _=>rfl⟩;obtain ⟨r,hr1,hr2⟩:=zeJ (g:=RNode.isVar T.n) (l:=m) (by omega);rw[hi] at hr1;simp only[RNode.isVar,Bool.and_eq_true,beq_iff_eq] at hr2;obtain ⟨r',h1,h2,_⟩:=hf _ r hr1;exact hV _ _ r' y h1 hy (by rw[h2];exact hr2.1) (by rw[hyt];exact hk) (by rw[h2,hyt];exact hr2.2)
  · have ih':∀p∈T.ps,∀(G:GS) (m:List RNode) (f:Nat→Nat) (a':Nat),Rel G m→HomN m m' f→(m'[a']?).map RNode.t=some p→RelStep p G m∧∃g,HomN (p.radd m).1 m' g∧g (p.radd m).2.toNat=a'∧∀i,i<m.length→g i=f i:=fun p hp G m f a' hR hf ha =>
      ⟨zb2 p (hps p hp) (Nat.le_trans (Ty.cnt_le_mem hp) hc) G m hR,ih p hp (hps p hp) (Nat.le_trans (Ty.cnt_le_mem hp) hc) G m f a' hR hf ha⟩
    obtain ⟨g,l',h1,h2,h3,h4⟩:=zhN T.ps ih' G m f [] y.parts h hf hyl hyp;obtain ⟨h5,h6,h7,l2,h8,h9,h10⟩:=zfG T.ps (fun p hp=>zb2 p (hps p hp) (Nat.le_trans (Ty.cnt_le_mem hp) hc)) G m [] h;simp only[zj] at h2 h8;obtain rfl:l'=l2:=h2.symm.trans h8;(have em:T.radd m=((Ty.raddL T.ps m []).1++[⟨T,l'⟩],((Ty.raddL T.ps m []).1.length:Int)):=by rw[Ty.radd_eq,if_neg (by omega),h2]);rw[em];have hlen:=h7.len;refine ⟨_,HomN.snoc h5 h1 (x:=⟨T,l'⟩) (fun p hp=>?_) hy hyt (by rw[hyl,h9]) (fun j p p' hp hp'=>(h3 j p p' hp hp').symm),?_,fun i hi=>?_⟩
    · obtain ⟨j,hj⟩:=List.mem_iff_getElem?.1 hp
      have hjl:=(zf.1 hj).1;(simp only at hjl);obtain ⟨h11,h12⟩:=h10 j p _ hj (ze (by omega));obtain ⟨_,_,_,h13⟩:=map_t h12;omega
    · simp
    · simp only[if_neg (show ¬i=(Ty.raddL T.ps m []).1.length by omega)]
      exact h4 i hi
def Tgt (m':List RNode) (E':List (Nat×Nat)) (e:Ty×Ty):Prop:=∃a b,(m'[a]?).map RNode.t=some e.1∧(m'[b]?).map RNode.t=some e.2∧Cl (shR m') E' a b
theorem Tgt.swap {m':List RNode} {E':List (Nat×Nat)} {e:Ty×Ty} (h:Tgt m' E' e):Tgt m' E' (e.2,e.1):=by
  obtain ⟨a,b,h1,h2,h3⟩:=h;exact ⟨b,a,h2,h1,h3.symm⟩
theorem zgX {P:List (Ty×Ty)→Prop} (h0:P []) (h1:∀d e,OkE (d++[e])→OkE d→P d→P (d++[e])):∀l,OkE l→P l:=by
  suffices h:∀(n:Nat) (l:List (Ty×Ty)),l.length=n→OkE l→P l from fun l=>h l.length l rfl
  intro n
  induction n with
  | zero=>intro l hl _;rw[List.length_eq_zero_iff.1 hl];exact h0
  | succ n ih =>
    intro l hl hr;(have hne:l≠[]:=fun e=>by rw[e] at hl;simp at hl);obtain ⟨d,e,rfl⟩:∃d e,l=d++[e]:=⟨l.dropLast,l.getLast hne,(List.dropLast_concat_getLast hne).symm⟩;(have hd:OkE d:=fun x hx=>hr x (by simp[hx]));exact h1 d e hr hd (ih d (by simp at hl;omega) hd)
theorem zdF:∀l,OkE l→VarU (eqF l).1:=zgX (by simpa [eqF] using VarU.empty) fun d e h _ ih=>by
  obtain ⟨h1,h2,h3,h4⟩:=h e (by simp);rw[zbQ];exact zhK e.2 h2 _ (zhK e.1 h1 _ ih)
theorem eqF_tgt:∀l,OkE l→∀e∈l,Tgt (eqF l).1 (zca (eqF l).2) e:=zgX (fun e he=>by cases he) fun d e h hd ih x hx=>by
  rcases zQ.1 hx with hx | hx
  · obtain ⟨a,b,h1,h2,h3⟩:=ih x hx
    have hp:=zhH h;exact ⟨a,b,hp.get h1,hp.get h2,h3.mono hp.sh (zhw d e)⟩
  · simp at hx;subst hx
    (obtain ⟨⟨G,hG⟩,_⟩:=zfx d fun x hx=>hd x hx);obtain ⟨h1,h2,h3,h4⟩:=h x (by simp);have s1:=zb2 x.1 h1 h3 G _ hG;have s2:=zb2 x.2 h2 h4 _ _ s1.rel;refine ⟨(x.1.radd (eqF d).1).2.toNat,(x.2.radd (x.1.radd (eqF d).1).1).2.toNat,?_,?_,.base ?_⟩
    rotate_left 2
    · rw[zbQ]
      simp only[zdl,zca,zp,zQ,zL,z7];exact .inr (List.mem_singleton.2 rfl)
    (· rw[zbQ];exact s2.pre.get s1.at');· rw[zbQ];exact s2.at'
theorem hom_eqF {G':GS} {m':List RNode} {E':List (Nat×Nat)} (hR':Rel G' m') (hV:VarU m'):∀l,OkE l→(∀e∈l,Tgt m' E' e)→∃f,Hom (eqF l).1 (zca (eqF l).2) m' E' f:=by
  refine zgX (P:=fun l=>(∀e∈l,Tgt m' E' e)→∃f,Hom (eqF l).1 (zca (eqF l).2) m' E' f) ?_ ?_
  · intro _
    exact ⟨fun i=>i,fun i r hr=>by simp[eqF] at hr,fun e he=>by simp[eqF,zca] at he⟩
  · intro d e h hd ih ht
    (obtain ⟨f,hf⟩:=ih fun x hx=>ht x (by simp[hx]));(obtain ⟨⟨G,hG⟩,hok⟩:=zfx d fun x hx=>hd x hx);obtain ⟨h1,h2,h3,h4⟩:=h e (by simp);have s1:=zb2 e.1 h1 h3 G _ hG;have s2:=zb2 e.2 h2 h4 _ _ s1.rel;obtain ⟨a,b,ha,hb,hab⟩:=ht e (by simp);obtain ⟨g1,k1,k2,k3⟩:=hom_add hR' hV e.1 h1 h3 G _ f a hG hf.node ha;obtain ⟨g2,k4,k5,k6⟩:=hom_add hR' hV e.2 h2 h4 _ _ g1 b s1.rel k1 hb;obtain ⟨_,_,_,l1⟩:=map_t s1.at';have l2:=s1.pre.len;rw[zbQ];refine ⟨g2,k4,fun x hx=>?_⟩;simp only[zdl,zca,zp,zQ,zL,z7] at hx;rcases hx with hx | hx
    · obtain ⟨p,hp,rfl⟩:=zP.1 hx
      have hp2:=hok p hp;have hq:=hf.eqs _ (zP.2 ⟨p,hp,rfl⟩);(simp only at hq ⊢);rw[k6 _ (by omega),k6 _ (by omega),k3 _ (by omega),k3 _ (by omega)];exact hq
    · obtain rfl:=List.mem_singleton.1 hx
      (simp only);rw[k6 _ l1,k2,k5];exact hab
def SubE (l l':List (Ty×Ty)):Prop:=∀e∈l,e∈l'∨(e.2,e.1)∈l'
theorem SubE.hom {l l':List (Ty×Ty)} (h:SubE l l') (ho:OkE l) (ho':OkE l'):∃f,Hom (eqF l).1 (zca (eqF l).2) (eqF l').1 (zca (eqF l').2) f:=by
  (obtain ⟨⟨G',hG'⟩,_⟩:=zfx l' fun x hx=>ho' x hx);refine hom_eqF hG' (zdF l' ho') l ho fun e he=>?_;(rcases h e he with h1 | h1);(· exact eqF_tgt l' ho' e h1);· exact (eqF_tgt l' ho' _ h1).swap
theorem SubE.clashes {l l':List (Ty×Ty)} (h:SubE l l') (ho:OkE l) (ho':OkE l') (hc:Clashes l):Clashes l':=by
  obtain ⟨f,hf⟩:=h.hom ho ho';exact hf.clash hc
theorem zfA {m:List RNode} {n:Int}:n∈vns m↔∃(i:Nat) (r:RNode),m[i]?=some r∧r.t.k=1∧r.t.n=n:=by
  unfold vns;constructor
  · intro h
    obtain ⟨r,hr,rfl⟩:=zP.1 h;obtain ⟨hrm,hk⟩:=List.mem_filter.1 hr;obtain ⟨i,hi⟩:=List.mem_iff_getElem?.1 hrm;exact ⟨i,r,hi,by simpa using hk,rfl⟩
  · rintro ⟨i,r,hi,hk,rfl⟩
    exact zP.2 ⟨r,List.mem_filter.2 ⟨zn hi,by simpa using hk⟩,rfl⟩
theorem zdO:∀{m:List RNode},VarU m→(vns m).Nodup
  | [],_=>by simp[vns]
  | r::m,h=>by
    have hm:VarU m:=fun i j r s hr hs h1 h2 h3=>by
      have:=h (i+1) (j+1) r s (by simpa using hr) (by simpa using hs) h1 h2 h3;omega
    by_cases hk:r.t.k=1
    · have e:vns (r::m)=r.t.n::vns m:=by simp[vns,hk]
      rw[e,List.nodup_cons];refine ⟨fun hn=>?_,zdO hm⟩;obtain ⟨i,s,hs,h1,h2⟩:=zfA.1 hn;have:=h 0 (i+1) r s rfl (by simpa using hs) hk h1 h2.symm;omega
    · have e:vns (r::m)=vns m:=by simp[vns,hk]
      rw[e];exact zdO hm
theorem Hom.vns {m m':List RNode} {E E':List (Nat×Nat)} {f:Nat→Nat} (h:Hom m E m' E' f) {n:Int} (hn:n∈vns m):n∈Go.Proofs.YtjjjckjebkmnjaaGreat.vns m':=by
  obtain ⟨i,r,hr,h1,h2⟩:=zfA.1 hn;obtain ⟨r',h3,h4,_⟩:=h.node i r hr;exact zfA.2 ⟨_,r',h3,by rw[h4];exact h1,by rw[h4];exact h2⟩
theorem ziE {a b:List Int} (h:a.Perm b):zcx a=zcx b:=by
  (have tr:∀a b c:Int,decide (a≤b)=true→decide (b≤c)=true→decide (a≤c)=true:=fun a b c h1 h2=>by simp only[zl] at *;omega);(have to:∀a b:Int,(decide (a≤b)||decide (b≤a))=true:=fun a b=>by simp only[Bool.or_eq_true,zl];omega);have h1:=List.pairwise_mergeSort (le:=fun x y:Int=>decide (x≤y)) tr to a;have h2:=List.pairwise_mergeSort (le:=fun x y:Int=>decide (x≤y)) tr to b;exact List.Perm.eq_of_pairwise (le:=fun a b:Int=>a≤b) (fun a b _ _ h1 h2=>by omega) (h1.imp fun h=>by simpa using h) (h2.imp fun h=>by simpa using h) ((List.mergeSort_perm _ _).trans (h.trans (List.mergeSort_perm _ _).symm))
theorem SubE.vars {l l':List (Ty×Ty)} (h:SubE l l') (h':SubE l' l) (ho:OkE l) (ho':OkE l'):zcx (vns (eqF l).1)=zcx (vns (eqF l').1):=by
  obtain ⟨f,hf⟩:=h.hom ho ho';obtain ⟨f',hf'⟩:=h'.hom ho' ho;refine ziE (List.perm_iff_count.2 fun a=>?_);have n1:=zdO (zdF l ho);have n2:=zdO (zdF l' ho')
  by_cases ha:a∈Go.Proofs.YtjjjckjebkmnjaaGreat.vns (eqF l).1
  (· rw[n1.count,n2.count,if_pos ha,if_pos (hf.vns ha)]);· rw[List.count_eq_zero_of_not_mem ha,List.count_eq_zero_of_not_mem fun hb=>ha (hf'.vns hb)]
theorem VarU.idx {m:List RNode} (h:VarU m) {i:Nat} {r:RNode} (hr:m[i]?=some r) (hk:r.t.k=1):zb3 (RNode.isVar r.t.n) m=i:=by
  refine zco (p:=r) hr (by simp[RNode.isVar,hk]) fun j q hj hq=>?_
  cases hg:RNode.isVar r.t.n q with
  | false=>rfl
  | true =>
    simp only[RNode.isVar,Bool.and_eq_true,beq_iff_eq] at hg;have:=h j i q r hq hr hg.1 hk hg.2;omega
theorem Holds.var_hom {l l':List (Ty×Ty)} {S T:CS} {f:Nat→Nat} (hS:Holds l S) (hT:Holds l' T) (ho':OkE l') (hf:Hom (eqF l).1 (zca (eqF l).2) (eqF l').1 (zca (eqF l').2) f) {n i:Int} (h:za3 S.G.V n=some i):za3 T.G.V n=some ((f i.toNat:Nat):Int)∧0≤i:=by
  (rcases hS.2.rel.vars n with ⟨h2,_⟩ | ⟨j,h2,h3,h4⟩);· rw[h2] at h;cases h
  · rw[h2] at h;cases h
    refine ⟨?_,h4⟩;obtain ⟨r,hr1,hr2⟩:=zeJ (g:=RNode.isVar n) (l:=(eqF l).1) (by omega);rw[h3] at hr1;simp only[RNode.isVar,Bool.and_eq_true,beq_iff_eq] at hr2;obtain ⟨r',h5,h6,_⟩:=hf.node _ r hr1;have h7:=(zdF l' ho').idx h5 (by rw[h6];exact hr2.1);rw[h6,hr2.2] at h7;exact hT.2.var h7 (by omega)
theorem Holds.one_hom {l l':List (Ty×Ty)} {S T:CS} {f:Nat→Nat} (hS:Holds l S) (hT:Holds l' T) (hf:Hom (eqF l).1 (zca (eqF l).2) (eqF l').1 (zca (eqF l').2) f) {i j:Nat} (h:One S.F.up i j):One T.F.up (f i) (f j):=by
  have h3:=(hS.2.w.iff i j).1 h;rw[hS.2.rel.sh] at h3;refine (hT.2.w.iff _ _).2 ?_;rw[hT.2.rel.sh];exact hf.cl h3
theorem SubE.same1 {l l':List (Ty×Ty)} {S T:CS} (h:SubE l l') (hS:Holds l S) (hT:Holds l' T) (ho:OkE l) (ho':OkE l') {a b:Int} {r t:Bool} (h1:SameR S a b r) (h2:SameR T a b t) (hr:r=true):t=true:=by
  obtain ⟨f,hf⟩:=h.hom ho ho';obtain ⟨_,i,j,h3,h4,h5⟩:=h1.1 hr;refine h2.2 ⟨hT.1,_,_,(hS.var_hom hT ho' hf h3).1,(hS.var_hom hT ho' hf h4).1,?_⟩;simp only[zaa];exact hS.one_hom hT hf h5
theorem SubE.same {l l':List (Ty×Ty)} {S T:CS} (h:SubE l l') (h':SubE l' l) (hS:Holds l S) (hT:Holds l' T) (ho:OkE l) (ho':OkE l') {a b:Int} {r t:Bool} (h1:SameR S a b r) (h2:SameR T a b t):r=t:=by
  cases r with
  | true=>exact (h.same1 hS hT ho ho' h1 h2 rfl).symm
  | false =>
    cases t with
    | false=>rfl
    | true=>exact h'.same1 hT hS ho' ho h2 h1 rfl
open Classical in
noncomputable def sameS (S:CS) (a b:Int):Bool:=decide (S.clash=false∧∃i k,za3 S.G.V a=some i∧za3 S.G.V b=some k∧One S.F.up i.toNat k.toNat)
theorem zdU (S:CS) (a b:Int):SameR S a b (sameS S a b):=by
  classical
  unfold SameR sameS;rw[zl]
theorem SameR.eq {S:CS} {a b:Int} {r:Bool} (h:SameR S a b r):r=sameS S a b:=by
  have h1:=h.trans (zdU S a b).symm
  cases r with
  | true=>exact (h1.1 rfl).symm
  | false =>
    cases hs:sameS S a b with
    | false=>rfl
    | true=>exact h1.2 hs
theorem SameR.fsame {S S1:CS} {a b:Int} {r:Bool} (k:FSame S.F S1.F) (e:S1={S with F:=S1.F}) (h:SameR S1 a b r):SameR S a b r:=by
  (have e1:S1.G=S.G:=by rw[e]);(have e2:S1.clash=S.clash:=by rw[e]);unfold SameR at h ⊢;rw[e1,e2] at h;simp only[One.congr k.rt] at h;exact h
theorem SubE.sameS {l l':List (Ty×Ty)} {S T:CS} (h:SubE l l') (h':SubE l' l) (hS:Holds l S) (hT:Holds l' T) (ho:OkE l) (ho':OkE l') (a b:Int):Go.Proofs.YtjjjckjebkmnjaaGreat.sameS S a b=Go.Proofs.YtjjjckjebkmnjaaGreat.sameS T a b:=h.same h' hS hT ho ho' (zdU S a b) (zdU T a b)
theorem CSt.clash_iff {l:List (Ty×Ty)} {S:CS} (h:CSt l S):S.clash=true↔Clashes l:=by
  rcases h.st with ⟨h1,_⟩ | ⟨h1,h2⟩
  · rw[h1.1]
    exact ⟨fun h=>(by cases h),fun h=>absurd h h1.noClash⟩
  · exact ⟨fun _=>h2,fun _=>h1⟩
theorem SubE.clash {l l':List (Ty×Ty)} {S T:CS} (h:SubE l l') (h':SubE l' l) (hS:CSt l S) (hT:CSt l' T):T.clash=S.clash:=by
  have h1:=hS.clash_iff;have h2:=hT.clash_iff;rw[zJ,h1,h2];exact ⟨h'.clashes hT.ok hS.ok,h.clashes hS.ok hT.ok⟩
theorem SubE.list {l l':List (Ty×Ty)} {S T:CS} (h:SubE l l') (h':SubE l' l) (hS:CSt l S) (hT:CSt l' T):(if T.clash=true then [] else zcx (T.G.V.map Prod.fst))=if S.clash=true then [] else zcx (S.G.V.map Prod.fst):=by
  rw[h.clash h' hS hT];split;· rfl
  · rename_i hc
    (have hc2:S.clash=false:=by simpa using hc);(have hc3:T.clash=false:=by rw[h.clash h' hS hT];exact hc2);rw[(hS.good hc2).2,(hT.good hc3).2,h.vars h' hS.ok hT.ok]
theorem SubE.nil (l:List (Ty×Ty)):SubE [] l:=fun _ h=>by cases h
theorem SubE.snoc {d l:List (Ty×Ty)} (h:SubE d l) {e:Ty×Ty} (he:e∈l∨(e.2,e.1)∈l):SubE (d++[e]) l:=fun x hx=>by
  (rcases zQ.1 hx with hx | hx);· exact h x hx
  · obtain rfl:=List.mem_singleton.1 hx
    exact he
end Go.Proofs.YtjjjckjebkmnjaaGreat
namespace Go.Proofs.YtjjjckjebkmnjaaGreat
open Go Go.RowKit
theorem ColF.iff {m:List RNode} {E:List (Nat×Nat)} {c:List Int} (h:ColF m E c) (hr:∀e∈E,e.1<m.length∧e.2<m.length) (hM:MOk m) {i k:Nat} (hi:i<m.length) (hk:k<m.length):c[i]?=c[k]?↔Cl (shR m) E i k :=
  h.col.iff h.held hr hM h.ok hi hk
structure ColE (l:List (Ty×Ty)) (c:List Int):Prop where
  ok:OkE l
  len:c.length=(eqF l).1.length
  iff:∀i k,i<(eqF l).1.length→k<(eqF l).1.length→(c[i]?=c[k]?↔Cl (shR (eqF l).1) (zca (eqF l).2) i k)
theorem ColF.colE {l:List (Ty×Ty)} {c:List Int} (h:ColF (eqF l).1 (zca (eqF l).2) c) (ho:OkE l):ColE l c:=by
  (obtain ⟨⟨G,hG⟩,hP⟩:=zfx l fun e he=>ho e he);refine ⟨ho,h.col.len,fun i k hi hk=>h.iff (fun e he=>?_) hG.mok hi hk⟩;simp only[zca,zP] at he;obtain ⟨p,hp,rfl⟩:=he;have:=hP p hp;(simp only);omega
def zbi (m:List RNode) (c:List Int) (i k:Nat):Bool:=decide (c[k]?=c[i]?)&&decide (((m[k]?).map fun x=>x.t.k)≠some 1)
def zbt (m:List RNode) (c:List Int) (i:Nat):Int:=zb3 (zbi m c i) (List.range m.length)
theorem zin {m:List RNode} {c:List Int} {i k:Nat} {x:RNode} {y z:Int} (hx:m[k]?=some x) (hy:c[k]?=some y) (hz:c[i]?=some z):zbi m c i k=(decide (y=z)&&decide (x.t.k≠1)):=by
  unfold zbi;rw[hx,hy,hz];congr 1 <;> simp
theorem zfN {n j q:Nat} (h:(List.range n)[j]?=some q):q=j∧j<n:=by
  obtain ⟨h1,h2⟩:=zf.1 h;(simp at h1 h2);exact ⟨h2.symm,h1⟩
theorem zgF {m:List RNode} {c:List Int} {i k:Nat} (hk:k<m.length) (h:zbi m c i k=true) (hb:∀j,j<k→zbi m c i j=false):zbt m c i=k :=
  zco (p:=k) (by simp[hk]) h fun j q hj hq=>by
    obtain ⟨rfl,_⟩:=zfN hq;exact hb q hj
theorem wholeI_no {m:List RNode} {c:List Int} {i:Nat} (hb:∀j,j<m.length→zbi m c i j=false):zbt m c i=-1 :=
  zc6 fun j q hj hq=>by
    obtain ⟨rfl,_⟩:=zfN hq;exact hb q (by simpa using hj)
theorem zcl (m:List RNode) (c:List Int) (i:Nat):(zbt m c i=-1∧∀j,j<m.length→zbi m c i j=false)∨∃k:Nat,zbt m c i=(k:Int)∧k<m.length∧zbi m c i k=true:=by
  rcases Int.lt_or_le (zbt m c i) 0 with h | h
  · left
    unfold zbt at h ⊢
    have h1:zb3 (zbi m c i) (List.range m.length)=-1:=by
      unfold zb3 at h ⊢;(split at h);(· omega);· rename_i hn;rw[if_neg hn]
    refine ⟨h1,fun j hj=>?_⟩
    cases hg:zbi m c i j with
    | false=>rfl
    | true =>
      have ha:(List.range m.length).any (zbi m c i)=true:=List.any_eq_true.2 ⟨j,by simpa using hj,hg⟩;unfold zb3 at h1;rw[if_pos ha] at h1;omega
  · right
    obtain ⟨r,h1,h2⟩:=zeJ (g:=zbi m c i) (l:=List.range m.length) h;obtain ⟨h3,h4⟩:=zfN h1;(have h5:zbt m c i=((zbt m c i).toNat:Int):=by omega);have h6:r=(zbt m c i).toNat:=h3;refine ⟨r,by rw[h6];exact h5,by rw[h6];exact h4,h2⟩
def zia (m:List RNode) (c:List Int) (i:Nat):Int:=if 0≤zbt m c i then ((m[(zbt m c i).toNat]?).map fun x=>x.t.k).getD 0 else 0
theorem zcL {m:List RNode} {c:List Int} {i k:Nat}:zbi m c i k=true↔c[k]?=c[i]?∧((m[k]?).map fun x=>x.t.k)≠some 1:=by
  unfold zbi;rw[Bool.and_eq_true,zl,zl]
theorem KindIs.eq {sh:Sh} {E:List (Nat×Nat)} {i:Nat} {a b:Int} (h:KindIs sh E i a) (k:KindIs sh E i b) (hn:¬Clash sh E):a=b:=by
  rcases h with ⟨rfl,h⟩ | ⟨ha,j,qs,hj,hs⟩
  · rcases k with ⟨rfl,_⟩ | ⟨hb,j,qs,hj,hs⟩
    (· rfl);· exact absurd (h j b qs hj hs) hb
  · exact (k.of_node hn hj hs ha).symm
theorem Holds.vf {l:List (Ty×Ty)} {S:CS} (h:Holds l S) (n:Int):(za3 S.G.V n=Option.none∧zb3 (RNode.isVar n) (eqF l).1=-1)∨∃i:Nat,za3 S.G.V n=some (i:Int)∧zb3 (RNode.isVar n) (eqF l).1=(i:Int)∧i<(eqF l).1.length:=by
  (rcases h.2.rel.vars n with h1 | ⟨k,h1,h2,h3⟩);· exact .inl h1
  · obtain ⟨i,rfl⟩:∃i:Nat,k=(i:Int):=⟨k.toNat,by omega⟩
    obtain ⟨r,h4,_⟩:=zeJ (g:=RNode.isVar n) (l:=(eqF l).1) (by omega);rw[h2,zaa] at h4;exact .inr ⟨i,h1,h2,(zf.1 h4).1⟩
def clsN (m:List RNode) (c:List Int) (i:Nat) (L:List Int):List Int:=L.filter fun w=>decide (c[(zb3 (RNode.isVar w) m).toNat]?=c[i]?)
theorem mem_varsI {m:List RNode} {n:Int}:n∈zbc m↔n∈vns m:=by
  rw[zf2];exact (List.mergeSort_perm _ _).mem_iff
theorem zgY {m:List RNode} {n:Int} (h:n∈zbc m):∃i:Nat,zb3 (RNode.isVar n) m=(i:Int)∧i<m.length:=by
  obtain ⟨i,r,hr,h1,h2⟩:=zfA.1 (mem_varsI.1 h);have ha:m.any (RNode.isVar n)=true:=List.any_eq_true.2 ⟨r,zn hr,by simp[RNode.isVar,h1,h2]⟩;refine ⟨m.findIdx (RNode.isVar n),by unfold zb3;rw[if_pos ha],List.findIdx_lt_length.2 (by simpa using ha)⟩
end Go.Proofs.YtjjjckjebkmnjaaGreat
namespace Go.Proofs.YtjjjckjebkmnjaaGreat
open Go Go.RowKit
def zaP (c:Nat) (r:Nat):List AV:=[.ptr c 0,.v (.int .i64 (r:Int))]
theorem Rp.slMap {E E':Env} {A:Nat→Nat→Prop} {w:World} {sz:Nat} {xs ys:List (List AV)} {u:Value} (hl:ys.length=xs.length) (hsz:(∀x∈xs,x.length=sz)→∀y∈ys,y.length=sz)
    (hfl:ys.flatten.length=xs.flatten.length) (hr:∀(j:Nat) (c d:AV) (u:Value),xs.flatten[j]?=some c→ys.flatten[j]?=some d→Rp E A w c u→Rp E' A w d u) (h:Rp E A w (.sl sz xs) u):Rp E' A w (.sl sz ys) u:=by
  cases h with
  | sl0 hc =>
    have:ys=[]:=List.eq_nil_of_length_eq_zero (by simpa using hl)
    subst this;exact .sl0 hc
  | sl g hn hcap hc hs hcell h =>
    refine .sl g (hn.trans hl.symm) hcap hc (hsz hs) (fun j hj=>hcell j (by omega)) fun j d hd=>?_;(have hj:j<xs.flatten.length:=by have:=(zf.1 hd).1;omega);exact hr j _ d _ (ze hj) hd (h j _ (ze hj))
theorem Und.slR {n sz:Nat} {xs:List (List AV)} (h:∀x∈xs,UndL n x):Und n (.sl sz xs):=fun E A w u hr =>
  hr.slMap rfl id rfl fun j c d u hc hd hk=>by
    rw[hc] at hd;cases hd;obtain ⟨x,hx,hcx⟩:=List.mem_flatten.1 (zn hc);exact (h x hx).mem c hcx E A w u hk
theorem Und.parts {n c:Nat} (h:c<n) (rs:List Nat):Und n (.sl 2 (rs.map (zaP c))):=.slR fun x hx=>by
  obtain ⟨r,_,rfl⟩:=zP.1 hx;exact ⟨.ptr h,.v _ _,trivial⟩
theorem RenL.parts {ρ:Nat→Nat} {i j:Nat} (h:ρ i=j):∀rs:List Nat,RenL ρ ((rs.map (zaP i)).flatten) ((rs.map (zaP j)).flatten)
  | []=>trivial
  | r::rs=>⟨.ptr h,.v _,RenL.parts h rs⟩
theorem RenV.parts {ρ:Nat→Nat} {i j:Nat} (h:ρ i=j) (rs:List Nat):RenV ρ (.sl 2 (rs.map (zaP i))) (.sl 2 (rs.map (zaP j))):=fun E A w u=>by
  have hR:=RenL.parts h rs
  have hsz:∀c,∀x∈rs.map (zaP c),x.length=2:=fun c x hx=>by
    obtain ⟨r,_,rfl⟩:=zP.1 hx;rfl
  constructor
  · refine Rp.slMap (by simp) (fun _=>hsz j) hR.length.symm fun k c d u hc hd hk=>?_
    obtain ⟨y,hy,hv⟩:=hR.get k c hc;rw[hd] at hy;cases hy;exact (hv E A w u).1 hk
  · refine Rp.slMap (by simp) (fun _=>hsz i) hR.length fun k c d u hc hd hk=>?_
    obtain ⟨y,hy,hv⟩:=hR.get k d hd;rw[hc] at hy;cases hy;exact (hv E A w u).2 hk
theorem RenV.part {ρ:Nat→Nat} {i j:Nat} (h:ρ i=j) (r:Nat):RenV ρ (.agg (zaP i r)) (.agg (zaP j r)):=.agg ⟨.ptr h,.v _,trivial⟩
theorem CCalls.atP {σ:Type} {f:Nat} {args args':List AV} {S:CS} {C:CS×σ→Prop} {R R':σ→AV} (h:CCalls f args S C R) {i0 i1 i2 i3 i4 i5 i6 i7:Nat} {os':Os} {nx':Nat}
    (ha:RenL (zbL [i0,i1,i2,i3,i4,i5,i6,i7] nx') args args') (hR:∀s,RenV (zbL [i0,i1,i2,i3,i4,i5,i6,i7] nx') (R s) (R' s))
    (hnd:[i0,i1,i2,i3,i4,i5,i6,i7].Nodup) (hlt:∀x∈[i0,i1,i2,i3,i4,i5,i6,i7],x<nx') (hg:GetsO os' [i0,i1,i2,i3,i4,i5,i6,i7] (zaX i1 i2 i3 i4 i5 i6 i7 S)) {Q':AV→Os→Nat→Prop}
    (hq:∀(S1:CS) (s:σ),C (S1,s)→Q' (R' s) (zan os' ([i0,i1,i2,i3,i4,i5,i6,i7].zip (zaX i1 i2 i3 i4 i5 i6 i7 S1))) nx'):ACalls Tryz.prog f args' os' nx' Q' :=
  ACalls.atE (σ:=CS×σ) (C:=C) (args:=args) (R:=fun s=>R s.2) (R':=fun s=>R' s.2) (obs:=zaN S) (obs1:=fun s=>zaN s.1) (obs':=zaX i1 i2 i3 i4 i5 i6 i7 S) (obs1':=fun s=>zaX i1 i2 i3 i4 i5 i6 i7 s.1) [i0,i1,i2,i3,i4,i5,i6,i7] h rfl (fun _=>rfl) hnd hlt ha (fun s=>hR s.2) (renC S i0 i1 i2 i3 i4 i5 i6 i7 nx') hg (fun s=>renC s.1 i0 i1 i2 i3 i4 i5 i6 i7 nx') (fun s hs=>hq s.1 s.2 hs)
open Classical in
noncomputable def rtB (S:CS) (r:Nat) (v:Int):Bool:=decide (∃i,za3 S.G.V v=some i∧Rt S.F.up i.toNat r)
theorem rtB_iff {S:CS} {r:Nat} {v:Int}:rtB S r v=true↔∃i,za3 S.G.V v=some i∧Rt S.F.up i.toNat r:=by
  classical
  unfold rtB;rw[zl]
noncomputable def leastV (S:CS) (r:Nat) (L:List Int):Int:=(L.find? (rtB S r)).getD (-1)
theorem zbR {l:List (Ty×Ty)} {S:CS} (h:Holds l S) {i k r:Nat} (hr:Rt S.F.up i r):Rt S.F.up k r↔Cl (shR (eqF l).1) (zca (eqF l).2) i k:=by
  have h8:=h.2.w.iff i k;rw[h.2.rel.sh] at h8;rw[← h8];exact ⟨fun hk=>.inr ⟨r,hr,hk⟩,fun ho=>ho.rt hr⟩
theorem Holds.rtB_eq {l:List (Ty×Ty)} {S:CS} (h:Holds l S) {c:List Int} (hc:ColE l c) {i r:Nat} (hi:i<(eqF l).1.length) (hr:Rt S.F.up i r) {v:Int} (hv:v∈zbc (eqF l).1) :
    rtB S r v=decide (c[(zb3 (RNode.isVar v) (eqF l).1).toNat]?=c[i]?):=by
  obtain ⟨q,hq,hq2⟩:=zgY hv;rw[zJ,rtB_iff,zl,hq,zaa];(rcases h.vf v with ⟨_,h2⟩ | ⟨j,h1,h2,h3⟩);· omega
  · obtain rfl:j=q:=by omega
    rw[hc.iff j i h3 hi];constructor
    · rintro ⟨i',e1,e2⟩
      rw[h1] at e1;cases e1;rw[zaa] at e2;exact .symm ((zbR h hr).1 e2)
    · exact fun e=>⟨_,h1,(zbR h hr).2 (.symm e)⟩
theorem zfi {α:Type} {p q:α→Bool}:∀{l:List α},(∀x∈l,p x=q x)→l.find? p=l.find? q
  | [],_=>rfl
  | a::l,h=>by
    rw[List.find?_cons,List.find?_cons,h a (by simp),zfi fun x hx=>h x (by simp[hx])]
theorem Holds.least_eq {l:List (Ty×Ty)} {S:CS} (h:Holds l S) {c:List Int} (hc:ColE l c) {i r:Nat} (hi:i<(eqF l).1.length) (hr:Rt S.F.up i r) :
    leastV S r (zbc (eqF l).1)=((clsN (eqF l).1 c i (zbc (eqF l).1)).head?).getD (-1):=by
  unfold leastV clsN;rw[List.head?_filter,zfi fun v hv=>h.rtB_eq hc hi hr hv]
structure PartIs (l:List (Ty×Ty)) (c:List Int) (S:CS) (i:Nat) (x:Int):Prop where
  no:x<0→zbt (eqF l).1 c i=-1∧zia (eqF l).1 c i=0
  yes:0≤x→∃(k:Nat) (g:GNode) (y:RNode),zbt (eqF l).1 c i=(k:Int)∧S.G.N[x.toNat]?=some g∧(eqF l).1[k]?=some y∧zia (eqF l).1 c i=g.k∧1≤g.k∧g.parts.length=y.parts.length∧g.parts.length≤8∧(∀p∈g.parts,0≤p∧p<(S.F.up.length:Int)) ∧
    ∀(j:Nat) (p q:Int),g.parts[j]?=some p→y.parts[j]?=some q→0≤q∧q<((eqF l).1.length:Int)∧∀r',Rt S.F.up p.toNat r'→Rt S.F.up q.toNat r'
theorem right_k {t:Ty} (h:t.right=true):1≤t.k:=by
  rw[Ty.right_eq,Bool.and_eq_true,okN,zl] at h;omega
theorem Holds.part {l:List (Ty×Ty)} {S:CS} (h:Holds l S) {c:List Int} (hc:ColE l c) {i r:Nat} {x:Int} (hi:i<(eqF l).1.length) (hr:Rt S.F.up i r) (hx:S.W[r]?=some x):PartIs l c S i x:=by
  have hrr:Rt S.F.up r r:=zcP.1 hr.root;have hW:=h.2.w;have hC:=hW.c;constructor
  · intro hneg
    have h0:zbt (eqF l).1 c i=-1:=by
      (rcases zcl (eqF l).1 c i with ⟨h1,_⟩ | ⟨k,h1,h2,h3⟩);· exact h1
      · exfalso
        obtain ⟨h4,h5⟩:=zcL.1 h3;have hy:(eqF l).1[k]?=some ((eqF l).1[k]'h2):=ze h2;have hk:=hW.neg r k x _ _ hx hneg ((zbR h hr).2 ((hc.iff i k hi h2).1 h4.symm)) (by rw[h.2.rel.sh];exact zcH hy);rw[hy] at h5;exact h5 (by simpa using hk)
    exact ⟨h0,by rw[zia,h0,if_neg (by omega)]⟩
  · intro hpos
    obtain ⟨hxr,d,ps,hsx,hd,hall⟩:=hW.pos r x hrr hx hpos;obtain ⟨g,hg,hgk,hgp⟩:=shG_at hsx;have hxl:=(zf.1 hg).1;rcases zcl (eqF l).1 c i with ⟨_,h2⟩ | ⟨k,h1,h2,h3⟩
    · exfalso
      have hsx':=hsx;rw[h.2.rel.sh] at hsx';obtain ⟨z,hz,hzk,_⟩:=zcy hsx';have hzl:=(zf.1 hz).1;have h4:=h2 x.toNat hzl;rw[zcL.2 ⟨((hc.iff i x.toNat hi hzl).2 ((zbR h hr).1 hxr)).symm,by rw[hz];simpa using hzk.symm▸hd⟩] at h4;cases h4
    · obtain ⟨h4,h5⟩:=zcL.1 h3
      have hy:(eqF l).1[k]?=some ((eqF l).1[k]'h2):=ze h2;rw[hy] at h5;have hkr:=(zbR h hr).2 ((hc.iff i k hi h2).1 h4.symm);obtain ⟨e1,e2,e3⟩:=hall k _ _ hkr (by rw[h.2.rel.sh];exact zcH hy) (by simpa using h5);(have hgl:k<S.G.N.length:=by rw[h.2.rel.len];exact h2);have hgk2:S.G.N[k]?=some (S.G.N[k]'hgl):=ze hgl;obtain ⟨f1,f2,f3,f4,f5,f6,f7,f8⟩:=h.2.rel.node k _ _ hgk2 hy;have hfl:=hC.fl;have hwl:=hC.wl;refine ⟨k,g,_,h1,hg,hy,?_,?_,?_,hC.pl g (zn hg),fun p hp=>?_,fun j p q hp hq=>?_⟩
      · rw[zia,h1,if_pos (by omega),zaa,hy]
        simpa using e1.trans hgk.symm
      · have:=right_k f6
        rw[hgk,← e1];exact this
      · rw[hgp,← e2]
      · have:=hC.pr g (zn hg) p hp
        omega
      · have h9:=hC.pr _ (zn hgk2) q (by rw[f3];exact zn hq)
        rw[h.2.rel.len] at h9;refine ⟨h9.1,h9.2,fun r' hp'=>?_⟩;exact ((e3 j p q (by rw[← hgp];exact hp) hq).nil.symm).rt hp'
theorem ziq {up:List Nat} {ps:List Int} {rs:List Nat} {p r1:Nat} (h:∀(j:Nat) (p:Int) (q:Nat),ps[j]?=some p→rs[j]?=some q→Rt up p.toNat q) (he:ps[rs.length]?=some (p:Int)) (hr:Rt up p r1) :
    ∀(j:Nat) (p:Int) (q:Nat),ps[j]?=some p→(rs++[r1])[j]?=some q→Rt up p.toNat q:=fun j p' q hp hq=>by
  (rcases zM j rs.length with h1 | h1);· rw[zE h1] at hq;exact h j p' q hp hq
  · have hj:j<(rs++[r1]).length:=(zf.1 hq).1
    rw[zd,List.length_singleton] at hj;(obtain rfl:j=rs.length:=by omega);rw[zK (zS _),Nat.sub_self] at hq;(cases hq);rw[he] at hp;cases hp;simpa using hr
theorem zgk {v:Int}:∀{V:List (Int×Int)},v∈V.map Prod.fst→∃i,za3 V v=some i
  | [],h=>by cases h
  | (a,b)::V,h=>by
    rw[zL,zZ] at h;unfold za3
    by_cases e:a=v
    · exact ⟨b,by rw[if_pos e]⟩
    · rw[if_neg e]
      (rcases h with h | h);(· exact absurd h.symm e);· exact zgk h
theorem zfg {V:List (Int×Int)}:∀v∈zcx (V.map Prod.fst),∃i,za3 V v=some i:=fun _ hv=>zgk ((List.mergeSort_perm _ _).mem_iff.1 hv)
theorem pk_zero {S:CS} {x k:Int} (hk:(x<0∧k=0)∨(0≤x∧∃g,S.G.N[x.toNat]?=some g∧k=g.k)) (hg:0≤x→∃g,S.G.N[x.toNat]?=some g∧1≤g.k∧g.parts.length≤8∧∀p∈g.parts,0≤p∧p<(S.F.up.length:Int)):k=0↔x<0:=by
  (rcases hk with ⟨h1,h2⟩ | ⟨h1,g,hg1,h2⟩);· exact ⟨fun _=>h1,fun _=>h2⟩
  · obtain ⟨g',hg2,hk2,_⟩:=hg h1
    rw[hg1] at hg2;cases hg2;omega
end Go.Proofs.YtjjjckjebkmnjaaGreat
namespace Go.Proofs.YtjjjckjebkmnjaaGreat
open Go Go.RowKit
attribute [local irreducible] aops zaV
def EqT.ok (e:EqT):Bool:=e.l.right&&e.r.right
def zaR (es:List EqT):List EqT:=es.filter EqT.ok
theorem zeX {es:List EqT} {s:Nat} {e:EqT} (h:es[s]?=some e) (hr:e.ok=true):zaR (es.take (s+1))=zaR (es.take s)++[e]:=by
  rw[List.take_add_one,h,zaR,List.filter_append];simp[zaR,hr]
theorem zd1 {es:List EqT} {s:Nat} {e:EqT} (h:es[s]?=some e) (hr:e.ok=false):zaR (es.take (s+1))=zaR (es.take s):=by
  rw[List.take_add_one,h,zaR,List.filter_append];simp[zaR,hr]
theorem zeP (es:List EqT):(zaR es).length≤es.length:=List.length_filter_le _ _
theorem EqT.one (l:List EqT):((l.map EqT.cells).all fun y=>y.all AV.one)=true:=by
  induction l with
  | nil=>rfl
  | cons e l ih=>rw[zL,List.all_cons,ih];rfl
theorem zfP (es:List EqT) (hl:es.length≤1048576):APure Tryz.prog 7 [.sl 8 (es.map EqT.cells)] (.sl 8 ((zaR es).map EqT.cells)):=by
  refine APure.mkL (.cons (EqT.dataSl es) .nil) (EqT.dataSl _) ?_;refine zaj Tryz.func7 (by kernel_rfl) rfl (by rw[Tryz.ntmps7];simp) (fun hm=>?_);simp only[Tryz.ntmps7,Tryz.results7,zh,zm,Nat.reduceAdd,Nat.reduceSub,zu,zw,zi,zj];(iterate 2 (refine zad fun Y0 y0=>?_;refine zac ?_;simp only[↓bO,go_sem,seval];refine y0 _ ?_;(try clear y0 Y0)));refine zad fun Y0 y0=>?_;refine zad fun Y1 y1=>?_;refine zac ?_;simp only[↓bO,go_sem,seval];refine y1 _ ?_;(try clear y1 Y1);refine zao ?_;refine zbd (Weak.tokSlot 3 51 8 rfl) ?_;simp only[zc,zb];refine zaG (σ:=Nat) (mB 33 25) (fun s=>s≤es.length) (fun s=>[(3,.osl 0 8 ((zaR (es.take s)).map EqT.cells)),(4,.v (.int .i64 (s:Int)))]) (fun s=>[(0,.tok 51 8 (zaR (es.take s)).length)]) (fun s=>es.length-s) 0 (by omega) ?_ (fun s hs=>?_)
  ·
   simp only[zau,zav,zan,zaA,mB,zc,zb,seval,bL,zaR,zC];exact zbl
  simp only[zau,zav,zan,zaA,mB,zc,zb,seval];refine zad fun Y1 y1=>?_;refine zad fun Y2 y2=>?_;refine zac ?_;(iterate 3 (refine zab 1 fun Q0 q0=>?_;simp only[↓bO,go_sem,seval];refine q0 _ ?_;clear q0 Q0;simp only[go_sem]));simp only[↓bO,go_sem,seval];refine y2 _ ?_;(try clear y2 Y2);refine zak rfl (fun hb8=>?_) (fun hb8=>?_)
  ·
   (have hk:s<es.length:=by simpa using hb8);obtain ⟨e,he⟩:∃e,es[s]?=some e:=⟨_,ze hk⟩;have hw:IntKind.i64.wrap ((s:Int)+1)=(s:Int)+1:=zaO (by omega) (by omega);have hrl:=zeP (es.take s);(have hrt:(es.take s).length≤s:=by simp;omega);(have hb1:((zaR (es.take s)).length+1) * 96≤140737488355328:=by omega);(have hb2:(zaR (es.take s)).length+1≤maxLen:=by simp only[maxLen];omega);refine zap ?_;(try simp only[zah,zaf,zae]);refine y1 _ ?_;(try clear y1 Y1);refine zad fun Y1 y1=>?_;refine zao ?_;refine zad fun Y2 y2=>?_;refine zac ?_;(iterate 5 (refine zab 1 fun Q0 q0=>?_;simp only[↓bO,go_sem,seval,hk,gM he,EqT.cells,Ty.refold,hw,hb1,hb2,za];refine q0 _ ?_;clear q0 Q0;simp only[go_sem]));refine zab 1 fun Q0 q0=>?_;simp only[↓bO,go_sem,seval,hk,gM he,EqT.cells,Ty.refold,hw,hb1,hb2,za];refine APure.call (zdJ e.l) ?_;(try simp only[bS,bA,zah,zaf,zae]);refine q0 _ ?_;clear q0 Q0;simp only[go_sem];refine zab 1 fun Q0 q0=>?_;simp only[↓bO,go_sem,seval,hk,gM he,EqT.cells,Ty.refold,hw,hb1,hb2,za];refine q0 _ ?_;clear q0 Q0;simp only[go_sem];refine zaI 17 rfl (fun hc17=>?_) (fun hc17=>?_)
   ·
    simp only[zc,zb];(have hl1:e.l.right=true:=by simpa using hc17);(iterate 5 (refine zab 1 fun Q0 q0=>?_;simp only[↓bO,go_sem,seval,hk,gM he,EqT.cells,Ty.refold,hw,hb1,hb2,za];refine q0 _ ?_;clear q0 Q0;simp only[go_sem]));refine zab 1 fun Q0 q0=>?_;simp only[↓bO,go_sem,seval,hk,gM he,EqT.cells,Ty.refold,hw,hb1,hb2,za];refine APure.call (zdJ e.r) ?_;(try simp only[bS,bA,zah,zaf,zae]);refine q0 _ ?_;clear q0 Q0;simp only[go_sem];simp only[↓bO,go_sem,seval,hk,gM he,EqT.cells,Ty.refold,hw,hb1,hb2,za];refine y2 _ ?_;(try clear y2 Y2);refine zak rfl (fun hb24=>?_) (fun hb24=>?_)
    ·
     (have hyes:e.ok=true:=by (have h9:e.r.right=true:=by simpa using hb24);rw[EqT.ok,hl1,h9];rfl);have hst:=zeX he hyes;refine zac ?_;(iterate 5 (refine zab 1 fun Q0 q0=>?_;simp only[↓bO,go_sem,seval,hk,gM he,EqT.cells,Ty.refold,hw,hb1,hb2,za,hst,zp,zd];refine q0 _ ?_;clear q0 Q0;simp only[go_sem]));refine zab 1 fun Q0 q0=>?_;simp only[↓bO,go_sem,seval,↓zbE,↓zby,↓zbI,↓zbC,↓zbG,↓zbF,↓zbD,↓zbz,↓zbB,↓zba,↓za9,↓zbb,hk,gM he,EqT.cells,Ty.refold,hw,hb1,hb2,za,hst,zp,zd];refine q0 _ ?_;clear q0 Q0;simp only[go_sem];refine zab 1 fun Q0 q0=>?_;simp only[↓bO,go_sem,seval,hk,gM he,EqT.cells,Ty.refold,hw,hb1,hb2,za,hst,zp,zd];refine q0 _ ?_;clear q0 Q0;simp only[go_sem];simp only[↓bO,go_sem,seval,hk,gM he,EqT.cells,Ty.refold,hw,hb1,hb2,za,hst,zp,zd];refine y1 _ ?_;(try clear y1 Y1);refine zac ?_;(iterate 2 (refine zab 1 fun Q0 q0=>?_;simp only[↓bO,go_sem,seval,hk,gM he,EqT.cells,Ty.refold,hw,hb1,hb2,za,hst,zp,zd];refine q0 _ ?_;clear q0 Q0;simp only[go_sem]));simp only[↓bO,go_sem,seval,hk,gM he,EqT.cells,Ty.refold,hw,hb1,hb2,za,hst,zp,zd];refine ⟨(s+1),(by omega),by omega,?_⟩;simp only[zau,zav,zan,zaA,mB,zc,zb,seval,hk,gM he,EqT.cells,Ty.refold,hw,hb1,hb2,za,zA,zG,hst,zp,bL,zd];exact zbl
    ·
     (have hno:e.ok=false:=by (have h9:e.r.right=false:=by simpa using hb24);rw[EqT.ok,h9,Bool.and_false]);have hst:=zd1 he hno;refine zap ?_;(try simp only[zah,zaf,zae]);refine y1 _ ?_;(try clear y1 Y1);refine zac ?_;(iterate 2 (refine zab 1 fun Q0 q0=>?_;simp only[↓bO,go_sem,seval,hk,gM he,EqT.cells,Ty.refold,hw,hb1,hb2,za,hst];refine q0 _ ?_;clear q0 Q0;simp only[go_sem]));simp only[↓bO,go_sem,seval,hk,gM he,EqT.cells,Ty.refold,hw,hb1,hb2,za,hst];refine ⟨(s+1),(by omega),by omega,?_⟩;simp only[zau,zav,zan,zaA,mB,zc,zb,seval,hk,gM he,EqT.cells,Ty.refold,hw,hb1,hb2,za,zA,zG,hst];exact zbl
   ·
    simp only[zc,zb];(have hno:e.ok=false:=by (have h9:e.l.right=false:=by simpa using hc17);rw[EqT.ok,h9];rfl);have hst:=zd1 he hno;(iterate 6 (refine zab 1 fun Q0 q0=>?_;simp only[↓bO,go_sem,seval,hk,gM he,EqT.cells,Ty.refold,hw,hb1,hb2,za,hst];refine q0 _ ?_;clear q0 Q0;simp only[go_sem]));simp only[↓bO,go_sem,seval,hk,gM he,EqT.cells,Ty.refold,hw,hb1,hb2,za,hst];refine y2 _ ?_;(try clear y2 Y2);refine zak (b:=false) (by first | exact rfl | exact congrArg (fun b=>AV.v (.bool b)) hb24) (fun h=>(by cases h)) (fun _=>?_);refine zap ?_;(try simp only[zah,zaf,zae]);refine y1 _ ?_;(try clear y1 Y1);refine zac ?_;(iterate 2 (refine zab 1 fun Q0 q0=>?_;simp only[↓bO,go_sem,seval,hk,gM he,EqT.cells,Ty.refold,hw,hb1,hb2,za,hst];refine q0 _ ?_;clear q0 Q0;simp only[go_sem]));simp only[↓bO,go_sem,seval,hk,gM he,EqT.cells,Ty.refold,hw,hb1,hb2,za,hst];refine ⟨(s+1),(by omega),by omega,?_⟩;simp only[zau,zav,zan,zaA,mB,zc,zb,seval,hk,gM he,EqT.cells,Ty.refold,hw,hb1,hb2,za,zA,zG,hst];exact zbl
  ·
   (have hk:s=es.length:=by simp at hb8;omega);refine zaK ?_;simp only[zah,zaf,zae,bA,Nat.reduceEqDiff,↓reduceIte];refine y0 _ ?_;(try clear y0 Y0);refine zad fun Y0 y0=>?_;refine zac ?_;refine zab 1 fun Q0 q0=>?_;simp only[↓bO,go_sem,seval];refine q0 _ ?_;clear q0 Q0;simp only[go_sem];simp only[↓bO,go_sem,seval];refine y0 _ ?_;(try clear y0 Y0);refine zaq ?_;(try simp only[zah,zaf,zae,za1,zaZ,zaE,bS,bA]);rw[hk,zW];exact Le.oslL
end Go.Proofs.YtjjjckjebkmnjaaGreat
namespace Go.Proofs.YtjjjckjebkmnjaaGreat
open Go Go.RowKit
attribute [local irreducible] aops zaV
theorem zf1 (S:CS) (h64:S.clash=false→∀q∈S.G.V,is64 q.1) (hl:S.clash=false→S.G.V.length≤1099511627776):CCalls (σ:=Unit) 56 [.ptr 0 0] (S) (fun s=>s.1=S) (fun s=>.sl 1 ((if S.clash=true then [] else zcx (S.G.V.map Prod.fst)).map intC)):=by
  refine ACalls.clean (C:=fun r os=>∃s:CS×Unit,(s.1=S)∧r=(fun s:Unit=>.sl 1 ((if S.clash=true then [] else zcx (S.G.V.map Prod.fst)).map intC)) s.2∧os=zar 0 (zaN s.1)) ?_;refine zaj Tryz.func56 (by kernel_rfl) rfl (by rw[Tryz.ntmps56];simp) (fun hm=>?_);simp only[Tryz.ntmps56,Tryz.results56,zh,zm,Nat.reduceAdd,Nat.reduceSub,zu,zw,zi,zj];simp only[zaN,zar,Nat.reduceAdd];refine zad fun Y0 y0=>?_;refine zac ?_;simp only[↓bO,go_sem,seval];refine y0 _ ?_;(try clear y0 Y0);refine zad fun Y0 y0=>?_;refine zad fun Y1 y1=>?_;refine zac ?_;refine zab 1 fun Q0 q0=>?_;simp only[↓bO,go_sem,seval];refine q0 _ ?_;clear q0 Q0;simp only[go_sem];refine zab 1 fun Q0 q0=>?_;simp only[↓bO,go_sem,seval];refine CCalls.at (Err_c S) (.nil) (fun _=>.v _) (i0:=0) (i1:=1) (i2:=2) (i3:=3) (i4:=4) (i5:=5) (i6:=6) (i7:=7) (by decide) (by simp) ⟨rfl,rfl,rfl,rfl,rfl,rfl,rfl,rfl,trivial⟩ (fun Z9 u9 hZ9=>?_);(try dsimp only at hZ9);simp only[zaX,zB,zF,zD,zan,zaA,Nat.reduceEqDiff,↓reduceIte];obtain rfl:S=Z9:=hZ9.symm;(try simp only[bS,bA,zah,zaf,zae]);refine q0 _ ?_;clear q0 Q0;simp only[go_sem];simp only[↓bO,go_sem,seval];refine y1 _ ?_;(try clear y1 Y1);refine zak rfl (fun hb5=>?_) (fun hb5=>?_)
  ·
   (have hcs:S.clash=true:=by (have h9:=hb5;cases hc:S.clash <;> simp[hc] at h9 ⊢));refine zad fun Y1 y1=>?_;refine zac ?_;simp only[↓bO,go_sem,seval];refine y1 _ ?_;(try clear y1 Y1);refine zaq ?_;(try simp only[zah,zaf,zae,za1,zaZ,zaE,bS,bA]);refine ⟨_,zar 0 (zaN (S)),⟨(S,()),?_,rfl,rfl⟩,Und.data (zaJ _),zdo (by omega) _,?_,?_,by omega⟩;· exact rfl
   ·
    rw[if_pos hcs];exact Le.slNil 1
   · first | (refine ⟨0,rfl,rfl⟩) | (refine ⟨0,by simp only[zaN,zar,zy,zt,Nat.reduceAdd],rfl⟩)
  ·
   (have hcs:S.clash=false:=by (have h9:=hb5;cases hc:S.clash <;> simp[hc] at h9 ⊢));refine zap ?_;(try simp only[zah,zaf,zae]);refine y0 _ ?_;(try clear y0 Y0);refine zad fun Y0 y0=>?_;refine zac ?_;(iterate 4 (refine zab 1 fun Q0 q0=>?_;simp only[↓bO,go_sem,seval];refine q0 _ ?_;clear q0 Q0;simp only[go_sem]));refine zab 1 fun Q0 q0=>?_;simp only[↓bO,go_sem,seval];refine GCalls.at (zg8 S.G (h64 hcs) (hl hcs)) (.nil) (zaJ _) (i:=1) (j:=2) (k:=3) rfl rfl rfl (by decide) (by decide) (by decide) (by first | omega | (simp only;omega)) (by first | omega | (simp only;omega)) (by first | omega | (simp only;omega)) ?_;simp only[zaA,Nat.reduceEqDiff,↓reduceIte];(try simp only[bS,bA,zah,zaf,zae]);refine q0 _ ?_;clear q0 Q0;simp only[go_sem];simp only[↓bO,go_sem,seval];refine y0 _ ?_;(try clear y0 Y0);refine zaq ?_;(try simp only[zah,zaf,zae,za1,zaZ,zaE,bS,bA]);refine ⟨_,zar 0 (zaN (S)),⟨(S,()),?_,rfl,rfl⟩,Und.data (zaJ _),zdo (by omega) _,?_,?_,by omega⟩;· exact rfl
   ·
    rw[if_neg (by rw[hcs];decide)];exact Le.refl _
   · first | (refine ⟨0,rfl,rfl⟩) | (refine ⟨0,by simp only[zaN,zar,zy,zt,Nat.reduceAdd],rfl⟩)
end Go.Proofs.YtjjjckjebkmnjaaGreat
namespace Go.Proofs.YtjjjckjebkmnjaaGreat
open Go Go.RowKit
attribute [local irreducible] aops zaV
theorem zdW (S:CS) (r:Int):CCalls (σ:=Unit) 58 [.agg [.ptr 0 0,.v (.int .i64 r)]] (S) (fun s=>s.1=S) (fun s=>.v (.int .i64 r)):=by
  refine ACalls.clean (C:=fun zr zo=>∃s:CS×Unit,(s.1=S)∧zr=(fun s:Unit=>.v (.int .i64 r)) s.2∧zo=zar 0 (zaN s.1)) ?_;refine zaj Tryz.func58 (by kernel_rfl) rfl (by rw[Tryz.ntmps58];simp) (fun hm=>?_);simp only[Tryz.ntmps58,Tryz.results58,zh,zm,Nat.reduceAdd,Nat.reduceSub,zu,zw,zi,zj];simp only[zaN,zar,Nat.reduceAdd];refine zad fun Y0 y0=>?_;refine zac ?_;refine zab 1 fun Q0 q0=>?_;simp only[↓bO,go_sem,seval];refine q0 _ ?_;clear q0 Q0;simp only[go_sem];simp only[↓bO,go_sem,seval];refine y0 _ ?_;(try clear y0 Y0);refine zad fun Y0 y0=>?_;refine zad fun Y1 y1=>?_;refine zac ?_;(iterate 2 (refine zab 1 fun Q0 q0=>?_;simp only[↓bO,go_sem,seval];refine q0 _ ?_;clear q0 Q0;simp only[go_sem]));simp only[↓bO,go_sem,seval];refine y1 _ ?_;(try clear y1 Y1);refine zak rfl (fun hb5=>?_) (fun hb5=>?_)
  ·
   cases hb5
  ·
   refine zap ?_;(try simp only[zah,zaf,zae]);refine y0 _ ?_;(try clear y0 Y0);refine zad fun Y0 y0=>?_;refine zac ?_;(iterate 2 (refine zab 1 fun Q0 q0=>?_;simp only[↓bO,go_sem,seval];refine q0 _ ?_;clear q0 Q0;simp only[go_sem]));simp only[↓bO,go_sem,seval];refine y0 _ ?_;(try clear y0 Y0);refine zaq ?_;(try simp only[zah,zaf,zae,za1,zaZ,zaE,bS,bA]);refine ⟨_,zar 0 (zaN (S)),⟨(S,()),?_,rfl,rfl⟩,.v _ _,zdo (by omega) _,?_,?_,by omega⟩;· exact rfl
   ·
    exact Le.refl _
   · first | (refine ⟨1,rfl,rfl⟩) | (refine ⟨0,rfl,rfl⟩) | (refine ⟨1,by simp only[zaN,zar,zy,zt,Nat.reduceAdd],rfl⟩) | (refine ⟨0,by simp only[zaN,zar,zy,zt,Nat.reduceAdd],rfl⟩)
theorem PKind_cc (S:CS) (hw:∀w∈S.W,w=-1∨(0≤w∧w<(S.G.N.length:Int))) (r:Nat) (x:Int) (hx:S.W[r]?=some x):CCalls (σ:=Int) 78 [.agg [.ptr 0 0,.v (.int .i64 (r:Int))]] S (fun s=>s.1=S∧((x<0∧s.2=0)∨(0≤x∧∃g,S.G.N[x.toNat]?=some g∧s.2=g.k))) (fun s=>.v (.int .i64 s)):=PKind_c S hw r x hx
theorem zhu (S:CS) (hF:FInv S.F) (hpl:∀z∈S.G.N,z.parts.length≤8) (hw:∀w∈S.W,w=-1∨(0≤w∧w<(S.G.N.length:Int))) (r:Nat) (x:Int) (hx:S.W[r]?=some x) (hg0:0≤x→∃g,S.G.N[x.toNat]?=some g∧1≤g.k∧g.parts.length≤8∧∀p∈g.parts,0≤p∧p<(S.F.up.length:Int)):CCalls (σ:=List Nat) 59 [.agg [.ptr 0 0,.v (.int .i64 (r:Int))]] (S) (fun s=>FSame S.F s.1.F∧s.1={S with F:=s.1.F}∧((x<0∧s.2=[])∨(0≤x∧∃g,S.G.N[x.toNat]?=some g∧s.2.length=g.parts.length∧∀(j:Nat) (p:Int) (q:Nat),g.parts[j]?=some p→s.2[j]?=some q→Rt S.F.up p.toNat q))) (fun s=>.sl 2 (s.map (zaP 0))):=by
  refine ACalls.clean (C:=fun zr zo=>∃s:CS×List Nat,(FSame S.F s.1.F∧s.1={S with F:=s.1.F}∧((x<0∧s.2=[])∨(0≤x∧∃g,S.G.N[x.toNat]?=some g∧s.2.length=g.parts.length∧∀(j:Nat) (p:Int) (q:Nat),g.parts[j]?=some p→s.2[j]?=some q→Rt S.F.up p.toNat q)))∧zr=(fun s:List Nat=>.sl 2 (s.map (zaP 0))) s.2∧zo=zar 0 (zaN s.1)) ?_;refine zaj Tryz.func59 (by kernel_rfl) rfl (by rw[Tryz.ntmps59];simp) (fun hm=>?_);simp only[Tryz.ntmps59,Tryz.results59,zh,zm,Nat.reduceAdd,Nat.reduceSub,zu,zw,zi,zj];simp only[zaN,zar,Nat.reduceAdd];have hrl:=(zf.1 hx).1;have hwx:=hw x (zn hx);refine zad fun Y0 y0=>?_;refine zac ?_;refine zab 1 fun Q0 q0=>?_;simp only[↓bO,go_sem,seval];refine q0 _ ?_;clear q0 Q0;simp only[go_sem];simp only[↓bO,go_sem,seval];refine y0 _ ?_;(try clear y0 Y0);refine zad fun Y0 y0=>?_;refine zad fun Y1 y1=>?_;refine zac ?_;refine zab 1 fun Q0 q0=>?_;simp only[↓bO,go_sem,seval];refine q0 _ ?_;clear q0 Q0;simp only[go_sem];refine zab 1 fun Q0 q0=>?_;simp only[↓bO,go_sem,seval];refine CCalls.atP (PKind_cc S hw r x hx) (i0:=0) (i1:=1) (i2:=2) (i3:=3) (i4:=4) (i5:=5) (i6:=6) (i7:=7) (by exact ⟨.agg ⟨.ptr rfl,.v _,trivial⟩,trivial⟩) (fun _=>by exact .v _) (by decide) (by simp) ⟨rfl,rfl,rfl,rfl,rfl,rfl,rfl,rfl,trivial⟩ (fun Z1 k1 hZ1=>?_);(try dsimp only at hZ1);simp only[zaX,zB,zF,zD,zan,zaA,Nat.reduceEqDiff,↓reduceIte];obtain ⟨hZ1,hk1⟩:=hZ1;obtain rfl:S=Z1:=hZ1.symm;(try simp only[bS,bA,zah,zaf,zae]);refine q0 _ ?_;clear q0 Q0;simp only[go_sem];simp only[↓bO,go_sem,seval];refine y1 _ ?_;(try clear y1 Y1);refine zak rfl (fun hb8=>?_) (fun hb8=>?_)
  ·
   have hneg:x<0:=(pk_zero hk1 hg0).1 (by simpa using hb8);refine zad fun Y1 y1=>?_;refine zac ?_;simp only[↓bO,go_sem,seval];refine y1 _ ?_;(try clear y1 Y1);refine zaq ?_;(try simp only[zah,zaf,zae,za1,zaZ,zaE,bS,bA]);refine ⟨_,zar 0 (zaN (S)),⟨(S,([]:List Nat)),?_,rfl,rfl⟩,Und.parts (by omega) [],zdo (by omega) _,?_,?_,by omega⟩;· exact ⟨FSame.refl hF,rfl,.inl ⟨hneg,rfl⟩⟩
   ·
    exact Le.slNil 2
   · first | (refine ⟨1,rfl,rfl⟩) | (refine ⟨0,rfl,rfl⟩) | (refine ⟨1,by simp only[zaN,zar,zy,zt,Nat.reduceAdd],rfl⟩) | (refine ⟨0,by simp only[zaN,zar,zy,zt,Nat.reduceAdd],rfl⟩)
  ·
   (have hpos:0≤x:=Int.not_lt.1 fun h9=>absurd ((pk_zero hk1 hg0).2 h9) (by simpa using hb8));obtain ⟨g,hg,hgk,hgl,hgp⟩:=hg0 hpos;have hPx:=zdw S.G x (fun z hz=>by have:=hpl z hz;omega);rw[GS.parts_in hpos hg] at hPx;refine zap ?_;(try simp only[zah,zaf,zae]);refine y0 _ ?_;(try clear y0 Y0);refine zad fun Y0 y0=>?_;refine zac ?_;simp only[↓bO,go_sem,seval,hrl,gM hx,intC];refine y0 _ ?_;(try clear y0 Y0);refine zad fun Y0 y0=>?_;refine zad fun Y1 y1=>?_;refine zaY [(8,0,[.ptr 0 0]),(8,1,[.v (.int .i64 (r:Int))]),(0,1,[.ptr 1 0]),(0,3,[.own 7 S.W.length])] 17 rfl mixed (⟨⟨_,_,rfl,by simp,rfl,trivial,trivial⟩,⟨_,_,rfl,by simp,rfl,trivial,trivial⟩,⟨_,_,rfl,by simp,rfl,trivial,trivial⟩,⟨_,_,rfl,by simp,rfl,by simp[CurL,CurOk,zaQ]⟩,trivial⟩) rfl ?_;dsimp only;refine zag 0 rfl (by kernel_rfl) (by kernel_rfl) (by kernel_rfl) (fun _ _ h=>h) fun Q0 q0=>?_;simp only[↓bO,go_sem,seval,hrl,gM hx,intC];refine q0 _ ?_;clear q0 Q0;refine zaC 1 0 rfl rfl (by kernel_rfl) (by kernel_rfl) (by kernel_rfl) (fun _ _ h=>h) fun Q0 q0=>?_;simp only[↓bO,go_sem,seval,hrl,gM hx,intC];refine q0 _ ?_;clear q0 Q0;refine zag 2 rfl (by kernel_rfl) (by kernel_rfl) (by kernel_rfl) (fun _ _ h=>h) fun Q0 q0=>?_;simp only[↓bO,go_sem,seval,hrl,gM hx,intC];refine q0 _ ?_;clear q0 Q0;refine zag 3 rfl (by kernel_rfl) (by kernel_rfl) (by kernel_rfl) (fun _ _ h=>h) fun Q0 q0=>?_;simp only[↓bO,go_sem,seval,hrl,gM hx,intC];refine q0 _ ?_;clear q0 Q0;refine zaC 4 2 rfl rfl (by kernel_rfl) (by kernel_rfl) (by kernel_rfl) (fun _ _ h=>h) fun Q0 q0=>?_;simp only[↓bO,go_sem,seval,hrl,gM hx,intC];refine q0 _ ?_;clear q0 Q0;refine zag 5 rfl (by kernel_rfl) (by kernel_rfl) (by kernel_rfl) (fun _ _ h=>h) fun Q0 q0=>?_;simp only[↓bO,go_sem,seval,hrl,gM hx,intC];refine q0 _ ?_;clear q0 Q0;refine zaC 6 0 rfl rfl (by kernel_rfl) (by kernel_rfl) (by kernel_rfl) (fun _ _ h=>h) fun Q0 q0=>?_;simp only[↓bO,go_sem,seval,hrl,gM hx,intC];refine q0 _ ?_;clear q0 Q0;refine zag 7 rfl (by kernel_rfl) (by kernel_rfl) (by kernel_rfl) (fun _ _ h=>h) fun Q0 q0=>?_;simp only[↓bO,go_sem,seval,hrl,gM hx,intC];refine q0 _ ?_;clear q0 Q0;refine zag 8 rfl (by kernel_rfl) (by kernel_rfl) (by kernel_rfl) (fun _ _ h=>h) fun Q0 q0=>?_;simp only[↓bO,go_sem,seval,hrl,gM hx,intC];refine q0 _ ?_;clear q0 Q0;refine zaC 9 3 rfl rfl (by kernel_rfl) (by kernel_rfl) (by kernel_rfl) (fun _ _ h=>h) fun Q0 q0=>?_;simp only[↓bO,go_sem,seval,hrl,gM hx,intC];refine q0 _ ?_;clear q0 Q0;refine zag 10 rfl (by kernel_rfl) (by kernel_rfl) (by kernel_rfl) (fun _ _ h=>h) fun Q0 q0=>?_;simp only[↓bO,go_sem,seval,hrl,gM hx,intC];refine q0 _ ?_;clear q0 Q0;refine zaC 11 1 rfl rfl (by kernel_rfl) (by kernel_rfl) (by kernel_rfl) (fun _ _ h=>h) fun Q0 q0=>?_;simp only[↓bO,go_sem,seval,hrl,gM hx,intC];refine q0 _ ?_;clear q0 Q0;refine zag 16 rfl (by kernel_rfl) (by kernel_rfl) (by kernel_rfl) (fun _ _ h=>h) fun Q0 q0=>?_;simp only[↓bO,go_sem,seval,hrl,gM hx,intC];refine q0 _ ?_;clear q0 Q0;refine zai (i:=12) (by kernel_rfl) ?_
   ·
    refine zas rfl rfl fun Q0 q0=>?_;simp only[↓bO,go_sem,seval,hrl,gM hx,intC];refine q0 _ ⟨⟨⟨_,_,rfl,by simp,rfl,trivial,trivial⟩,⟨_,_,rfl,by simp,rfl,trivial,trivial⟩,⟨_,_,rfl,by simp,rfl,trivial,trivial⟩,⟨_,_,rfl,by simp,rfl,by simp[CurL,CurOk,zaQ]⟩,trivial⟩,?_⟩;clear q0 Q0;refine zai (i:=13) (by kernel_rfl) ?_
    ·
     refine zas rfl rfl fun Q0 q0=>?_;simp only[↓bO,go_sem,seval,hrl,gM hx,intC];refine q0 _ ⟨⟨⟨_,_,rfl,by simp,rfl,trivial,trivial⟩,⟨_,_,rfl,by simp,rfl,trivial,trivial⟩,⟨_,_,rfl,by simp,rfl,trivial,trivial⟩,⟨_,_,rfl,by simp,rfl,by simp[CurL,CurOk,zaQ]⟩,trivial⟩,?_⟩;clear q0 Q0;refine zai (i:=14) (by kernel_rfl) ?_
     ·
      refine zas rfl rfl fun Q0 q0=>?_;simp only[↓bO,go_sem,seval,hrl,gM hx,intC];refine GCalls.at (hPx) (.cons (.v _) .nil) (zaJ _) (i:=1) (j:=2) (k:=3) rfl rfl rfl (by decide) (by decide) (by decide) (by first | omega | (simp only;omega)) (by first | omega | (simp only;omega)) (by first | omega | (simp only;omega)) ?_;simp only[zaA,Nat.reduceEqDiff,↓reduceIte];(try simp only[bS,bA]);refine q0 _ ⟨⟨⟨_,_,rfl,by simp,rfl,trivial,trivial⟩,⟨_,_,rfl,by simp,rfl,trivial,trivial⟩,⟨_,_,rfl,by simp,rfl,trivial,trivial⟩,⟨_,_,rfl,by simp,rfl,by simp[CurL,CurOk,zaQ]⟩,trivial⟩,?_⟩;clear q0 Q0;refine zag 15 rfl (by kernel_rfl) (by kernel_rfl) (by kernel_rfl) (fun _ _ h=>h) fun Q0 q0=>?_;simp only[↓bO,go_sem,seval,hrl,gM hx,intC];refine q0 _ ?_;clear q0 Q0;refine zaH (by kernel_rfl) ?_;simp only[zah,zaf,zae];refine y1 _ ?_;(try clear y1 Y1);refine zao ?_;refine zbd (Weak.tokSlot 3 84 2 rfl) ?_;simp only[zc,zb];refine zaG (σ:=FS×List Nat) (mB 41 58720266) (fun s=>FSame S.F s.1∧s.2.length≤g.parts.length∧∀(j:Nat) (p:Int) (q:Nat),g.parts[j]?=some p→s.2[j]?=some q→Rt S.F.up p.toNat q) (fun s=>[(3,.osl 9 2 (s.2.map (zaP 0))),(25,.v (.int .i64 (s.2.length:Int)))]) (fun s=>[(4,.cells 111 [.own 5 s.1.up.length,.own 6 s.1.rank.length,.v (.int .i64 s.1.sets),.v (.int .i64 s.1.steps)]),(5,.row 3 1 (s.1.up.map nC)),(6,.row 3 1 (s.1.rank.map intC)),(9,.tok 84 2 s.2.length)]) (fun s=>g.parts.length-s.2.length) (S.F,[]) (⟨FSame.refl hF,Nat.zero_le _,fun j p q _ h=>by simp at h⟩) ?_ (fun s hs=>?_)
      ·
       simp only[zau,zav,zan,zaA,mB,zc,zb,seval,bL];exact zbl
      simp only[zau,zav,zan,zaA,mB,zc,zb,seval];refine zad fun Y1 y1=>?_;refine zac ?_;simp only[↓bO,go_sem,seval,hrl,gM hx,intC];refine y1 _ ?_;(try clear y1 Y1);refine zad fun Y1 y1=>?_;refine zak rfl (fun hb26=>?_) (fun hb26=>?_)
      ·
       (have hk:s.2.length<g.parts.length:=by simpa using hb26);obtain ⟨p0,he⟩:∃w,g.parts[s.2.length]?=some w:=⟨_,ze hk⟩;have hpb:=hgp p0 (zn he);obtain ⟨p,rfl⟩:∃p:Nat,p0=(p:Int):=⟨p0.toNat,by omega⟩;have hw1:IntKind.i64.wrap ((s.2.length:Int)+1)=(s.2.length:Int)+1:=zaO (by omega) (by omega);(have hb1:(s.2.length+1) * 16≤140737488355328:=by omega);(have hb2:s.2.length+1≤maxLen:=by simp only[maxLen];omega);refine zap ?_;(try simp only[zah,zaf,zae]);refine y1 _ ?_;(try clear y1 Y1);refine zad fun Y1 y1=>?_;refine zao ?_;refine zad fun Y2 y2=>?_;refine zac ?_;(iterate 2 (refine zab 1 fun Q0 q0=>?_;simp only[↓bO,go_sem,seval,hk,gM he,intC,hw1,hb1,hb2,za,zd,hrl,gM hx];refine q0 _ ?_;clear q0 Q0;simp only[go_sem]));simp only[↓bO,go_sem,seval,hk,gM he,intC,hw1,hb1,hb2,za,zd,hrl,gM hx];refine y2 _ ?_;(try clear y2 Y2);refine zaY [(8,0,[.ptr 0 0])] 11 rfl mixed (⟨⟨_,_,rfl,by simp,rfl,trivial,trivial⟩,trivial⟩) rfl ?_;dsimp only;refine zag 0 rfl (by kernel_rfl) (by kernel_rfl) (by kernel_rfl) (fun _ _ h=>h) fun Q0 q0=>?_;simp only[↓bO,go_sem,seval,hk,gM he,intC,hw1,hb1,hb2,za,zd,hrl,gM hx];refine q0 _ ?_;clear q0 Q0;refine zag 1 rfl (by kernel_rfl) (by kernel_rfl) (by kernel_rfl) (fun _ _ h=>h) fun Q0 q0=>?_;simp only[↓bO,go_sem,seval,hk,gM he,intC,hw1,hb1,hb2,za,zd,hrl,gM hx];refine q0 _ ?_;clear q0 Q0;refine zaC 2 0 rfl rfl (by kernel_rfl) (by kernel_rfl) (by kernel_rfl) (fun _ _ h=>h) fun Q0 q0=>?_;simp only[↓bO,go_sem,seval,hk,gM he,intC,hw1,hb1,hb2,za,zd,hrl,gM hx];refine q0 _ ?_;clear q0 Q0;refine zag 3 rfl (by kernel_rfl) (by kernel_rfl) (by kernel_rfl) (fun _ _ h=>h) fun Q0 q0=>?_;simp only[↓bO,go_sem,seval,hk,gM he,intC,hw1,hb1,hb2,za,zd,hrl,gM hx];refine q0 _ ?_;clear q0 Q0;refine zaC 4 0 rfl rfl (by kernel_rfl) (by kernel_rfl) (by kernel_rfl) (fun _ _ h=>h) fun Q0 q0=>?_;simp only[↓bO,go_sem,seval,hk,gM he,intC,hw1,hb1,hb2,za,zd,hrl,gM hx];refine q0 _ ?_;clear q0 Q0;refine zag 5 rfl (by kernel_rfl) (by kernel_rfl) (by kernel_rfl) (fun _ _ h=>h) fun Q0 q0=>?_;simp only[↓bO,go_sem,seval,hk,gM he,intC,hw1,hb1,hb2,za,zd,hrl,gM hx];refine q0 _ ?_;clear q0 Q0;refine zai (i:=6) (by kernel_rfl) ?_
       ·
        refine zas rfl rfl fun Q0 q0=>?_;simp only[↓bO,go_sem,seval,hk,gM he,intC,hw1,hb1,hb2,za,zd,hrl,gM hx];refine CCalls.at (zfy {S with F:=s.1} hs.1.inv p (by dsimp only;rw[hs.1.len];omega)) (.cons (.v _) .nil) (fun _=>.v _) (i0:=0) (i1:=1) (i2:=2) (i3:=3) (i4:=4) (i5:=5) (i6:=6) (i7:=7) (by decide) (by simp) ⟨rfl,rfl,rfl,rfl,rfl,rfl,rfl,rfl,trivial⟩ (fun S1 r1 hS1=>?_);(try dsimp only at hS1);simp only[zaX,zB,zF,zD,zan,zaA,Nat.reduceEqDiff,↓reduceIte];obtain ⟨F1,rfl⟩:∃F1,S1={S with F:=F1}:=⟨S1.F,hS1.2.2⟩;dsimp only at hS1;have hF1:=hs.1.trans hS1.1;have hrt:=(hs.1.rt _ _).1 hS1.2.1;(have hmap:s.2.map (zaP 0)++[[.ptr 0 0,.v (.int .i64 (r1:Int))]]=(s.2++[r1]).map (zaP 0):=by simp[zaP]);(try simp only[bS,bA]);refine q0 _ ⟨⟨⟨_,_,rfl,by simp,rfl,trivial,trivial⟩,trivial⟩,?_⟩;clear q0 Q0;refine zai (i:=7) (by kernel_rfl) ?_
        ·
         refine zas rfl rfl fun Q0 q0=>?_;simp only[↓bO,go_sem,seval,hk,gM he,intC,hw1,hb1,hb2,za,zd,hrl,gM hx,hmap];refine q0 _ ⟨⟨⟨_,_,rfl,by simp,rfl,trivial,trivial⟩,trivial⟩,?_⟩;clear q0 Q0;refine zai (i:=8) (by kernel_rfl) ?_
         ·
          refine zas rfl rfl fun Q0 q0=>?_;simp only[↓bO,go_sem,seval,↓zbE,↓zby,↓zbI,↓zbC,↓zbG,↓zbF,↓zbD,↓zbz,↓zbB,↓zba,↓za9,↓zbb,hk,gM he,intC,hw1,hb1,hb2,za,zd,hrl,gM hx,hmap];refine q0 _ ⟨⟨⟨_,_,rfl,by simp,rfl,trivial,trivial⟩,trivial⟩,?_⟩;clear q0 Q0;refine zai (i:=9) (by kernel_rfl) ?_
          ·
           refine zas rfl rfl fun Q0 q0=>?_;simp only[↓bO,go_sem,seval,hk,gM he,intC,hw1,hb1,hb2,za,zd,hrl,gM hx,hmap];refine q0 _ ⟨⟨⟨_,_,rfl,by simp,rfl,trivial,trivial⟩,trivial⟩,?_⟩;clear q0 Q0;refine zag 10 rfl (by kernel_rfl) (by kernel_rfl) (by kernel_rfl) (fun _ _ h=>h) fun Q0 q0=>?_;simp only[↓bO,go_sem,seval,hk,gM he,intC,hw1,hb1,hb2,za,zd,hrl,gM hx,hmap];refine q0 _ ?_;clear q0 Q0;refine zaH (by kernel_rfl) ?_;simp only[zah,zaf,zae];refine y1 _ ?_;(try clear y1 Y1);refine zac ?_;refine zab 1 fun Q0 q0=>?_;simp only[↓bO,go_sem,seval,hk,gM he,intC,hw1,hb1,hb2,za,zd,hrl,gM hx,hmap];refine q0 _ ?_;clear q0 Q0;simp only[go_sem];simp only[↓bO,go_sem,seval,hk,gM he,intC,hw1,hb1,hb2,za,zd,hrl,gM hx,hmap];refine ⟨(F1,s.2++[r1]),⟨hF1,by simp only[zd,zh,zm];omega,ziq hs.2.2 he hrt⟩,(by simp only[zd,zh,zm];omega),?_⟩;simp only[zau,zav,zan,zaA,mB,zc,zb,seval,hk,gM he,intC,hw1,hb1,hb2,za,zA,zG,zd,hrl,gM hx,Int.ofNat_lt,hmap];exact zbl
      ·
       (have hk:s.2.length=g.parts.length:=by (have h9:=hb26;simp at h9;have:=hs.2.1;omega));refine zaK ?_;simp only[zah,zaf,zae,bA,Nat.reduceEqDiff,↓reduceIte];refine y0 _ ?_;(try clear y0 Y0);refine zad fun Y0 y0=>?_;refine zac ?_;refine zab 1 fun Q0 q0=>?_;simp only[↓bO,go_sem,seval,hrl,gM hx,intC];refine q0 _ ?_;clear q0 Q0;simp only[go_sem];simp only[↓bO,go_sem,seval,hrl,gM hx,intC];refine y0 _ ?_;(try clear y0 Y0);refine zaq ?_;(try simp only[zah,zaf,zae,za1,zaZ,zaE,bS,bA]);refine ⟨_,zar 0 (zaN ({S with F:=s.1})),⟨({S with F:=s.1},s.2),?_,rfl,rfl⟩,Und.parts (by omega) _,zdo (by omega) _,?_,?_,by omega⟩;· exact ⟨hs.1,rfl,.inr ⟨hpos,g,hg,hk,hs.2.2⟩⟩
       ·
        exact Le.oslL
       · first | (refine ⟨2,rfl,rfl⟩) | (refine ⟨1,rfl,rfl⟩) | (refine ⟨2,by simp only[zaN,zar,zy,zt,Nat.reduceAdd],rfl⟩) | (refine ⟨1,by simp only[zaN,zar,zy,zt,Nat.reduceAdd],rfl⟩)
theorem CPart_c (S:CS) (hF:FInv S.F) (hv:∀n k,za3 S.G.V n=some k→0≤k∧k<(S.F.up.length:Int)) (hc:S.clash=false) (v i0:Int) (hi:za3 S.G.V v=some i0):CCalls (σ:=Nat) 57 [.ptr 0 0,.v (.int .i64 v)] (S) (fun s=>FSame S.F s.1.F∧s.1={S with F:=s.1.F}∧Rt S.F.up i0.toNat s.2) (fun s=>.tup [.agg (zaP 0 s),.v (.bool true)]):=by
  refine ACalls.clean (C:=fun zr zo=>∃s:CS×Nat,(FSame S.F s.1.F∧s.1={S with F:=s.1.F}∧Rt S.F.up i0.toNat s.2)∧zr=(fun s:Nat=>.tup [.agg (zaP 0 s),.v (.bool true)]) s.2∧zo=zar 0 (zaN s.1)) ?_;refine zaj Tryz.func57 (by kernel_rfl) rfl (by rw[Tryz.ntmps57];simp) (fun hm=>?_);simp only[Tryz.ntmps57,Tryz.results57,zh,zm,Nat.reduceAdd,Nat.reduceSub,zu,zw,zi,zj];simp only[zaN,zar,Nat.reduceAdd];have hib:=hv _ _ hi;obtain ⟨i,rfl⟩:∃i:Nat,i0=(i:Int):=⟨i0.toNat,by omega⟩;refine zad fun Y0 y0=>?_;refine zac ?_;refine zab 1 fun Q0 q0=>?_;simp only[↓bO,go_sem,seval];refine q0 _ ?_;clear q0 Q0;simp only[go_sem];simp only[↓bO,go_sem,seval];refine y0 _ ?_;(try clear y0 Y0);refine zad fun Y0 y0=>?_;refine zac ?_;(iterate 2 (refine zab 1 fun Q0 q0=>?_;simp only[↓bO,go_sem,seval];refine q0 _ ?_;clear q0 Q0;simp only[go_sem]));refine zab 1 fun Q0 q0=>?_;simp only[↓bO,go_sem,seval];refine CCalls.at (node_c S v) (.cons (.v _) .nil) (fun _=>.tup (.cons (.v _) (.cons (.v _) .nil))) (i0:=0) (i1:=1) (i2:=2) (i3:=3) (i4:=4) (i5:=5) (i6:=6) (i7:=7) (by decide) (by simp) ⟨rfl,rfl,rfl,rfl,rfl,rfl,rfl,rfl,trivial⟩ (fun Z9 u9 hZ9=>?_);(try dsimp only at hZ9);simp only[zaX,zB,zF,zD,zan,zaA,Nat.reduceEqDiff,↓reduceIte];obtain ⟨hZ,rfl⟩:=hZ9;obtain rfl:S=Z9:=hZ.symm;rw[nodeG_of hc hi];(try simp only[bS,bA,zah,zaf,zae]);(iterate 4 (refine q0 _ ?_;clear q0 Q0;simp only[go_sem];refine zab 1 fun Q0 q0=>?_;simp only[↓bO,go_sem,seval]));refine q0 _ ?_;clear q0 Q0;simp only[go_sem];simp only[↓bO,go_sem,seval];refine y0 _ ?_;(try clear y0 Y0);refine zad fun Y0 y0=>?_;refine zad fun Y1 y1=>?_;refine zac ?_;refine zab 1 fun Q0 q0=>?_;simp only[↓bO,go_sem,seval];refine q0 _ ?_;clear q0 Q0;simp only[go_sem];simp only[↓bO,go_sem,seval];refine y1 _ ?_;(try clear y1 Y1);refine zak rfl (fun hb15=>?_) (fun hb15=>?_)
  ·
   exact absurd hb15 (by simp)
  ·
   refine zap ?_;(try simp only[zah,zaf,zae]);refine y0 _ ?_;(try clear y0 Y0);refine zad fun Y0 y0=>?_;refine zac ?_;(iterate 3 (refine zab 1 fun Q0 q0=>?_;simp only[↓bO,go_sem,seval];refine q0 _ ?_;clear q0 Q0;simp only[go_sem]));refine zab 1 fun Q0 q0=>?_;simp only[↓bO,go_sem,seval];refine CCalls.at (zfy S hF i (by omega)) (.cons (.v _) .nil) (fun _=>.v _) (i0:=0) (i1:=1) (i2:=2) (i3:=3) (i4:=4) (i5:=5) (i6:=6) (i7:=7) (by decide) (by simp) ⟨rfl,rfl,rfl,rfl,rfl,rfl,rfl,rfl,trivial⟩ (fun S1 r1 hS1=>?_);(try dsimp only at hS1);simp only[zaX,zB,zF,zD,zan,zaA,Nat.reduceEqDiff,↓reduceIte];obtain ⟨F1,rfl⟩:∃F,S1={S with F:=F}:=⟨S1.F,hS1.2.2⟩;dsimp only at hS1;(try simp only[bS,bA,zah,zaf,zae]);(iterate 2 (refine q0 _ ?_;clear q0 Q0;simp only[go_sem];refine zab 1 fun Q0 q0=>?_;simp only[↓bO,go_sem,seval]));refine q0 _ ?_;clear q0 Q0;simp only[go_sem];simp only[↓bO,go_sem,seval];refine y0 _ ?_;(try clear y0 Y0);refine zaq ?_;(try simp only[zah,zaf,zae,za1,zaZ,zaE,bS,bA,zcs,zaQ,zdh,bL,Nat.reduceAdd,Nat.reduceLeDiff,Nat.reduceEqDiff,↓reduceIte,ti84,zY,zaa,Int.natCast_nonneg]);refine ⟨_,zar 0 (zaN ({S with F:=F1})),⟨({S with F:=F1},r1),?_,rfl,rfl⟩,.tup ⟨.agg ⟨.ptr (by omega),.v _ _,trivial⟩,.v _ _,trivial⟩,zdo (by omega) _,?_,?_,by omega⟩;· exact ⟨hS1.1,rfl,hS1.2.1⟩
   ·
    exact Le.refl _
   · first | (refine ⟨1,rfl,rfl⟩) | (refine ⟨0,rfl,rfl⟩) | (refine ⟨1,by simp only[zaN,zar,zy,zt,Nat.reduceAdd],rfl⟩) | (refine ⟨0,by simp only[zaN,zar,zy,zt,Nat.reduceAdd],rfl⟩)
end Go.Proofs.YtjjjckjebkmnjaaGreat
namespace Go.Proofs.YtjjjckjebkmnjaaGreat
open Go Go.RowKit
attribute [local irreducible] aops zaV
open Classical in
noncomputable def zgb (c:List Int) (a b:Int):Bool:=decide ((0≤a∧a<(c.length:Int))∧(0≤b∧b<(c.length:Int))∧c[a.toNat]?=c[b.toNat]?)
theorem zht (c:List Int) (i:Int):APure Tryz.prog 53 [.sl 1 (c.map intC),.v (.int .i64 i)] (.v (.bool (decide (0≤i∧i<(c.length:Int))))):=by
  refine APure.mkL (.cons (zaJ _) (.cons (.v _) .nil)) (.v _) ?_;refine zaj Tryz.func53 (by kernel_rfl) rfl (by rw[Tryz.ntmps53];simp) (fun hm=>?_);simp only[Tryz.ntmps53,Tryz.results53,zh,zm,Nat.reduceAdd,Nat.reduceSub,zu,zw,zi,zj];refine zad fun Y0 y0=>?_;refine zac ?_;simp only[↓bO,go_sem,seval];refine y0 _ ?_;(try clear y0 Y0);refine zad fun Y0 y0=>?_;refine zac ?_;refine zab 3 fun Q0 q0=>?_;simp only[↓bO,go_sem,seval];refine q0 _ ?_;clear q0 Q0;simp only[go_sem];refine zaI 7 rfl (fun hc7=>?_) (fun hc7=>?_)
  ·
   simp only[zc,zb];refine zab 4 fun Q0 q0=>?_;simp only[↓bO,go_sem,seval];refine q0 _ ?_;clear q0 Q0;simp only[go_sem];simp only[↓bO,go_sem,seval];refine y0 _ ?_;(try clear y0 Y0);refine zaq ?_;(try simp only[zah,zaf,zae,za1,zaZ,zaE,bS,bA]);refine Le.of_eq (congrArg (fun b=>AV.v (.bool b)) ?_);rw[zJ];simp only[zl,zk,zR,false_iff,ge_iff_le] at *;try omega
  ·
   simp only[zc,zb];refine zab 4 fun Q0 q0=>?_;simp only[↓bO,go_sem,seval];refine q0 _ ?_;clear q0 Q0;simp only[go_sem];simp only[↓bO,go_sem,seval];refine y0 _ ?_;(try clear y0 Y0);refine zaq ?_;(try simp only[zah,zaf,zae,za1,zaZ,zaE,bS,bA]);refine Le.of_eq (congrArg (fun b=>AV.v (.bool b)) ?_);rw[zJ];simp only[zl,zk,zR,false_iff,ge_iff_le] at *;try omega
theorem ziB (c:List Int) (a b:Int):APure Tryz.prog 35 [.sl 1 (c.map intC),.v (.int .i64 a),.v (.int .i64 b)] (.v (.bool (zgb c a b))):=by
  refine APure.mkL (.cons (zaJ _) (.cons (.v _) (.cons (.v _) .nil))) (.v _) ?_;refine zaj Tryz.func35 (by kernel_rfl) rfl (by rw[Tryz.ntmps35];simp) (fun hm=>?_);simp only[Tryz.ntmps35,Tryz.results35,zh,zm,Nat.reduceAdd,Nat.reduceSub,zu,zw,zi,zj];refine zad fun Y0 y0=>?_;refine zac ?_;simp only[↓bO,go_sem,seval,intC];refine y0 _ ?_;(try clear y0 Y0);refine zad fun Y0 y0=>?_;refine zaU 19 mixed (by kernel_rfl) fun J0 j0=>?_;simp only[go_sem];refine zaw 2 fun Q0 q0=>?_;simp only[↓zaV,↓dOp,↓bO,go_sem,seval,intC];refine q0 _ ?_;clear q0 Q0;simp only[go_sem];refine zaw 1 fun Q0 q0=>?_;simp only[↓zaV,↓dOp,↓bO,go_sem,seval,intC];refine ⟨_,zht c a,?_⟩;(try simp only[bS,bA,zah,zaf,zae]);refine q0 _ ?_;clear q0 Q0;simp only[go_sem];refine zaw 1 fun Q0 q0=>?_;simp only[↓zaV,↓dOp,↓bO,go_sem,seval,intC];refine q0 _ ?_;clear q0 Q0;simp only[go_sem];refine zbp 10 rfl (fun hc10=>?_) (fun hc10=>?_)
  ·
   simp only[zc,zb];(have ha:0≤a∧a<(c.length:Int):=by simpa using hc10);obtain ⟨x,hx⟩:∃x,c[a.toNat]?=some x:=⟨_,ze (by omega)⟩;refine zaw 2 fun Q0 q0=>?_;simp only[↓zaV,↓dOp,↓bO,go_sem,seval,intC,gM hx,ha.1,ha.2];refine q0 _ ?_;clear q0 Q0;simp only[go_sem];refine zaw 1 fun Q0 q0=>?_;simp only[↓zaV,↓dOp,↓bO,go_sem,seval,intC,gM hx,ha.1,ha.2];refine ⟨_,zht c b,?_⟩;(try simp only[bS,bA,zah,zaf,zae]);refine q0 _ ?_;clear q0 Q0;simp only[go_sem];refine zaw 2 fun Q0 q0=>?_;simp only[↓zaV,↓dOp,↓bO,go_sem,seval,intC,gM hx,ha.1,ha.2];refine q0 _ ?_;clear q0 Q0;simp only[go_sem];refine zbp 15 rfl (fun hc15=>?_) (fun hc15=>?_)
   ·
    simp only[zc,zb];(have hb:0≤b∧b<(c.length:Int):=by simpa using hc15);obtain ⟨y,hy⟩:∃y,c[b.toNat]?=some y:=⟨_,ze (by omega)⟩;(iterate 2 (refine zaw 4 fun Q0 q0=>?_;simp only[↓zaV,↓dOp,↓bO,go_sem,seval,intC,gM hx,ha.1,ha.2,gM hy,hb.1,hb.2];refine q0 _ ?_;clear q0 Q0;simp only[go_sem]));simp only[↓zaV,↓dOp,↓bO,go_sem,seval,intC,gM hx,ha.1,ha.2,gM hy,hb.1,hb.2];refine j0 _ ?_;clear j0 J0;simp only[go_sem];simp only[↓bO,go_sem,seval,intC,gM hx,ha.1,ha.2,gM hy,hb.1,hb.2];refine y0 _ ?_;(try clear y0 Y0);refine zaq ?_;(try simp only[zah,zaf,zae,za1,zaZ,zaE,bS,bA]);refine Le.of_eq (congrArg (fun b=>AV.v (.bool b)) ?_);rw[zgb,hx,hy,zJ];simp[ha,hb]
   ·
    simp only[zc,zb];(have hb:¬(0≤b∧b<(c.length:Int)):=by simpa using hc15);(iterate 2 (refine zaw 4 fun Q0 q0=>?_;simp only[↓zaV,↓dOp,↓bO,go_sem,seval,intC,gM hx,ha.1,ha.2];refine q0 _ ?_;clear q0 Q0;simp only[go_sem]));simp only[↓zaV,↓dOp,↓bO,go_sem,seval,intC,gM hx,ha.1,ha.2];refine j0 _ ?_;clear j0 J0;simp only[go_sem];simp only[↓bO,go_sem,seval,intC,gM hx,ha.1,ha.2];refine y0 _ ?_;(try clear y0 Y0);refine zaq ?_;(try simp only[zah,zaf,zae,za1,zaZ,zaE,bS,bA]);refine Le.of_eq (congrArg (fun b=>AV.v (.bool b)) ?_);rw[zgb,decide_eq_false (fun h=>hb h.2.1)]
  ·
   simp only[zc,zb];(have ha:¬(0≤a∧a<(c.length:Int)):=by simpa using hc10);(iterate 3 (refine zaw 4 fun Q0 q0=>?_;simp only[↓zaV,↓dOp,↓bO,go_sem,seval,intC];refine q0 _ ?_;clear q0 Q0;simp only[go_sem]));simp only[↓zaV,↓dOp,↓bO,go_sem,seval,intC];refine j0 _ ?_;clear j0 J0;simp only[go_sem];simp only[↓bO,go_sem,seval,intC];refine y0 _ ?_;(try clear y0 Y0);refine zaq ?_;(try simp only[zah,zaf,zae,za1,zaZ,zaE,bS,bA]);refine Le.of_eq (congrArg (fun b=>AV.v (.bool b)) ?_);rw[zgb,decide_eq_false (fun h=>ha h.1)]
theorem SNew_pure (n:Nat) (hn:n≤1048576):APure Tryz.prog 33 [.v (.int .i64 (n:Int))] (.sl 1 ((zcU n).map intC)):=by
  refine APure.mkL (.cons (.v _) .nil) (zaJ _) ?_;refine zaj Tryz.func33 (by kernel_rfl) rfl (by rw[Tryz.ntmps33];simp) (fun hm=>?_);simp only[Tryz.ntmps33,Tryz.results33,zh,zm,Nat.reduceAdd,Nat.reduceSub,zu,zw,zi,zj];(iterate 2 (refine zad fun Y0 y0=>?_;refine zac ?_;simp only[↓bO,go_sem,seval];refine y0 _ ?_;(try clear y0 Y0)));refine zad fun Y0 y0=>?_;refine zad fun Y1 y1=>?_;refine zac ?_;simp only[↓bO,go_sem,seval];refine y1 _ ?_;(try clear y1 Y1);refine zao ?_;refine zbd (Weak.tokSlot 3 3 1 rfl) ?_;simp only[zc,zb];refine zaG (σ:=Nat) (mB 15 25) (fun s=>s≤n) (fun s=>[(3,.osl 0 1 (((zcU n).take s).map intC)),(4,.v (.int .i64 (s:Int)))]) (fun s=>[(0,.tok 3 1 s)]) (fun s=>n-s) 0 (by omega) ?_ (fun s hs=>?_)
  ·
   simp only[zau,zav,zan,zaA,mB,zc,zb,seval,bL];exact zbl
  simp only[zau,zav,zan,zaA,mB,zc,zb,seval];refine zad fun Y1 y1=>?_;refine zad fun Y2 y2=>?_;refine zac ?_;refine zab 2 fun Q0 q0=>?_;simp only[↓bO,go_sem,seval];refine q0 _ ?_;clear q0 Q0;simp only[go_sem];simp only[↓bO,go_sem,seval];refine y2 _ ?_;(try clear y2 Y2);refine zak rfl (fun hb7=>?_) (fun hb7=>?_)
  ·
   (have hk:s<n:=by simpa using hb7);have hr:=zeS hk;have hw:IntKind.i64.wrap ((s:Int)+1)=(s:Int)+1:=zaO (by omega) (by omega);(have hln:(((zcU n).take s).map intC).length=s:=by simp[zcU];omega);(have hb1:(s+1) * 8≤140737488355328:=by omega);(have hb2:s+1≤maxLen:=by simp only[maxLen];omega);refine zap ?_;(try simp only[zah,zaf,zae]);refine y1 _ ?_;(try clear y1 Y1);refine zad fun Y1 y1=>?_;refine zao ?_;refine zac ?_;refine zab 2 fun Q0 q0=>?_;simp only[↓bO,go_sem,seval,hk,intC,za,hw,hln,hb1,hb2,zaD intC hr];refine q0 _ ?_;clear q0 Q0;simp only[go_sem];refine zab 2 fun Q0 q0=>?_;simp only[↓bO,go_sem,seval,↓zbE,↓zby,↓zbI,↓zbC,↓zbG,↓zbF,↓zbD,↓zbz,↓zbB,↓zba,↓za9,↓zbb,hk,intC,za,hw,hln,hb1,hb2,zaD intC hr];refine q0 _ ?_;clear q0 Q0;simp only[go_sem];simp only[↓bO,go_sem,seval,hk,intC,za,hw,hln,hb1,hb2,zaD intC hr];refine y1 _ ?_;(try clear y1 Y1);refine zac ?_;refine zab 2 fun Q0 q0=>?_;simp only[↓bO,go_sem,seval,hk,intC,za,hw,hln,hb1,hb2,zaD intC hr];refine q0 _ ?_;clear q0 Q0;simp only[go_sem];simp only[↓bO,go_sem,seval,hk,intC,za,hw,hln,hb1,hb2,zaD intC hr];refine ⟨(s+1),(by omega),by omega,?_⟩;simp only[zau,zav,zan,zaA,mB,zc,zb,seval,hk,intC,za,zA,hw,hln,hb1,hb2,zaD intC hr];exact zbl
  ·
   (have hk:s=n:=by simp at hb7;omega);refine zaK ?_;simp only[zah,zaf,zae,bA,Nat.reduceEqDiff,↓reduceIte];refine y0 _ ?_;(try clear y0 Y0);refine zad fun Y0 y0=>?_;refine zac ?_;simp only[↓bO,go_sem,seval];refine y0 _ ?_;(try clear y0 Y0);refine zaq ?_;(try simp only[zah,zaf,zae,za1,zaZ,zaE,bS,bA]);rw[hk,List.take_of_length_le (by simp[zcU])];exact Le.oslL
theorem joinC_ex {c:List Int} {a b:Nat} (ha:a<c.length) (hb:b<c.length):∃(z y:Int) (J:List Int),c[a]?=some z∧c[b]?=some y∧zcG c a b=J∧J.length=c.length∧∀(s:Nat) (x:Int),c[s]?=some x→J[s]?=some (if x=y then z else x) :=
  ⟨_,_,_,ze ha,ze hb,rfl,zeG _ _ _,fun _ _ hx=>zdB hx (ze hb) (ze ha)⟩
theorem zfd (c:List Int) (a b:Nat) (hac:a<c.length) (hbc:b<c.length) (hlc:c.length≤1048576):APure Tryz.prog 34 [.sl 1 (c.map intC),.v (.int .i64 (a:Int)),.v (.int .i64 (b:Int))] (.sl 1 ((zcG c a b).map intC)):=by
  refine APure.mkL (.cons (zaJ _) (.cons (.v _) (.cons (.v _) .nil))) (zaJ _) ?_;refine zaj Tryz.func34 (by kernel_rfl) rfl (by rw[Tryz.ntmps34];simp) (fun hm=>?_);simp only[Tryz.ntmps34,Tryz.results34,zh,zm,Nat.reduceAdd,Nat.reduceSub,zu,zw,zi,zj];obtain ⟨z,y,J,hz,hy,hJ,hJl,hJx⟩:=joinC_ex hac hbc;rw[hJ];clear hJ;(iterate 2 (refine zad fun Y0 y0=>?_;refine zac ?_;simp only[↓bO,go_sem,seval];refine y0 _ ?_;(try clear y0 Y0)));refine zad fun Y0 y0=>?_;refine zad fun Y1 y1=>?_;refine zac ?_;simp only[↓bO,go_sem,seval];refine y1 _ ?_;(try clear y1 Y1);refine zao ?_;refine zbd (Weak.tokSlot 7 3 1 rfl) ?_;simp only[zc,zb];refine zaG (σ:=Nat) (mB 35 391) (fun s=>s≤c.length) (fun s=>[(7,.osl 0 1 ((J.take s).map intC)),(8,.v (.int .i64 (s:Int)))]) (fun s=>[(0,.tok 3 1 s)]) (fun s=>c.length-s) 0 (by omega) ?_ (fun s hs=>?_)
  ·
   simp only[zau,zav,zan,zaA,mB,zc,zb,seval,bL];exact zbl
  simp only[zau,zav,zan,zaA,mB,zc,zb,seval];refine zad fun Y1 y1=>?_;refine zad fun Y2 y2=>?_;refine zac ?_;refine zab 2 fun Q0 q0=>?_;simp only[↓bO,go_sem,seval];refine q0 _ ?_;clear q0 Q0;simp only[go_sem];simp only[↓bO,go_sem,seval];refine y2 _ ?_;(try clear y2 Y2);refine zak rfl (fun hb13=>?_) (fun hb13=>?_)
  ·
   (have hk:s<c.length:=by simpa using hb13);obtain ⟨x,hx⟩:∃x,c[s]?=some x:=⟨_,ze hk⟩;have hr:=hJx s x hx;have hw:IntKind.i64.wrap ((s:Int)+1)=(s:Int)+1:=zaO (by omega) (by omega);(have hln:(J.take s).length=s:=by simp;omega);(have hb1:(s+1) * 8≤140737488355328:=by omega);(have hb2:s+1≤maxLen:=by simp only[maxLen];omega);refine zap ?_;(try simp only[zah,zaf,zae]);refine y1 _ ?_;(try clear y1 Y1);refine zad fun Y1 y1=>?_;refine zao ?_;refine zad fun Y2 y2=>?_;refine zac ?_;(iterate 2 (refine zab 2 fun Q0 q0=>?_;simp only[↓bO,go_sem,seval,hk,intC,gM hx,gM hy,gM hz,za,hw,hln,hb1,hb2,hac,hbc];refine q0 _ ?_;clear q0 Q0;simp only[go_sem]));simp only[↓bO,go_sem,seval,hk,intC,gM hx,gM hy,gM hz,za,hw,hln,hb1,hb2,hac,hbc];refine y2 _ ?_;(try clear y2 Y2);refine zad fun Y2 y2=>?_;refine zad fun Y3 y3=>?_;refine zac ?_;(iterate 2 (refine zab 2 fun Q0 q0=>?_;simp only[↓bO,go_sem,seval,hk,intC,gM hx,gM hy,gM hz,za,hw,hln,hb1,hb2,hac,hbc];refine q0 _ ?_;clear q0 Q0;simp only[go_sem]));simp only[↓bO,go_sem,seval,hk,intC,gM hx,gM hy,gM hz,za,hw,hln,hb1,hb2,hac,hbc];refine y3 _ ?_;(try clear y3 Y3);refine zak rfl (fun hb25=>?_) (fun hb25=>?_)
   ·
    (have he:x=y:=by simpa using hb25);rw[if_pos he] at hr;refine zac ?_;(iterate 2 (refine zab 2 fun Q0 q0=>?_;simp only[↓bO,go_sem,seval,hk,intC,gM hx,gM hy,gM hz,za,hw,hln,hb1,hb2,hac,hbc,zaD intC hr];refine q0 _ ?_;clear q0 Q0;simp only[go_sem]));simp only[↓bO,go_sem,seval,hk,intC,gM hx,gM hy,gM hz,za,hw,hln,hb1,hb2,hac,hbc,zaD intC hr];refine y2 _ ?_;(try clear y2 Y2);refine zac ?_;refine zab 2 fun Q0 q0=>?_;simp only[↓bO,go_sem,seval,hk,intC,gM hx,gM hy,gM hz,za,hw,hln,hb1,hb2,hac,hbc,zaD intC hr];refine q0 _ ?_;clear q0 Q0;simp only[go_sem];refine zab 2 fun Q0 q0=>?_;simp only[↓bO,go_sem,seval,↓zbE,↓zby,↓zbI,↓zbC,↓zbG,↓zbF,↓zbD,↓zbz,↓zbB,↓zba,↓za9,↓zbb,hk,intC,gM hx,gM hy,gM hz,za,hw,hln,hb1,hb2,hac,hbc,zaD intC hr];refine q0 _ ?_;clear q0 Q0;simp only[go_sem];simp only[↓bO,go_sem,seval,hk,intC,gM hx,gM hy,gM hz,za,hw,hln,hb1,hb2,hac,hbc,zaD intC hr];refine y1 _ ?_;(try clear y1 Y1);refine zac ?_;refine zab 2 fun Q0 q0=>?_;simp only[↓bO,go_sem,seval,hk,intC,gM hx,gM hy,gM hz,za,hw,hln,hb1,hb2,hac,hbc,zaD intC hr];refine q0 _ ?_;clear q0 Q0;simp only[go_sem];simp only[↓bO,go_sem,seval,hk,intC,gM hx,gM hy,gM hz,za,hw,hln,hb1,hb2,hac,hbc,zaD intC hr];refine ⟨(s+1),(by omega),by omega,?_⟩;simp only[zau,zav,zan,zaA,mB,zc,zb,seval,hk,intC,gM hx,gM hy,gM hz,za,zA,hw,hln,hb1,hb2,hac,hbc,zaD intC hr];exact zbl
   ·
    (have he:¬x=y:=by simpa using hb25);rw[if_neg he] at hr;refine zap ?_;(try simp only[zah,zaf,zae]);refine y2 _ ?_;(try clear y2 Y2);refine zac ?_;refine zab 2 fun Q0 q0=>?_;simp only[↓bO,go_sem,seval,hk,intC,gM hx,gM hy,gM hz,za,hw,hln,hb1,hb2,hac,hbc,zaD intC hr];refine q0 _ ?_;clear q0 Q0;simp only[go_sem];refine zab 2 fun Q0 q0=>?_;simp only[↓bO,go_sem,seval,↓zbE,↓zby,↓zbI,↓zbC,↓zbG,↓zbF,↓zbD,↓zbz,↓zbB,↓zba,↓za9,↓zbb,hk,intC,gM hx,gM hy,gM hz,za,hw,hln,hb1,hb2,hac,hbc,zaD intC hr];refine q0 _ ?_;clear q0 Q0;simp only[go_sem];simp only[↓bO,go_sem,seval,hk,intC,gM hx,gM hy,gM hz,za,hw,hln,hb1,hb2,hac,hbc,zaD intC hr];refine y1 _ ?_;(try clear y1 Y1);refine zac ?_;refine zab 2 fun Q0 q0=>?_;simp only[↓bO,go_sem,seval,hk,intC,gM hx,gM hy,gM hz,za,hw,hln,hb1,hb2,hac,hbc,zaD intC hr];refine q0 _ ?_;clear q0 Q0;simp only[go_sem];simp only[↓bO,go_sem,seval,hk,intC,gM hx,gM hy,gM hz,za,hw,hln,hb1,hb2,hac,hbc,zaD intC hr];refine ⟨(s+1),(by omega),by omega,?_⟩;simp only[zau,zav,zan,zaA,mB,zc,zb,seval,hk,intC,gM hx,gM hy,gM hz,za,zA,hw,hln,hb1,hb2,hac,hbc,zaD intC hr];exact zbl
  ·
   (have hk:s=c.length:=by simp at hb13;omega);refine zaK ?_;simp only[zah,zaf,zae,bA,Nat.reduceEqDiff,↓reduceIte];refine y0 _ ?_;(try clear y0 Y0);refine zad fun Y0 y0=>?_;refine zac ?_;simp only[↓bO,go_sem,seval];refine y0 _ ?_;(try clear y0 Y0);refine zaq ?_;(try simp only[zah,zaf,zae,za1,zaZ,zaE,bS,bA]);rw[hk,List.take_of_length_le (by omega)];exact Le.oslL
end Go.Proofs.YtjjjckjebkmnjaaGreat
namespace Go.Proofs.YtjjjckjebkmnjaaGreat
open Go Go.RowKit
attribute [local irreducible] aops zaV
theorem eqF_len:∀(l:List (Ty×Ty)) ,(eqF l).2.length=l.length:=by
  suffices h:∀(n:Nat) (l:List (Ty×Ty)),l.length=n→(eqF l).2.length=l.length from fun l=>h l.length l rfl
  intro n
  induction n with
  | zero =>
    intro l hl;have:l=[]:=List.length_eq_zero_iff.1 hl
    subst this;rfl
  | succ n ih =>
    intro l hl;(have hne:l≠[]:=fun e=>by rw[e] at hl;simp at hl);obtain ⟨d,e,rfl⟩:∃d e,l=d++[e]:=⟨l.dropLast,l.getLast hne,(List.dropLast_concat_getLast hne).symm⟩;rw[zbQ];simp only[zdl,zd,zh,zm];rw[ih d (by simp at hl;omega)]
theorem zfS:∀(l:List (Ty×Ty)) ,(eqF l).1.length≤zbY l:=by
  suffices h:∀(n:Nat) (l:List (Ty×Ty)),l.length=n→(eqF l).1.length≤zbY l from fun l=>h l.length l rfl
  intro n
  induction n with
  | zero =>
    intro l hl;have:l=[]:=List.length_eq_zero_iff.1 hl
    subst this;simp[eqF]
  | succ n ih =>
    intro l hl;(have hne:l≠[]:=fun e=>by rw[e] at hl;simp at hl);obtain ⟨d,e,rfl⟩:∃d e,l=d++[e]:=⟨l.dropLast,l.getLast hne,(List.dropLast_concat_getLast hne).symm⟩;rw[zbQ,zb0];simp only[zdl];have h1:=ih d (by simp at hl;omega);have h2:=e.1.radd_len (eqF d).1;have h3:=e.2.radd_len (e.1.radd (eqF d).1).1;omega
theorem eqF_take {l:List (Ty×Ty)} {s:Nat} {e:Ty×Ty} (h:l[s]?=some e):eqF (l.take (s+1))=((e.2.radd (e.1.radd (eqF (l.take s)).1).1).1,(eqF (l.take s)).2++[((e.1.radd (eqF (l.take s)).1).2,(e.2.radd (e.1.radd (eqF (l.take s)).1).1).2)]):=by
  rw[List.take_add_one,h];exact zbQ _ _
theorem nat2_at {l:List (Int×Int)} {s a b:Nat} (h:l[s]?=some ((a:Int),(b:Int))):(zca l)[s]?=some (a,b):=by
  simp[zca,zV,h]
theorem HeldC.next {E:List (Nat×Nat)} {c:List Int} {s a b:Nat} (h:HeldC (E.take s) c) (he:E[s]?=some (a,b)) (ha:a<c.length) (hb:b<c.length):HeldC (E.take (s+1)) (zcG c a b):=by
  rw[List.take_add_one,he];intro e hm;(rcases zQ.1 hm with hm | hm);(· exact h.join a b e hm);· simp at hm;subst hm;exact zfb ha hb
theorem sameC_in {c:List Int} {a b:Nat} (ha:a<c.length) (hb:b<c.length):(zgb c (a:Int) (b:Int)=true↔c[a]?=c[b]?):=by
  classical
  unfold zgb;rw[zl,zaa,zaa];constructor;(· exact fun h=>h.2.2);· exact fun h=>⟨⟨by omega,by omega⟩,⟨by omega,by omega⟩,h⟩
structure CLoop (M:List RNode) (E:List (Nat×Nat)) (c0:List Int) (p:List Int×Bool):Prop where
  col:Col M E p.1
  held:HeldC E p.1
  eq:p.2=false→p.1=c0
  lt:p.2=true→ndC p.1<ndC c0
theorem CLoop.le {M:List RNode} {E:List (Nat×Nat)} {c0:List Int} {p:List Int×Bool} (h:CLoop M E c0 p):ndC p.1≤ndC c0:=by
  cases hp:p.2 with
  | false=>rw[h.eq hp];exact zS _
  | true=>exact Nat.le_of_lt (h.lt hp)
theorem CLoop.join {M:List RNode} {E:List (Nat×Nat)} {c0:List Int} {p:List Int×Bool} (h:CLoop M E c0 p) {a b:Nat} (ha:a<M.length) (hb:b<M.length) (hc:Cl (shR M) E a b) (hne:¬p.1[a]?=p.1[b]?):CLoop M E c0 (zcG p.1 a b,true):=by
  have hl:=h.col.len;refine ⟨h.col.join ha hb hc,h.held.join a b,fun e=>(by cases e),fun _=>?_⟩;exact Nat.lt_of_lt_of_le (ndC_join (by omega) (by omega) hne) h.le
theorem CLoop.end' {M:List RNode} {E:List (Nat×Nat)} {c0:List Int} {p:List Int×Bool} (h:CLoop M E c0 p):2 * ndC p.1+p.2.toNat<2 * ndC c0+1:=by
  cases hp:p.2 with
  | false=>rw[h.eq hp];simp
  | true=>have:=h.lt hp;simp only[Bool.toNat_true];omega
theorem RNode.oneData (g:List RNode) (c:List Int):Data (.agg [.sl 4 (g.map RNode.cells),.sl 1 (c.map intC)]):=.agg (.cons (RNode.dataSl g) (.cons (zaJ c) .nil))
theorem Close_c (es:List EqT) (M:List RNode) (P:List (Int×Int)) (hF:eqF (es.map EqT.p)=(M,P)) (hsum:zbY (es.map EqT.p)≤160) (hMok:MOk M) (hP:∀p∈P,(0≤p.1∧p.1<(M.length:Int))∧0≤p.2∧p.2<(M.length:Int)) (h8:∀x∈M,x.parts.length≤8) :
    ACalls Tryz.prog 9 [.sl 8 (es.map EqT.cells)] [] 0 fun r os n=>(∃c,ColF M (zca P) c∧r=.agg [.sl 4 (M.map RNode.cells),.sl 1 (c.map intC)]∧os=[])∧n=0:=by
  refine ACalls.clean (C:=fun r os=>∃c,ColF M (zca P) c∧r=.agg [.sl 4 (M.map RNode.cells),.sl 1 (c.map intC)]∧os=[]) ?_;refine zaj Tryz.func9 (by kernel_rfl) rfl (by rw[Tryz.ntmps9];simp) (fun hm=>?_);simp only[Tryz.ntmps9,Tryz.results9,zh,zm,Nat.reduceAdd,Nat.reduceSub,zu,zw,zi,zj];have hm1:=zfV (es.map EqT.p);rw[zY] at hm1;have hMl:=zfS (es.map EqT.p);rw[hF] at hMl;have hPl:=eqF_len (es.map EqT.p);rw[hF,zY] at hPl;dsimp only at hMl hPl;(iterate 3 (refine zad fun Y0 y0=>?_;refine zac ?_;simp only[↓bO,go_sem,seval];refine y0 _ ?_;(try clear y0 Y0)));refine zad fun Y0 y0=>?_;refine zad fun Y1 y1=>?_;refine zac ?_;simp only[↓bO,go_sem,seval];refine y1 _ ?_;(try clear y1 Y1);refine zao ?_;refine zbd (Weak.tokSlot 4 69 2 rfl) ?_;simp only[zc,zb];refine zaG (σ:=Nat) (mB 179 61) (fun s=>s≤es.length) (fun s=>[(3,.sl 4 ((eqF ((es.map EqT.p).take s)).1.map RNode.cells)),(4,.osl 1 2 ((eqF ((es.map EqT.p).take s)).2.map pC)),(5,.v (.int .i64 (s:Int)))]) (fun s=>[(1,.tok 69 2 s)]) (fun s=>es.length-s) 0 (by omega) ?_ (fun s hs=>?_)
  ·
   simp only[zau,zav,zan,zaA,mB,zc,zb,seval,bL,eqF,List.foldl_nil];exact zbl
  simp only[zau,zav,zan,zaA,mB,zc,zb,seval];refine zad fun Y1 y1=>?_;refine zad fun Y2 y2=>?_;refine zac ?_;refine zab 2 fun Q0 q0=>?_;simp only[↓bO,go_sem,seval];refine q0 _ ?_;clear q0 Q0;simp only[go_sem];simp only[↓bO,go_sem,seval];refine y2 _ ?_;(try clear y2 Y2);refine zak rfl (fun hb18=>?_) (fun hb18=>?_)
  ·
   (have hk:s<es.length:=by simpa using hb18);obtain ⟨e,he⟩:∃e,es[s]?=some e:=⟨_,ze hk⟩;(have hep:(es.map EqT.p)[s]?=some e.p:=by rw[zV,he];rfl);have hEs:=eqF_take hep;have hst:=zc4 (es.map EqT.p) (s+1);rw[List.take_add_one,hep] at hst;rw[show (some e.p).toList=[e.p] from rfl,zb0] at hst;simp only[EqT.p] at hst hEs;have hml:=zfS ((es.map EqT.p).take s);have hrl:=e.l.radd_len (eqF ((es.map EqT.p).take s)).1;have hw:IntKind.i64.wrap ((s:Int)+1)=(s:Int)+1:=zaO (by omega) (by omega);(have hln:(eqF ((es.map EqT.p).take s)).2.length=s:=by rw[eqF_len];simp;omega);(have hb1:(s+1) * 16≤140737488355328:=by omega);(have hb2:s+1≤maxLen:=by simp only[maxLen];omega);refine zap ?_;(try simp only[zah,zaf,zae]);refine y1 _ ?_;(try clear y1 Y1);refine zad fun Y1 y1=>?_;refine zao ?_;refine zad fun Y2 y2=>?_;refine zac ?_;(iterate 3 (refine zab 2 fun Q0 q0=>?_;simp only[↓bO,go_sem,seval,hk,gM he,EqT.cells,Ty.refold,hw,hln,hb1,hb2,za,intC];refine q0 _ ?_;clear q0 Q0;simp only[go_sem]));refine zab 1 fun Q0 q0=>?_;simp only[↓bO,go_sem,seval,hk,gM he,EqT.cells,Ty.refold,hw,hln,hb1,hb2,za,intC];refine APure.call (zgt e.l (eqF ((es.map EqT.p).take s)).1 (by omega)) ?_;(try simp only[bS,bA,zah,zaf,zae]);(iterate 2 (refine q0 _ ?_;clear q0 Q0;simp only[go_sem];refine zab 2 fun Q0 q0=>?_;simp only[↓bO,go_sem,seval,hk,gM he,EqT.cells,Ty.refold,hw,hln,hb1,hb2,za,intC]));refine q0 _ ?_;clear q0 Q0;simp only[go_sem];simp only[↓bO,go_sem,seval,hk,gM he,EqT.cells,Ty.refold,hw,hln,hb1,hb2,za,intC];refine y2 _ ?_;(try clear y2 Y2);refine zad fun Y2 y2=>?_;refine zac ?_;(iterate 3 (refine zab 2 fun Q0 q0=>?_;simp only[↓bO,go_sem,seval,hk,gM he,EqT.cells,Ty.refold,hw,hln,hb1,hb2,za,intC];refine q0 _ ?_;clear q0 Q0;simp only[go_sem]));refine zab 1 fun Q0 q0=>?_;simp only[↓bO,go_sem,seval,hk,gM he,EqT.cells,Ty.refold,hw,hln,hb1,hb2,za,intC];refine APure.call (zgt e.r (e.l.radd (eqF ((es.map EqT.p).take s)).1).1 (by omega)) ?_;(try simp only[bS,bA,zah,zaf,zae]);(iterate 2 (refine q0 _ ?_;clear q0 Q0;simp only[go_sem];refine zab 2 fun Q0 q0=>?_;simp only[↓bO,go_sem,seval,hk,gM he,EqT.cells,Ty.refold,hw,hln,hb1,hb2,za,intC]));refine q0 _ ?_;clear q0 Q0;simp only[go_sem];simp only[↓bO,go_sem,seval,hk,gM he,EqT.cells,Ty.refold,hw,hln,hb1,hb2,za,intC];refine y2 _ ?_;(try clear y2 Y2);refine zad fun Y2 y2=>?_;refine zac ?_;simp only[↓bO,go_sem,seval,hk,gM he,EqT.cells,Ty.refold,hw,hln,hb1,hb2,za,intC];refine y2 _ ?_;(try clear y2 Y2);refine zac ?_;(iterate 2 (refine zab 2 fun Q0 q0=>?_;simp only[↓bO,go_sem,seval,hk,gM he,EqT.cells,Ty.refold,hw,hln,hb1,hb2,za,intC];refine q0 _ ?_;clear q0 Q0;simp only[go_sem]));refine zab 2 fun Q0 q0=>?_;simp only[↓bO,go_sem,seval,↓zbE,↓zby,↓zbI,↓zbC,↓zbG,↓zbF,↓zbD,↓zbz,↓zbB,↓zba,↓za9,↓zbb,hk,gM he,EqT.cells,Ty.refold,hw,hln,hb1,hb2,za,intC];refine q0 _ ?_;clear q0 Q0;simp only[go_sem];simp only[↓bO,go_sem,seval,hk,gM he,EqT.cells,Ty.refold,hw,hln,hb1,hb2,za,intC];refine y1 _ ?_;(try clear y1 Y1);refine zac ?_;refine zab 2 fun Q0 q0=>?_;simp only[↓bO,go_sem,seval,hk,gM he,EqT.cells,Ty.refold,hw,hln,hb1,hb2,za,intC];refine q0 _ ?_;clear q0 Q0;simp only[go_sem];simp only[↓bO,go_sem,seval,hk,gM he,EqT.cells,Ty.refold,hw,hln,hb1,hb2,za,intC];refine ⟨(s+1),(by omega),by omega,?_⟩;simp only[zau,zav,zan,zaA,mB,zc,zb,seval,za,zA,zG,hln];refine Weak.sub ?_ ⟨rfl,rfl,trivial⟩ (by first | omega | (simp only;omega)) (by first | omega | (simp only;omega)) ?_ ?_
   ·
    simp only[EqT.p] at hEs ⊢;simp only[go_sem,Le.refl,Le.any,hEs,zp,zL,z7,pC]
   (· repeat' first | exact trivial | exact .any _ | exact .ptr (by omega) | exact .v _ _ | exact Und.oslP (by omega) | exact Und.data (EqT.dataSl _) | exact Und.data (RNode.dataSl _) | exact Und.data (zaJ _) | (refine ⟨?_,?_⟩));· exact ⟨by omega,trivial,by omega,⟨.v _ _,.v _ _,trivial⟩,trivial⟩
  ·
   (have hk:s=es.length:=by simp at hb18;omega);subst hk;rw[List.take_of_length_le (by simp),hF];dsimp only;refine zaK ?_;simp only[zah,zaf,zae,bA,Nat.reduceEqDiff,↓reduceIte];refine y0 _ ?_;(try clear y0 Y0);refine zad fun Y0 y0=>?_;refine zac ?_;refine zab 2 fun Q0 q0=>?_;simp only[↓bO,go_sem,seval];refine q0 _ ?_;clear q0 Q0;simp only[go_sem];refine zab 1 fun Q0 q0=>?_;simp only[↓bO,go_sem,seval];refine APure.call (SNew_pure M.length (by omega)) ?_;(try simp only[bS,bA,zah,zaf,zae]);refine q0 _ ?_;clear q0 Q0;simp only[go_sem];simp only[↓bO,go_sem,seval];refine y0 _ ?_;(try clear y0 Y0);refine zad fun Y0 y0=>?_;refine zad fun Y1 y1=>?_;refine zac ?_;simp only[↓bO,go_sem,seval];refine y1 _ ?_;(try clear y1 Y1);refine zao ?_;refine zaG (σ:=List Int×Nat) (mB 179 1564) (fun s=>Col M (zca P) s.1∧HeldC ((zca P).take s.2) s.1∧s.2≤P.length) (fun s=>[(9,.sl 1 (s.1.map intC)),(10,.v (.int .i64 (s.2:Int)))]) (fun s=>[]) (fun s=>P.length-s.2) (zcU M.length,0) (⟨Col.range _ _,fun _ h=>(by simp at h),by simp only;omega⟩) ?_ (fun s hs=>?_)
   ·
    simp only[zau,zav,zan,zaA,mB,zc,zb,seval];exact zbl
   simp only[zau,zav,zan,zaA,mB,zc,zb,seval];refine zad fun Y1 y1=>?_;refine zad fun Y2 y2=>?_;refine zac ?_;refine zab 2 fun Q0 q0=>?_;simp only[↓bO,go_sem,seval];refine q0 _ ?_;clear q0 Q0;simp only[go_sem];simp only[↓bO,go_sem,seval];refine y2 _ ?_;(try clear y2 Y2);refine zak rfl (fun hb54=>?_) (fun hb54=>?_)
   ·
    (have hk:s.2<P.length:=by simpa using hb54);obtain ⟨p,hp⟩:∃p,P[s.2]?=some p:=⟨_,ze hk⟩;have hpb:=hP p (zn hp);obtain ⟨a,b,rfl⟩:∃a b:Nat,p=((a:Int),(b:Int)):=⟨p.1.toNat,p.2.toNat,by ext <;> simp only <;> omega⟩;(have hab:a<M.length∧b<M.length:=by dsimp only at hpb;omega);have hcl:=hs.1.len;have hw:IntKind.i64.wrap ((s.2:Int)+1)=(s.2:Int)+1:=zaO (by omega) (by omega);refine zap ?_;(try simp only[zah,zaf,zae]);refine y1 _ ?_;(try clear y1 Y1);refine zad fun Y1 y1=>?_;refine zao ?_;refine zaU 12 mixed (by kernel_rfl) fun J0 j0=>?_;(iterate 5 (simp only[go_sem];refine zaw 2 fun Q0 q0=>?_;simp only[↓zaV,↓dOp,↓bO,go_sem,seval,hk,gM hp,pC,hw,za,intC];refine q0 _ ?_;clear q0 Q0));simp only[go_sem];refine zaw 1 fun Q0 q0=>?_;simp only[↓zaV,↓dOp,↓bO,go_sem,seval,hk,gM hp,pC,hw,za,intC];refine q0 _ ?_;clear q0 Q0;simp only[go_sem];simp only[↓zaV,↓dOp,↓bO,go_sem,seval,hk,gM hp,pC,hw,za,intC];refine ⟨_,zfd s.1 a b (by omega) (by omega) (by omega),?_⟩;(try simp only[bS,bA,zah,zaf,zae]);refine j0 _ ?_;clear j0 J0;simp only[go_sem];simp only[↓bO,go_sem,seval,hk,gM hp,pC,hw,za,intC];refine y1 _ ?_;(try clear y1 Y1);refine zac ?_;refine zab 2 fun Q0 q0=>?_;simp only[↓bO,go_sem,seval,hk,gM hp,pC,hw,za,intC];refine q0 _ ?_;clear q0 Q0;simp only[go_sem];simp only[↓bO,go_sem,seval,hk,gM hp,pC,hw,za,intC];refine ⟨(zcG s.1 a b,s.2+1),⟨hs.1.join hab.1 hab.2 (.base (zn (nat2_at hp))),hs.2.1.next (nat2_at hp) (by omega) (by omega),by simp only;omega⟩,(by simp only;omega),?_⟩;simp only[zau,zav,zan,zaA,mB,zc,zb,seval,hk,gM hp,pC,hw,za,zA,zG,intC];exact zbl
   ·
    (have hk:s.2=P.length:=by have h9:=hb54;simp at h9;have:=hs.2.2;omega);(have hheld:HeldC (zca P) s.1:=by have h9:=hs.2.1;rw[hk,List.take_of_length_le (by simp[zca])] at h9;exact h9);refine zaK ?_;simp only[zah,zaf,zae,bA,Nat.reduceEqDiff,↓reduceIte];refine y0 _ ?_;(try clear y0 Y0);refine zad fun Y0 y0=>?_;refine zad fun Y1 y1=>?_;refine zac ?_;simp only[↓bO,go_sem,seval];refine y1 _ ?_;(try clear y1 Y1);refine zao ?_;refine zaG (σ:=List Int×Bool) (mB 179 2572) (fun t=>Col M (zca P) t.1∧HeldC (zca P) t.1∧(t.2=false→PAll M t.1 M.length 0)) (fun t=>[(9,.sl 1 (t.1.map intC)),(11,.v (.bool t.2))]) (fun t=>[]) (fun t=>2 * ndC t.1+t.2.toNat) (s.1,true) (⟨hs.1,hheld,fun e=>(by cases e)⟩) ?_ (fun t ht=>?_)
    ·
     simp only[zau,zav,zan,zaA,mB,zc,zb,seval];exact zbl
    simp only[zau,zav,zan,zaA,mB,zc,zb,seval];refine zad fun Y1 y1=>?_;refine zad fun Y2 y2=>?_;refine zac ?_;simp only[↓bO,go_sem,seval];refine y2 _ ?_;(try clear y2 Y2);refine zak rfl (fun hb69=>?_) (fun hb69=>?_)
    ·
     have htt:t.2=true:=hb69;refine zap ?_;(try simp only[zah,zaf,zae]);refine y1 _ ?_;(try clear y1 Y1);refine zao ?_;(iterate 2 (refine zad fun Y1 y1=>?_;refine zac ?_;simp only[↓bO,go_sem,seval,za,intC];refine y1 _ ?_;(try clear y1 Y1)));refine zao ?_;refine zaG (σ:=Nat×List Int×Bool) (mB 179 6668) (fun u=>u.1≤M.length∧CLoop M (zca P) t.1 u.2∧(u.2.2=false→PAll M u.2.1 u.1 0)) (fun u=>[(9,.sl 1 (u.2.1.map intC)),(11,.v (.bool u.2.2)),(12,.v (.int .i64 (u.1:Int)))]) (fun u=>[]) (fun u=>M.length-u.1) (0,t.1,false) (⟨Nat.zero_le _,⟨ht.1,ht.2.1,fun _=>rfl,fun e=>(by cases e)⟩,fun _=>PAll.zero _ _⟩) ?_ (fun u hu=>?_)
     ·
      simp only[zau,zav,zan,zaA,mB,zc,zb,seval];exact zbl
     simp only[zau,zav,zan,zaA,mB,zc,zb,seval];refine zad fun Y1 y1=>?_;refine zad fun Y2 y2=>?_;refine zac ?_;refine zab 2 fun Q0 q0=>?_;simp only[↓bO,go_sem,seval,za,intC];refine q0 _ ?_;clear q0 Q0;simp only[go_sem];simp only[↓bO,go_sem,seval,za,intC];refine y2 _ ?_;(try clear y2 Y2);refine zak rfl (fun hb73=>?_) (fun hb73=>?_)
     ·
      (have hki:u.1<M.length:=by simpa using hb73);obtain ⟨x,hxm⟩:∃x,M[u.1]?=some x:=⟨_,ze hki⟩;have hw1:IntKind.i64.wrap ((u.1:Int)+1)=(u.1:Int)+1:=zaO (by omega) (by omega);refine zap ?_;(try simp only[zah,zaf,zae]);refine y1 _ ?_;(try clear y1 Y1);refine zad fun Y1 y1=>?_;refine zao ?_;refine zad fun Y2 y2=>?_;refine zac ?_;simp only[↓bO,go_sem,seval,za,intC,hki,gM hxm,hw1];refine y2 _ ?_;(try clear y2 Y2);refine zao ?_;refine zaG (σ:=Nat×List Int×Bool) (mB 179 14860) (fun v=>v.1≤u.1∧CLoop M (zca P) t.1 v.2∧(v.2.2=false→PAll M v.2.1 u.1 v.1)) (fun v=>[(9,.sl 1 (v.2.1.map intC)),(11,.v (.bool v.2.2)),(13,.v (.int .i64 (v.1:Int)))]) (fun v=>[]) (fun v=>u.1-v.1) (0,u.2) (⟨Nat.zero_le _,hu.2.1,hu.2.2⟩) ?_ (fun v hv=>?_)
      ·
       simp only[zau,zav,zan,zaA,mB,zc,zb,seval];exact zbl
      simp only[zau,zav,zan,zaA,mB,zc,zb,seval];refine zad fun Y2 y2=>?_;refine zad fun Y3 y3=>?_;refine zac ?_;refine zab 2 fun Q0 q0=>?_;simp only[↓bO,go_sem,seval,za,intC,hki,gM hxm,hw1];refine q0 _ ?_;clear q0 Q0;simp only[go_sem];simp only[↓bO,go_sem,seval,za,intC,hki,gM hxm,hw1];refine y3 _ ?_;(try clear y3 Y3);refine zak rfl (fun hb78=>?_) (fun hb78=>?_)
      ·
       (have hkk:v.1<u.1:=by simpa using hb78);(have hkM:v.1<M.length:=by omega);obtain ⟨y,hym⟩:∃y,M[v.1]?=some y:=⟨_,ze hkM⟩;have hcl:=hv.2.1.col.len;obtain ⟨ci,hci⟩:∃z,v.2.1[u.1]?=some z:=⟨_,ze (by omega)⟩;obtain ⟨ck,hck⟩:∃z,v.2.1[v.1]?=some z:=⟨_,ze (by omega)⟩;have hw2:IntKind.i64.wrap ((v.1:Int)+1)=(v.1:Int)+1:=zaO (by omega) (by omega);refine zap ?_;(try simp only[zah,zaf,zae]);refine y2 _ ?_;(try clear y2 Y2);refine zad fun Y2 y2=>?_;refine zao ?_;refine zad fun Y3 y3=>?_;refine zad fun Y4 y4=>?_;refine zaU 48 mixed (by kernel_rfl) fun J0 j0=>?_;(iterate 5 (simp only[go_sem];refine zaw 2 fun Q0 q0=>?_;simp only[↓zaV,↓dOp,↓bO,go_sem,seval,za,intC,hki,gM hxm,hw1,hkk,hkM,gM hym,gM hci,gM hck,hcl,hw2,RNode.cells];refine q0 _ ?_;clear q0 Q0));simp only[go_sem];refine zbp 90 rfl (fun hc90=>?_) (fun hc90=>?_)
       ·
        simp only[zc,zb];(have hnc:¬ci=ck:=by simpa using hc90);have hsk:POk M v.2.1 u.1 v.1:=POk.skip hxm hym (by rw[hci,hck];simp[hnc]);(iterate 18 (refine zaw 2 fun Q0 q0=>?_;simp only[↓zaV,↓dOp,↓bO,go_sem,seval,za,intC,hki,gM hxm,hw1,hkk,hkM,gM hym,gM hci,gM hck,hcl,hw2,RNode.cells];refine q0 _ ?_;clear q0 Q0;simp only[go_sem]));simp only[↓zaV,↓dOp,↓bO,go_sem,seval,za,intC,hki,gM hxm,hw1,hkk,hkM,gM hym,gM hci,gM hck,hcl,hw2,RNode.cells];refine j0 _ ?_;clear j0 J0;simp only[bL,aops,zah,zaf,zae];refine y4 _ ?_;(try clear y4 Y4);refine zak (b:=true) (by first | exact rfl | exact congrArg (fun b=>AV.v (.bool b)) hb128) (fun _=>?_) (fun h=>(by cases h));refine zaK ?_;simp only[zah,zaf,zae,bA,Nat.reduceEqDiff,↓reduceIte];refine y2 _ ?_;(try clear y2 Y2);refine zac ?_;refine zab 2 fun Q0 q0=>?_;simp only[↓bO,go_sem,seval,za,intC,hki,gM hxm,hw1,hkk,hkM,gM hym,gM hci,gM hck,hcl,hw2,RNode.cells];refine q0 _ ?_;clear q0 Q0;simp only[go_sem];simp only[↓bO,go_sem,seval,za,intC,hki,gM hxm,hw1,hkk,hkM,gM hym,gM hci,gM hck,hcl,hw2,RNode.cells];refine ⟨(v.1+1,v.2),⟨by simp only;omega,hv.2.1,fun e=>(hv.2.2 e).next hsk⟩,(by simp only;omega),?_⟩;simp only[zau,zav,zan,zaA,mB,zc,zb,seval,hkk,hkM,gM hym,gM hci,gM hck,hcl,hw2,RNode.cells,za,zA,zG,intC];exact zbl
       ·
        simp only[zc,zb];(have hcc:ci=ck:=by simpa using hc90);(iterate 4 (refine zaw 2 fun Q0 q0=>?_;simp only[↓zaV,↓dOp,↓bO,go_sem,seval,za,intC,hki,gM hxm,hw1,hkk,hkM,gM hym,gM hci,gM hck,hcl,hw2,RNode.cells];refine q0 _ ?_;clear q0 Q0;simp only[go_sem]));refine zaw 1 fun Q0 q0=>?_;simp only[↓zaV,↓dOp,↓bO,go_sem,seval,za,intC,hki,gM hxm,hw1,hkk,hkM,gM hym,gM hci,gM hck,hcl,hw2,RNode.cells];refine q0 _ ?_;clear q0 Q0;simp only[go_sem];refine zbp 99 rfl (fun hc99=>?_) (fun hc99=>?_)
        ·
         simp only[zc,zb];(have hk1:x.t.k=1:=by simpa using hc99);have hsk:POk M v.2.1 u.1 v.1:=POk.skip hxm hym (by simp[hk1]);(iterate 14 (refine zaw 2 fun Q0 q0=>?_;simp only[↓zaV,↓dOp,↓bO,go_sem,seval,za,intC,hki,gM hxm,hw1,hkk,hkM,gM hym,gM hci,gM hck,hcl,hw2,RNode.cells];refine q0 _ ?_;clear q0 Q0;simp only[go_sem]));simp only[↓zaV,↓dOp,↓bO,go_sem,seval,za,intC,hki,gM hxm,hw1,hkk,hkM,gM hym,gM hci,gM hck,hcl,hw2,RNode.cells];refine j0 _ ?_;clear j0 J0;simp only[bL,aops,zah,zaf,zae];refine y4 _ ?_;(try clear y4 Y4);refine zak (b:=true) (by first | exact rfl | exact congrArg (fun b=>AV.v (.bool b)) hb128) (fun _=>?_) (fun h=>(by cases h));refine zaK ?_;simp only[zah,zaf,zae,bA,Nat.reduceEqDiff,↓reduceIte];refine y2 _ ?_;(try clear y2 Y2);refine zac ?_;refine zab 2 fun Q0 q0=>?_;simp only[↓bO,go_sem,seval,za,intC,hki,gM hxm,hw1,hkk,hkM,gM hym,gM hci,gM hck,hcl,hw2,RNode.cells];refine q0 _ ?_;clear q0 Q0;simp only[go_sem];simp only[↓bO,go_sem,seval,za,intC,hki,gM hxm,hw1,hkk,hkM,gM hym,gM hci,gM hck,hcl,hw2,RNode.cells];refine ⟨(v.1+1,v.2),⟨by simp only;omega,hv.2.1,fun e=>(hv.2.2 e).next hsk⟩,(by simp only;omega),?_⟩;simp only[zau,zav,zan,zaA,mB,zc,zb,seval,hkk,hkM,gM hym,gM hci,gM hck,hcl,hw2,RNode.cells,za,zA,zG,intC];exact zbl
        ·
         simp only[zc,zb];(have hk1:x.t.k≠1:=by simpa using hc99);(iterate 7 (refine zaw 2 fun Q0 q0=>?_;simp only[↓zaV,↓dOp,↓bO,go_sem,seval,za,intC,hki,gM hxm,hw1,hkk,hkM,gM hym,gM hci,gM hck,hcl,hw2,RNode.cells];refine q0 _ ?_;clear q0 Q0;simp only[go_sem]));refine zaw 1 fun Q0 q0=>?_;simp only[↓zaV,↓dOp,↓bO,go_sem,seval,za,intC,hki,gM hxm,hw1,hkk,hkM,gM hym,gM hci,gM hck,hcl,hw2,RNode.cells];refine q0 _ ?_;clear q0 Q0;simp only[go_sem];refine zbp 114 rfl (fun hc114=>?_) (fun hc114=>?_)
         ·
          simp only[zc,zb];(have hkn:¬x.t.k=y.t.k:=by simpa using hc114);have hsk:POk M v.2.1 u.1 v.1:=POk.skip hxm hym (by simp[hkn]);(iterate 6 (refine zaw 2 fun Q0 q0=>?_;simp only[↓zaV,↓dOp,↓bO,go_sem,seval,za,intC,hki,gM hxm,hw1,hkk,hkM,gM hym,gM hci,gM hck,hcl,hw2,RNode.cells];refine q0 _ ?_;clear q0 Q0;simp only[go_sem]));simp only[↓zaV,↓dOp,↓bO,go_sem,seval,za,intC,hki,gM hxm,hw1,hkk,hkM,gM hym,gM hci,gM hck,hcl,hw2,RNode.cells];refine j0 _ ?_;clear j0 J0;simp only[bL,aops,zah,zaf,zae];refine y4 _ ?_;(try clear y4 Y4);refine zak (b:=true) (by first | exact rfl | exact congrArg (fun b=>AV.v (.bool b)) hb128) (fun _=>?_) (fun h=>(by cases h));refine zaK ?_;simp only[zah,zaf,zae,bA,Nat.reduceEqDiff,↓reduceIte];refine y2 _ ?_;(try clear y2 Y2);refine zac ?_;refine zab 2 fun Q0 q0=>?_;simp only[↓bO,go_sem,seval,za,intC,hki,gM hxm,hw1,hkk,hkM,gM hym,gM hci,gM hck,hcl,hw2,RNode.cells];refine q0 _ ?_;clear q0 Q0;simp only[go_sem];simp only[↓bO,go_sem,seval,za,intC,hki,gM hxm,hw1,hkk,hkM,gM hym,gM hci,gM hck,hcl,hw2,RNode.cells];refine ⟨(v.1+1,v.2),⟨by simp only;omega,hv.2.1,fun e=>(hv.2.2 e).next hsk⟩,(by simp only;omega),?_⟩;simp only[zau,zav,zan,zaA,mB,zc,zb,seval,hkk,hkM,gM hym,gM hci,gM hck,hcl,hw2,RNode.cells,za,zA,zG,intC];exact zbl
         ·
          simp only[zc,zb];(have hke:x.t.k=y.t.k:=by simpa using hc114);(iterate 6 (refine zaw 2 fun Q0 q0=>?_;simp only[↓zaV,↓dOp,↓bO,go_sem,seval,za,intC,hki,gM hxm,hw1,hkk,hkM,gM hym,gM hci,gM hck,hcl,hw2,RNode.cells];refine q0 _ ?_;clear q0 Q0;simp only[go_sem]));simp only[↓zaV,↓dOp,↓bO,go_sem,seval,za,intC,hki,gM hxm,hw1,hkk,hkM,gM hym,gM hci,gM hck,hcl,hw2,RNode.cells];refine j0 _ ?_;clear j0 J0;simp only[bL,aops,zah,zaf,zae];refine y4 _ ?_;(try clear y4 Y4);refine zak rfl (fun hb128=>?_) (fun hb128=>?_)
          ·
           (have hlt2:¬x.parts.length=y.parts.length:=by (have h9:=hb128;simp at h9;omega));have hsk:POk M v.2.1 u.1 v.1:=POk.skip hxm hym (by simp[hlt2]);refine zaK ?_;simp only[zah,zaf,zae,bA,Nat.reduceEqDiff,↓reduceIte];refine y2 _ ?_;(try clear y2 Y2);refine zac ?_;refine zab 2 fun Q0 q0=>?_;simp only[↓bO,go_sem,seval,za,intC,hki,gM hxm,hw1,hkk,hkM,gM hym,gM hci,gM hck,hcl,hw2,RNode.cells];refine q0 _ ?_;clear q0 Q0;simp only[go_sem];simp only[↓bO,go_sem,seval,za,intC,hki,gM hxm,hw1,hkk,hkM,gM hym,gM hci,gM hck,hcl,hw2,RNode.cells];refine ⟨(v.1+1,v.2),⟨by simp only;omega,hv.2.1,fun e=>(hv.2.2 e).next hsk⟩,(by simp only;omega),?_⟩;simp only[zau,zav,zan,zaA,mB,zc,zb,seval,hkk,hkM,gM hym,gM hci,gM hck,hcl,hw2,RNode.cells,za,zA,zG,intC];exact zbl
          ·
           (have hln2:x.parts.length=y.parts.length:=by (have h9:=hb128;simp at h9;omega));have hclx:=hv.2.1.col.sub u.1 v.1 hki hkM (by rw[hci,hck,hcc]);have h8x:=h8 x (zn hxm);refine zap ?_;(try simp only[zah,zaf,zae]);refine y3 _ ?_;(try clear y3 Y3);refine zad fun Y3 y3=>?_;refine zac ?_;simp only[↓bO,go_sem,seval,za,intC,hki,gM hxm,hw1,hkk,hkM,gM hym,gM hci,gM hck,hcl,hw2,RNode.cells];refine y3 _ ?_;(try clear y3 Y3);refine zao ?_;refine zaG (σ:=Nat×List Int×Bool) (mB 179 31244) (fun q=>q.1≤x.parts.length∧CLoop M (zca P) t.1 q.2∧(q.2.2=false→PAll M q.2.1 u.1 v.1∧PUp M q.2.1 u.1 v.1 q.1)) (fun q=>[(9,.sl 1 (q.2.1.map intC)),(11,.v (.bool q.2.2)),(14,.v (.int .i64 (q.1:Int)))]) (fun q=>[]) (fun q=>x.parts.length-q.1) (0,v.2) (⟨Nat.zero_le _,hv.2.1,fun e=>⟨hv.2.2 e,PUp.zero _ _ _ _⟩⟩) ?_ (fun q hq=>?_)
           ·
            simp only[zau,zav,zan,zaA,mB,zc,zb,seval];exact zbl
           simp only[zau,zav,zan,zaA,mB,zc,zb,seval];refine zad fun Y3 y3=>?_;refine zad fun Y4 y4=>?_;refine zac ?_;(iterate 3 (refine zab 2 fun Q0 q0=>?_;simp only[↓bO,go_sem,seval,za,intC,hki,gM hxm,hw1,hkk,hkM,gM hym,gM hci,gM hck,hcl,hw2,RNode.cells];refine q0 _ ?_;clear q0 Q0;simp only[go_sem]));simp only[↓bO,go_sem,seval,za,intC,hki,gM hxm,hw1,hkk,hkM,gM hym,gM hci,gM hck,hcl,hw2,RNode.cells];refine y4 _ ?_;(try clear y4 Y4);refine zak rfl (fun hb136=>?_) (fun hb136=>?_)
           ·
            (have hkj:q.1<x.parts.length:=by simpa using hb136);(have hkj2:q.1<y.parts.length:=by omega);obtain ⟨p,hpa⟩:∃p,x.parts[q.1]?=some p:=⟨_,ze hkj⟩;obtain ⟨r,hpb⟩:∃r,y.parts[q.1]?=some r:=⟨_,ze hkj2⟩;have hpm:=hMok x (zn hxm) p (zn hpa);have hrm:=hMok y (zn hym) r (zn hpb);obtain ⟨a,rfl⟩:∃a:Nat,p=(a:Int):=⟨p.toNat,by omega⟩;obtain ⟨b,rfl⟩:∃b:Nat,r=(b:Int):=⟨r.toNat,by omega⟩;(have haM:a<M.length:=by omega);(have hbM:b<M.length:=by omega);have hcab:Cl (shR M) (zca P) a b:=Cl.part hclx (zcH hxm) (by rw[zcH hym,hke]) hk1 hln2 hpa hpb;have hcq:=hq.2.1.col.len;have hsa:=sameC_in (c:=q.2.1) (a:=a) (b:=b) (by omega) (by omega);have hw3:IntKind.i64.wrap ((q.1:Int)+1)=(q.1:Int)+1:=zaO (by omega) (by omega);refine zap ?_;(try simp only[zah,zaf,zae]);refine y3 _ ?_;(try clear y3 Y3);refine zad fun Y3 y3=>?_;refine zao ?_;refine zad fun Y4 y4=>?_;refine zaU 19 mixed (by kernel_rfl) fun J0 j0=>?_;(iterate 8 (simp only[go_sem];refine zaw 2 fun Q0 q0=>?_;simp only[↓zaV,↓dOp,↓bO,go_sem,seval,za,intC,hki,gM hxm,hw1,hkk,hkM,gM hym,gM hci,gM hck,hcl,hw2,RNode.cells,hkj,hkj2,gM hpa,gM hpb,hw3];refine q0 _ ?_;clear q0 Q0));simp only[go_sem];refine zaw 1 fun Q0 q0=>?_;simp only[↓zaV,↓dOp,↓bO,go_sem,seval,za,intC,hki,gM hxm,hw1,hkk,hkM,gM hym,gM hci,gM hck,hcl,hw2,RNode.cells,hkj,hkj2,gM hpa,gM hpb,hw3];refine q0 _ ?_;clear q0 Q0;simp only[go_sem];refine zaw 1 fun Q0 q0=>?_;simp only[↓zaV,↓dOp,↓bO,go_sem,seval,za,intC,hki,gM hxm,hw1,hkk,hkM,gM hym,gM hci,gM hck,hcl,hw2,RNode.cells,hkj,hkj2,gM hpa,gM hpb,hw3];refine ⟨_,ziB q.2.1 (a:Int) (b:Int),?_⟩;(try simp only[bS,bA,zah,zaf,zae]);refine q0 _ ?_;clear q0 Q0;simp only[go_sem];simp only[↓zaV,↓dOp,↓bO,go_sem,seval,za,intC,hki,gM hxm,hw1,hkk,hkM,gM hym,gM hci,gM hck,hcl,hw2,RNode.cells,hkj,hkj2,gM hpa,gM hpb,hw3];refine j0 _ ?_;clear j0 J0;simp only[bL,aops,zah,zaf,zae];refine y4 _ ?_;(try clear y4 Y4);refine zak rfl (fun hb157=>?_) (fun hb157=>?_)
            ·
             (have hne:¬q.2.1[a]?=q.2.1[b]?:=by (have h9:zgb q.2.1 (a:Int) (b:Int)=false:=by simpa using hb157);exact fun e=>by rw[hsa.2 e] at h9;cases h9);refine zad fun Y4 y4=>?_;refine zaU 18 mixed (by kernel_rfl) fun J0 j0=>?_;(iterate 8 (simp only[go_sem];refine zaw 2 fun Q0 q0=>?_;simp only[↓zaV,↓dOp,↓bO,go_sem,seval,za,intC,hki,gM hxm,hw1,hkk,hkM,gM hym,gM hci,gM hck,hcl,hw2,RNode.cells,hkj,hkj2,gM hpa,gM hpb,hw3];refine q0 _ ?_;clear q0 Q0));simp only[go_sem];refine zaw 1 fun Q0 q0=>?_;simp only[↓zaV,↓dOp,↓bO,go_sem,seval,za,intC,hki,gM hxm,hw1,hkk,hkM,gM hym,gM hci,gM hck,hcl,hw2,RNode.cells,hkj,hkj2,gM hpa,gM hpb,hw3];refine q0 _ ?_;clear q0 Q0;simp only[go_sem];simp only[↓zaV,↓dOp,↓bO,go_sem,seval,za,intC,hki,gM hxm,hw1,hkk,hkM,gM hym,gM hci,gM hck,hcl,hw2,RNode.cells,hkj,hkj2,gM hpa,gM hpb,hw3];refine ⟨_,zfd q.2.1 a b (by omega) (by omega) (by omega),?_⟩;(try simp only[bS,bA,zah,zaf,zae]);refine j0 _ ?_;clear j0 J0;simp only[go_sem];simp only[↓bO,go_sem,seval,za,intC,hki,gM hxm,hw1,hkk,hkM,gM hym,gM hci,gM hck,hcl,hw2,RNode.cells,hkj,hkj2,gM hpa,gM hpb,hw3];refine y4 _ ?_;(try clear y4 Y4);refine zac ?_;simp only[↓bO,go_sem,seval,za,intC,hki,gM hxm,hw1,hkk,hkM,gM hym,gM hci,gM hck,hcl,hw2,RNode.cells,hkj,hkj2,gM hpa,gM hpb,hw3];refine y3 _ ?_;(try clear y3 Y3);refine zac ?_;refine zab 2 fun Q0 q0=>?_;simp only[↓bO,go_sem,seval,za,intC,hki,gM hxm,hw1,hkk,hkM,gM hym,gM hci,gM hck,hcl,hw2,RNode.cells,hkj,hkj2,gM hpa,gM hpb,hw3];refine q0 _ ?_;clear q0 Q0;simp only[go_sem];simp only[↓bO,go_sem,seval,za,intC,hki,gM hxm,hw1,hkk,hkM,gM hym,gM hci,gM hck,hcl,hw2,RNode.cells,hkj,hkj2,gM hpa,gM hpb,hw3];refine ⟨(q.1+1,zcG q.2.1 a b,true),⟨by simp only;omega,hq.2.1.join haM hbM hcab hne,fun e=>(by cases e)⟩,(by simp only;omega),?_⟩;simp only[zau,zav,zan,zaA,mB,zc,zb,seval,hkj,hkj2,gM hpa,gM hpb,hw3,za,zA,zG,intC];exact zbl
            ·
             (have hsm:q.2.1[a]?=q.2.1[b]?:=by (have h9:zgb q.2.1 (a:Int) (b:Int)=true:=by simpa using hb157);exact hsa.1 h9);refine zap ?_;(try simp only[zah,zaf,zae]);refine y3 _ ?_;(try clear y3 Y3);refine zac ?_;refine zab 2 fun Q0 q0=>?_;simp only[↓bO,go_sem,seval,za,intC,hki,gM hxm,hw1,hkk,hkM,gM hym,gM hci,gM hck,hcl,hw2,RNode.cells,hkj,hkj2,gM hpa,gM hpb,hw3];refine q0 _ ?_;clear q0 Q0;simp only[go_sem];simp only[↓bO,go_sem,seval,za,intC,hki,gM hxm,hw1,hkk,hkM,gM hym,gM hci,gM hck,hcl,hw2,RNode.cells,hkj,hkj2,gM hpa,gM hpb,hw3];refine ⟨(q.1+1,q.2),⟨by simp only;omega,hq.2.1,fun e=>⟨(hq.2.2 e).1,(hq.2.2 e).2.next hxm hym hpa hpb (by simpa using hsm)⟩⟩,(by simp only;omega),?_⟩;simp only[zau,zav,zan,zaA,mB,zc,zb,seval,hkj,hkj2,gM hpa,gM hpb,hw3,za,zA,zG,intC];exact zbl
           ·
            (have hkq:q.1=x.parts.length:=by have h9:=hb136;simp at h9;have:=hq.1;omega);refine zaK ?_;simp only[zah,zaf,zae,bA,Nat.reduceEqDiff,↓reduceIte];refine y2 _ ?_;(try clear y2 Y2);refine zac ?_;refine zab 2 fun Q0 q0=>?_;simp only[↓bO,go_sem,seval,za,intC,hki,gM hxm,hw1,hkk,hkM,gM hym,gM hci,gM hck,hcl,hw2,RNode.cells];refine q0 _ ?_;clear q0 Q0;simp only[go_sem];simp only[↓bO,go_sem,seval,za,intC,hki,gM hxm,hw1,hkk,hkM,gM hym,gM hci,gM hck,hcl,hw2,RNode.cells];refine ⟨(v.1+1,q.2),⟨by simp only;omega,hq.2.1,fun e=>(hq.2.2 e).1.next (POk.all hxm (hkq▸(hq.2.2 e).2))⟩,(by simp only;omega),?_⟩;simp only[zau,zav,zan,zaA,mB,zc,zb,seval,hkk,hkM,gM hym,gM hci,gM hck,hcl,hw2,RNode.cells,za,zA,zG,intC];exact zbl
      ·
       (have hkv:v.1=u.1:=by have h9:=hb78;simp at h9;have:=hv.1;omega);refine zaK ?_;simp only[zah,zaf,zae,bA,Nat.reduceEqDiff,↓reduceIte];refine y1 _ ?_;(try clear y1 Y1);refine zac ?_;refine zab 2 fun Q0 q0=>?_;simp only[↓bO,go_sem,seval,za,intC,hki,gM hxm,hw1];refine q0 _ ?_;clear q0 Q0;simp only[go_sem];simp only[↓bO,go_sem,seval,za,intC,hki,gM hxm,hw1];refine ⟨(u.1+1,v.2),⟨by simp only;omega,hv.2.1,fun e=>(hkv▸hv.2.2 e).row⟩,(by simp only;omega),?_⟩;simp only[zau,zav,zan,zaA,mB,zc,zb,seval,hki,gM hxm,hw1,za,zA,zG,intC];exact zbl
     ·
      (have hku:u.1=M.length:=by have h9:=hb73;simp at h9;have:=hu.1;omega);refine zaK ?_;simp only[zah,zaf,zae,bA,Nat.reduceEqDiff,↓reduceIte];refine ⟨u.2,⟨hu.2.1.col,hu.2.1.held,fun e=>hku▸hu.2.2 e⟩,(by have h9:=hu.2.1.end';have h8:t.2.toNat=1:=(by rw[htt];rfl);omega),?_⟩;exact zhc
    ·
     have htt:t.2=false:=hb69;refine zaK ?_;simp only[zah,zaf,zae,bA,Nat.reduceEqDiff,↓reduceIte];refine y0 _ ?_;(try clear y0 Y0);refine zad fun Y0 y0=>?_;refine zac ?_;refine zab 2 fun Q0 q0=>?_;simp only[↓bO,go_sem,seval];refine q0 _ ?_;clear q0 Q0;simp only[go_sem];simp only[↓bO,go_sem,seval];refine y0 _ ?_;(try clear y0 Y0);refine zaq ?_;(try simp only[zah,zaf,zae,za1,zaZ,zaE,bS,bA,zcs,zaQ,zdh,bL,Nat.reduceAdd,Nat.reduceLeDiff,Nat.reduceEqDiff,↓reduceIte,ti33,tyX,zY]);refine ⟨.agg [.sl 4 (M.map RNode.cells),.sl 1 (t.1.map intC)],[],⟨t.1,⟨ht.1,ht.2.1,(ht.2.2 htt).1⟩,rfl,rfl⟩,Und.data (RNode.oneData _ _),trivial,Le.refl _,⟨2,rfl,rfl⟩,by omega⟩
end Go.Proofs.YtjjjckjebkmnjaaGreat
namespace Go.Proofs.YtjjjckjebkmnjaaGreat
open Go Go.RowKit
attribute [local irreducible] aops zaV
theorem zeu:∀{l:List (Ty×Ty)} {e:Ty×Ty},e∈l→e.1.cnt+e.2.cnt≤zbY l
  | x::l,e,h=>by
    simp only[zbY];(rcases zZ.1 h with rfl | h);(· omega);· have:=zeu h;omega
theorem Close_at (es:List EqT) (hsum:zbY (es.map EqT.p)≤160) (hr:∀e∈(es.map EqT.p),(e.1.right&&e.2.right)=true) {os:Os} {nx:Nat} {Q:AV→Os→Nat→Prop}
    (hq:∀c,ColF (eqF (es.map EqT.p)).1 (zca (eqF (es.map EqT.p)).2) c→(clB (eqF (es.map EqT.p)).1 c=true↔Clashes (es.map EqT.p))→Q (.agg [.sl 4 ((eqF (es.map EqT.p)).1.map RNode.cells),.sl 1 (c.map intC)]) os nx):ACalls Tryz.prog 9 [.sl 8 (es.map EqT.cells)] os nx Q:=by
  obtain ⟨⟨G,hG⟩,hP⟩:=zfx (es.map EqT.p) fun e he=>by
    have h1:=hr e he;have h2:=zeu he;simp only[Bool.and_eq_true] at h1;exact ⟨h1.1,h1.2,by omega,by omega⟩
  (have h:=Close_c es _ _ rfl hsum hG.mok hP fun x hx=>hG.parts8 hx);refine ACalls.atE (σ:=List Int) (C:=fun c=>ColF (eqF (es.map EqT.p)).1 (zca (eqF (es.map EqT.p)).2) c) (R:=fun c=>.agg [.sl 4 ((eqF (es.map EqT.p)).1.map RNode.cells),.sl 1 (c.map intC)]) (R':=fun c=>.agg [.sl 4 ((eqF (es.map EqT.p)).1.map RNode.cells),.sl 1 (c.map intC)]) (obs:=[]) (obs':=[]) (obs1:=fun _=>[]) (obs1':=fun _=>[]) [] h rfl (fun _=>rfl) (by simp) (by simp) ⟨.data (EqT.dataSl es),trivial⟩ (fun c=>.data (RNode.oneData _ _)) trivial trivial (fun _=>trivial) (fun c hc=>hq c hc (hc.clash (fun e he=>?_) hG.mok));simp only[zca,zP] at he;obtain ⟨p,hp,rfl⟩:=he;have:=hP p hp;(simp only);omega
theorem clz5 {p:Prop} (h:p:=by repeat' first | trivial | exact .inr ⟨_,_,_,rfl,rfl,rfl,rfl⟩ | exact .inl (.refl _) | exact .inl (.any _) | (refine ⟨?_,?_⟩)):p:=h
theorem clz6 {p:Prop} (h:p:=by repeat' first | exact trivial | exact .any _ | exact .ptr (by omega) | exact .v _ _ | exact Und.data (RNode.dataSl _) | exact Und.data (zaJ _) | exact Und.data (.eptr (RNode.data _)) | (refine ⟨?_,?_⟩)):p:=h
theorem zh7 (M:List RNode) (c:List Int) (hcl:c.length=M.length) (hMl:M.length≤1048576):APure Tryz.prog 11 [.agg [.sl 4 (M.map RNode.cells),.sl 1 (c.map intC)]] (.v (.bool (clB M c))):=by
  refine APure.mkL (.cons (RNode.oneData M c) .nil) (.v _) ?_;refine zaj Tryz.func11 (by kernel_rfl) rfl (by rw[Tryz.ntmps11];simp) (fun hm=>?_);simp only[Tryz.ntmps11,Tryz.results11,zh,zm,Nat.reduceAdd,Nat.reduceSub,zu,zw,zi,zj];refine zad fun Y0 y0=>?_;refine zac ?_;refine zab 1 fun Q0 q0=>?_;simp only[↓bO,go_sem,seval];refine q0 _ ?_;clear q0 Q0;simp only[go_sem];simp only[↓bO,go_sem,seval];refine y0 _ ?_;(try clear y0 Y0);refine zad fun Y0 y0=>?_;refine zad fun Y1 y1=>?_;refine zac ?_;simp only[↓bO,go_sem,seval];refine y1 _ ?_;(try clear y1 Y1);refine zao ?_;refine zaG (σ:=Nat) (mB 70 10) (fun s=>s≤M.length∧NoCl M c s 0) (fun s=>[(3,.v (.int .i64 (s:Int)))]) (fun s=>[]) (fun s=>M.length-s) 0 (⟨Nat.zero_le _,NoCl.zero _ _⟩) ?_ (fun s hs=>?_)
  ·
   simp only[zau,zav,zan,zaA,mB,zc,zb,seval];exact zbl
  simp only[zau,zav,zan,zaA,mB,zc,zb,seval];refine zad fun Y1 y1=>?_;refine zad fun Y2 y2=>?_;refine zac ?_;(iterate 4 (refine zab 1 fun Q0 q0=>?_;simp only[↓bO,go_sem,seval];refine q0 _ ?_;clear q0 Q0;simp only[go_sem]));simp only[↓bO,go_sem,seval];refine y2 _ ?_;(try clear y2 Y2);refine zak rfl (fun hb11=>?_) (fun hb11=>?_)
  ·
   (have hki:s<M.length:=by simpa using hb11);obtain ⟨x,hxm⟩:∃x,M[s]?=some x:=⟨_,ze hki⟩;obtain ⟨ci,hci⟩:∃z,c[s]?=some z:=⟨_,ze (by omega)⟩;have hw1:IntKind.i64.wrap ((s:Int)+1)=(s:Int)+1:=zaO (by omega) (by omega);refine zap ?_;(try simp only[zah,zaf,zae]);refine y1 _ ?_;(try clear y1 Y1);refine zad fun Y1 y1=>?_;refine zao ?_;refine zad fun Y2 y2=>?_;refine zac ?_;simp only[↓bO,go_sem,seval,hki,hcl,gM hxm,gM hci,hw1,RNode.cells,za,intC];refine y2 _ ?_;(try clear y2 Y2);refine zao ?_;refine zaG (σ:=Nat) (mB 70 26) (fun v=>v≤s∧NoCl M c s v) (fun v=>[(4,.v (.int .i64 (v:Int)))]) (fun v=>[]) (fun v=>s-v) 0 (⟨Nat.zero_le _,hs.2⟩) ?_ (fun v hv=>?_)
   ·
    simp only[zau,zav,zan,zaA,mB,zc,zb,seval];exact zbl
   simp only[zau,zav,zan,zaA,mB,zc,zb,seval];refine zad fun Y2 y2=>?_;refine zad fun Y3 y3=>?_;refine zac ?_;(iterate 2 (refine zab 1 fun Q0 q0=>?_;simp only[↓bO,go_sem,seval,hki,hcl,gM hxm,gM hci,hw1,RNode.cells,za,intC];refine q0 _ ?_;clear q0 Q0;simp only[go_sem]));simp only[↓bO,go_sem,seval,hki,hcl,gM hxm,gM hci,hw1,RNode.cells,za,intC];refine y3 _ ?_;(try clear y3 Y3);refine zak rfl (fun hb16=>?_) (fun hb16=>?_)
   ·
    (have hkk:v<s:=by simpa using hb16);(have hkM:v<M.length:=by omega);obtain ⟨y,hym⟩:∃y,M[v]?=some y:=⟨_,ze hkM⟩;obtain ⟨ck,hck⟩:∃z,c[v]?=some z:=⟨_,ze (by omega)⟩;have hw2:IntKind.i64.wrap ((v:Int)+1)=(v:Int)+1:=zaO (by omega) (by omega);refine zap ?_;(try simp only[zah,zaf,zae]);refine y2 _ ?_;(try clear y2 Y2);refine zad fun Y2 y2=>?_;refine zao ?_;refine zdR (mB 70 122) ([(5,.eptr x.cells),(6,.eptr y.cells)]) [(0,.cells 33 [.sl 4 (M.map RNode.cells),.sl 1 (c.map intC)])] 1 (True) ?_ (fun hC=>?_)
    ·
     refine zh4 14 rfl mixed ?_;dsimp only;refine zbK 0 rfl (by kernel_rfl) (by kernel_rfl) (by kernel_rfl) (fun _ _ h=>h) fun Q0 q0=>?_;simp only[↓bO,go_sem,seval,zem,zdT,zdm,hki,hcl,gM hxm,gM hci,hw1,RNode.cells,za,intC,hkk,hkM,gM hym,gM hck,hw2];refine q0 _ ?_;clear q0 Q0;refine zbK 1 rfl (by kernel_rfl) (by kernel_rfl) (by kernel_rfl) (fun _ _ h=>h) fun Q0 q0=>?_;simp only[↓bO,go_sem,seval,zem,zdT,zdm,hki,hcl,gM hxm,gM hci,hw1,RNode.cells,za,intC,hkk,hkM,gM hym,gM hck,hw2];refine q0 _ ?_;clear q0 Q0;refine zbK 2 rfl (by kernel_rfl) (by kernel_rfl) (by kernel_rfl) (fun _ _ h=>h) fun Q0 q0=>?_;simp only[↓bO,go_sem,seval,zem,zdT,zdm,hki,hcl,gM hxm,gM hci,hw1,RNode.cells,za,intC,hkk,hkM,gM hym,gM hck,hw2];refine q0 _ ?_;clear q0 Q0;refine zbK 3 rfl (by kernel_rfl) (by kernel_rfl) (by kernel_rfl) (fun _ _ h=>h) fun Q0 q0=>?_;simp only[↓bO,go_sem,seval,zem,zdT,zdm,hki,hcl,gM hxm,gM hci,hw1,RNode.cells,za,intC,hkk,hkM,gM hym,gM hck,hw2];refine q0 _ ?_;clear q0 Q0;refine zbK 4 rfl (by kernel_rfl) (by kernel_rfl) (by kernel_rfl) (fun _ _ h=>h) fun Q0 q0=>?_;simp only[↓bO,go_sem,seval,zem,zdT,zdm,hki,hcl,gM hxm,gM hci,hw1,RNode.cells,za,intC,hkk,hkM,gM hym,gM hck,hw2];refine q0 _ ?_;clear q0 Q0;refine zbK 5 rfl (by kernel_rfl) (by kernel_rfl) (by kernel_rfl) (fun _ _ h=>h) fun Q0 q0=>?_;simp only[↓bO,go_sem,seval,zem,zdT,zdm,hki,hcl,gM hxm,gM hci,hw1,RNode.cells,za,intC,hkk,hkM,gM hym,gM hck,hw2];refine q0 _ ?_;clear q0 Q0;refine zbK 6 rfl (by kernel_rfl) (by kernel_rfl) (by kernel_rfl) (fun _ _ h=>h) fun Q0 q0=>?_;simp only[↓bO,go_sem,seval,zem,zdT,zdm,hki,hcl,gM hxm,gM hci,hw1,RNode.cells,za,intC,hkk,hkM,gM hym,gM hck,hw2];refine q0 _ ?_;clear q0 Q0;refine zbK 7 rfl (by kernel_rfl) (by kernel_rfl) (by kernel_rfl) (fun _ _ h=>h) fun Q0 q0=>?_;simp only[↓bO,go_sem,seval,zem,zdT,zdm,hki,hcl,gM hxm,gM hci,hw1,RNode.cells,za,intC,hkk,hkM,gM hym,gM hck,hw2];refine q0 _ ?_;clear q0 Q0;refine zbK 8 rfl (by kernel_rfl) (by kernel_rfl) (by kernel_rfl) (fun _ _ h=>h) fun Q0 q0=>?_;simp only[↓bO,go_sem,seval,zem,zdT,zdm,hki,hcl,gM hxm,gM hci,hw1,RNode.cells,za,intC,hkk,hkM,gM hym,gM hck,hw2];refine q0 _ ?_;clear q0 Q0;refine zbK 9 rfl (by kernel_rfl) (by kernel_rfl) (by kernel_rfl) (fun _ _ h=>h) fun Q0 q0=>?_;simp only[↓bO,go_sem,seval,zem,zdT,zdm,hki,hcl,gM hxm,gM hci,hw1,RNode.cells,za,intC,hkk,hkM,gM hym,gM hck,hw2];refine q0 _ ?_;clear q0 Q0;refine HAny_rest ?_;refine JAny_all2 (i:=10) (j:=11) (by kernel_rfl) ?_ ?_
     ·
      refine zdI rfl rfl rfl rfl (by simp) (by decide) fun Q0 q0=>?_;simp only[↓bO,go_sem,seval,hki,hcl,gM hxm,gM hci,hw1,RNode.cells,za,intC,hkk,hkM,gM hym,gM hck,hw2];refine q0 _ ?_;clear q0 Q0;refine zcC (i:=11) (by kernel_rfl) ?_
      ·
       refine zdI rfl rfl rfl rfl (by simp) (by decide) fun Q0 q0=>?_;simp only[↓bO,go_sem,seval,hki,hcl,gM hxm,gM hci,hw1,RNode.cells,za,intC,hkk,hkM,gM hym,gM hck,hw2];refine q0 _ ?_;clear q0 Q0;refine zcC (i:=12) (by kernel_rfl) ?_
       ·
        refine zdG rfl rfl rfl rfl (by decide) rfl fun Q0 q0=>?_;simp only[↓bO,go_sem,seval,hki,hcl,gM hxm,gM hci,hw1,RNode.cells,za,intC,hkk,hkM,gM hym,gM hck,hw2];refine q0 _ ?_;clear q0 Q0;refine zcC (i:=13) (by kernel_rfl) ?_
        ·
         refine zdG rfl rfl rfl rfl (by decide) rfl fun Q0 q0=>?_;simp only[↓bO,go_sem,seval,hki,hcl,gM hxm,gM hci,hw1,RNode.cells,za,intC,hkk,hkM,gM hym,gM hck,hw2];refine q0 _ ?_;clear q0 Q0;refine zgK (by kernel_rfl) ?_;simp only[zah,zaf,zae];(try simp only[zau,zav,zan,zaA,mB,zc,zb,seval]);(first | refine ⟨trivial,?_⟩ | skip);refine Weak.freeze ?_ ⟨rfl,trivial⟩ (by first | omega | (simp only;omega)) (by first | omega | (simp only;omega)) ?_ ⟨by omega,⟨Und.data (RNode.dataSl _),Und.data (zaJ _),trivial⟩,trivial⟩;(· exact clz5);· exact clz6
     ·
      refine zdI rfl rfl rfl rfl (by simp) (by decide) fun Q0 q0=>?_;simp only[↓bO,go_sem,seval,hki,hcl,gM hxm,gM hci,hw1,RNode.cells,za,intC,hkk,hkM,gM hym,gM hck,hw2];refine q0 _ ?_;clear q0 Q0;refine zcC (i:=10) (by kernel_rfl) ?_
      ·
       refine zdI rfl rfl rfl rfl (by simp) (by decide) fun Q0 q0=>?_;simp only[↓bO,go_sem,seval,hki,hcl,gM hxm,gM hci,hw1,RNode.cells,za,intC,hkk,hkM,gM hym,gM hck,hw2];refine q0 _ ?_;clear q0 Q0;refine zcC (i:=12) (by kernel_rfl) ?_
       ·
        refine zdG rfl rfl rfl rfl (by decide) rfl fun Q0 q0=>?_;simp only[↓bO,go_sem,seval,hki,hcl,gM hxm,gM hci,hw1,RNode.cells,za,intC,hkk,hkM,gM hym,gM hck,hw2];refine q0 _ ?_;clear q0 Q0;refine zcC (i:=13) (by kernel_rfl) ?_
        ·
         refine zdG rfl rfl rfl rfl (by decide) rfl fun Q0 q0=>?_;simp only[↓bO,go_sem,seval,hki,hcl,gM hxm,gM hci,hw1,RNode.cells,za,intC,hkk,hkM,gM hym,gM hck,hw2];refine q0 _ ?_;clear q0 Q0;refine zgK (by kernel_rfl) ?_;simp only[zah,zaf,zae];(try simp only[zau,zav,zan,zaA,mB,zc,zb,seval]);(first | refine ⟨trivial,?_⟩ | skip);refine Weak.freeze ?_ ⟨rfl,trivial⟩ (by first | omega | (simp only;omega)) (by first | omega | (simp only;omega)) ?_ ⟨by omega,⟨Und.data (RNode.dataSl _),Und.data (zaJ _),trivial⟩,trivial⟩;(· exact clz5);· exact clz6
    simp only[zau,zav,zan,zaA,mB,zc,zb,seval];refine zad fun Y3 y3=>?_;refine zaU 41 mixed (by kernel_rfl) fun J0 j0=>?_;(iterate 12 (simp only[go_sem];refine zaw 1 fun Q0 q0=>?_;simp only[↓zaV,↓dOp,↓bO,go_sem,seval,hki,hcl,gM hxm,gM hci,hw1,RNode.cells,za,intC,hkk,hkM,gM hym,gM hck,hw2];refine q0 _ ?_;clear q0 Q0));simp only[go_sem];refine zbp 40 rfl (fun hc40=>?_) (fun hc40=>?_)
    ·
     simp only[zc,zb];(have hcc:ci=ck:=by simpa using hc40);(iterate 6 (refine zaw 1 fun Q0 q0=>?_;simp only[↓zaV,↓dOp,↓bO,go_sem,seval,hki,hcl,gM hxm,gM hci,hw1,RNode.cells,za,intC,hkk,hkM,gM hym,gM hck,hw2];refine q0 _ ?_;clear q0 Q0;simp only[go_sem]));refine zbp 46 rfl (fun hc46=>?_) (fun hc46=>?_)
     ·
      simp only[zc,zb];(have hk1:x.t.k≠1:=by simpa using hc46);(iterate 6 (refine zaw 1 fun Q0 q0=>?_;simp only[↓zaV,↓dOp,↓bO,go_sem,seval,hki,hcl,gM hxm,gM hci,hw1,RNode.cells,za,intC,hkk,hkM,gM hym,gM hck,hw2];refine q0 _ ?_;clear q0 Q0;simp only[go_sem]));refine zbp 52 rfl (fun hc52=>?_) (fun hc52=>?_)
      ·
       simp only[zc,zb];(have hk2:y.t.k≠1:=by simpa using hc52);(iterate 8 (refine zaw 1 fun Q0 q0=>?_;simp only[↓zaV,↓dOp,↓bO,go_sem,seval,hki,hcl,gM hxm,gM hci,hw1,RNode.cells,za,intC,hkk,hkM,gM hym,gM hck,hw2];refine q0 _ ?_;clear q0 Q0;simp only[go_sem]));refine zbp 60 rfl (fun hc60=>?_) (fun hc60=>?_)
       ·
        simp only[zc,zb];(have hkn:¬x.t.k=y.t.k:=by simpa using hc60);have hca:ClashAt (shR M) s v:=(zcq hxm hym).2 ⟨hk1,hk2,.inl hkn⟩;refine zbW 7 (by kernel_rfl) ?_;simp only[uN,bL,bS,bA];refine zaw 1 fun Q0 q0=>?_;simp only[↓zaV,↓dOp,↓bO,go_sem,seval,hki,hcl,gM hxm,gM hci,hw1,RNode.cells,za,intC,hkk,hkM,gM hym,gM hck,hw2];refine q0 _ ?_;clear q0 Q0;simp only[go_sem];simp only[↓zaV,↓dOp,↓bO,go_sem,seval,hki,hcl,gM hxm,gM hci,hw1,RNode.cells,za,intC,hkk,hkM,gM hym,gM hck,hw2];refine j0 _ ?_;clear j0 J0;simp only[bL,aops,zah,zaf,zae];refine y3 _ ?_;(try clear y3 Y3);refine zak (b:=true) (by first | exact rfl | exact congrArg (fun b=>AV.v (.bool b)) hb69) (fun _=>?_) (fun h=>(by cases h));refine zad fun Y3 y3=>?_;refine zac ?_;simp only[↓bO,go_sem,seval,hki,hcl,gM hxm,gM hci,hw1,RNode.cells,za,intC,hkk,hkM,gM hym,gM hck,hw2];refine y3 _ ?_;(try clear y3 Y3);refine zaq ?_;(try simp only[zah,zaf,zae,za1,zaZ,zaE,bS,bA]);rw[clB_of hki hkk (by rw[hci,hck,hcc]) hca];exact Le.refl _
       ·
        simp only[zc,zb];(have hke:x.t.k=y.t.k:=by simpa using hc60);(iterate 8 (refine zaw 1 fun Q0 q0=>?_;simp only[↓zaV,↓dOp,↓bO,go_sem,seval,hki,hcl,gM hxm,gM hci,hw1,RNode.cells,za,intC,hkk,hkM,gM hym,gM hck,hw2];refine q0 _ ?_;clear q0 Q0;simp only[go_sem]));simp only[↓zaV,↓dOp,↓bO,go_sem,seval,hki,hcl,gM hxm,gM hci,hw1,RNode.cells,za,intC,hkk,hkM,gM hym,gM hck,hw2];refine j0 _ ?_;clear j0 J0;simp only[bL,aops,zah,zaf,zae];refine y3 _ ?_;(try clear y3 Y3);refine zak rfl (fun hb69=>?_) (fun hb69=>?_)
        ·
         (have hln2:¬x.parts.length=y.parts.length:=by (have h9:=hb69;simp at h9;omega));have hca:ClashAt (shR M) s v:=(zcq hxm hym).2 ⟨hk1,hk2,.inr hln2⟩;refine zad fun Y3 y3=>?_;refine zac ?_;simp only[↓bO,go_sem,seval,hki,hcl,gM hxm,gM hci,hw1,RNode.cells,za,intC,hkk,hkM,gM hym,gM hck,hw2];refine y3 _ ?_;(try clear y3 Y3);refine zaq ?_;(try simp only[zah,zaf,zae,za1,zaZ,zaE,bS,bA]);rw[clB_of hki hkk (by rw[hci,hck,hcc]) hca];exact Le.refl _
        ·
         (have hln2:x.parts.length=y.parts.length:=by (have h9:=hb69;simp at h9;omega));(have hno:c[s]?=c[v]?→¬ClashAt (shR M) s v:=by rw[zcq hxm hym];exact fun _ h=>h.2.2.elim (fun e=>e hke) (fun e=>e hln2));refine zap ?_;(try simp only[zah,zaf,zae]);refine y2 _ ?_;(try clear y2 Y2);refine zac ?_;(iterate 2 (refine zab 1 fun Q0 q0=>?_;simp only[↓bO,go_sem,seval,hki,hcl,gM hxm,gM hci,hw1,RNode.cells,za,intC,hkk,hkM,gM hym,gM hck,hw2];refine q0 _ ?_;clear q0 Q0;simp only[go_sem]));simp only[↓bO,go_sem,seval,hki,hcl,gM hxm,gM hci,hw1,RNode.cells,za,intC,hkk,hkM,gM hym,gM hck,hw2];refine ⟨(v+1),⟨by omega,hv.2.next hno⟩,by omega,?_⟩;simp only[zau,zav,zan,zaA,mB,zc,zb,seval,za,zA,zG];refine Weak.sub ?_ ⟨rfl,trivial⟩ (by first | omega | (simp only;omega)) (by first | omega | (simp only;omega)) ?_ ?_;(· simp only[go_sem,Le.refl,Le.any]);(· exact clz6);· exact ⟨by omega,⟨Und.data (RNode.dataSl _),Und.data (zaJ _),trivial⟩,trivial⟩
      ·
       simp only[zc,zb];(have hk2:y.t.k=1:=by simpa using hc52);(have hno:c[s]?=c[v]?→¬ClashAt (shR M) s v:=by rw[zcq hxm hym];exact fun _ h=>h.2.1 hk2);refine zbW 16 (by kernel_rfl) ?_;simp only[uN,bL,bS,bA];simp only[↓zaV,↓dOp,↓bO,go_sem,seval,hki,hcl,gM hxm,gM hci,hw1,RNode.cells,za,intC,hkk,hkM,gM hym,gM hck,hw2];refine j0 _ ?_;clear j0 J0;simp only[bL,aops,zah,zaf,zae];refine y3 _ ?_;(try clear y3 Y3);refine zak (b:=false) (by first | exact rfl | exact congrArg (fun b=>AV.v (.bool b)) hb69) (fun h=>(by cases h)) (fun _=>?_);refine zap ?_;(try simp only[zah,zaf,zae]);refine y2 _ ?_;(try clear y2 Y2);refine zac ?_;(iterate 2 (refine zab 1 fun Q0 q0=>?_;simp only[↓bO,go_sem,seval,hki,hcl,gM hxm,gM hci,hw1,RNode.cells,za,intC,hkk,hkM,gM hym,gM hck,hw2];refine q0 _ ?_;clear q0 Q0;simp only[go_sem]));simp only[↓bO,go_sem,seval,hki,hcl,gM hxm,gM hci,hw1,RNode.cells,za,intC,hkk,hkM,gM hym,gM hck,hw2];refine ⟨(v+1),⟨by omega,hv.2.next hno⟩,by omega,?_⟩;simp only[zau,zav,zan,zaA,mB,zc,zb,seval,za,zA,zG];refine Weak.sub ?_ ⟨rfl,trivial⟩ (by first | omega | (simp only;omega)) (by first | omega | (simp only;omega)) ?_ ?_;(· simp only[go_sem,Le.refl,Le.any]);(· exact clz6);· exact ⟨by omega,⟨Und.data (RNode.dataSl _),Und.data (zaJ _),trivial⟩,trivial⟩
     ·
      simp only[zc,zb];(have hk1:x.t.k=1:=by simpa using hc46);(have hno:c[s]?=c[v]?→¬ClashAt (shR M) s v:=by rw[zcq hxm hym];exact fun _ h=>h.1 hk1);refine zbW 4 (by kernel_rfl) ?_;simp only[uN,bL,bS,bA];(iterate 2 (refine zaw 1 fun Q0 q0=>?_;simp only[↓zaV,↓dOp,↓bO,go_sem,seval,hki,hcl,gM hxm,gM hci,hw1,RNode.cells,za,intC,hkk,hkM,gM hym,gM hck,hw2];refine q0 _ ?_;clear q0 Q0;simp only[go_sem]));refine zbW 16 (by kernel_rfl) ?_;simp only[uN,bL,bS,bA];simp only[↓zaV,↓dOp,↓bO,go_sem,seval,hki,hcl,gM hxm,gM hci,hw1,RNode.cells,za,intC,hkk,hkM,gM hym,gM hck,hw2];refine j0 _ ?_;clear j0 J0;simp only[bL,aops,zah,zaf,zae];refine y3 _ ?_;(try clear y3 Y3);refine zak (b:=false) (by first | exact rfl | exact congrArg (fun b=>AV.v (.bool b)) hb69) (fun h=>(by cases h)) (fun _=>?_);refine zap ?_;(try simp only[zah,zaf,zae]);refine y2 _ ?_;(try clear y2 Y2);refine zac ?_;(iterate 2 (refine zab 1 fun Q0 q0=>?_;simp only[↓bO,go_sem,seval,hki,hcl,gM hxm,gM hci,hw1,RNode.cells,za,intC,hkk,hkM,gM hym,gM hck,hw2];refine q0 _ ?_;clear q0 Q0;simp only[go_sem]));simp only[↓bO,go_sem,seval,hki,hcl,gM hxm,gM hci,hw1,RNode.cells,za,intC,hkk,hkM,gM hym,gM hck,hw2];refine ⟨(v+1),⟨by omega,hv.2.next hno⟩,by omega,?_⟩;simp only[zau,zav,zan,zaA,mB,zc,zb,seval,za,zA,zG];refine Weak.sub ?_ ⟨rfl,trivial⟩ (by first | omega | (simp only;omega)) (by first | omega | (simp only;omega)) ?_ ?_;(· simp only[go_sem,Le.refl,Le.any]);(· exact clz6);· exact ⟨by omega,⟨Und.data (RNode.dataSl _),Und.data (zaJ _),trivial⟩,trivial⟩
    ·
     simp only[zc,zb];(have hnc:¬ci=ck:=by simpa using hc40);(have hno:c[s]?=c[v]?→¬ClashAt (shR M) s v:=by rw[hci,hck];exact fun e=>absurd (Option.some.inj e) hnc);refine zbW 4 (by kernel_rfl) ?_;simp only[uN,bL,bS,bA];(iterate 2 (refine zaw 1 fun Q0 q0=>?_;simp only[↓zaV,↓dOp,↓bO,go_sem,seval,hki,hcl,gM hxm,gM hci,hw1,RNode.cells,za,intC,hkk,hkM,gM hym,gM hck,hw2];refine q0 _ ?_;clear q0 Q0;simp only[go_sem]));refine zbW 4 (by kernel_rfl) ?_;simp only[uN,bL,bS,bA];(iterate 2 (refine zaw 1 fun Q0 q0=>?_;simp only[↓zaV,↓dOp,↓bO,go_sem,seval,hki,hcl,gM hxm,gM hci,hw1,RNode.cells,za,intC,hkk,hkM,gM hym,gM hck,hw2];refine q0 _ ?_;clear q0 Q0;simp only[go_sem]));refine zbW 16 (by kernel_rfl) ?_;simp only[uN,bL,bS,bA];simp only[↓zaV,↓dOp,↓bO,go_sem,seval,hki,hcl,gM hxm,gM hci,hw1,RNode.cells,za,intC,hkk,hkM,gM hym,gM hck,hw2];refine j0 _ ?_;clear j0 J0;simp only[bL,aops,zah,zaf,zae];refine y3 _ ?_;(try clear y3 Y3);refine zak (b:=false) (by first | exact rfl | exact congrArg (fun b=>AV.v (.bool b)) hb69) (fun h=>(by cases h)) (fun _=>?_);refine zap ?_;(try simp only[zah,zaf,zae]);refine y2 _ ?_;(try clear y2 Y2);refine zac ?_;(iterate 2 (refine zab 1 fun Q0 q0=>?_;simp only[↓bO,go_sem,seval,hki,hcl,gM hxm,gM hci,hw1,RNode.cells,za,intC,hkk,hkM,gM hym,gM hck,hw2];refine q0 _ ?_;clear q0 Q0;simp only[go_sem]));simp only[↓bO,go_sem,seval,hki,hcl,gM hxm,gM hci,hw1,RNode.cells,za,intC,hkk,hkM,gM hym,gM hck,hw2];refine ⟨(v+1),⟨by omega,hv.2.next hno⟩,by omega,?_⟩;simp only[zau,zav,zan,zaA,mB,zc,zb,seval,za,zA,zG];refine Weak.sub ?_ ⟨rfl,trivial⟩ (by first | omega | (simp only;omega)) (by first | omega | (simp only;omega)) ?_ ?_;(· simp only[go_sem,Le.refl,Le.any]);(· exact clz6);· exact ⟨by omega,⟨Und.data (RNode.dataSl _),Und.data (zaJ _),trivial⟩,trivial⟩
   ·
    (have hkv:v=s:=by have h9:=hb16;simp at h9;have:=hv.1;omega);refine zaK ?_;simp only[zah,zaf,zae,bA,Nat.reduceEqDiff,↓reduceIte];refine y1 _ ?_;(try clear y1 Y1);refine zac ?_;(iterate 2 (refine zab 1 fun Q0 q0=>?_;simp only[↓bO,go_sem,seval,hki,hcl,gM hxm,gM hci,hw1,RNode.cells,za,intC];refine q0 _ ?_;clear q0 Q0;simp only[go_sem]));simp only[↓bO,go_sem,seval,hki,hcl,gM hxm,gM hci,hw1,RNode.cells,za,intC];refine ⟨(s+1),⟨by omega,(hkv▸hv.2).row⟩,by omega,?_⟩;simp only[zau,zav,zan,zaA,mB,zc,zb,seval,hki,hcl,gM hxm,gM hci,hw1,RNode.cells,za,zA,zG,intC];exact zbl
  ·
   (have hks:s=M.length:=by have h9:=hb11;simp at h9;have:=hs.1;omega);refine zaK ?_;simp only[zah,zaf,zae,bA,Nat.reduceEqDiff,↓reduceIte];refine y0 _ ?_;(try clear y0 Y0);refine zad fun Y0 y0=>?_;refine zac ?_;simp only[↓bO,go_sem,seval];refine y0 _ ?_;(try clear y0 Y0);refine zaq ?_;(try simp only[zah,zaf,zae,za1,zaZ,zaE,bS,bA]);rw[(hks▸hs.2:NoCl M c M.length 0).all];exact Le.refl _
end Go.Proofs.YtjjjckjebkmnjaaGreat
namespace Go.Proofs.YtjjjckjebkmnjaaGreat
open Go Go.RowKit
attribute [local irreducible] aops zaV
theorem zgU {P:Nat→Bool} {s:Nat} (h:∀j,j<s→P j=false) (hs:P s=false):∀j,j<s+1→P j=false:=fun j hj=>by
  (rcases zM j s with h1 | h1);· exact h j h1
  · have:j=s:=by omega
    exact this▸hs
theorem ziv (M:List RNode) (c:List Int) (i:Nat) (hi:i<M.length) (hcl:c.length=M.length) (hMl:M.length≤1048576):APure Tryz.prog 60 [.agg [.sl 4 (M.map RNode.cells),.sl 1 (c.map intC)],.v (.int .i64 (i:Int))] (.v (.int .i64 (zbt M c i))):=by
  refine APure.mkL (.cons (RNode.oneData M c) (.cons (.v _) .nil)) (.v _) ?_;refine zaj Tryz.func60 (by kernel_rfl) rfl (by rw[Tryz.ntmps60];simp) (fun hm=>?_);simp only[Tryz.ntmps60,Tryz.results60,zh,zm,Nat.reduceAdd,Nat.reduceSub,zu,zw,zi,zj];obtain ⟨z,hzc⟩:∃z,c[i]?=some z:=⟨_,ze (by omega)⟩;refine zad fun Y0 y0=>?_;refine zac ?_;refine zab 1 fun Q0 q0=>?_;simp only[↓bO,go_sem,seval];refine q0 _ ?_;clear q0 Q0;simp only[go_sem];simp only[↓bO,go_sem,seval];refine y0 _ ?_;(try clear y0 Y0);refine zad fun Y0 y0=>?_;refine zad fun Y1 y1=>?_;refine zac ?_;simp only[↓bO,go_sem,seval];refine y1 _ ?_;(try clear y1 Y1);refine zao ?_;refine zaG (σ:=Nat) (mB 35 38) (fun s=>s≤M.length∧∀j,j<s→zbi M c i j=false) (fun s=>[(5,.v (.int .i64 (s:Int)))]) (fun s=>[]) (fun s=>M.length-s) 0 (⟨Nat.zero_le _,fun j hj=>by omega⟩) ?_ (fun s hs=>?_)
  ·
   simp only[zau,zav,zan,zaA,mB,zc,zb,seval];exact zbl
  simp only[zau,zav,zan,zaA,mB,zc,zb,seval];refine zad fun Y1 y1=>?_;refine zad fun Y2 y2=>?_;refine zac ?_;(iterate 4 (refine zab 1 fun Q0 q0=>?_;simp only[↓bO,go_sem,seval];refine q0 _ ?_;clear q0 Q0;simp only[go_sem]));simp only[↓bO,go_sem,seval];refine y2 _ ?_;(try clear y2 Y2);refine zak rfl (fun hb10=>?_) (fun hb10=>?_)
  ·
   (have hki:s<M.length:=by simpa using hb10);obtain ⟨x,hxm⟩:∃x,M[s]?=some x:=⟨_,ze hki⟩;obtain ⟨y,hyc⟩:∃z,c[s]?=some z:=⟨_,ze (by omega)⟩;have hw1:IntKind.i64.wrap ((s:Int)+1)=(s:Int)+1:=zaO (by omega) (by omega);have hwat:=zin hxm hyc hzc;refine zap ?_;(try simp only[zah,zaf,zae]);refine y1 _ ?_;(try clear y1 Y1);refine zad fun Y1 y1=>?_;refine zao ?_;refine zad fun Y2 y2=>?_;refine zaU 21 mixed (by kernel_rfl) fun J0 j0=>?_;(iterate 12 (simp only[go_sem];refine zaw 1 fun Q0 q0=>?_;simp only[↓zaV,↓dOp,↓bO,go_sem,seval,hki,hi,hcl,gM hxm,gM hyc,gM hzc,hw1,RNode.cells,za,intC];refine q0 _ ?_;clear q0 Q0));simp only[go_sem];refine zbp 24 rfl (fun hc24=>?_) (fun hc24=>?_)
   ·
    simp only[zc,zb];(have hcc:y=z:=by simpa using hc24);(iterate 8 (refine zaw 1 fun Q0 q0=>?_;simp only[↓zaV,↓dOp,↓bO,go_sem,seval,hki,hi,hcl,gM hxm,gM hyc,gM hzc,hw1,RNode.cells,za,intC];refine q0 _ ?_;clear q0 Q0;simp only[go_sem]));simp only[↓zaV,↓dOp,↓bO,go_sem,seval,hki,hi,hcl,gM hxm,gM hyc,gM hzc,hw1,RNode.cells,za,intC];refine j0 _ ?_;clear j0 J0;simp only[bL,aops,zah,zaf,zae];refine y2 _ ?_;(try clear y2 Y2);refine zak rfl (fun hb33=>?_) (fun hb33=>?_)
    ·
     (have hk1:¬x.t.k=1:=by simpa using hb33);(have hyes:zbi M c i s=true:=by rw[hwat,decide_eq_true hcc,show decide (x.t.k≠1)=true from decide_eq_true hk1];rfl);have hres:=zgF hki hyes hs.2;refine zad fun Y2 y2=>?_;refine zac ?_;refine zab 1 fun Q0 q0=>?_;simp only[↓bO,go_sem,seval,hki,hi,hcl,gM hxm,gM hyc,gM hzc,hw1,RNode.cells,za,intC];refine q0 _ ?_;clear q0 Q0;simp only[go_sem];simp only[↓bO,go_sem,seval,hki,hi,hcl,gM hxm,gM hyc,gM hzc,hw1,RNode.cells,za,intC];refine y2 _ ?_;(try clear y2 Y2);refine zaq ?_;(try simp only[zah,zaf,zae,za1,zaZ,zaE,bS,bA]);rw[hres];exact Le.refl _
    ·
     (have hk1:x.t.k=1:=by simpa using hb33);(have hno:zbi M c i s=false:=by rw[hwat,show decide (x.t.k≠1)=false from decide_eq_false (fun h=>h hk1),Bool.and_false]);refine zap ?_;(try simp only[zah,zaf,zae]);refine y1 _ ?_;(try clear y1 Y1);refine zac ?_;(iterate 2 (refine zab 1 fun Q0 q0=>?_;simp only[↓bO,go_sem,seval,hki,hi,hcl,gM hxm,gM hyc,gM hzc,hw1,RNode.cells,za,intC];refine q0 _ ?_;clear q0 Q0;simp only[go_sem]));simp only[↓bO,go_sem,seval,hki,hi,hcl,gM hxm,gM hyc,gM hzc,hw1,RNode.cells,za,intC];refine ⟨(s+1),⟨by omega,zgU hs.2 hno⟩,by omega,?_⟩;simp only[zau,zav,zan,zaA,mB,zc,zb,seval,hki,hi,hcl,gM hxm,gM hyc,gM hzc,hw1,RNode.cells,za,zA,zG,intC];exact zbl
   ·
    simp only[zc,zb];(have hnc:¬y=z:=by simpa using hc24);(have hno:zbi M c i s=false:=by rw[hwat,decide_eq_false hnc,Bool.false_and]);(iterate 8 (refine zaw 1 fun Q0 q0=>?_;simp only[↓zaV,↓dOp,↓bO,go_sem,seval,hki,hi,hcl,gM hxm,gM hyc,gM hzc,hw1,RNode.cells,za,intC];refine q0 _ ?_;clear q0 Q0;simp only[go_sem]));simp only[↓zaV,↓dOp,↓bO,go_sem,seval,hki,hi,hcl,gM hxm,gM hyc,gM hzc,hw1,RNode.cells,za,intC];refine j0 _ ?_;clear j0 J0;simp only[bL,aops,zah,zaf,zae];refine y2 _ ?_;(try clear y2 Y2);refine zak (b:=false) (by first | exact rfl | exact congrArg (fun b=>AV.v (.bool b)) hb33) (fun h=>(by cases h)) (fun _=>?_);refine zap ?_;(try simp only[zah,zaf,zae]);refine y1 _ ?_;(try clear y1 Y1);refine zac ?_;(iterate 2 (refine zab 1 fun Q0 q0=>?_;simp only[↓bO,go_sem,seval,hki,hi,hcl,gM hxm,gM hyc,gM hzc,hw1,RNode.cells,za,intC];refine q0 _ ?_;clear q0 Q0;simp only[go_sem]));simp only[↓bO,go_sem,seval,hki,hi,hcl,gM hxm,gM hyc,gM hzc,hw1,RNode.cells,za,intC];refine ⟨(s+1),⟨by omega,zgU hs.2 hno⟩,by omega,?_⟩;simp only[zau,zav,zan,zaA,mB,zc,zb,seval,hki,hi,hcl,gM hxm,gM hyc,gM hzc,hw1,RNode.cells,za,zA,zG,intC];exact zbl
  ·
   (have hks:s=M.length:=by have h9:=hb10;simp at h9;have:=hs.1;omega);have hres:=wholeI_no (m:=M) (c:=c) (i:=i) (hks▸hs.2);refine zaK ?_;simp only[zah,zaf,zae,bA,Nat.reduceEqDiff,↓reduceIte];refine y0 _ ?_;(try clear y0 Y0);refine zad fun Y0 y0=>?_;refine zac ?_;simp only[↓bO,go_sem,seval];refine y0 _ ?_;(try clear y0 Y0);refine zaq ?_;(try simp only[zah,zaf,zae,za1,zaZ,zaE,bS,bA]);rw[hres];exact Le.refl _
end Go.Proofs.YtjjjckjebkmnjaaGreat
namespace Go.Proofs.YtjjjckjebkmnjaaGreat
open Go Go.RowKit
attribute [local irreducible] aops zaV
theorem Und.eptr {n:Nat} {cs:List AV} (h:UndL n cs):Und n (.eptr cs):=fun E A w u hr=>by
  cases hr with
  | eptr g hcell hh=>exact .eptr g hcell fun j c hc=>h.mem c (zn hc) E A w _ (hh j c hc)
structure PSt (l:List (Ty×Ty)) (M:List RNode) (c:List Int) (S:CS):Prop where
  h:Holds l S
  hc:ColE l c
  m:M=(eqF l).1
  len:M.length≤1048576
  keys:S.G.V.map Prod.fst=vns M
theorem PSt.fsame {l:List (Ty×Ty)} {M:List RNode} {c:List Int} {S:CS} {F1:FS} (h:PSt l M c S) (k:FSame S.F F1):PSt l M c {S with F:=F1}:=⟨h.h.fsame k rfl,h.hc,h.m,h.len,h.keys⟩
theorem PSt.h64 {l:List (Ty×Ty)} {M:List RNode} {c:List Int} {S:CS} (h:PSt l M c S):∀q∈S.G.V,is64 q.1:=fun q hq=>vns_64 h.h.2.rel q.1 (by rw[← h.m,← h.keys];exact zP.2 ⟨q,hq,rfl⟩)
theorem PSt.vl {l:List (Ty×Ty)} {M:List RNode} {c:List Int} {S:CS} (h:PSt l M c S):S.G.V.length≤1048576:=by
  have h1:=congrArg List.length h.keys;rw[zY] at h1;(have h2:(vns M).length≤M.length:=by unfold vns;rw[zY];exact List.length_filter_le _ _);have h3:=h.len;omega
theorem PSt.sort {l:List (Ty×Ty)} {M:List RNode} {c:List Int} {S:CS} (h:PSt l M c S):zcx (S.G.V.map Prod.fst)=zbc M:=by rw[h.keys,zf2]
theorem PSt.col {l:List (Ty×Ty)} {M:List RNode} {c:List Int} {S:CS} (h:PSt l M c S):c.length=M.length:=by rw[h.m];exact h.hc.len
theorem PSt.nl {l:List (Ty×Ty)} {M:List RNode} {c:List Int} {S:CS} (h:PSt l M c S):S.F.up.length=M.length:=by rw[h.h.2.w.c.fl,h.h.2.w.c.wl,h.m,h.h.2.rel.len]
theorem PSt.least {l:List (Ty×Ty)} {M:List RNode} {c:List Int} {S:CS} (h:PSt l M c S) {i r:Nat} (hi:i<M.length) (hr:Rt S.F.up i r):leastV S r (zcx (S.G.V.map Prod.fst))=((clsN M c i (zbc M)).head?).getD (-1):=by
  rw[h.sort];have hm:=h.m;subst hm;exact h.h.least_eq h.hc hi hr
structure PAt (M:List RNode) (c:List Int) (S:CS) (i:Nat) (x:Int):Prop where
  no:x<0→zbt M c i=-1∧zia M c i=0
  yes:0≤x→∃(k:Nat) (g:GNode) (y:RNode),zbt M c i=(k:Int)∧S.G.N[x.toNat]?=some g∧M[k]?=some y∧zia M c i=g.k∧1≤g.k∧g.parts.length=y.parts.length∧g.parts.length≤8∧(∀p∈g.parts,0≤p∧p<(S.F.up.length:Int)) ∧
    ∀(j:Nat) (p q:Int),g.parts[j]?=some p→y.parts[j]?=some q→0≤q∧q<(M.length:Int)∧∀r',Rt S.F.up p.toNat r'→Rt S.F.up q.toNat r'
theorem PSt.part {l:List (Ty×Ty)} {M:List RNode} {c:List Int} {S:CS} (h:PSt l M c S) {i r:Nat} {x:Int} (hi:i<M.length) (hr:Rt S.F.up i r) (hx:S.W[r]?=some x):PAt M c S i x:=by
  have hm:=h.m;subst hm;have h1:=h.h.part h.hc hi hr hx;exact ⟨h1.no,h1.yes⟩
theorem PAt.g0 {M:List RNode} {c:List Int} {S:CS} {i:Nat} {x:Int} (h:PAt M c S i x):0≤x→∃g,S.G.N[x.toNat]?=some g∧1≤g.k∧g.parts.length≤8∧∀p∈g.parts,0≤p∧p<(S.F.up.length:Int):=fun h1=>by
  obtain ⟨_,g,_,_,h2,_,_,h3,_,h4,h5,_⟩:=h.yes h1;exact ⟨g,h2,h3,h4,h5⟩
theorem PAt.neg {M:List RNode} {c:List Int} {S:CS} {i:Nat} {x:Int} (h:PAt M c S i x):x<0↔zbt M c i<0:=by
  constructor;· intro h1;have:=(h.no h1).1;omega
  · intro h1
    (rcases Int.lt_or_le x 0 with h2 | h2);· exact h2
    · obtain ⟨k,_,_,h3,_⟩:=h.yes h2
      omega
def Roots (S:CS) (x:Int) (rs:List Nat):Prop:=(x<0∧rs=[])∨(0≤x∧∃g,S.G.N[x.toNat]?=some g∧rs.length=g.parts.length∧∀(j:Nat) (p:Int) (q:Nat),g.parts[j]?=some p→rs[j]?=some q→Rt S.F.up p.toNat q)
end Go.Proofs.YtjjjckjebkmnjaaGreat
namespace Go.Proofs.YtjjjckjebkmnjaaGreat
open Go Go.RowKit
theorem var_at {l:List (Ty×Ty)} {M:List RNode} {c:List Int} {S:CS} (h:PSt l M c S) {a:Int} {q:Nat} (hq:zb3 (RNode.isVar a) M=(q:Int)):za3 S.G.V a=some (q:Int):=by
  have hm:=h.m;subst hm;(rcases h.h.vf a with ⟨_,h2⟩ | ⟨j,h1,h2,h3⟩);· omega
  · obtain rfl:j=q:=by omega
    exact h1
theorem PSt.g0 {l:List (Ty×Ty)} {M:List RNode} {c:List Int} {S:CS} (h:PSt l M c S):∀(r:Nat) (x:Int),Rt S.F.up r r→S.W[r]?=some x→0≤x→∃g,S.G.N[x.toNat]?=some g∧1≤g.k∧g.parts.length≤8∧∀p∈g.parts,0≤p∧p<(S.F.up.length:Int):=fun r x hr hx h0 =>
  (h.part (by rw[← h.nl];exact hr.lt) hr hx).g0 h0
end Go.Proofs.YtjjjckjebkmnjaaGreat
