/- Texts of the abstract walk, of the contracts and of the plain laws, packed (part 48 of 50): Ur4 UmK CyN. Conditions: none. -/
import Derived.Test.YtjjjckjebkmnjaaGreatPk47
namespace Go.Proofs.YtjjjckjebkmnjaaGreat
open Go Go.RowKit
set_option maxRecDepth 100000
set_option maxHeartbeats 4000000
set_option linter.unusedSimpArgs false
set_option linter.unusedVariables false
attribute [local irreducible] aops zaT
def Ty.big (t:Ty):Bool:=decide (t.room 100 30<0)
theorem Ty.big_cnt {t:Ty} (h:t.big=false):t.cnt≤100:=by
  simp only[Ty.big,zl] at h;have:=Ty.room_cnt t 100 30 (by omega) (by omega);omega
def bigE (e:Ty×Ty):Bool:=e.1.big||e.2.big
def zey (l:List (Ty×Ty)):Bool:=(l.take 30).any bigE||decide (20<l.length)||decide (160<zb8 (l.take 30))
theorem zcM {l:List (Ty×Ty)} {s:Nat} {e:Ty×Ty} (hp:l[s]?=some e) (hs:s<30) (h:bigE e=true):zey l=true:=by
  have h1:(l.take 30).any bigE=true:=zd4 (i:=s) (p:=e) (by rw[List.getElem?_take,if_pos hs];exact hp) h;simp only[zey,h1,Bool.true_or]
theorem zh2 {l:List (Ty×Ty)} {s:Nat} (hs:¬(s<l.length∧s<30)) (h1:s≤l.length) (h2:s≤30) (h:∀(i:Nat) (p:Ty×Ty),i<s→l[i]?=some p→bigE p=false) :
    zey l=(decide (20<l.length)||decide (160<zb8 (l.take s))):=by
  have e:l.take 30=l.take s:=by
    rcases zL s 30 with h3 | h3
    · have h4:s=l.length:=by omega
      subst h4;rw[zY,List.take_of_length_le (by omega)]
    · rw[show s=30 by omega]
  have h0:(l.take s).any bigE=false:=zeb fun i p hi hp=>by
    rw[List.getElem?_take] at hp;(split at hp);(· exact h i p (by assumption) hp);· cases hp
  simp only[zey,e,h0,Bool.false_or]
theorem zgZ {l:List (Ty×Ty)} (h:zey l=false):l.length≤20∧zb8 l≤160:=by
  simp only[zey,Bool.or_eq_false_iff,zl] at h;obtain ⟨⟨h1,h2⟩,h3⟩:=h;rw[List.take_of_length_le (by omega)] at h3;exact ⟨by omega,by omega⟩
theorem sumP_step {l:List (Ty×Ty)} {s:Nat} {e:Ty×Ty} (h:l[s]?=some e):zb8 (l.take (s+1))=zb8 (l.take s)+(e.1.cnt+e.2.cnt):=by
  rw[List.take_add_one,h];exact zco _ _
theorem zhb:∀(T:Ty) (n:Int) (d:Nat) (hn:0≤n) (hn2:n≤1099511627776) (hd:d≤1099511627776),APure Tryz.prog 44 [.agg T.cells,.v (.int .i64 n),.v (.int .i64 d)] (.v (.int .i64 (T.room n d))):=by
  refine Ty.ind fun T ih=>?_;intro n d hn hn2 hd;refine APure.mkL (.cons T.dataAgg (.cons (.v _) (.cons (.v _) .nil))) (.v _) ?_;refine zai Tryz.func44 (by kernel_rfl) rfl (by rw[Tryz.ntmps44];simp) (fun hm=>?_);simp only[Tryz.ntmps44,Tryz.results44,zh,zk,Nat.reduceAdd,Nat.reduceSub,zw,zu,zi,zj];have hm1:=hm.wide (t:=T) (by simp);have hw1:IntKind.i64.wrap (n-1)=n-1:=zaN (by omega) (by omega);(iterate 2 (refine zab fun Y0 y0=>?_;refine zaa ?_;simp only[↓bO,go_sem,seval,hw1];refine y0 _ ?_;(try clear y0 Y0)));refine zab fun Y0 y0=>?_;refine zab fun Y1 y1=>?_;refine zaa ?_;simp only[↓bO,go_sem,seval,hw1];refine y1 _ ?_;(try clear y1 Y1);refine zak rfl (fun hb11=>?_) (fun hb11=>?_)
  ·
   (have hd0:d=0:=by simpa using hb11);refine zab fun Y1 y1=>?_;refine zaa ?_;simp only[↓bO,go_sem,seval,hw1];refine y1 _ ?_;(try clear y1 Y1);refine zan ?_;(try simp only[zaf,zad,zac,zaY,zaX,zaC,bS,bA]);refine Le.of_eq (congrArg (fun n=>AV.v (.int .i64 n)) ?_);(first | (rw[hd0,Ty.room_zero];done) | skip);all_goals (rw[Ty.room_succ];simp only[zl] at hb20;rcases zL s T.ps.length with h5 | h5 <;> first | (rw[List.take_of_length_le h5];done) | (rw[Ty.roomL_stop T.ps s _ _ (by omega)];done))
  ·
   obtain ⟨e,rfl⟩:∃e,d=e+1:=⟨d-1,by simp at hb11;omega⟩;(have hw2:IntKind.i64.wrap ((e:Int)+1-1)=(e:Int):=by rw[zaN (by omega) (by omega)];omega);refine zar ?_;(try simp only[zaf,zad,zac]);refine y0 _ ?_;(try clear y0 Y0);refine zab fun Y0 y0=>?_;refine zab fun Y1 y1=>?_;refine zaa ?_;simp only[↓bO,go_sem,seval,hw1];refine y1 _ ?_;(try clear y1 Y1);refine zao ?_;refine zaH (σ:=Nat) (mB 33 142) (fun s=>s≤T.ps.length) (fun s=>[(1,.v (.int .i64 (Ty.roomL (T.ps.take s) (n-1) e))),(7,.v (.int .i64 (s:Int)))]) (fun s=>[]) (fun s=>T.ps.length-s) 0 (by omega) ?_ (fun s hs=>?_)
   ·
    simp only[zau,zav,zam,zay,mB,zc,zb,seval,bL,Ty.roomL];exact zbi
   simp only[zau,zav,zam,zay,mB,zc,zb,seval];refine zab fun Y1 y1=>?_;refine zbx (mB 33 1048718) ([(20,.v (.bool (decide (s<T.ps.length∧0≤Ty.roomL (T.ps.take s) (n-1) e))))]) ([]) ?_ ?_
   ·
    refine zaa ?_;refine z8 4 fun Q0 q0=>?_;simp only[↓bO,go_sem,seval,hw1];refine q0 _ ?_;clear q0 Q0;simp only[go_sem];refine z8 2 fun Q0 q0=>?_;simp only[↓bO,go_sem,seval,hw1];refine q0 _ ?_;clear q0 Q0;simp only[go_sem];refine zaA 17 rfl (fun hc17=>?_) (fun hc17=>?_)
    ·
     simp only[zc,zb];simp only[↓bO,go_sem,seval,hw1];(try simp only[zau,zav,zam,zay,mB,zc,zb,seval]);refine Weak.mk ?_ (fun _ _ h=>h) rfl rfl;simp only[go_sem,Le.refl,Le.any];all_goals (refine Le.of_eq (congrArg (fun b=>AV.v (.bool b)) ?_);rw[zM];simp only[zn,zl,ge_iff_le,zR,false_iff,Int.ofNat_lt] at *;omega)
    ·
     simp only[zc,zb];simp only[↓bO,go_sem,seval,hw1];(try simp only[zau,zav,zam,zay,mB,zc,zb,seval]);refine Weak.mk ?_ (fun _ _ h=>h) rfl rfl;simp only[go_sem,Le.refl,Le.any];all_goals (refine Le.of_eq (congrArg (fun b=>AV.v (.bool b)) ?_);rw[zM];simp only[zn,zl,ge_iff_le,zR,false_iff,Int.ofNat_lt] at *;omega)
   simp only[zau,zav,zam,zay,mB,zc,zb,seval];refine zak rfl (fun hb20=>?_) (fun hb20=>?_)
   ·
    (have hk:s<T.ps.length:=by simp only[zn] at hb20;exact hb20.1);obtain ⟨p,hp⟩:∃p,T.ps[s]?=some p:=⟨_,ze hk⟩;have hw:IntKind.i64.wrap ((s:Int)+1)=(s:Int)+1:=zaN (by omega) (by have:=hm1.len;simp only[maxLen] at this;omega);(have hrm:0≤Ty.roomL (T.ps.take s) (n-1) e:=by simp only[zn] at hb20;exact hb20.2);have hrl:=Ty.roomL_le (T.ps.take s) (n-1) e (by omega);refine zar ?_;(try simp only[zaf,zad,zac]);refine y1 _ ?_;(try clear y1 Y1);refine zab fun Y1 y1=>?_;refine zao ?_;refine zaa ?_;(iterate 2 (refine z8 4 fun Q0 q0=>?_;simp only[↓bO,go_sem,seval,hw1,hk,gM hp,za,hw,Ty.roomL_step hp (n-1) e hrm,hw2];refine q0 _ ?_;clear q0 Q0;simp only[go_sem]));refine z8 1 fun Q0 q0=>?_;simp only[↓bO,go_sem,seval,hw1,hk,gM hp,za,hw,Ty.roomL_step hp (n-1) e hrm,hw2];refine APure.call (ih p (zp hp) _ e hrm (by omega) (by omega)) ?_;(try simp only[bS,bA,zaf,zad,zac]);refine q0 _ ?_;clear q0 Q0;simp only[go_sem];simp only[↓bO,go_sem,seval,hw1,hk,gM hp,za,hw,Ty.roomL_step hp (n-1) e hrm,hw2];refine y1 _ ?_;(try clear y1 Y1);refine zaa ?_;simp only[↓bO,go_sem,seval,hw1,hk,gM hp,za,hw,Ty.roomL_step hp (n-1) e hrm,hw2];refine ⟨(s+1),(by omega),by omega,?_⟩;simp only[zau,zav,zam,zay,mB,zc,zb,seval,hk,gM hp,za,zD,hw,Ty.roomL_step hp (n-1) e hrm,hw2];exact zbi
   ·
    refine zaJ ?_;simp only[zaf,zad,zac,bA,Nat.reduceEqDiff,↓reduceIte];refine y0 _ ?_;(try clear y0 Y0);refine zab fun Y0 y0=>?_;refine zaa ?_;simp only[↓bO,go_sem,seval,hw1];refine y0 _ ?_;(try clear y0 Y0);refine zan ?_;(try simp only[zaf,zad,zac,zaY,zaX,zaC,bS,bA]);refine Le.of_eq (congrArg (fun n=>AV.v (.int .i64 n)) ?_);(first | (rw[hd0,Ty.room_zero];done) | skip);all_goals (rw[Ty.room_succ];simp only[zl] at hb20;rcases zL s T.ps.length with h5 | h5 <;> first | (rw[List.take_of_length_le h5];done) | (rw[Ty.roomL_stop T.ps s _ _ (by omega)];done))
theorem zfi (T:Ty):APure Tryz.prog 26 [.agg T.cells] (.v (.bool T.big)):=by
  refine APure.mkL (.cons T.dataAgg .nil) (.v _) ?_;refine zai Tryz.func26 (by kernel_rfl) rfl (by rw[Tryz.ntmps26];simp) (fun hm=>?_);simp only[Tryz.ntmps26,Tryz.results26,zh,zk,Nat.reduceAdd,Nat.reduceSub,zw,zu,zi,zj];simp only[Ty.cells_eq T,zi,zj];refine zab fun Y0 y0=>?_;refine zaa ?_;simp only[↓bO,go_sem,seval];refine y0 _ ?_;(try clear y0 Y0);refine zab fun Y0 y0=>?_;refine zaa ?_;refine z8 1 fun Q0 q0=>?_;simp only[↓bO,go_sem,seval];refine q0 _ ?_;clear q0 Q0;simp only[go_sem];refine z8 1 fun Q0 q0=>?_;simp only[↓bO,go_sem,seval];refine APure.call (by have h9:=zhb T 100 30 (by omega) (by omega) (by omega);rw[Ty.cells_eq T] at h9;exact h9) ?_;(try simp only[bS,bA,zaf,zad,zac]);refine q0 _ ?_;clear q0 Q0;simp only[go_sem];simp only[↓bO,go_sem,seval];refine y0 _ ?_;(try clear y0 Y0);refine zan ?_;(try simp only[zaf,zad,zac,zaY,zaX,zaC,bS,bA]);exact Le.of_eq (congrArg (fun b=>AV.v (.bool b)) rfl)
theorem zgp (es:List EqT):APure Tryz.prog 5 [.sl 8 (es.map EqT.cells)] (.v (.bool (zey (es.map EqT.p)))):=by
  refine APure.mkL (.cons (EqT.dataSl es) .nil) (.v _) ?_;refine zai Tryz.func5 (by kernel_rfl) rfl (by rw[Tryz.ntmps5];simp) (fun hm=>?_);simp only[Tryz.ntmps5,Tryz.results5,zh,zk,Nat.reduceAdd,Nat.reduceSub,zw,zu,zi,zj];(iterate 2 (refine zab fun Y0 y0=>?_;refine zaa ?_;simp only[↓bO,go_sem,seval];refine y0 _ ?_;(try clear y0 Y0)));refine zab fun Y0 y0=>?_;refine zab fun Y1 y1=>?_;refine zaa ?_;simp only[↓bO,go_sem,seval];refine y1 _ ?_;(try clear y1 Y1);refine zao ?_;refine zaH (σ:=Nat) (mB 51 25) (fun s=>s≤es.length∧s≤30∧zb8 ((es.map EqT.p).take s)≤200 * s∧∀(i:Nat) (p:Ty×Ty),i<s→(es.map EqT.p)[i]?=some p→bigE p=false) (fun s=>[(3,.v (.int .i64 (zb8 ((es.map EqT.p).take s):Nat))),(4,.v (.int .i64 (s:Int)))]) (fun s=>[]) (fun s=>30-s) 0 (⟨by omega,by omega,by simp[zb8],fun i p hi=>by omega⟩) ?_ (fun s hs=>?_)
  ·
   simp only[zau,zav,zam,zay,mB,zc,zb,seval,bL,zb8,Int.natCast_zero,Int.ofNat_zero,zI];exact zbi
  simp only[zau,zav,zam,zay,mB,zc,zb,seval];refine zab fun Y1 y1=>?_;refine zbx (mB 51 4121) ([(12,.v (.bool (decide (s<es.length∧s<30))))]) ([]) ?_ ?_
  ·
   refine zaa ?_;(iterate 5 (refine z8 1 fun Q0 q0=>?_;simp only[↓bO,go_sem,seval];refine q0 _ ?_;clear q0 Q0;simp only[go_sem]));refine zaA 9 rfl (fun hc9=>?_) (fun hc9=>?_)
   ·
    simp only[zc,zb];(iterate 2 (refine z8 1 fun Q0 q0=>?_;simp only[↓bO,go_sem,seval];refine q0 _ ?_;clear q0 Q0;simp only[go_sem]));simp only[↓bO,go_sem,seval];(try simp only[zau,zav,zam,zay,mB,zc,zb,seval]);refine Weak.mk ?_ (fun _ _ h=>h) rfl rfl;simp only[go_sem,Le.refl,Le.any];all_goals (refine Le.of_eq (congrArg (fun b=>AV.v (.bool b)) ?_);rw[zM];simp only[zn,zl,zR,false_iff,Int.ofNat_lt] at *;omega)
   ·
    simp only[zc,zb];(iterate 2 (refine z8 1 fun Q0 q0=>?_;simp only[↓bO,go_sem,seval];refine q0 _ ?_;clear q0 Q0;simp only[go_sem]));simp only[↓bO,go_sem,seval];(try simp only[zau,zav,zam,zay,mB,zc,zb,seval]);refine Weak.mk ?_ (fun _ _ h=>h) rfl rfl;simp only[go_sem,Le.refl,Le.any];all_goals (refine Le.of_eq (congrArg (fun b=>AV.v (.bool b)) ?_);rw[zM];simp only[zn,zl,zR,false_iff,Int.ofNat_lt] at *;omega)
  simp only[zau,zav,zam,zay,mB,zc,zb,seval];refine zak rfl (fun hb12=>?_) (fun hb12=>?_)
  ·
   (have hk0:s<es.length∧s<30:=by simpa using hb12);have hk:s<es.length:=hk0.1;obtain ⟨e,he⟩:∃e,es[s]?=some e:=⟨_,ze hk⟩;(have hep:(es.map EqT.p)[s]?=some e.p:=by rw[zW,he];rfl);have hss:=sumP_step hep;simp only[EqT.p] at hss;have hw:IntKind.i64.wrap ((s:Int)+1)=(s:Int)+1:=zaN (by omega) (by omega);refine zar ?_;(try simp only[zaf,zad,zac]);refine y1 _ ?_;(try clear y1 Y1);refine zab fun Y1 y1=>?_;refine zao ?_;refine zab fun Y2 y2=>?_;refine zab fun Y3 y3=>?_;refine zaa ?_;(iterate 5 (refine z8 1 fun Q0 q0=>?_;simp only[↓bO,go_sem,seval,hk,gM he,EqT.cells,Ty.refold,za,hw];refine q0 _ ?_;clear q0 Q0;simp only[go_sem]));refine z8 1 fun Q0 q0=>?_;simp only[↓bO,go_sem,seval,hk,gM he,EqT.cells,Ty.refold,za,hw];refine APure.call (zfi e.l) ?_;(try simp only[bS,bA,zaf,zad,zac]);refine q0 _ ?_;clear q0 Q0;simp only[go_sem];refine z8 1 fun Q0 q0=>?_;simp only[↓bO,go_sem,seval,hk,gM he,EqT.cells,Ty.refold,za,hw];refine q0 _ ?_;clear q0 Q0;simp only[go_sem];refine zaA 21 rfl (fun hc21=>?_) (fun hc21=>?_)
   ·
    simp only[zc,zb];(have hyb:bigE e.p=true:=by (have h9:e.l.big=true:=by simpa using hc21);exact (by rw[bigE,show e.p.1.big=true from h9];rfl));(iterate 6 (refine z8 1 fun Q0 q0=>?_;simp only[↓bO,go_sem,seval,hk,gM he,EqT.cells,Ty.refold,za,hw];refine q0 _ ?_;clear q0 Q0;simp only[go_sem]));simp only[↓bO,go_sem,seval,hk,gM he,EqT.cells,Ty.refold,za,hw];refine y3 _ ?_;(try clear y3 Y3);refine zak (b:=true) (by first | exact rfl | exact congrArg (fun b=>AV.v (.bool b)) hb28) (fun _=>?_) (fun h=>(by cases h));refine zab fun Y3 y3=>?_;refine zaa ?_;simp only[↓bO,go_sem,seval,hk,gM he,EqT.cells,Ty.refold,za,hw];refine y3 _ ?_;(try clear y3 Y3);refine zan ?_;(try simp only[zaf,zad,zac,zaY,zaX,zaC,bS,bA]);refine Le.of_eq (congrArg (fun b=>AV.v (.bool b)) ?_);(first | (rw[zcM hep (by omega) hyb];done) | skip);all_goals (rw[hg1,zM];simp only[Bool.or_eq_true,zn,zl,true_iff,zR,false_iff] at *;omega)
   ·
    simp only[zc,zb];(have hb1:e.l.big=false:=by simpa using hc21);(iterate 5 (refine z8 1 fun Q0 q0=>?_;simp only[↓bO,go_sem,seval,hk,gM he,EqT.cells,Ty.refold,za,hw];refine q0 _ ?_;clear q0 Q0;simp only[go_sem]));refine z8 1 fun Q0 q0=>?_;simp only[↓bO,go_sem,seval,hk,gM he,EqT.cells,Ty.refold,za,hw];refine APure.call (zfi e.r) ?_;(try simp only[bS,bA,zaf,zad,zac]);refine q0 _ ?_;clear q0 Q0;simp only[go_sem];simp only[↓bO,go_sem,seval,hk,gM he,EqT.cells,Ty.refold,za,hw];refine y3 _ ?_;(try clear y3 Y3);refine zak rfl (fun hb28=>?_) (fun hb28=>?_)
    ·
     (have hyb:bigE e.p=true:=by (have h9:e.r.big=true:=by simpa using hb28);exact (by rw[bigE,show e.p.2.big=true from h9,Bool.or_true]));refine zab fun Y3 y3=>?_;refine zaa ?_;simp only[↓bO,go_sem,seval,hk,gM he,EqT.cells,Ty.refold,za,hw];refine y3 _ ?_;(try clear y3 Y3);refine zan ?_;(try simp only[zaf,zad,zac,zaY,zaX,zaC,bS,bA]);refine Le.of_eq (congrArg (fun b=>AV.v (.bool b)) ?_);(first | (rw[zcM hep (by omega) hyb];done) | skip);all_goals (rw[hg1,zM];simp only[Bool.or_eq_true,zn,zl,true_iff,zR,false_iff] at *;omega)
    ·
     (have hb2:e.r.big=false:=by simpa using hb28);(have hnb:bigE e.p=false:=by rw[bigE,show e.p.1.big=false from hb1,show e.p.2.big=false from hb2];rfl);have hpc1:=Ty.big_cnt hb1;have hpc2:=Ty.big_cnt hb2;have hsz1:=Ty.sizeW_cnt e.l (by omega);have hsz2:=Ty.sizeW_cnt e.r (by omega);(have hw2:IntKind.i64.wrap ((zb8 ((es.map EqT.p).take s):Int)+e.l.sizeW)=(zb8 ((es.map EqT.p).take s):Int)+e.l.cnt:=by rw[hsz1,zaN (by omega) (by omega)]);(have hw3:IntKind.i64.wrap ((zb8 ((es.map EqT.p).take s):Int)+e.l.cnt+e.r.sizeW)=(zb8 ((es.map EqT.p).take (s+1)):Int):=by rw[hsz2,zaN (by omega) (by omega)];omega);refine zar ?_;(try simp only[zaf,zad,zac]);refine y2 _ ?_;(try clear y2 Y2);refine zaV 15 mixed (by kernel_rfl) fun J0 j0=>?_;(iterate 6 (simp only[go_sem];refine zaw 1 fun Q0 q0=>?_;simp only[↓zaT,↓dOp,↓bO,go_sem,seval,hk,gM he,EqT.cells,Ty.refold,za,hw,hw2,hw3];refine q0 _ ?_;clear q0 Q0));simp only[go_sem];refine zaw 1 fun Q0 q0=>?_;simp only[↓zaT,↓dOp,↓bO,go_sem,seval,hk,gM he,EqT.cells,Ty.refold,za,hw,hw2,hw3];refine ⟨_,zgJ e.l,?_⟩;(try simp only[bS,bA,zaf,zad,zac]);(iterate 7 (refine q0 _ ?_;clear q0 Q0;simp only[go_sem];refine zaw 1 fun Q0 q0=>?_;simp only[↓zaT,↓dOp,↓bO,go_sem,seval,hk,gM he,EqT.cells,Ty.refold,za,hw,hw2,hw3]));refine ⟨_,zgJ e.r,?_⟩;(try simp only[bS,bA,zaf,zad,zac]);refine q0 _ ?_;clear q0 Q0;simp only[go_sem];simp only[↓zaT,↓dOp,↓bO,go_sem,seval,hk,gM he,EqT.cells,Ty.refold,za,hw,hw2,hw3];refine j0 _ ?_;clear j0 J0;simp only[go_sem];simp only[↓bO,go_sem,seval,hk,gM he,EqT.cells,Ty.refold,za,hw,hw2,hw3];refine y1 _ ?_;(try clear y1 Y1);refine zaa ?_;(iterate 2 (refine z8 1 fun Q0 q0=>?_;simp only[↓bO,go_sem,seval,hk,gM he,EqT.cells,Ty.refold,za,hw,hw2,hw3];refine q0 _ ?_;clear q0 Q0;simp only[go_sem]));simp only[↓bO,go_sem,seval,hk,gM he,EqT.cells,Ty.refold,za,hw,hw2,hw3];refine ⟨(s+1),⟨by omega,by omega,by omega,fun i p' hi h1=>(by rcases zL i s with h3 | h3 <;> first | exact hs.2.2.2 i p' h3 h1 | (obtain rfl:i=s:=(by omega);rw[hep] at h1;cases h1;exact hnb))⟩,by omega,?_⟩;simp only[zau,zav,zam,zay,mB,zc,zb,seval,hk,gM he,EqT.cells,Ty.refold,za,zD,hw,hw2,hw3];exact zbi
  ·
   (have hk0:¬(s<es.length∧s<30):=by simpa using hb12);have hg1:=zh2 (l:=(es.map EqT.p)) (by rw[z6];exact hk0) (by rw[z6];exact hs.1) hs.2.1 hs.2.2.2;rw[z6] at hg1;refine zaJ ?_;simp only[zaf,zad,zac,bA,Nat.reduceEqDiff,↓reduceIte];refine y0 _ ?_;(try clear y0 Y0);refine zab fun Y0 y0=>?_;refine zaa ?_;(iterate 4 (refine z8 1 fun Q0 q0=>?_;simp only[↓bO,go_sem,seval];refine q0 _ ?_;clear q0 Q0;simp only[go_sem]));refine zaA 47 rfl (fun hc47=>?_) (fun hc47=>?_)
   ·
    simp only[zc,zb];(iterate 3 (refine z8 1 fun Q0 q0=>?_;simp only[↓bO,go_sem,seval];refine q0 _ ?_;clear q0 Q0;simp only[go_sem]));simp only[↓bO,go_sem,seval];refine y0 _ ?_;(try clear y0 Y0);refine zan ?_;(try simp only[zaf,zad,zac,zaY,zaX,zaC,bS,bA]);refine Le.of_eq (congrArg (fun b=>AV.v (.bool b)) ?_);(first | (rw[zcM hep (by omega) hyb];done) | skip);all_goals (rw[hg1,zM];simp only[Bool.or_eq_true,zn,zl,true_iff,zR,false_iff] at *;omega)
   ·
    simp only[zc,zb];(iterate 3 (refine z8 1 fun Q0 q0=>?_;simp only[↓bO,go_sem,seval];refine q0 _ ?_;clear q0 Q0;simp only[go_sem]));simp only[↓bO,go_sem,seval];refine y0 _ ?_;(try clear y0 Y0);refine zan ?_;(try simp only[zaf,zad,zac,zaY,zaX,zaC,bS,bA]);refine Le.of_eq (congrArg (fun b=>AV.v (.bool b)) ?_);(first | (rw[zcM hep (by omega) hyb];done) | skip);all_goals (rw[hg1,zM];simp only[Bool.or_eq_true,zn,zl,true_iff,zR,false_iff] at *;omega)
end Go.Proofs.YtjjjckjebkmnjaaGreat
namespace Go.Proofs.YtjjjckjebkmnjaaGreat
open Go Go.RowKit
theorem zfk (es:List EqT) (h:zb8 (es.map EqT.p)≤160):zb8 ((za3 es).map EqT.p)≤160∧OkE ((za3 es).map EqT.p):=by
  have key:∀l:List EqT,zb8 ((za3 l).map EqT.p)≤zb8 (l.map EqT.p):=fun l=>by
    induction l with
    | nil=>simp[za3]
    | cons e l ih =>
      unfold za3 at ih ⊢;rw[zC];split;(· simp only[zK,zb8];omega);· simp only[zK,zb8];omega
  have h1:=key es;refine ⟨by omega,fun e he=>?_⟩;have h2:=zen he;obtain ⟨x,hx,rfl⟩:=zP.1 he;have h3:=(List.mem_filter.1 hx).2;simp only[EqT.ok,Bool.and_eq_true] at h3;exact ⟨h3.1,h3.2,by omega,by omega⟩
end Go.Proofs.YtjjjckjebkmnjaaGreat
namespace Go.Proofs.YtjjjckjebkmnjaaGreat
open Go Go.RowKit
set_option maxRecDepth 100000
set_option maxHeartbeats 4000000
set_option linter.unusedSimpArgs false
set_option linter.unusedVariables false
attribute [local irreducible] aops zaT
theorem ACalls.freshE {P:Program} {f:Nat} {args:List AV} {σ:Type} {C:σ→Prop} {R R':σ→AV} {os1 os1':σ→Os} {k:Nat} {os':Os} {nx':Nat} {Q':AV→Os→Nat→Prop}
    (h:ACalls P f args [] 0 fun r os n=>(∃s,C s∧r=R s∧os=os1 s)∧n=k) (hd:DataL args) (hR:∀s,RenV (fun i=>nx'+i) (R s) (R' s)) (hnd:∀s,((os1 s).map Prod.fst).Nodup) (hos:∀s,OsRen (fun i=>nx'+i) (os1 s) (os1' s)) (hq:∀s,C s→Q' (R' s) (os1' s++os') (nx'+k)):ACalls P f args os' nx' Q':=by
  have same:∀(l:List AV),DataL l→RenL (fun i=>nx'+i) l l:=by
    intro l hl
    induction l with
    | nil=>trivial
    | cons x l ih=>exact ⟨.data (hl x (by simp)),ih fun y hy=>hl y (by simp[hy])⟩
  refine h.frame (fun i=>nx'+i) (fun i j e=>by simpa using e) (fun i hi=>by omega) (fun i _=>by simp) (same args hd) (fun i ob hg=>by cases hg) ?_;rintro r os1a n1 ⟨⟨s,hs,rfl,rfl⟩,rfl⟩;refine ⟨R' s,os1' s++os',hR s,hq s hs,fun id ob2 hg=>?_⟩;rw[zdm] at hg;split at hg
  · rename_i x hx
    (cases hg);obtain ⟨i,x,e1,_,e3,e4⟩:=(hos s).get id _ hx;exact .inl ⟨i,x,e1,zdn (hnd s) e4,e3⟩
  · exact .inr ⟨hg,fun ⟨i,_,hi⟩=>by omega⟩
theorem Le.slC {sz:Nat} {xs ys:List (List AV)} (hl:ys.length=xs.length) (hy:∀y∈ys,y.length=sz) (hf:LeL xs.flatten ys.flatten):Le (.sl sz xs) (.sl sz ys):=fun E A w u hr =>
  hr.slMap hl (fun _=>hy) hf.length.symm fun j c d u hc hd hk=>by
    obtain ⟨x,hx,hle⟩:=hf.get j d hd;rw[hc] at hx;cases hx;exact hle _ _ _ _ hk
def zf1 (b:Nat) (S:CS):Os:=[((b+7),.tok 133 4 S.G.N.length),((b+6),.row 3 1 (S.W.map intC)),((b+5),.row 3 1 (S.F.rank.map intC)),((b+4),.row 3 1 (S.F.up.map nC)),((b+3),.cells 98 [.v (.int .i64 S.steps),.ptr (b+2) 0,.ptr (b+0) 0,.own (b+6) S.W.length,.v (.bool S.clash)]),((b+2),.cells 114 [.osl (b+7) 4 (S.G.N.map GNode.cells),.map (b+1)]),((b+1),.map (S.G.V.map vC)),((b+0),.cells 111 [.own (b+4) S.F.up.length,.own (b+5) S.F.rank.length,.v (.int .i64 S.F.sets),.v (.int .i64 S.F.steps)])]
theorem coOs_ren (b:Nat) (S:CS):OsRen (fun i=>b+i) (zf1 0 S) (zf1 b S) :=
  ⟨rfl,.tok,rfl,.row (za2 _),rfl,.row (za2 _),rfl,.row (zbl _),rfl,.cells ⟨.v _,.ptr rfl,.ptr rfl,.own rfl,.v _,trivial⟩,rfl,.cells ⟨.osl rfl (GNode.dataRows S.G.N),.map rfl,trivial⟩,rfl,.map (zbg S.G.V),rfl,.cells ⟨.own rfl,.own rfl,.v _,.v _,trivial⟩,trivial⟩
theorem zhm (S:CS):UndOs 8 (zf1 0 S) :=
  ⟨by omega,trivial,by omega,Und.rowI (za2 _),by omega,Und.rowI (za2 _),by omega,Und.rowI (zbl _),by omega,⟨.v _ _,.ptr (by omega),.ptr (by omega),.own (by omega),.v _ _,trivial⟩,by omega,⟨Und.oslG (by omega),.map (by omega),trivial⟩,by omega,fun p hp=>.data (zbg _ p hp),by omega,⟨.own (by omega),.own (by omega),.v _ _,.v _ _,trivial⟩,trivial⟩
theorem zfG {f:Nat} {args:List AV} {C:CS→Prop} (h:ACalls Tryz.prog f args [] 0 fun r os n=>(∃S,C S∧r=.ptr 3 0∧os=zf1 0 S)∧n=8) (hd:DataL args) {os':Os} {nx':Nat} {Q':AV→Os→Nat→Prop}
    (hq:∀S,C S→Q' (.ptr (nx'+3) 0) (zf1 nx' S++os') (nx'+8)):ACalls Tryz.prog f args os' nx' Q' :=
  h.freshE (R:=fun _=>.ptr 3 0) (R':=fun _=>.ptr (nx'+3) 0) (os1:=fun S=>zf1 0 S) (os1':=fun S=>zf1 nx' S) hd (fun _=>.ptr rfl) (fun S=>by simp[zf1]) (coOs_ren nx') hq
theorem NewC_c:ACalls Tryz.prog 27 [] [] 0 fun r os n=>(∃S,S=CS0∧r=.ptr 3 0∧os=zf1 0 S)∧n=8:=by
  refine ACalls.cleanN (n:=8) (C:=fun r os=>∃S,S=CS0∧r=.ptr 3 0∧os=zf1 0 S) (by omega) ?_;refine zai Tryz.func27 (by kernel_rfl) rfl (by rw[Tryz.ntmps27];simp) (fun hm=>?_);simp only[Tryz.ntmps27,Tryz.results27,zh,zk,Nat.reduceAdd,Nat.reduceSub,zw,zu,zi,zj];refine zab fun Y0 y0=>?_;refine zaa ?_;simp only[↓bO,go_sem,seval];refine y0 _ ?_;(try clear y0 Y0);refine zab fun Y0 y0=>?_;refine zaa ?_;refine z8 1 fun Q0 q0=>?_;simp only[↓bO,go_sem,seval];refine UNew_calls.mono ?_;rintro r os' nx' ⟨⟨rfl,rfl⟩,rfl⟩;(try simp only[bS,bA,zaf,zad,zac]);refine q0 _ ?_;clear q0 Q0;simp only[go_sem];refine z8 4 fun Q0 q0=>?_;simp only[↓bO,go_sem,seval];refine q0 _ ?_;clear q0 Q0;simp only[go_sem];simp only[↓bO,go_sem,seval];refine y0 _ ?_;(try clear y0 Y0);refine zab fun Y0 y0=>?_;refine zaa ?_;refine z8 1 fun Q0 q0=>?_;simp only[↓bO,go_sem,seval];refine ACalls.fresh (R':=.ptr 2 0) (os1':=[(2,.cells 114 [.v (.slice none 0 0),.map 1]),(1,.map [])]) New_calls .nil (.ptr rfl) (by decide) ⟨rfl,.cells ⟨.v _,.map rfl,trivial⟩,rfl,.map (by intro p hp;cases hp),trivial⟩ ?_;simp only[zi,zj];(try simp only[bS,bA,zaf,zad,zac]);refine q0 _ ?_;clear q0 Q0;simp only[go_sem];simp only[↓bO,go_sem,seval];refine y0 _ ?_;(try clear y0 Y0);refine zbd (Weak.rowCell 3 1 0 (id:=0) rfl rfl) ?_;simp only[zay,Nat.reduceEqDiff,↓reduceIte,zc,zb,zi,zj];refine zbd (Weak.rowCell 3 1 1 (id:=0) rfl rfl) ?_;simp only[zay,Nat.reduceEqDiff,↓reduceIte,zc,zb,zi,zj];refine zbd (Weak.rowCell 3 1 3 (id:=3) rfl rfl) ?_;simp only[zay,Nat.reduceEqDiff,↓reduceIte,zc,zb,zi,zj];refine zbd (Weak.tokCell 133 4 (id:=2) (t:=114) [.osl 7 4 ([].map GNode.cells),.map 1] rfl ⟨.inr ⟨rfl,rfl⟩,.inl (.refl _),trivial⟩) ?_;simp only[zay,Nat.reduceEqDiff,↓reduceIte,zc,zb,zi,zj];refine zan ?_;(try simp only[zaf,zad,zac,zaY,zaX,zaC,bS,bA]);refine ⟨_,zf1 0 CS0,⟨CS0,rfl,rfl,rfl⟩,.ptr (by omega),zhm _,Le.refl _,⟨0,rfl,rfl⟩,by omega⟩
theorem made_c (es:List EqT) (ho:OkE (es.map EqT.p)) (hsum:zb8 (es.map EqT.p)≤1000):ACalls Tryz.prog 8 [.sl 8 (es.map EqT.cells)] [] 0 fun r os n=>(∃S,CSt (es.map EqT.p) S∧r=.ptr 3 0∧os=zf1 0 S)∧n=8:=by
  refine ACalls.cleanN (n:=8) (C:=fun r os=>∃S,CSt (es.map EqT.p) S∧r=.ptr 3 0∧os=zf1 0 S) (by omega) ?_;refine zai Tryz.func8 (by kernel_rfl) rfl (by rw[Tryz.ntmps8];simp) (fun hm=>?_);simp only[Tryz.ntmps8,Tryz.results8,zh,zk,Nat.reduceAdd,Nat.reduceSub,zw,zu,zi,zj];have hsl:=zfF (es.map EqT.p);rw[z6] at hsl;refine zab fun Y0 y0=>?_;refine zaa ?_;simp only[↓bO,go_sem,seval];refine y0 _ ?_;(try clear y0 Y0);refine zab fun Y0 y0=>?_;refine zaa ?_;refine z8 1 fun Q0 q0=>?_;simp only[↓bO,go_sem,seval];refine zfG NewC_c .nil (fun S0 hS0=>?_);subst hS0;simp only[zf1,zi,zj,Nat.reduceAdd];(try simp only[bS,bA,zaf,zad,zac]);refine q0 _ ?_;clear q0 Q0;simp only[go_sem];simp only[↓bO,go_sem,seval];refine y0 _ ?_;(try clear y0 Y0);refine zab fun Y0 y0=>?_;refine zab fun Y1 y1=>?_;refine zaa ?_;simp only[↓bO,go_sem,seval];refine y1 _ ?_;(try clear y1 Y1);refine zao ?_;refine zaH (σ:=CS×Nat) (mB 25 25) (fun u=>CSt ((es.map EqT.p).take u.2) u.1∧u.2≤es.length) (fun u=>[(4,.v (.int .i64 (u.2:Int)))]) (fun u=>[(7,.tok 133 4 u.1.G.N.length),(6,.row 3 1 (u.1.W.map intC)),(5,.row 3 1 (u.1.F.rank.map intC)),(4,.row 3 1 (u.1.F.up.map nC)),(3,.cells 98 [.v (.int .i64 u.1.steps),.ptr 2 0,.ptr 0 0,.own 6 u.1.W.length,.v (.bool u.1.clash)]),(2,.cells 114 [.osl 7 4 (u.1.G.N.map GNode.cells),.map 1]),(1,.map (u.1.G.V.map vC)),(0,.cells 111 [.own 4 u.1.F.up.length,.own 5 u.1.F.rank.length,.v (.int .i64 u.1.F.sets),.v (.int .i64 u.1.F.steps)])]) (fun u=>es.length-u.2) (CS0,0) (⟨CSt.none,by simp only;omega⟩) ?_ (fun u hu=>?_)
  ·
   simp only[zau,zav,zam,zay,mB,zc,zb,seval,CS0,bL];exact zbi
  simp only[zau,zav,zam,zay,mB,zc,zb,seval];refine zab fun Y1 y1=>?_;refine zab fun Y2 y2=>?_;refine zaa ?_;(iterate 3 (refine z8 1 fun Q0 q0=>?_;simp only[↓bO,go_sem,seval];refine q0 _ ?_;clear q0 Q0;simp only[go_sem]));simp only[↓bO,go_sem,seval];refine y2 _ ?_;(try clear y2 Y2);refine zak rfl (fun hb9=>?_) (fun hb9=>?_)
  ·
   (have hk:u.2<es.length:=by simpa using hb9);obtain ⟨e,he⟩:∃e,es[u.2]?=some e:=⟨_,ze hk⟩;(have hep:(es.map EqT.p)[u.2]?=some e.p:=by rw[zW,he];rfl);(have het:(es.map EqT.p).take (u.2+1)=(es.map EqT.p).take u.2++[e.p]:=by rw[List.take_add_one,hep];rfl);have hst:=zdP (es.map EqT.p) (u.2+1);rw[het,zco] at hst;simp only[EqT.p] at hst;have hw:IntKind.i64.wrap ((u.2:Int)+1)=(u.2:Int)+1:=zaN (by omega) (by omega);have hl1:=hu.1.len;have heo:=ho e.p (zp hep);have heo3:e.l.cnt≤400:=heo.2.2.1;have heo4:e.r.cnt≤400:=heo.2.2.2;refine zar ?_;(try simp only[zaf,zad,zac]);refine y1 _ ?_;(try clear y1 Y1);refine zab fun Y1 y1=>?_;refine zao ?_;refine zaV 11 mixed (by kernel_rfl) fun J0 j0=>?_;(iterate 10 (simp only[go_sem];refine zaw 1 fun Q0 q0=>?_;simp only[↓zaT,↓dOp,↓bO,go_sem,seval,hk,gM he,EqT.cells,Ty.refold,hw,za];refine q0 _ ?_;clear q0 Q0));simp only[go_sem];simp only[↓zaT,↓dOp,↓bO,go_sem,seval,hk,gM he,EqT.cells,Ty.refold,hw,za];refine j0 _ ?_;clear j0 J0;simp only[go_sem];simp only[↓bO,go_sem,seval,hk,gM he,EqT.cells,Ty.refold,hw,za];refine CCalls.at (zhJ u.1 (zb4 (eqF ((es.map EqT.p).take u.2)).2) (eqF ((es.map EqT.p).take u.2)).1 e.l e.r (fun hc=>(hu.1.good hc).1.2) (by omega) (by omega) (by omega)) (.cons (Ty.dataAgg _) (.cons (Ty.dataAgg _) .nil)) (fun _=>.v _) (i0:=3) (i1:=2) (i2:=7) (i3:=1) (i4:=0) (i5:=4) (i6:=5) (i7:=6) (by decide) (by simp) ⟨rfl,rfl,rfl,rfl,rfl,rfl,rfl,rfl,trivial⟩ (fun S1 r1 hE1=>?_);(try dsimp only at hE1);simp only[zaP,zz,zB,zA,zam,zay,Nat.reduceEqDiff,↓reduceIte];have hc1:=hu.1.step (e:=e.p) heo hE1;(try simp only[bS,bA,zaf,zad,zac]);refine y1 _ ?_;(try clear y1 Y1);refine zaa ?_;(iterate 2 (refine z8 1 fun Q0 q0=>?_;simp only[↓bO,go_sem,seval,hk,gM he,EqT.cells,Ty.refold,hw,za];refine q0 _ ?_;clear q0 Q0;simp only[go_sem]));simp only[↓bO,go_sem,seval,hk,gM he,EqT.cells,Ty.refold,hw,za];refine ⟨(S1,u.2+1),⟨by rw[het];exact hc1,by simp only;omega⟩,(by simp only;omega),?_⟩;simp only[zau,zav,zam,zay,mB,zc,zb,seval,za,zD,zI];refine Weak.sub ?_ ⟨rfl,rfl,rfl,rfl,rfl,rfl,rfl,rfl,trivial⟩ (by first | omega | (simp only;omega)) (by first | omega | (simp only;omega)) ?_ ?_;(· simp only[go_sem,Le.refl,Le.any]);(· repeat' first | exact trivial | exact .any _ | exact .ptr (by omega) | exact .own (by omega) | exact .v _ _ | exact Und.data (EqT.dataSl _) | exact Und.data (zaM _) | (refine ⟨?_,?_⟩));· exact clz9
  ·
   (have hk:u.2=es.length:=by have h9:=hb9;simp at h9;have:=hu.2;omega);(have hCS:CSt (es.map EqT.p) u.1:=by (have h9:=hu.1;rw[hk,List.take_of_length_le (by simp)] at h9;exact h9));refine zaJ ?_;simp only[zaf,zad,zac,bA,Nat.reduceEqDiff,↓reduceIte];refine y0 _ ?_;(try clear y0 Y0);refine zab fun Y0 y0=>?_;refine zaa ?_;refine z8 1 fun Q0 q0=>?_;simp only[↓bO,go_sem,seval];refine q0 _ ?_;clear q0 Q0;simp only[go_sem];simp only[↓bO,go_sem,seval];refine y0 _ ?_;(try clear y0 Y0);refine zan ?_;(try simp only[zaf,zad,zac,zaY,zaX,zaC,bS,bA]);refine ⟨_,zf1 0 u.1,⟨u.1,hCS,rfl,rfl⟩,.ptr (by omega),zhm _,Le.refl _,?_,by omega⟩
   (first | exact ⟨0,rfl,rfl⟩ | exact ⟨1,rfl,rfl⟩)
def zgy:Ty×Ty:=(.mk 1 0 [],zdj [.mk 1 0 [],.mk 2 0 []])
def awM13:List RNode:=[⟨.mk 1 0 [],[]⟩,⟨.mk 2 0 [],[]⟩,⟨.mk 4 0 [.mk 1 0 [],.mk 2 0 []],[0,1]⟩]
theorem zc8:eqF [zgy]=(awM13,[(0,2)]):=by
  simp[eqF,zdg,zgy,zdj,Ty.radd,Ty.raddL,zbY,RNode.isVar,Ty.k,Ty.n,awM13,List.findIdx_cons,List.findIdx_nil]
theorem aw13_okc:zil awM13 [(0,2)] (fun i=>if i=2 then 0 else i)=true:=by rfl
theorem aw13_no:¬Clashes [zgy]:=by unfold Clashes;rw[zc8];exact zfY aw13_okc
theorem aw13_oke:OkE [zgy]:=fun e he=>by
  (simp at he;subst he);exact ⟨by decide,by decide,by decide,by decide⟩
theorem zgg {M:List RNode} {c:List Int} {S:CS} (h:PSt [zgy] M c S):Pls (za8 S) (zbN S 0) (zbN S 0):=by
  have hm:=h.m;rw[zc8] at hm;subst hm;have h0:Rt S.F.up 0 (zbN S 0):=h.rt (by decide);have h2:Rt S.F.up 2 (zbN S 0):=(zbS h.h h0).2 (.base (by rw[zc8];simp[zb4]));have hk:=h.kids_node (k:=2) (y:=⟨.mk 4 0 [.mk 1 0 [],.mk 2 0 []],[0,1]⟩) rfl (by decide) h2;exact ⟨zbN S 0,by rw[hk];simp,.refl _⟩
theorem aw13_step {s:CS×Int} (hs:EqR CS0 (zb4 (eqF []).2) (eqF []).1 (.mk 1 0 []) (zdj [.mk 1 0 [],.mk 2 0 []]) s):s.2=0∧CSt [zgy] s.1∧s.1.clash=false∧s.1.G.N.length≤10:=by
  have h1:CSt ([]++[zgy]) s.1:=CSt.none.step (e:=zgy) (aw13_oke zgy (by simp)) hs;have hl:=h1.len;(rcases Holds.none.step (e:=zgy) hs with ⟨h,_⟩ | ⟨_,h,_⟩ | ⟨_,_,h,h2,h3⟩);(· exact absurd h (by decide));(· exact absurd h aw13_no);· exact ⟨h,h1,h2.1,Nat.le_trans h3 (by decide)⟩
theorem aw13_fin {S:CS} {b:Bool} {n:Int} (h:CSt [zgy] S) (hc:S.clash=false) (hl:S.G.N.length≤10) (hr:CountR S (b,n)):b=false:=by
  obtain ⟨c,hp⟩:=h.pst hc (by omega)
  cases b with
  | false=>rfl
  | true =>
    (rcases hr with ⟨h1,_⟩ | ⟨_,_,h3,_⟩);(· rw[hc] at h1;cases h1);· exact absurd (zgg hp) (hp.no_loop (h3 rfl) _)
theorem aw13_cyc {S:CS} (h:CSt [zgy] S) (hc:S.clash=false) (hl:S.G.N.length≤10):zih S=[0]:=by
  obtain ⟨c,hp⟩:=h.pst hc (by omega)
  have hv:zbc (eqF [zgy]).1=[0]:=by
    rw[zc8,zfv];simp[vns,awM13,Ty.k,Ty.n,zcw]
  have h0:zbY (RNode.isVar 0) (eqF [zgy]).1=((0:Nat):Int):=by
    rw[zc8];simp[zbY,RNode.isVar,Ty.k,Ty.n,awM13,List.findIdx_cons]
  rw[hp.cyc,hv];have hlt:0<(eqF [zgy]).1.length:=by rw[zc8];decide
  have:lpB (eqF [zgy]).1 c (zbY (RNode.isVar 0) (eqF [zgy]).1).toNat=true:=by
    rw[h0,Int.toNat_natCast,lpB_iff,hp.lp_iff hlt];exact ⟨_,.refl _,zgg hp⟩
  simp[wantC,this]
theorem awA_le:Le (.sl 3 [(Ty.mk 1 0 []).cells,[.v (.int .i64 2),.v (.int .i64 0),.v (.slice none 0 0)]]) (.sl 3 ([Ty.mk 1 0 [],Ty.mk 2 0 []].map Ty.cells)) :=
  Le.slC rfl (by intro y hy;simp at hy;rcases hy with rfl | rfl <;> simp[Ty.cells_len]) ⟨.refl _,.refl _,.refl _,.refl _,.refl _,Le.slNil 3,trivial⟩
theorem ziK {b:Bool} {n:Int} (hr:CountR CS0 (b,n)):b=true:=by
  (rcases hr with ⟨h1,_⟩ | ⟨_,h2,_⟩);· cases h1
  · cases b with
    | true=>rfl
    | false =>
      obtain ⟨y,hy,_⟩:=h2 rfl;simp[CS0] at hy
theorem zb7:APure Tryz.prog 6 [] (.v (.bool true)):=by
  refine APure.mkL (.nil) (.v _) ?_;refine zai Tryz.func6 (by kernel_rfl) rfl (by rw[Tryz.ntmps6];simp) (fun hm=>?_);simp only[Tryz.ntmps6,Tryz.results6,zh,zk,Nat.reduceAdd,Nat.reduceSub,zw,zu,zi,zj];refine zab fun Y0 y0=>?_;refine zaa ?_;simp only[↓bO,go_sem,seval];refine y0 _ ?_;(try clear y0 Y0);refine zab fun Y0 y0=>?_;refine zaa ?_;refine z8 1 fun Q0 q0=>?_;simp only[↓bO,go_sem,seval];refine zfG NewC_c .nil (fun S0 hS0=>?_);subst hS0;simp only[zf1,zi,zj,Nat.reduceAdd];(try simp only[bS,bA,zaf,zad,zac]);refine q0 _ ?_;clear q0 Q0;simp only[go_sem];simp only[↓bO,go_sem,seval];refine y0 _ ?_;(try clear y0 Y0);refine zab fun Y0 y0=>?_;refine zaa ?_;refine z8 1 fun Q0 q0=>?_;simp only[↓bO,go_sem,seval];(iterate 2 (refine q0 _ ?_;clear q0 Q0;simp only[go_sem];refine z8 1 fun Q0 q0=>?_;simp only[↓bO,go_sem,seval];refine APure.call (TVar_pure 0) ?_;(try simp only[bS,bA,zaf,zad,zac])));refine q0 _ ?_;clear q0 Q0;simp only[go_sem];refine z8 1 fun Q0 q0=>?_;simp only[↓bO,go_sem,seval];refine q0 _ ?_;clear q0 Q0;simp only[go_sem];refine z8 1 fun Q0 q0=>?_;simp only[↓bO,go_sem,seval,↓bs2_1,↓bs2_2,↓bs2_3,↓bs2_4,↓bs2_5,↓bs2_6,↓bs2_7,↓bs2_8,↓bs2_9,↓bs2_10,↓bs2_11,↓bs2_12];refine q0 _ ?_;clear q0 Q0;simp only[go_sem];refine z8 1 fun Q0 q0=>?_;simp only[↓bO,go_sem,seval];refine ACalls.args (args':=[.sl 3 ([.mk 1 0 [],.mk 2 0 []].map Ty.cells)]) ⟨awA_le,trivial⟩ ?_;refine APure.call (zic 2 [.mk 1 0 [],.mk 2 0 []] rfl (by decide)) ?_;(try simp only[bS,bA,zaf,zad,zac]);refine q0 _ ?_;clear q0 Q0;simp only[go_sem];refine z8 1 fun Q0 q0=>?_;simp only[↓bO,go_sem,seval];refine CCalls.at (zhJ CS0 (zb4 (eqF []).2) (eqF []).1 (.mk 1 0 []) (zdj [.mk 1 0 [],.mk 2 0 []]) (fun _=>Holds.none.2) (by decide) (by decide) (by decide)) (.cons (Ty.dataAgg _) (.cons (Ty.dataAgg _) .nil)) (fun _=>.v _) (i0:=3) (i1:=2) (i2:=7) (i3:=1) (i4:=0) (i5:=4) (i6:=5) (i7:=6) (by decide) (by simp) ⟨rfl,rfl,rfl,rfl,rfl,rfl,rfl,rfl,trivial⟩ (fun S1 r1 hE1=>?_);(try dsimp only at hE1);simp only[zaP,zz,zB,zA,zam,zay,Nat.reduceEqDiff,↓reduceIte];obtain ⟨he1,h13,hq13,hl13⟩:=aw13_step hE1;obtain rfl:r1=0:=he1;dsimp only at h13 hq13 hl13;(try simp only[bS,bA,zaf,zad,zac]);refine q0 _ ?_;clear q0 Q0;simp only[go_sem];simp only[↓bO,go_sem,seval];refine y0 _ ?_;(try clear y0 Y0);refine zab fun Y0 y0=>?_;refine zaa ?_;(iterate 3 (refine z8 1 fun Q0 q0=>?_;simp only[↓bO,go_sem,seval];refine q0 _ ?_;clear q0 Q0;simp only[go_sem]));refine zaA 13 rfl (fun hc13=>?_) (fun hc13=>?_)
  ·
   simp only[zc,zb];refine z8 1 fun Q0 q0=>?_;simp only[↓bO,go_sem,seval];refine q0 _ ?_;clear q0 Q0;simp only[go_sem];refine z8 1 fun Q0 q0=>?_;simp only[↓bO,go_sem,seval];refine CCalls.at (zhp S1 (h13.cyG (by omega))) (.nil) (fun _=>.v _) (i0:=3) (i1:=2) (i2:=7) (i3:=1) (i4:=0) (i5:=4) (i6:=5) (i7:=6) (by decide) (by simp) ⟨rfl,rfl,rfl,rfl,rfl,rfl,rfl,rfl,trivial⟩ (fun Z2 b2 hX2=>?_);(try dsimp only at hX2);simp only[zaP,zz,zB,zA,zam,zay,Nat.reduceEqDiff,↓reduceIte];obtain ⟨F2,rfl⟩:∃F,Z2={S1 with F:=F}:=⟨Z2.F,hX2.1⟩;dsimp only at hX2;obtain ⟨_,hF2,n2,hR2⟩:=hX2;obtain rfl:=aw13_fin h13 hq13 hl13 hR2;have h13b:=h13.fsame (S1:={S1 with F:=F2}) (hF2 hq13) rfl;(try simp only[bS,bA,zaf,zad,zac]);(iterate 3 (refine q0 _ ?_;clear q0 Q0;simp only[go_sem];refine z8 1 fun Q0 q0=>?_;simp only[↓bO,go_sem,seval]));refine q0 _ ?_;clear q0 Q0;simp only[go_sem];refine zaA 18 rfl (fun hc18=>?_) (fun hc18=>?_)
   ·
    simp only[zc,zb];refine z8 1 fun Q0 q0=>?_;simp only[↓bO,go_sem,seval];refine q0 _ ?_;clear q0 Q0;simp only[go_sem];refine z8 1 fun Q0 q0=>?_;simp only[↓bO,go_sem,seval];refine CCalls.at (Cyclic_c {S1 with F:=F2} (h13b.cyG (by dsimp only;omega))) (.nil) (fun _=>zaM _) (i0:=3) (i1:=2) (i2:=7) (i3:=1) (i4:=0) (i5:=4) (i6:=5) (i7:=6) (by decide) (by simp) ⟨rfl,rfl,rfl,rfl,rfl,rfl,rfl,rfl,trivial⟩ (fun Z3 L3 hX3=>?_);(try dsimp only at hX3);simp only[zaP,zz,zB,zA,zam,zay,Nat.reduceEqDiff,↓reduceIte];obtain ⟨F3,rfl⟩:∃F,Z3={S1 with F:=F}:=⟨Z3.F,hX3.1⟩;have hL3:=hX3.2.2;rw[aw13_cyc h13b hq13 hl13] at hL3;subst hL3;(try simp only[bS,bA,zaf,zad,zac]);refine q0 _ ?_;clear q0 Q0;simp only[go_sem];refine z8 1 fun Q0 q0=>?_;simp only[↓bO,go_sem,seval,↓zbH,↓zbC,↓zbJ,↓zbB,↓zbD,↓zbI,↓zbG,↓zbF,↓zbE,↓zba,↓zbb,↓za9];refine q0 _ ?_;clear q0 Q0;simp only[go_sem];refine z8 1 fun Q0 q0=>?_;simp only[↓bO,go_sem,seval];refine APure.call (Ints_pure [0] [0]) ?_;(try simp only[bS,bA,zaf,zad,zac]);(iterate 2 (refine q0 _ ?_;clear q0 Q0;simp only[go_sem];refine z8 1 fun Q0 q0=>?_;simp only[↓bO,go_sem,seval]));refine q0 _ ?_;clear q0 Q0;simp only[go_sem];refine zaA 24 rfl (fun hc24=>?_) (fun hc24=>?_)
    ·
     simp only[zc,zb];refine z8 1 fun Q0 q0=>?_;simp only[↓bO,go_sem,seval];refine zfG NewC_c .nil (fun S0 hS0=>?_);subst hS0;simp only[zf1,zi,zj,Nat.reduceAdd];(try simp only[bS,bA,zaf,zad,zac]);refine q0 _ ?_;clear q0 Q0;simp only[go_sem];refine z8 1 fun Q0 q0=>?_;simp only[↓bO,go_sem,seval];refine CCalls.at (zhp CS0 (fun _=>CyG.zero)) (.nil) (fun _=>.v _) (i0:=11) (i1:=10) (i2:=15) (i3:=9) (i4:=8) (i5:=12) (i6:=13) (i7:=14) (by decide) (by simp) ⟨rfl,rfl,rfl,rfl,rfl,rfl,rfl,rfl,trivial⟩ (fun Z4 b4 hX4=>?_);(try dsimp only at hX4);simp only[zaP,zz,zB,zA,zam,zay,Nat.reduceEqDiff,↓reduceIte];obtain ⟨_,_,n4,hR4⟩:=hX4;obtain rfl:=ziK hR4;(try simp only[bS,bA,zaf,zad,zac]);refine q0 _ ?_;clear q0 Q0;simp only[go_sem];refine z8 1 fun Q0 q0=>?_;simp only[↓bO,go_sem,seval];refine q0 _ ?_;clear q0 Q0;simp only[go_sem];simp only[↓bO,go_sem,seval];refine y0 _ ?_;(try clear y0 Y0);refine zan ?_;(try simp only[zaf,zad,zac,zaY,zaX,zaC,bS,bA]);exact Le.refl _
    ·
     simp only[zc,zb];exact absurd hc24 (by simp)
   ·
    simp only[zc,zb];exact absurd hc18 (by simp)
  ·
   simp only[zc,zb];exact absurd hc13 (by simp)
end Go.Proofs.YtjjjckjebkmnjaaGreat
