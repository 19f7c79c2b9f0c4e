/- packed, part 45 of 45. Conditions: none. -/
import Derived.Test.YtkokfdmggdhfmaaGreatDoorPk44
import Derived.Shelf.LaysM
import Derived.Shelf.LaysC
import Derived.Shelf.Strings.Prefix
import Derived.Shelf.Strings.FieldsAny
import Derived.Shelf.Strings.Cut
import Derived.Test.YtkokfdmggdhfmaaGreatDoorProg
import Derived.Handed
import Derived.HandedShaped
import Derived.Test.YtkokfdmggdhfmaaGreatDoorCards
import Derived.Test.YtkokfdmggdhfmaaGreatDoorTie
import Derived.ChangeMaps5
import Derived.LaidSub
import Derived.Lib.LaidTab
import Derived.Stop.LaidErr
import Derived.OpenShut
import Derived.ChangeOld
import Derived.Below
import Derived.Lib.LaidU8
import Derived.Shelf.Vars
import Derived.LaidMore
import Derived.Lay
import Derived.SevenTiedAt
set_option linter.unusedVariables false
set_option linter.unusedSimpArgs false
set_option maxRecDepth 100000
set_option maxHeartbeats 4000000
set_option linter.unnecessarySimpa false
namespace Go.Proofs.YtkokfdmggdhfmaaGreatDoor
open Go Go.RowKit
attribute [local irreducible] aops zX
def FoI (E:Nat->Int->Rdx) (l:List Tok) (i:Nat) (n:Int) (r:Rdx) (y:Int×List ByteArray×Nat):Prop:=y.2.1.length<=5/\i+1<=y.2.2/\y.2.2<=l.length/\∀z,r=stR E l i n y.1 y.2.1 ⟨ByteArray.empty,[],y.2.2,z⟩
section
variable {E:Nat->Int->Rdx} {l:List Tok} {i:Nat} {n:Int} {r:Rdx}
theorem FoI.fun (hG:zcY l) (hr:foR E l i n=r) (k1:isT l (i:Int) 3 zel=true):FoI E l i n r (4,[bN,bArr,bE],i+1):=by
 refine ⟨(by show _<=5;simp),zh _,zN k1,fun z=>?_⟩;rw[stR_fun hG,<- hr];exact if_pos k1
theorem FoI.iff (hG:zcY l) (hr:foR E l i n=r) (hi:i<l.length) (k1:isT l (i:Int) 3 zel=false) (k2:isT l (i:Int) 3 zdn=false):FoI E l i n r (8,[bE,zfq,bE,zfM,bE],i+1):=by
 refine ⟨(by show _<=5;simp),zh _,hi,fun z=>?_⟩;rw[stR_if hG,<- hr];unfold foR;rw[if_neg (by rw[k1];simp),if_neg (by rw[k2];simp)]
theorem FoI.rec (hG:zcY l) (hr:foR E l i n=r) (k2:isT l (i:Int) 3 zdn=true) (k3:isT l ((i+1:Nat):Int) 3 zfa=true):FoI E l i n r (7,[bN,bEq,bE,bIn,bE],i+2):=by
 refine ⟨(by show _<=5;simp),by show i+1<=i+2;omega,zN k3,fun z=>?_⟩;rw[stR_let hG,<- hr];unfold foR;rw[if_neg (by rw[zft k2 tz3];simp),if_pos k2,if_pos k3]
theorem FoI.let (hG:zcY l) (hr:foR E l i n=r) (k2:isT l (i:Int) 3 zdn=true) (k3:isT l ((i+1:Nat):Int) 3 zfa=false):FoI E l i n r (6,[bN,bEq,bE,bIn,bE],i+1):=by
 refine ⟨(by show _<=5;simp),zh _,zN k2,fun z=>?_⟩;rw[stR_let hG,<- hr];unfold foR;rw[if_neg (by rw[zft k2 tz3];simp),if_pos k2,if_neg (by rw[k3];simp)]
end
theorem zRd_le:LeL [.v (.int .i64 0),.v (.string ByteArray.empty),.v (.int .i64 0),.v (.int .i64 0),.v (.int .i64 0),.v (.slice none 0 0),.v (.slice none 0 0),.v (.int .i64 0),.v (.int .i64 0),.v (.int .i64 0),.v (.int .i64 0),.v (.int .i64 0),.v (.int .i64 0)] (rdC (wr 0 0)):=⟨.refl _,.refl _,.refl _,.refl _,.refl _,Le.slNil 3,Le.slNil 9,.refl _,.refl _,.refl _,.refl _,.refl _,.refl _,trivial⟩
theorem clz7 {p:Prop} (h:p:=by exact Weak.mk (by simp only[go_sem,LeL,Le.refl,Le.any,zR,zk,zi,bN,bE,bArr,bEq,bIn,zfq,zfM,and_self]) (fun _ _ h=>h) rfl rfl):p:=h
theorem dform_c (l:List Tok) (m:Int) (f i:Nat) (n:Int) (hl:l.length<=100000) (hK:zcY l) (hD:DxOk l m f) (hR:ROk l m f) (hi:i<l.length) (hf:l.length-i<=f) (h3:-1000000<=n) (h4:n+(l.length-i:Nat)<=700000):APure Tryz.prog 187 [.sl 4 (l.map Tok.cells),.v (.int .i64 (i:Int)),.v (.int .i64 n),.v (.int .i64 m)] (.agg (rdC (foR (rx l m f) l i n))):=by
  (generalize hbr:foR (rx l m f) l i n=r);refine APure.mkL (.cons (Tok.dataSl l) (.cons (.v _) (.cons (.v _) (.cons (.v _) .nil)))) (.agg (zbI _)) ?_;refine aIn Tryz.func187 fun hm=>?_;simp only[Tryz.ntmps187,Tryz.results187,go_sem,seval];(have hw1:IntKind.i64.wrap ((i:Int)+1)=((i+1:Nat):Int):=by (rw[zI tz1 tz1];omega));(have hw2:IntKind.i64.wrap (((i+1:Nat):Int)+1)=((i+2:Nat):Int):=by (rw[zI tz1 tz1];omega));(have hw3:IntKind.i64.wrap (n+1)=n+1:=by (rw[zI tz1 tz1]));obtain ⟨t0,ht0⟩:∃t,l[i]?=some t:=⟨_,zc hi⟩;have htk0:=zaG ht0;refine sqR fun _ w=>?_;simp only[↓bO,go_sem,seval,Tok.cells,qC,rdC,hw1,hw2,hw3,hi,List.take,List.drop,gM ht0];apply w;refine sqR fun _ w=>?_;(iterate 2 (refine chS 1 ?_ (by intro _ q;simp only[↓bO,go_sem,seval,Tok.cells,qC,rdC,hw1,hw2,hw3,hi,List.take,List.drop,gM ht0];exact q)));simp only[↓bO,go_sem,seval,Tok.cells,qC,rdC,hw1,hw2,hw3,hi,List.take,List.drop,gM ht0];apply w;refine sqR fun _ w=>?_;refine chS 1 ?_ (by intro _ q;simp only[↓bO,go_sem,seval,↓bs5_1,↓bs5_2,↓bs5_3,↓bs5_4,↓bs5_5,↓bs5_6,↓bs5_7,↓bs5_8,↓bs5_9,↓bs5_10,↓bs5_11,↓bs5_12,Tok.cells,qC,rdC,hw1,hw2,hw3,hi,List.take,List.drop,gM ht0];exact q);simp only[↓bO,go_sem,seval,Tok.cells,qC,rdC,hw1,hw2,hw3,hi,List.take,List.drop,gM ht0];apply w;refine sqR fun _ w=>?_;(iterate 2 (refine chS 1 ?_ (by intro _ q;simp only[↓bO,go_sem,seval,Tok.cells,qC,rdC,hw1,hw2,hw3,hi,List.take,List.drop,gM ht0];exact q)));simp only[↓bO,go_sem,seval,Tok.cells,qC,rdC,hw1,hw2,hw3,hi,List.take,List.drop,gM ht0];apply w;refine zu fun _ w=>?_;refine sqR fun _ z=>?_;(iterate 2 (refine chS 1 ?_ (by intro _ q;simp only[↓bO,go_sem,seval,Tok.cells,qC,rdC,hw1,hw2,hw3,hi,List.take,List.drop,gM ht0];exact q)));simp only[↓bO,go_sem,seval,Tok.cells,qC,rdC,hw1,hw2,hw3,hi,List.take,List.drop,gM ht0];refine APure.call (zaf l i _) ?_;apply z;apply zt rfl <;> intro hb20
  ·
   have k1:isT l (i:Int) 3 zel=true:=hb20;apply zA;refine zq 1 fun _ u=>?_;simp only[↓bO,go_sem,seval,↓bs3_1,↓bs3_2,↓bs3_3,↓bs3_4,↓bs3_5,↓bs3_6,↓bs3_7,↓bs3_8,↓bs3_9,↓bs3_10,↓bs3_11,↓bs3_12,Tok.cells,qC,rdC,hw1,hw2,hw3,hi,List.take,List.drop,gM ht0];(iterate 2 (apply u;clear u;refine zq 1 fun _ u=>?_;simp only[↓bO,go_sem,seval,Tok.cells,qC,rdC,hw1,hw2,hw3,hi,List.take,List.drop,gM ht0]));apply u;clear u;simp only[↓bO,go_sem,seval,Tok.cells,qC,rdC,hw1,hw2,hw3,hi,List.take,List.drop,gM ht0];apply w;refine zcf (σ:=Int×List ByteArray×Nat) (mB 117 3855) (fun y=>[(10,.sl 1 (y.2.1.map zR)),(11,.v (.int .i64 (y.2.2:Int)))]) (fun y=>[(1,.cells 58 [.v (.int .i64 y.1),.v (.string ByteArray.empty),.v (.int .i64 0),.v (.int .i64 0),.v (.int .i64 0),.v (.slice none 0 0),.v (.slice none 0 0),.v (.int .i64 0),.v (.int .i64 0)])]) (fun y=>FoI (rx l m f) l i n r y) ?_ (fun y hy=>?_)
   ·
    refine sqR fun _ w=>?_;(iterate 2 (refine chS 1 ?_ (by intro _ q;simp only[↓bO,go_sem,seval,Tok.cells,qC,rdC,hw1,hw2,hw3,hi,List.take,List.drop,gM ht0];exact q)));simp only[↓bO,go_sem,seval,Tok.cells,qC,rdC,hw1,hw2,hw3,hi,List.take,List.drop,gM ht0];refine APure.call (zaf l i _) ?_;apply w;apply zt rfl <;> intro hb25
    ·
     have k2:isT l (i:Int) 3 zdn=true:=hb25;refine sqR fun _ w=>?_;refine zq 1 fun _ u=>?_;simp only[↓bO,go_sem,seval,↓bs5_1,↓bs5_2,↓bs5_3,↓bs5_4,↓bs5_5,↓bs5_6,↓bs5_7,↓bs5_8,↓bs5_9,↓bs5_10,↓bs5_11,↓bs5_12,Tok.cells,qC,rdC,hw1,hw2,hw3,hi,List.take,List.drop,gM ht0];(iterate 2 (apply u;clear u;refine zq 1 fun _ u=>?_;simp only[↓bO,go_sem,seval,Tok.cells,qC,rdC,hw1,hw2,hw3,hi,List.take,List.drop,gM ht0]));apply u;clear u;simp only[↓bO,go_sem,seval,Tok.cells,qC,rdC,hw1,hw2,hw3,hi,List.take,List.drop,gM ht0];apply w;refine sqR fun _ w=>?_;(iterate 2 (refine chS 1 ?_ (by intro _ q;simp only[↓bO,go_sem,seval,Tok.cells,qC,rdC,hw1,hw2,hw3,hi,List.take,List.drop,gM ht0];exact q)));simp only[↓bO,go_sem,seval,Tok.cells,qC,rdC,hw1,hw2,hw3,hi,List.take,List.drop,gM ht0];refine APure.call (zaf l (i+1) _) ?_;apply w;apply zt rfl <;> intro hb30
     ·
      have k3:isT l ((i+1:Nat):Int) 3 zfa=true:=hb30;have hy0:=FoI.rec hK hbr k2 k3;refine sqR fun _ w=>?_;refine chS 1 ?_ (by intro _ q;simp only[↓bO,go_sem,seval,Tok.cells,qC,rdC,hw1,hw2,hw3,hi,List.take,List.drop,gM ht0];exact q);simp only[↓bO,go_sem,seval,Tok.cells,qC,rdC,hw1,hw2,hw3,hi,List.take,List.drop,gM ht0];apply w;apply zA;(iterate 2 (refine chS 1 ?_ (by intro _ q;simp only[↓bO,go_sem,seval,Tok.cells,qC,rdC,hw1,hw2,hw3,hi,List.take,List.drop,gM ht0];exact q)));simp only[↓bO,go_sem,seval,Tok.cells,qC,rdC,hw1,hw2,hw3,hi,List.take,List.drop,gM ht0];(try simp only[go_sem,seval]);refine ⟨_,hy0,?_⟩;exact clz7
     have k3:isT l ((i+1:Nat):Int) 3 zfa=false:=hb30;(have hy0:=FoI.let hK hbr k2 k3);apply zy;(try simp only[go_sem]);(try simp only[go_sem,seval]);refine ⟨_,hy0,?_⟩;exact clz7
    have k2:isT l (i:Int) 3 zdn=false:=hb25;(first | have hy0:=FoI.fun hK hbr k1 | have hy0:=FoI.iff hK hbr hi k1 k2);apply zy;(try simp only[go_sem]);(try simp only[go_sem,seval]);refine ⟨_,hy0,?_⟩;exact clz7
   simp only[go_sem,seval];obtain ⟨yy1,yy2,yy3⟩:=y;obtain ⟨z1,z2,z3,z4⟩:=hy;dsimp only at z1 z2 z3 z4;dsimp only;refine sqR fun _ w=>?_;simp only[↓bO,go_sem,seval,Tok.cells,qC,rdC,hw1,hw2,hw3,hi,List.take,List.drop,gM ht0];apply w;refine zu fun _ w=>?_;refine sqR fun _ z=>?_;simp only[↓bO,go_sem,seval,Tok.cells,qC,rdC,hw1,hw2,hw3,hi,List.take,List.drop,gM ht0];apply z;apply zF;refine zaB (Weak.tokCell 58 9 (id:=1) (t:=58) [.v (.int .i64 yy1),.v (.string ByteArray.empty),.v (.int .i64 0),.v (.int .i64 0),.v (.int .i64 0),.v (.slice none 0 0),.osl 3 9 [],.v (.int .i64 0),.v (.int .i64 0)] rfl ⟨.inl (.refl _),.inl (.refl _),.inl (.refl _),.inl (.refl _),.inl (.refl _),.inl (.refl _),.inr ⟨rfl,rfl⟩,.inl (.refl _),.inl (.refl _),trivial⟩) ?_;simp only[zQ,Nat.reduceEqDiff,↓reduceIte];refine zaB (Weak.recell (id:=2) (t:=191) (rdC (wr 0 0)) rfl zRd_le) ?_;simp only[zQ,Nat.reduceEqDiff,↓reduceIte];refine zV (σ:=SS×Nat) (mB 117 16143) (fun s=>s.2<=yy2.length/\s.1.ps.length<=s.2/\i+1<=s.1.j/\s.1.j<=l.length/\r=stR (rx l m f) l i n yy1 (yy2.drop s.2) s.1) (fun s=>[(11,.v (.int .i64 (s.1.j:Int))),(13,.v (.int .i64 (s.2:Int)))]) (fun s=>[(1,.cells 58 [.v (.int .i64 yy1),.v (.string s.1.nm),.v (.int .i64 0),.v (.int .i64 0),.v (.int .i64 0),.v (.slice none 0 0),.osl 3 9 (s.1.ps.map Tm.cells),.v (.int .i64 0),.v (.int .i64 0)]),(3,.tok 58 9 s.1.ps.length),(2,.cells 191 (rdC s.1.last))]) (fun s=>yy2.length-s.2) (⟨ByteArray.empty,[],yy3,wr 0 0⟩,0) (⟨Nat.zero_le _,zh _,z2,z3,z4 _⟩) ?_ (fun s hs=>?_)
   ·
    (try simp only[go_sem,seval,bL,zj,Int.ofNat_zero,Int.cast_ofNat_Int]);exact zaH
   simp only[go_sem,seval];refine zu fun _ z=>?_;refine sqR fun _ x=>?_;(iterate 3 (refine chS 1 ?_ (by intro _ q;simp only[↓bO,go_sem,seval,Tok.cells,qC,rdC,hw1,hw2,hw3,hi,List.take,List.drop,gM ht0,zb,za,Tm.cells_eq (rx l m f s.1.j (n+1)).t];exact q)));simp only[↓bO,go_sem,seval,Tok.cells,qC,rdC,hw1,hw2,hw3,hi,List.take,List.drop,gM ht0,zb,za,Tm.cells_eq (rx l m f s.1.j (n+1)).t];apply x;apply zt rfl <;> intro hb37
   ·
    (have hlt:s.2<yy2.length:=by (have h8:=hb37;simp at h8;omega));obtain ⟨st,hst⟩:∃t,yy2[s.2]?=some t:=⟨_,zc hlt⟩;have h9:=hs.2.2.2.2;rw[List.drop_eq_getElem_cons hlt,show yy2[s.2]=st from by rw[zc hlt] at hst;exact Option.some.inj hst] at h9;have hs3:=hs.2.2.1;have hs4:=hs.2.2.2.1;have hs5:=hs.2.1;(have hw6:IntKind.i64.wrap ((s.2:Int)+1)=((s.2+1:Nat):Int):=by (rw[zI tz1 tz1];omega));apply zy;apply z;refine zu fun _ z=>?_;apply zF;refine sqR fun _ x=>?_;(iterate 3 (refine chS 1 ?_ (by intro _ q;simp only[↓bO,go_sem,seval,Tok.cells,qC,rdC,hw1,hw2,hw3,hi,List.take,List.drop,gM ht0,zb,za,Tm.cells_eq (rx l m f s.1.j (n+1)).t,hw6,hlt,gM hst,zR];exact q)));simp only[↓bO,go_sem,seval,Tok.cells,qC,rdC,hw1,hw2,hw3,hi,List.take,List.drop,gM ht0,zb,za,Tm.cells_eq (rx l m f s.1.j (n+1)).t,hw6,hlt,gM hst,zR];apply x;apply zF;refine sqR fun _ x=>?_;refine chS 1 ?_ (by intro _ q;simp only[↓bO,go_sem,seval,Tok.cells,qC,rdC,hw1,hw2,hw3,hi,List.take,List.drop,gM ht0,zb,za,Tm.cells_eq (rx l m f s.1.j (n+1)).t,hw6,hlt,gM hst,zR];exact q);simp only[↓bO,go_sem,seval,Tok.cells,qC,rdC,hw1,hw2,hw3,hi,List.take,List.drop,gM ht0,zb,za,Tm.cells_eq (rx l m f s.1.j (n+1)).t,hw6,hlt,gM hst,zR];apply x;apply zt rfl <;> intro hb66
    ·
     have g1:st=bE:=zac.1 hb66;have hxx:=hR s.1.j (n+1) hs.2.2.2.1;refine sqR fun _ x=>?_;(iterate 5 (refine chS 1 ?_ (by intro _ q;simp only[↓bO,go_sem,seval,Tok.cells,qC,rdC,hw1,hw2,hw3,hi,List.take,List.drop,gM ht0,zb,za,Tm.cells_eq (rx l m f s.1.j (n+1)).t,hw6,hlt,gM hst,zR];exact q)));refine zq 1 fun _ u=>?_;simp only[↓bO,go_sem,seval,Tok.cells,qC,rdC,hw1,hw2,hw3,hi,List.take,List.drop,gM ht0,zb,za,Tm.cells_eq (rx l m f s.1.j (n+1)).t,hw6,hlt,gM hst,zR];refine APure.call (hD s.1.j (n+1) tz1 tz1 tz1 tz1) ?_;apply u;clear u;simp only[↓bO,go_sem,seval,Tok.cells,qC,rdC,hw1,hw2,hw3,hi,List.take,List.drop,gM ht0,zb,za,Tm.cells_eq (rx l m f s.1.j (n+1)).t,hw6,hlt,gM hst,zR];apply x;refine zu fun _ x=>?_;refine sqR fun _ g=>?_;(iterate 2 (refine chS 1 ?_ (by intro _ q;simp only[↓bO,go_sem,seval,Tok.cells,qC,rdC,hw1,hw2,hw3,hi,List.take,List.drop,gM ht0,zb,za,Tm.cells_eq (rx l m f s.1.j (n+1)).t,hw6,hlt,gM hst,zR];exact q)));simp only[↓bO,go_sem,seval,Tok.cells,qC,rdC,hw1,hw2,hw3,hi,List.take,List.drop,gM ht0,zb,za,Tm.cells_eq (rx l m f s.1.j (n+1)).t,hw6,hlt,gM hst,zR];apply g;apply zt rfl <;> intro hb76
     ·
      (have g4:¬(rx l m f s.1.j (n+1)).e=0:=by simpa using hb76);rw[g1,zdq,if_neg g4] at h9;refine sqR fun _ g=>?_;refine chS 1 ?_ (by intro _ q;simp only[↓bO,go_sem,seval,Tok.cells,qC,rdC,hw1,hw2,hw3,hi,List.take,List.drop,gM ht0,zb,za,Tm.cells_eq (rx l m f s.1.j (n+1)).t,hw6,hlt,gM hst,zR];exact q);simp only[↓bO,go_sem,seval,Tok.cells,qC,rdC,hw1,hw2,hw3,hi,List.take,List.drop,gM ht0,zb,za,Tm.cells_eq (rx l m f s.1.j (n+1)).t,hw6,hlt,gM hst,zR];apply g;apply zw;(try simp only[zD,zB,zz,zW,zU,zL,bS,bA,zK,zJ,zS,bL,Nat.reduceAdd,Nat.reduceLeDiff,Nat.reduceEqDiff,↓reduceIte,zaj,tyX,Tok.cells,zd,qC,rdC,hw1,hw2,hw3,hi,List.take,List.drop,gM ht0,zb,za,Tm.cells_eq (rx l m f s.1.j (n+1)).t,hw6,hlt,gM hst,zR]);rw[h9];exact Le.refl _
     (have g4:(rx l m f s.1.j (n+1)).e=0:=by simpa using hb76);rw[g1,zdq,if_pos g4] at h9;(have hb1:(s.1.ps.length+1) * 112<=140737488355328:=by omega);(have hb2:s.1.ps.length+1<=maxLen:=by (simp only[maxLen];omega));apply zy;apply x;refine sqR fun _ x=>?_;(iterate 4 (refine chS 1 ?_ (by intro _ q;simp only[↓bO,go_sem,seval,Tok.cells,qC,rdC,hw1,hw2,hw3,hi,List.take,List.drop,gM ht0,zb,za,Tm.cells_eq (rx l m f s.1.j (n+1)).t,hw6,hlt,gM hst,zR,hb1,hb2];exact q)));refine zq 1 fun _ u=>?_;simp only[↓bO,go_sem,seval,↓zb0,↓zb4,↓zbY,↓zb1,↓zcg,↓zbV,↓zb9,↓zb2,↓zce,↓zaX,↓zaZ,↓za0,Tok.cells,qC,rdC,hw1,hw2,hw3,hi,List.take,List.drop,gM ht0,zb,za,Tm.cells_eq (rx l m f s.1.j (n+1)).t,hw6,hlt,gM hst,zR,hb1,hb2];(iterate 2 (apply u;clear u;refine zq 1 fun _ u=>?_;simp only[↓bO,go_sem,seval,Tok.cells,qC,rdC,hw1,hw2,hw3,hi,List.take,List.drop,gM ht0,zb,za,Tm.cells_eq (rx l m f s.1.j (n+1)).t,hw6,hlt,gM hst,zR,hb1,hb2]));apply u;clear u;simp only[↓bO,go_sem,seval,Tok.cells,qC,rdC,hw1,hw2,hw3,hi,List.take,List.drop,gM ht0,zb,za,Tm.cells_eq (rx l m f s.1.j (n+1)).t,hw6,hlt,gM hst,zR,hb1,hb2];apply x;apply zA;(iterate 2 (refine chS 1 ?_ (by intro _ q;simp only[↓bO,go_sem,seval,Tok.cells,qC,rdC,hw1,hw2,hw3,hi,List.take,List.drop,gM ht0,zb,za,Tm.cells_eq (rx l m f s.1.j (n+1)).t,hw6,hlt,gM hst,zR,hb1,hb2];exact q)));simp only[↓bO,go_sem,seval,Tok.cells,qC,rdC,hw1,hw2,hw3,hi,List.take,List.drop,gM ht0,zb,za,Tm.cells_eq (rx l m f s.1.j (n+1)).t,hw6,hlt,gM hst,zR,hb1,hb2];apply z;apply zA;(iterate 2 (refine chS 1 ?_ (by intro _ q;simp only[↓bO,go_sem,seval,Tok.cells,qC,rdC,hw1,hw2,hw3,hi,List.take,List.drop,gM ht0,zb,za,Tm.cells_eq (rx l m f s.1.j (n+1)).t,hw6,hlt,gM hst,zR,hb1,hb2];exact q)));simp only[↓bO,go_sem,seval,Tok.cells,qC,rdC,hw1,hw2,hw3,hi,List.take,List.drop,gM ht0,zb,za,Tm.cells_eq (rx l m f s.1.j (n+1)).t,hw6,hlt,gM hst,zR,hb1,hb2];refine ⟨(⟨s.1.nm,s.1.ps++[(rx l m f s.1.j (n+1)).t],(rx l m f s.1.j (n+1)).i,(rx l m f s.1.j (n+1))⟩,s.2+1),⟨hlt,(by show (s.1.ps++_).length<=s.2+1;rw[za];show s.1.ps.length+1<=s.2+1;omega),(by have:=hxx.1;show i+1<=(rx l m f s.1.j (n+1)).i;omega),hxx.2.1,h9⟩,by (show yy2.length-(s.2+1)<yy2.length-s.2;omega),?_⟩;(try simp only[go_sem,seval,zb,bL,za,Tm.cells_eq (rx l m f s.1.j (n+1)).t,hw6,hlt,gM hst,zR,hb1,hb2]);exact zaH
    (have g1:¬st=bE:=fun h=>Bool.false_ne_true (hb66.symm.trans (zac.2 h)));refine sqR fun _ x=>?_;refine chS 1 ?_ (by intro _ q;simp only[↓bO,go_sem,seval,Tok.cells,qC,rdC,hw1,hw2,hw3,hi,List.take,List.drop,gM ht0,zb,za,Tm.cells_eq (rx l m f s.1.j (n+1)).t,hw6,hlt,gM hst,zR];exact q);simp only[↓bO,go_sem,seval,Tok.cells,qC,rdC,hw1,hw2,hw3,hi,List.take,List.drop,gM ht0,zb,za,Tm.cells_eq (rx l m f s.1.j (n+1)).t,hw6,hlt,gM hst,zR];apply x;apply zt rfl <;> intro hb87
    ·
     have g2:st=bN:=zac.1 hb87;refine zu fun _ x=>?_;refine sqR fun _ g=>?_;(iterate 2 (refine chS 1 ?_ (by intro _ q;simp only[↓bO,go_sem,seval,Tok.cells,qC,rdC,hw1,hw2,hw3,hi,List.take,List.drop,gM ht0,zb,za,Tm.cells_eq (rx l m f s.1.j (n+1)).t,hw6,hlt,gM hst,zR];exact q)));refine zq 1 fun _ u=>?_;simp only[↓bO,go_sem,seval,Tok.cells,qC,rdC,hw1,hw2,hw3,hi,List.take,List.drop,gM ht0,zb,za,Tm.cells_eq (rx l m f s.1.j (n+1)).t,hw6,hlt,gM hst,zR];refine APure.call (zdR l s.1.j) ?_;apply u;clear u;simp only[↓bO,go_sem,seval,Tok.cells,qC,rdC,hw1,hw2,hw3,hi,List.take,List.drop,gM ht0,zb,za,Tm.cells_eq (rx l m f s.1.j (n+1)).t,hw6,hlt,gM hst,zR];apply g;apply zt rfl <;> intro hb92
     ·
      (have g3:kdT l s.1.j 1=false:=by simpa using hb92);rw[g2,zgB,if_neg (by rw[g3];simp)] at h9;refine sqR fun _ g=>?_;refine chS 1 ?_ (by intro _ q;simp only[↓bO,go_sem,seval,Tok.cells,qC,rdC,hw1,hw2,hw3,hi,List.take,List.drop,gM ht0,zb,za,Tm.cells_eq (rx l m f s.1.j (n+1)).t,hw6,hlt,gM hst,zR];exact q);refine zq 1 fun _ u=>?_;simp only[↓bO,go_sem,seval,Tok.cells,qC,rdC,hw1,hw2,hw3,hi,List.take,List.drop,gM ht0,zb,za,Tm.cells_eq (rx l m f s.1.j (n+1)).t,hw6,hlt,gM hst,zR];refine APure.call (z7 s.1.j 3) ?_;apply u;clear u;simp only[↓bO,go_sem,seval,Tok.cells,qC,rdC,hw1,hw2,hw3,hi,List.take,List.drop,gM ht0,zb,za,Tm.cells_eq (rx l m f s.1.j (n+1)).t,hw6,hlt,gM hst,zR];apply g;apply zw;(try simp only[zD,zB,zz,zW,zU,zL,bS,bA,zK,zJ,zS,bL,Nat.reduceAdd,Nat.reduceLeDiff,Nat.reduceEqDiff,↓reduceIte,zaj,tyX,Tok.cells,zd,qC,rdC,hw1,hw2,hw3,hi,List.take,List.drop,gM ht0,zb,za,Tm.cells_eq (rx l m f s.1.j (n+1)).t,hw6,hlt,gM hst,zR]);rw[h9];exact Le.refl _
     (have g3:kdT l s.1.j 1=true:=by simpa using hb92);rw[g2,zgB,if_pos g3] at h9;have hjl2:=zbj g3;obtain ⟨t1,ht1⟩:∃t,l[s.1.j]?=some t:=⟨_,zc hjl2⟩;have htk1:=zaG ht1;(have hw5:IntKind.i64.wrap ((s.1.j:Int)+1)=((s.1.j+1:Nat):Int):=by (rw[zI tz1 tz1];omega));apply zy;apply x;refine sqR fun _ x=>?_;(iterate 6 (refine chS 1 ?_ (by intro _ q;simp only[↓bO,go_sem,seval,Tok.cells,qC,rdC,hw1,hw2,hw3,hi,List.take,List.drop,gM ht0,zb,za,Tm.cells_eq (rx l m f s.1.j (n+1)).t,hw6,hlt,gM hst,zR,hw5,hjl2,gM ht1,htk1];exact q)));simp only[↓bO,go_sem,seval,Tok.cells,qC,rdC,hw1,hw2,hw3,hi,List.take,List.drop,gM ht0,zb,za,Tm.cells_eq (rx l m f s.1.j (n+1)).t,hw6,hlt,gM hst,zR,hw5,hjl2,gM ht1,htk1];apply x;apply zA;(iterate 2 (refine chS 1 ?_ (by intro _ q;simp only[↓bO,go_sem,seval,Tok.cells,qC,rdC,hw1,hw2,hw3,hi,List.take,List.drop,gM ht0,zb,za,Tm.cells_eq (rx l m f s.1.j (n+1)).t,hw6,hlt,gM hst,zR,hw5,hjl2,gM ht1,htk1];exact q)));simp only[↓bO,go_sem,seval,Tok.cells,qC,rdC,hw1,hw2,hw3,hi,List.take,List.drop,gM ht0,zb,za,Tm.cells_eq (rx l m f s.1.j (n+1)).t,hw6,hlt,gM hst,zR,hw5,hjl2,gM ht1,htk1];apply z;apply zA;(iterate 2 (refine chS 1 ?_ (by intro _ q;simp only[↓bO,go_sem,seval,Tok.cells,qC,rdC,hw1,hw2,hw3,hi,List.take,List.drop,gM ht0,zb,za,Tm.cells_eq (rx l m f s.1.j (n+1)).t,hw6,hlt,gM hst,zR,hw5,hjl2,gM ht1,htk1];exact q)));simp only[↓bO,go_sem,seval,Tok.cells,qC,rdC,hw1,hw2,hw3,hi,List.take,List.drop,gM ht0,zb,za,Tm.cells_eq (rx l m f s.1.j (n+1)).t,hw6,hlt,gM hst,zR,hw5,hjl2,gM ht1,htk1];refine ⟨(⟨(tk l s.1.j).s,s.1.ps,s.1.j+1,s.1.last⟩,s.2+1),⟨hlt,Nat.le_succ_of_le hs.2.1,(by show i+1<=s.1.j+1;omega),zbj g3,h9⟩,by (show yy2.length-(s.2+1)<yy2.length-s.2;omega),?_⟩;(try simp only[go_sem,seval,zb,bL,za,Tm.cells_eq (rx l m f s.1.j (n+1)).t,hw6,hlt,gM hst,zR,hw5,hjl2,gM ht1,htk1]);exact zaH
    (have g2:¬st=bN:=fun h=>Bool.false_ne_true (hb87.symm.trans (zac.2 h)));refine zu fun _ x=>?_;refine sqR fun _ g=>?_;(iterate 6 (refine chS 1 ?_ (by intro _ q;simp only[↓bO,go_sem,seval,Tok.cells,qC,rdC,hw1,hw2,hw3,hi,List.take,List.drop,gM ht0,zb,za,Tm.cells_eq (rx l m f s.1.j (n+1)).t,hw6,hlt,gM hst,zR];exact q)));refine zq 1 fun _ u=>?_;simp only[↓bO,go_sem,seval,Tok.cells,qC,rdC,hw1,hw2,hw3,hi,List.take,List.drop,gM ht0,zb,za,Tm.cells_eq (rx l m f s.1.j (n+1)).t,hw6,hlt,gM hst,zR];refine APure.call (zaf l s.1.j st) ?_;(iterate 2 (apply u;clear u;refine zq 1 fun _ u=>?_;simp only[↓bO,go_sem,seval,Tok.cells,qC,rdC,hw1,hw2,hw3,hi,List.take,List.drop,gM ht0,zb,za,Tm.cells_eq (rx l m f s.1.j (n+1)).t,hw6,hlt,gM hst,zR]));apply u;clear u;refine zC 52 rfl (fun hc52=>?_) (fun hc52=>?_)
    ·
     simp only[go_sem];(have g5:isT l (s.1.j:Int) 3 st=false:=by simpa using hc52);(iterate 6 (refine chS 1 ?_ (by intro _ q;simp only[↓bO,go_sem,seval,Tok.cells,qC,rdC,hw1,hw2,hw3,hi,List.take,List.drop,gM ht0,zb,za,Tm.cells_eq (rx l m f s.1.j (n+1)).t,hw6,hlt,gM hst,zR];exact q)));refine zq 1 fun _ u=>?_;simp only[↓bO,go_sem,seval,Tok.cells,qC,rdC,hw1,hw2,hw3,hi,List.take,List.drop,gM ht0,zb,za,Tm.cells_eq (rx l m f s.1.j (n+1)).t,hw6,hlt,gM hst,zR];refine APure.call (zaC l s.1.j st) ?_;apply u;clear u;refine chS 1 ?_ (by intro _ q;simp only[↓bO,go_sem,seval,Tok.cells,qC,rdC,hw1,hw2,hw3,hi,List.take,List.drop,gM ht0,zb,za,Tm.cells_eq (rx l m f s.1.j (n+1)).t,hw6,hlt,gM hst,zR];exact q);simp only[↓bO,go_sem,seval,Tok.cells,qC,rdC,hw1,hw2,hw3,hi,List.take,List.drop,gM ht0,zb,za,Tm.cells_eq (rx l m f s.1.j (n+1)).t,hw6,hlt,gM hst,zR];apply g;apply zt rfl <;> intro hb61
     ·
      (have g6:isT l (s.1.j:Int) 4 st=false:=by simpa using hb61);rw[zeD g1 g2,if_neg (by rw[g5,g6];simp)] at h9;refine sqR fun _ g=>?_;refine chS 1 ?_ (by intro _ q;simp only[↓bO,go_sem,seval,Tok.cells,qC,rdC,hw1,hw2,hw3,hi,List.take,List.drop,gM ht0,zb,za,Tm.cells_eq (rx l m f s.1.j (n+1)).t,hw6,hlt,gM hst,zR];exact q);refine zq 1 fun _ u=>?_;simp only[↓bO,go_sem,seval,Tok.cells,qC,rdC,hw1,hw2,hw3,hi,List.take,List.drop,gM ht0,zb,za,Tm.cells_eq (rx l m f s.1.j (n+1)).t,hw6,hlt,gM hst,zR];refine APure.call (z7 s.1.j 3) ?_;apply u;clear u;simp only[↓bO,go_sem,seval,Tok.cells,qC,rdC,hw1,hw2,hw3,hi,List.take,List.drop,gM ht0,zb,za,Tm.cells_eq (rx l m f s.1.j (n+1)).t,hw6,hlt,gM hst,zR];apply g;apply zw;(try simp only[zD,zB,zz,zW,zU,zL,bS,bA,zK,zJ,zS,bL,Nat.reduceAdd,Nat.reduceLeDiff,Nat.reduceEqDiff,↓reduceIte,zaj,tyX,Tok.cells,zd,qC,rdC,hw1,hw2,hw3,hi,List.take,List.drop,gM ht0,zb,za,Tm.cells_eq (rx l m f s.1.j (n+1)).t,hw6,hlt,gM hst,zR]);rw[h9];exact Le.refl _
     have g6:isT l (s.1.j:Int) 3 st=true\/isT l (s.1.j:Int) 4 st=true:=.inr (by simpa using hb61);rw[zeD g1 g2,if_pos g6] at h9;(have hjl:s.1.j+1<=l.length:=by rcases g6 with g6 | g6 <;> exact zN g6);(have hw5:IntKind.i64.wrap ((s.1.j:Int)+1)=((s.1.j+1:Nat):Int):=by (rw[zI tz1 tz1];omega));apply zy;apply x;apply zA;(iterate 2 (refine chS 1 ?_ (by intro _ q;simp only[↓bO,go_sem,seval,Tok.cells,qC,rdC,hw1,hw2,hw3,hi,List.take,List.drop,gM ht0,zb,za,Tm.cells_eq (rx l m f s.1.j (n+1)).t,hw6,hlt,gM hst,zR,hw5];exact q)));simp only[↓bO,go_sem,seval,Tok.cells,qC,rdC,hw1,hw2,hw3,hi,List.take,List.drop,gM ht0,zb,za,Tm.cells_eq (rx l m f s.1.j (n+1)).t,hw6,hlt,gM hst,zR,hw5];apply z;apply zA;(iterate 2 (refine chS 1 ?_ (by intro _ q;simp only[↓bO,go_sem,seval,Tok.cells,qC,rdC,hw1,hw2,hw3,hi,List.take,List.drop,gM ht0,zb,za,Tm.cells_eq (rx l m f s.1.j (n+1)).t,hw6,hlt,gM hst,zR,hw5];exact q)));simp only[↓bO,go_sem,seval,Tok.cells,qC,rdC,hw1,hw2,hw3,hi,List.take,List.drop,gM ht0,zb,za,Tm.cells_eq (rx l m f s.1.j (n+1)).t,hw6,hlt,gM hst,zR,hw5];refine ⟨(⟨s.1.nm,s.1.ps,s.1.j+1,s.1.last⟩,s.2+1),⟨hlt,Nat.le_succ_of_le hs.2.1,(by show i+1<=s.1.j+1;omega),hjl,h9⟩,by (show yy2.length-(s.2+1)<yy2.length-s.2;omega),?_⟩;(try simp only[go_sem,seval,zb,bL,za,Tm.cells_eq (rx l m f s.1.j (n+1)).t,hw6,hlt,gM hst,zR,hw5]);exact zaH
    simp only[go_sem];(have g5:isT l (s.1.j:Int) 3 st=true:=by simpa using hc52);have g6:isT l (s.1.j:Int) 3 st=true\/isT l (s.1.j:Int) 4 st=true:=.inl g5;rw[zeD g1 g2,if_pos g6] at h9;(have hjl:s.1.j+1<=l.length:=by rcases g6 with g6 | g6 <;> exact zN g6);(have hw5:IntKind.i64.wrap ((s.1.j:Int)+1)=((s.1.j+1:Nat):Int):=by (rw[zI tz1 tz1];omega));(iterate 8 (refine chS 1 ?_ (by intro _ q;simp only[↓bO,go_sem,seval,Tok.cells,qC,rdC,hw1,hw2,hw3,hi,List.take,List.drop,gM ht0,zb,za,Tm.cells_eq (rx l m f s.1.j (n+1)).t,hw6,hlt,gM hst,zR,hw5];exact q)));simp only[↓bO,go_sem,seval,Tok.cells,qC,rdC,hw1,hw2,hw3,hi,List.take,List.drop,gM ht0,zb,za,Tm.cells_eq (rx l m f s.1.j (n+1)).t,hw6,hlt,gM hst,zR,hw5];apply g;refine zt (b:=false) (by first | exact rfl | exact congrArg (fun b=>AV.v (.bool b)) hb61) (fun h=>(by cases h)) (fun _=>?_);apply zy;apply x;apply zA;(iterate 2 (refine chS 1 ?_ (by intro _ q;simp only[↓bO,go_sem,seval,Tok.cells,qC,rdC,hw1,hw2,hw3,hi,List.take,List.drop,gM ht0,zb,za,Tm.cells_eq (rx l m f s.1.j (n+1)).t,hw6,hlt,gM hst,zR,hw5];exact q)));simp only[↓bO,go_sem,seval,Tok.cells,qC,rdC,hw1,hw2,hw3,hi,List.take,List.drop,gM ht0,zb,za,Tm.cells_eq (rx l m f s.1.j (n+1)).t,hw6,hlt,gM hst,zR,hw5];apply z;apply zA;(iterate 2 (refine chS 1 ?_ (by intro _ q;simp only[↓bO,go_sem,seval,Tok.cells,qC,rdC,hw1,hw2,hw3,hi,List.take,List.drop,gM ht0,zb,za,Tm.cells_eq (rx l m f s.1.j (n+1)).t,hw6,hlt,gM hst,zR,hw5];exact q)));simp only[↓bO,go_sem,seval,Tok.cells,qC,rdC,hw1,hw2,hw3,hi,List.take,List.drop,gM ht0,zb,za,Tm.cells_eq (rx l m f s.1.j (n+1)).t,hw6,hlt,gM hst,zR,hw5];refine ⟨(⟨s.1.nm,s.1.ps,s.1.j+1,s.1.last⟩,s.2+1),⟨hlt,Nat.le_succ_of_le hs.2.1,(by show i+1<=s.1.j+1;omega),hjl,h9⟩,by (show yy2.length-(s.2+1)<yy2.length-s.2;omega),?_⟩;(try simp only[go_sem,seval,zb,bL,za,Tm.cells_eq (rx l m f s.1.j (n+1)).t,hw6,hlt,gM hst,zR,hw5]);exact zaH
   (have hge:s.2=yy2.length:=by (have h8:=hb37;have:=hs.1;simp at h8;omega));have h9:=hs.2.2.2.2;rw[hge,List.drop_length,stR] at h9;apply zO;simp only[zD,zB,zz,bA,Nat.reduceEqDiff,↓reduceIte];apply w;refine zu fun _ w=>?_;refine zT 9 mixed tz0 fun J0 j0=>?_;(iterate 7 (simp only[go_sem];refine zE 1 fun _ u=>?_;simp only[↓zX,↓dOp,↓bO,go_sem,seval,Tok.cells,qC,rdC,hw1,hw2,hw3,hi,List.take,List.drop,gM ht0];apply u;clear u));simp only[go_sem];refine zE 1 fun _ u=>?_;simp only[↓zX,↓dOp,↓bO,go_sem,seval,Tok.cells,qC,rdC,hw1,hw2,hw3,hi,List.take,List.drop,gM ht0];refine ⟨_,zdE _ _ _ _,?_⟩;apply u;clear u;simp only[↓zX,↓dOp,↓bO,go_sem,seval,Tok.cells,qC,rdC,hw1,hw2,hw3,hi,List.take,List.drop,gM ht0];refine j0 _ ?_;clear j0 J0;simp only[go_sem];simp only[↓bO,go_sem,seval,Tok.cells,qC,rdC,hw1,hw2,hw3,hi,List.take,List.drop,gM ht0];apply w;refine sqR fun _ w=>?_;(iterate 5 (refine chS 1 ?_ (by intro _ q;simp only[↓bO,go_sem,seval,Tok.cells,qC,rdC,hw1,hw2,hw3,hi,List.take,List.drop,gM ht0];exact q)));simp only[↓bO,go_sem,seval,Tok.cells,qC,rdC,hw1,hw2,hw3,hi,List.take,List.drop,gM ht0];apply w;apply zw;(try simp only[zD,zB,zz,zW,zU,zL,bS,bA,zK,zJ,zS,bL,Nat.reduceAdd,Nat.reduceLeDiff,Nat.reduceEqDiff,↓reduceIte,zaj,tyX,Tok.cells,zd,qC,rdC,hw1,hw2,hw3,hi,List.take,List.drop,gM ht0]);rw[h9];unfold zaS sp tm;simp only[Tm.k,Tm.s,Tm.n,Tm.t,Tm.ps,Tm.a,Tm.b,Ty.k,Ty.n,Ty.ps,zi,htk0];exact Le.agg ⟨.refl _,.refl _,.refl _,.refl _,.refl _,Le.slNil 3,Le.osl _ _ _,.refl _,.refl _,.refl _,.refl _,.refl _,.refl _,trivial⟩
  have k1:isT l (i:Int) 3 zel=false:=hb20;apply zy;apply w;refine zcf (σ:=Int×List ByteArray×Nat) (mB 117 3855) (fun y=>[(10,.sl 1 (y.2.1.map zR)),(11,.v (.int .i64 (y.2.2:Int)))]) (fun y=>[(1,.cells 58 [.v (.int .i64 y.1),.v (.string ByteArray.empty),.v (.int .i64 0),.v (.int .i64 0),.v (.int .i64 0),.v (.slice none 0 0),.v (.slice none 0 0),.v (.int .i64 0),.v (.int .i64 0)])]) (fun y=>FoI (rx l m f) l i n r y) ?_ (fun y hy=>?_)
  ·
   refine sqR fun _ w=>?_;(iterate 2 (refine chS 1 ?_ (by intro _ q;simp only[↓bO,go_sem,seval,Tok.cells,qC,rdC,hw1,hw2,hw3,hi,List.take,List.drop,gM ht0];exact q)));simp only[↓bO,go_sem,seval,Tok.cells,qC,rdC,hw1,hw2,hw3,hi,List.take,List.drop,gM ht0];refine APure.call (zaf l i _) ?_;apply w;apply zt rfl <;> intro hb25
   ·
    have k2:isT l (i:Int) 3 zdn=true:=hb25;refine sqR fun _ w=>?_;refine zq 1 fun _ u=>?_;simp only[↓bO,go_sem,seval,↓bs5_1,↓bs5_2,↓bs5_3,↓bs5_4,↓bs5_5,↓bs5_6,↓bs5_7,↓bs5_8,↓bs5_9,↓bs5_10,↓bs5_11,↓bs5_12,Tok.cells,qC,rdC,hw1,hw2,hw3,hi,List.take,List.drop,gM ht0];(iterate 2 (apply u;clear u;refine zq 1 fun _ u=>?_;simp only[↓bO,go_sem,seval,Tok.cells,qC,rdC,hw1,hw2,hw3,hi,List.take,List.drop,gM ht0]));apply u;clear u;simp only[↓bO,go_sem,seval,Tok.cells,qC,rdC,hw1,hw2,hw3,hi,List.take,List.drop,gM ht0];apply w;refine sqR fun _ w=>?_;(iterate 2 (refine chS 1 ?_ (by intro _ q;simp only[↓bO,go_sem,seval,Tok.cells,qC,rdC,hw1,hw2,hw3,hi,List.take,List.drop,gM ht0];exact q)));simp only[↓bO,go_sem,seval,Tok.cells,qC,rdC,hw1,hw2,hw3,hi,List.take,List.drop,gM ht0];refine APure.call (zaf l (i+1) _) ?_;apply w;apply zt rfl <;> intro hb30
    ·
     have k3:isT l ((i+1:Nat):Int) 3 zfa=true:=hb30;have hy0:=FoI.rec hK hbr k2 k3;refine sqR fun _ w=>?_;refine chS 1 ?_ (by intro _ q;simp only[↓bO,go_sem,seval,Tok.cells,qC,rdC,hw1,hw2,hw3,hi,List.take,List.drop,gM ht0];exact q);simp only[↓bO,go_sem,seval,Tok.cells,qC,rdC,hw1,hw2,hw3,hi,List.take,List.drop,gM ht0];apply w;apply zA;(iterate 2 (refine chS 1 ?_ (by intro _ q;simp only[↓bO,go_sem,seval,Tok.cells,qC,rdC,hw1,hw2,hw3,hi,List.take,List.drop,gM ht0];exact q)));simp only[↓bO,go_sem,seval,Tok.cells,qC,rdC,hw1,hw2,hw3,hi,List.take,List.drop,gM ht0];(try simp only[go_sem,seval]);refine ⟨_,hy0,?_⟩;exact clz7
    have k3:isT l ((i+1:Nat):Int) 3 zfa=false:=hb30;(have hy0:=FoI.let hK hbr k2 k3);apply zy;(try simp only[go_sem]);(try simp only[go_sem,seval]);refine ⟨_,hy0,?_⟩;exact clz7
   have k2:isT l (i:Int) 3 zdn=false:=hb25;(first | have hy0:=FoI.fun hK hbr k1 | have hy0:=FoI.iff hK hbr hi k1 k2);apply zy;(try simp only[go_sem]);(try simp only[go_sem,seval]);refine ⟨_,hy0,?_⟩;exact clz7
  simp only[go_sem,seval];obtain ⟨yy1,yy2,yy3⟩:=y;obtain ⟨z1,z2,z3,z4⟩:=hy;dsimp only at z1 z2 z3 z4;dsimp only;refine sqR fun _ w=>?_;simp only[↓bO,go_sem,seval,Tok.cells,qC,rdC,hw1,hw2,hw3,hi,List.take,List.drop,gM ht0];apply w;refine zu fun _ w=>?_;refine sqR fun _ z=>?_;simp only[↓bO,go_sem,seval,Tok.cells,qC,rdC,hw1,hw2,hw3,hi,List.take,List.drop,gM ht0];apply z;apply zF;refine zaB (Weak.tokCell 58 9 (id:=1) (t:=58) [.v (.int .i64 yy1),.v (.string ByteArray.empty),.v (.int .i64 0),.v (.int .i64 0),.v (.int .i64 0),.v (.slice none 0 0),.osl 3 9 [],.v (.int .i64 0),.v (.int .i64 0)] rfl ⟨.inl (.refl _),.inl (.refl _),.inl (.refl _),.inl (.refl _),.inl (.refl _),.inl (.refl _),.inr ⟨rfl,rfl⟩,.inl (.refl _),.inl (.refl _),trivial⟩) ?_;simp only[zQ,Nat.reduceEqDiff,↓reduceIte];refine zaB (Weak.recell (id:=2) (t:=191) (rdC (wr 0 0)) rfl zRd_le) ?_;simp only[zQ,Nat.reduceEqDiff,↓reduceIte];refine zV (σ:=SS×Nat) (mB 117 16143) (fun s=>s.2<=yy2.length/\s.1.ps.length<=s.2/\i+1<=s.1.j/\s.1.j<=l.length/\r=stR (rx l m f) l i n yy1 (yy2.drop s.2) s.1) (fun s=>[(11,.v (.int .i64 (s.1.j:Int))),(13,.v (.int .i64 (s.2:Int)))]) (fun s=>[(1,.cells 58 [.v (.int .i64 yy1),.v (.string s.1.nm),.v (.int .i64 0),.v (.int .i64 0),.v (.int .i64 0),.v (.slice none 0 0),.osl 3 9 (s.1.ps.map Tm.cells),.v (.int .i64 0),.v (.int .i64 0)]),(3,.tok 58 9 s.1.ps.length),(2,.cells 191 (rdC s.1.last))]) (fun s=>yy2.length-s.2) (⟨ByteArray.empty,[],yy3,wr 0 0⟩,0) (⟨Nat.zero_le _,zh _,z2,z3,z4 _⟩) ?_ (fun s hs=>?_)
  ·
   (try simp only[go_sem,seval,bL,zj,Int.ofNat_zero,Int.cast_ofNat_Int]);exact zaH
  simp only[go_sem,seval];refine zu fun _ z=>?_;refine sqR fun _ x=>?_;(iterate 3 (refine chS 1 ?_ (by intro _ q;simp only[↓bO,go_sem,seval,Tok.cells,qC,rdC,hw1,hw2,hw3,hi,List.take,List.drop,gM ht0,zb,za,Tm.cells_eq (rx l m f s.1.j (n+1)).t];exact q)));simp only[↓bO,go_sem,seval,Tok.cells,qC,rdC,hw1,hw2,hw3,hi,List.take,List.drop,gM ht0,zb,za,Tm.cells_eq (rx l m f s.1.j (n+1)).t];apply x;apply zt rfl <;> intro hb37
  ·
   (have hlt:s.2<yy2.length:=by (have h8:=hb37;simp at h8;omega));obtain ⟨st,hst⟩:∃t,yy2[s.2]?=some t:=⟨_,zc hlt⟩;have h9:=hs.2.2.2.2;rw[List.drop_eq_getElem_cons hlt,show yy2[s.2]=st from by rw[zc hlt] at hst;exact Option.some.inj hst] at h9;have hs3:=hs.2.2.1;have hs4:=hs.2.2.2.1;have hs5:=hs.2.1;(have hw6:IntKind.i64.wrap ((s.2:Int)+1)=((s.2+1:Nat):Int):=by (rw[zI tz1 tz1];omega));apply zy;apply z;refine zu fun _ z=>?_;apply zF;refine sqR fun _ x=>?_;(iterate 3 (refine chS 1 ?_ (by intro _ q;simp only[↓bO,go_sem,seval,Tok.cells,qC,rdC,hw1,hw2,hw3,hi,List.take,List.drop,gM ht0,zb,za,Tm.cells_eq (rx l m f s.1.j (n+1)).t,hw6,hlt,gM hst,zR];exact q)));simp only[↓bO,go_sem,seval,Tok.cells,qC,rdC,hw1,hw2,hw3,hi,List.take,List.drop,gM ht0,zb,za,Tm.cells_eq (rx l m f s.1.j (n+1)).t,hw6,hlt,gM hst,zR];apply x;apply zF;refine sqR fun _ x=>?_;refine chS 1 ?_ (by intro _ q;simp only[↓bO,go_sem,seval,Tok.cells,qC,rdC,hw1,hw2,hw3,hi,List.take,List.drop,gM ht0,zb,za,Tm.cells_eq (rx l m f s.1.j (n+1)).t,hw6,hlt,gM hst,zR];exact q);simp only[↓bO,go_sem,seval,Tok.cells,qC,rdC,hw1,hw2,hw3,hi,List.take,List.drop,gM ht0,zb,za,Tm.cells_eq (rx l m f s.1.j (n+1)).t,hw6,hlt,gM hst,zR];apply x;apply zt rfl <;> intro hb66
   ·
    have g1:st=bE:=zac.1 hb66;have hxx:=hR s.1.j (n+1) hs.2.2.2.1;refine sqR fun _ x=>?_;(iterate 5 (refine chS 1 ?_ (by intro _ q;simp only[↓bO,go_sem,seval,Tok.cells,qC,rdC,hw1,hw2,hw3,hi,List.take,List.drop,gM ht0,zb,za,Tm.cells_eq (rx l m f s.1.j (n+1)).t,hw6,hlt,gM hst,zR];exact q)));refine zq 1 fun _ u=>?_;simp only[↓bO,go_sem,seval,Tok.cells,qC,rdC,hw1,hw2,hw3,hi,List.take,List.drop,gM ht0,zb,za,Tm.cells_eq (rx l m f s.1.j (n+1)).t,hw6,hlt,gM hst,zR];refine APure.call (hD s.1.j (n+1) tz1 tz1 tz1 tz1) ?_;apply u;clear u;simp only[↓bO,go_sem,seval,Tok.cells,qC,rdC,hw1,hw2,hw3,hi,List.take,List.drop,gM ht0,zb,za,Tm.cells_eq (rx l m f s.1.j (n+1)).t,hw6,hlt,gM hst,zR];apply x;refine zu fun _ x=>?_;refine sqR fun _ g=>?_;(iterate 2 (refine chS 1 ?_ (by intro _ q;simp only[↓bO,go_sem,seval,Tok.cells,qC,rdC,hw1,hw2,hw3,hi,List.take,List.drop,gM ht0,zb,za,Tm.cells_eq (rx l m f s.1.j (n+1)).t,hw6,hlt,gM hst,zR];exact q)));simp only[↓bO,go_sem,seval,Tok.cells,qC,rdC,hw1,hw2,hw3,hi,List.take,List.drop,gM ht0,zb,za,Tm.cells_eq (rx l m f s.1.j (n+1)).t,hw6,hlt,gM hst,zR];apply g;apply zt rfl <;> intro hb76
    ·
     (have g4:¬(rx l m f s.1.j (n+1)).e=0:=by simpa using hb76);rw[g1,zdq,if_neg g4] at h9;refine sqR fun _ g=>?_;refine chS 1 ?_ (by intro _ q;simp only[↓bO,go_sem,seval,Tok.cells,qC,rdC,hw1,hw2,hw3,hi,List.take,List.drop,gM ht0,zb,za,Tm.cells_eq (rx l m f s.1.j (n+1)).t,hw6,hlt,gM hst,zR];exact q);simp only[↓bO,go_sem,seval,Tok.cells,qC,rdC,hw1,hw2,hw3,hi,List.take,List.drop,gM ht0,zb,za,Tm.cells_eq (rx l m f s.1.j (n+1)).t,hw6,hlt,gM hst,zR];apply g;apply zw;(try simp only[zD,zB,zz,zW,zU,zL,bS,bA,zK,zJ,zS,bL,Nat.reduceAdd,Nat.reduceLeDiff,Nat.reduceEqDiff,↓reduceIte,zaj,tyX,Tok.cells,zd,qC,rdC,hw1,hw2,hw3,hi,List.take,List.drop,gM ht0,zb,za,Tm.cells_eq (rx l m f s.1.j (n+1)).t,hw6,hlt,gM hst,zR]);rw[h9];exact Le.refl _
    (have g4:(rx l m f s.1.j (n+1)).e=0:=by simpa using hb76);rw[g1,zdq,if_pos g4] at h9;(have hb1:(s.1.ps.length+1) * 112<=140737488355328:=by omega);(have hb2:s.1.ps.length+1<=maxLen:=by (simp only[maxLen];omega));apply zy;apply x;refine sqR fun _ x=>?_;(iterate 4 (refine chS 1 ?_ (by intro _ q;simp only[↓bO,go_sem,seval,Tok.cells,qC,rdC,hw1,hw2,hw3,hi,List.take,List.drop,gM ht0,zb,za,Tm.cells_eq (rx l m f s.1.j (n+1)).t,hw6,hlt,gM hst,zR,hb1,hb2];exact q)));refine zq 1 fun _ u=>?_;simp only[↓bO,go_sem,seval,↓zb0,↓zb4,↓zbY,↓zb1,↓zcg,↓zbV,↓zb9,↓zb2,↓zce,↓zaX,↓zaZ,↓za0,Tok.cells,qC,rdC,hw1,hw2,hw3,hi,List.take,List.drop,gM ht0,zb,za,Tm.cells_eq (rx l m f s.1.j (n+1)).t,hw6,hlt,gM hst,zR,hb1,hb2];(iterate 2 (apply u;clear u;refine zq 1 fun _ u=>?_;simp only[↓bO,go_sem,seval,Tok.cells,qC,rdC,hw1,hw2,hw3,hi,List.take,List.drop,gM ht0,zb,za,Tm.cells_eq (rx l m f s.1.j (n+1)).t,hw6,hlt,gM hst,zR,hb1,hb2]));apply u;clear u;simp only[↓bO,go_sem,seval,Tok.cells,qC,rdC,hw1,hw2,hw3,hi,List.take,List.drop,gM ht0,zb,za,Tm.cells_eq (rx l m f s.1.j (n+1)).t,hw6,hlt,gM hst,zR,hb1,hb2];apply x;apply zA;(iterate 2 (refine chS 1 ?_ (by intro _ q;simp only[↓bO,go_sem,seval,Tok.cells,qC,rdC,hw1,hw2,hw3,hi,List.take,List.drop,gM ht0,zb,za,Tm.cells_eq (rx l m f s.1.j (n+1)).t,hw6,hlt,gM hst,zR,hb1,hb2];exact q)));simp only[↓bO,go_sem,seval,Tok.cells,qC,rdC,hw1,hw2,hw3,hi,List.take,List.drop,gM ht0,zb,za,Tm.cells_eq (rx l m f s.1.j (n+1)).t,hw6,hlt,gM hst,zR,hb1,hb2];apply z;apply zA;(iterate 2 (refine chS 1 ?_ (by intro _ q;simp only[↓bO,go_sem,seval,Tok.cells,qC,rdC,hw1,hw2,hw3,hi,List.take,List.drop,gM ht0,zb,za,Tm.cells_eq (rx l m f s.1.j (n+1)).t,hw6,hlt,gM hst,zR,hb1,hb2];exact q)));simp only[↓bO,go_sem,seval,Tok.cells,qC,rdC,hw1,hw2,hw3,hi,List.take,List.drop,gM ht0,zb,za,Tm.cells_eq (rx l m f s.1.j (n+1)).t,hw6,hlt,gM hst,zR,hb1,hb2];refine ⟨(⟨s.1.nm,s.1.ps++[(rx l m f s.1.j (n+1)).t],(rx l m f s.1.j (n+1)).i,(rx l m f s.1.j (n+1))⟩,s.2+1),⟨hlt,(by show (s.1.ps++_).length<=s.2+1;rw[za];show s.1.ps.length+1<=s.2+1;omega),(by have:=hxx.1;show i+1<=(rx l m f s.1.j (n+1)).i;omega),hxx.2.1,h9⟩,by (show yy2.length-(s.2+1)<yy2.length-s.2;omega),?_⟩;(try simp only[go_sem,seval,zb,bL,za,Tm.cells_eq (rx l m f s.1.j (n+1)).t,hw6,hlt,gM hst,zR,hb1,hb2]);exact zaH
   (have g1:¬st=bE:=fun h=>Bool.false_ne_true (hb66.symm.trans (zac.2 h)));refine sqR fun _ x=>?_;refine chS 1 ?_ (by intro _ q;simp only[↓bO,go_sem,seval,Tok.cells,qC,rdC,hw1,hw2,hw3,hi,List.take,List.drop,gM ht0,zb,za,Tm.cells_eq (rx l m f s.1.j (n+1)).t,hw6,hlt,gM hst,zR];exact q);simp only[↓bO,go_sem,seval,Tok.cells,qC,rdC,hw1,hw2,hw3,hi,List.take,List.drop,gM ht0,zb,za,Tm.cells_eq (rx l m f s.1.j (n+1)).t,hw6,hlt,gM hst,zR];apply x;apply zt rfl <;> intro hb87
   ·
    have g2:st=bN:=zac.1 hb87;refine zu fun _ x=>?_;refine sqR fun _ g=>?_;(iterate 2 (refine chS 1 ?_ (by intro _ q;simp only[↓bO,go_sem,seval,Tok.cells,qC,rdC,hw1,hw2,hw3,hi,List.take,List.drop,gM ht0,zb,za,Tm.cells_eq (rx l m f s.1.j (n+1)).t,hw6,hlt,gM hst,zR];exact q)));refine zq 1 fun _ u=>?_;simp only[↓bO,go_sem,seval,Tok.cells,qC,rdC,hw1,hw2,hw3,hi,List.take,List.drop,gM ht0,zb,za,Tm.cells_eq (rx l m f s.1.j (n+1)).t,hw6,hlt,gM hst,zR];refine APure.call (zdR l s.1.j) ?_;apply u;clear u;simp only[↓bO,go_sem,seval,Tok.cells,qC,rdC,hw1,hw2,hw3,hi,List.take,List.drop,gM ht0,zb,za,Tm.cells_eq (rx l m f s.1.j (n+1)).t,hw6,hlt,gM hst,zR];apply g;apply zt rfl <;> intro hb92
    ·
     (have g3:kdT l s.1.j 1=false:=by simpa using hb92);rw[g2,zgB,if_neg (by rw[g3];simp)] at h9;refine sqR fun _ g=>?_;refine chS 1 ?_ (by intro _ q;simp only[↓bO,go_sem,seval,Tok.cells,qC,rdC,hw1,hw2,hw3,hi,List.take,List.drop,gM ht0,zb,za,Tm.cells_eq (rx l m f s.1.j (n+1)).t,hw6,hlt,gM hst,zR];exact q);refine zq 1 fun _ u=>?_;simp only[↓bO,go_sem,seval,Tok.cells,qC,rdC,hw1,hw2,hw3,hi,List.take,List.drop,gM ht0,zb,za,Tm.cells_eq (rx l m f s.1.j (n+1)).t,hw6,hlt,gM hst,zR];refine APure.call (z7 s.1.j 3) ?_;apply u;clear u;simp only[↓bO,go_sem,seval,Tok.cells,qC,rdC,hw1,hw2,hw3,hi,List.take,List.drop,gM ht0,zb,za,Tm.cells_eq (rx l m f s.1.j (n+1)).t,hw6,hlt,gM hst,zR];apply g;apply zw;(try simp only[zD,zB,zz,zW,zU,zL,bS,bA,zK,zJ,zS,bL,Nat.reduceAdd,Nat.reduceLeDiff,Nat.reduceEqDiff,↓reduceIte,zaj,tyX,Tok.cells,zd,qC,rdC,hw1,hw2,hw3,hi,List.take,List.drop,gM ht0,zb,za,Tm.cells_eq (rx l m f s.1.j (n+1)).t,hw6,hlt,gM hst,zR]);rw[h9];exact Le.refl _
    (have g3:kdT l s.1.j 1=true:=by simpa using hb92);rw[g2,zgB,if_pos g3] at h9;have hjl2:=zbj g3;obtain ⟨t1,ht1⟩:∃t,l[s.1.j]?=some t:=⟨_,zc hjl2⟩;have htk1:=zaG ht1;(have hw5:IntKind.i64.wrap ((s.1.j:Int)+1)=((s.1.j+1:Nat):Int):=by (rw[zI tz1 tz1];omega));apply zy;apply x;refine sqR fun _ x=>?_;(iterate 6 (refine chS 1 ?_ (by intro _ q;simp only[↓bO,go_sem,seval,Tok.cells,qC,rdC,hw1,hw2,hw3,hi,List.take,List.drop,gM ht0,zb,za,Tm.cells_eq (rx l m f s.1.j (n+1)).t,hw6,hlt,gM hst,zR,hw5,hjl2,gM ht1,htk1];exact q)));simp only[↓bO,go_sem,seval,Tok.cells,qC,rdC,hw1,hw2,hw3,hi,List.take,List.drop,gM ht0,zb,za,Tm.cells_eq (rx l m f s.1.j (n+1)).t,hw6,hlt,gM hst,zR,hw5,hjl2,gM ht1,htk1];apply x;apply zA;(iterate 2 (refine chS 1 ?_ (by intro _ q;simp only[↓bO,go_sem,seval,Tok.cells,qC,rdC,hw1,hw2,hw3,hi,List.take,List.drop,gM ht0,zb,za,Tm.cells_eq (rx l m f s.1.j (n+1)).t,hw6,hlt,gM hst,zR,hw5,hjl2,gM ht1,htk1];exact q)));simp only[↓bO,go_sem,seval,Tok.cells,qC,rdC,hw1,hw2,hw3,hi,List.take,List.drop,gM ht0,zb,za,Tm.cells_eq (rx l m f s.1.j (n+1)).t,hw6,hlt,gM hst,zR,hw5,hjl2,gM ht1,htk1];apply z;apply zA;(iterate 2 (refine chS 1 ?_ (by intro _ q;simp only[↓bO,go_sem,seval,Tok.cells,qC,rdC,hw1,hw2,hw3,hi,List.take,List.drop,gM ht0,zb,za,Tm.cells_eq (rx l m f s.1.j (n+1)).t,hw6,hlt,gM hst,zR,hw5,hjl2,gM ht1,htk1];exact q)));simp only[↓bO,go_sem,seval,Tok.cells,qC,rdC,hw1,hw2,hw3,hi,List.take,List.drop,gM ht0,zb,za,Tm.cells_eq (rx l m f s.1.j (n+1)).t,hw6,hlt,gM hst,zR,hw5,hjl2,gM ht1,htk1];refine ⟨(⟨(tk l s.1.j).s,s.1.ps,s.1.j+1,s.1.last⟩,s.2+1),⟨hlt,Nat.le_succ_of_le hs.2.1,(by show i+1<=s.1.j+1;omega),zbj g3,h9⟩,by (show yy2.length-(s.2+1)<yy2.length-s.2;omega),?_⟩;(try simp only[go_sem,seval,zb,bL,za,Tm.cells_eq (rx l m f s.1.j (n+1)).t,hw6,hlt,gM hst,zR,hw5,hjl2,gM ht1,htk1]);exact zaH
   (have g2:¬st=bN:=fun h=>Bool.false_ne_true (hb87.symm.trans (zac.2 h)));refine zu fun _ x=>?_;refine sqR fun _ g=>?_;(iterate 6 (refine chS 1 ?_ (by intro _ q;simp only[↓bO,go_sem,seval,Tok.cells,qC,rdC,hw1,hw2,hw3,hi,List.take,List.drop,gM ht0,zb,za,Tm.cells_eq (rx l m f s.1.j (n+1)).t,hw6,hlt,gM hst,zR];exact q)));refine zq 1 fun _ u=>?_;simp only[↓bO,go_sem,seval,Tok.cells,qC,rdC,hw1,hw2,hw3,hi,List.take,List.drop,gM ht0,zb,za,Tm.cells_eq (rx l m f s.1.j (n+1)).t,hw6,hlt,gM hst,zR];refine APure.call (zaf l s.1.j st) ?_;(iterate 2 (apply u;clear u;refine zq 1 fun _ u=>?_;simp only[↓bO,go_sem,seval,Tok.cells,qC,rdC,hw1,hw2,hw3,hi,List.take,List.drop,gM ht0,zb,za,Tm.cells_eq (rx l m f s.1.j (n+1)).t,hw6,hlt,gM hst,zR]));apply u;clear u;refine zC 52 rfl (fun hc52=>?_) (fun hc52=>?_)
   ·
    simp only[go_sem];(have g5:isT l (s.1.j:Int) 3 st=false:=by simpa using hc52);(iterate 6 (refine chS 1 ?_ (by intro _ q;simp only[↓bO,go_sem,seval,Tok.cells,qC,rdC,hw1,hw2,hw3,hi,List.take,List.drop,gM ht0,zb,za,Tm.cells_eq (rx l m f s.1.j (n+1)).t,hw6,hlt,gM hst,zR];exact q)));refine zq 1 fun _ u=>?_;simp only[↓bO,go_sem,seval,Tok.cells,qC,rdC,hw1,hw2,hw3,hi,List.take,List.drop,gM ht0,zb,za,Tm.cells_eq (rx l m f s.1.j (n+1)).t,hw6,hlt,gM hst,zR];refine APure.call (zaC l s.1.j st) ?_;apply u;clear u;refine chS 1 ?_ (by intro _ q;simp only[↓bO,go_sem,seval,Tok.cells,qC,rdC,hw1,hw2,hw3,hi,List.take,List.drop,gM ht0,zb,za,Tm.cells_eq (rx l m f s.1.j (n+1)).t,hw6,hlt,gM hst,zR];exact q);simp only[↓bO,go_sem,seval,Tok.cells,qC,rdC,hw1,hw2,hw3,hi,List.take,List.drop,gM ht0,zb,za,Tm.cells_eq (rx l m f s.1.j (n+1)).t,hw6,hlt,gM hst,zR];apply g;apply zt rfl <;> intro hb61
    ·
     (have g6:isT l (s.1.j:Int) 4 st=false:=by simpa using hb61);rw[zeD g1 g2,if_neg (by rw[g5,g6];simp)] at h9;refine sqR fun _ g=>?_;refine chS 1 ?_ (by intro _ q;simp only[↓bO,go_sem,seval,Tok.cells,qC,rdC,hw1,hw2,hw3,hi,List.take,List.drop,gM ht0,zb,za,Tm.cells_eq (rx l m f s.1.j (n+1)).t,hw6,hlt,gM hst,zR];exact q);refine zq 1 fun _ u=>?_;simp only[↓bO,go_sem,seval,Tok.cells,qC,rdC,hw1,hw2,hw3,hi,List.take,List.drop,gM ht0,zb,za,Tm.cells_eq (rx l m f s.1.j (n+1)).t,hw6,hlt,gM hst,zR];refine APure.call (z7 s.1.j 3) ?_;apply u;clear u;simp only[↓bO,go_sem,seval,Tok.cells,qC,rdC,hw1,hw2,hw3,hi,List.take,List.drop,gM ht0,zb,za,Tm.cells_eq (rx l m f s.1.j (n+1)).t,hw6,hlt,gM hst,zR];apply g;apply zw;(try simp only[zD,zB,zz,zW,zU,zL,bS,bA,zK,zJ,zS,bL,Nat.reduceAdd,Nat.reduceLeDiff,Nat.reduceEqDiff,↓reduceIte,zaj,tyX,Tok.cells,zd,qC,rdC,hw1,hw2,hw3,hi,List.take,List.drop,gM ht0,zb,za,Tm.cells_eq (rx l m f s.1.j (n+1)).t,hw6,hlt,gM hst,zR]);rw[h9];exact Le.refl _
    have g6:isT l (s.1.j:Int) 3 st=true\/isT l (s.1.j:Int) 4 st=true:=.inr (by simpa using hb61);rw[zeD g1 g2,if_pos g6] at h9;(have hjl:s.1.j+1<=l.length:=by rcases g6 with g6 | g6 <;> exact zN g6);(have hw5:IntKind.i64.wrap ((s.1.j:Int)+1)=((s.1.j+1:Nat):Int):=by (rw[zI tz1 tz1];omega));apply zy;apply x;apply zA;(iterate 2 (refine chS 1 ?_ (by intro _ q;simp only[↓bO,go_sem,seval,Tok.cells,qC,rdC,hw1,hw2,hw3,hi,List.take,List.drop,gM ht0,zb,za,Tm.cells_eq (rx l m f s.1.j (n+1)).t,hw6,hlt,gM hst,zR,hw5];exact q)));simp only[↓bO,go_sem,seval,Tok.cells,qC,rdC,hw1,hw2,hw3,hi,List.take,List.drop,gM ht0,zb,za,Tm.cells_eq (rx l m f s.1.j (n+1)).t,hw6,hlt,gM hst,zR,hw5];apply z;apply zA;(iterate 2 (refine chS 1 ?_ (by intro _ q;simp only[↓bO,go_sem,seval,Tok.cells,qC,rdC,hw1,hw2,hw3,hi,List.take,List.drop,gM ht0,zb,za,Tm.cells_eq (rx l m f s.1.j (n+1)).t,hw6,hlt,gM hst,zR,hw5];exact q)));simp only[↓bO,go_sem,seval,Tok.cells,qC,rdC,hw1,hw2,hw3,hi,List.take,List.drop,gM ht0,zb,za,Tm.cells_eq (rx l m f s.1.j (n+1)).t,hw6,hlt,gM hst,zR,hw5];refine ⟨(⟨s.1.nm,s.1.ps,s.1.j+1,s.1.last⟩,s.2+1),⟨hlt,Nat.le_succ_of_le hs.2.1,(by show i+1<=s.1.j+1;omega),hjl,h9⟩,by (show yy2.length-(s.2+1)<yy2.length-s.2;omega),?_⟩;(try simp only[go_sem,seval,zb,bL,za,Tm.cells_eq (rx l m f s.1.j (n+1)).t,hw6,hlt,gM hst,zR,hw5]);exact zaH
   simp only[go_sem];(have g5:isT l (s.1.j:Int) 3 st=true:=by simpa using hc52);have g6:isT l (s.1.j:Int) 3 st=true\/isT l (s.1.j:Int) 4 st=true:=.inl g5;rw[zeD g1 g2,if_pos g6] at h9;(have hjl:s.1.j+1<=l.length:=by rcases g6 with g6 | g6 <;> exact zN g6);(have hw5:IntKind.i64.wrap ((s.1.j:Int)+1)=((s.1.j+1:Nat):Int):=by (rw[zI tz1 tz1];omega));(iterate 8 (refine chS 1 ?_ (by intro _ q;simp only[↓bO,go_sem,seval,Tok.cells,qC,rdC,hw1,hw2,hw3,hi,List.take,List.drop,gM ht0,zb,za,Tm.cells_eq (rx l m f s.1.j (n+1)).t,hw6,hlt,gM hst,zR,hw5];exact q)));simp only[↓bO,go_sem,seval,Tok.cells,qC,rdC,hw1,hw2,hw3,hi,List.take,List.drop,gM ht0,zb,za,Tm.cells_eq (rx l m f s.1.j (n+1)).t,hw6,hlt,gM hst,zR,hw5];apply g;refine zt (b:=false) (by first | exact rfl | exact congrArg (fun b=>AV.v (.bool b)) hb61) (fun h=>(by cases h)) (fun _=>?_);apply zy;apply x;apply zA;(iterate 2 (refine chS 1 ?_ (by intro _ q;simp only[↓bO,go_sem,seval,Tok.cells,qC,rdC,hw1,hw2,hw3,hi,List.take,List.drop,gM ht0,zb,za,Tm.cells_eq (rx l m f s.1.j (n+1)).t,hw6,hlt,gM hst,zR,hw5];exact q)));simp only[↓bO,go_sem,seval,Tok.cells,qC,rdC,hw1,hw2,hw3,hi,List.take,List.drop,gM ht0,zb,za,Tm.cells_eq (rx l m f s.1.j (n+1)).t,hw6,hlt,gM hst,zR,hw5];apply z;apply zA;(iterate 2 (refine chS 1 ?_ (by intro _ q;simp only[↓bO,go_sem,seval,Tok.cells,qC,rdC,hw1,hw2,hw3,hi,List.take,List.drop,gM ht0,zb,za,Tm.cells_eq (rx l m f s.1.j (n+1)).t,hw6,hlt,gM hst,zR,hw5];exact q)));simp only[↓bO,go_sem,seval,Tok.cells,qC,rdC,hw1,hw2,hw3,hi,List.take,List.drop,gM ht0,zb,za,Tm.cells_eq (rx l m f s.1.j (n+1)).t,hw6,hlt,gM hst,zR,hw5];refine ⟨(⟨s.1.nm,s.1.ps,s.1.j+1,s.1.last⟩,s.2+1),⟨hlt,Nat.le_succ_of_le hs.2.1,(by show i+1<=s.1.j+1;omega),hjl,h9⟩,by (show yy2.length-(s.2+1)<yy2.length-s.2;omega),?_⟩;(try simp only[go_sem,seval,zb,bL,za,Tm.cells_eq (rx l m f s.1.j (n+1)).t,hw6,hlt,gM hst,zR,hw5]);exact zaH
  (have hge:s.2=yy2.length:=by (have h8:=hb37;have:=hs.1;simp at h8;omega));have h9:=hs.2.2.2.2;rw[hge,List.drop_length,stR] at h9;apply zO;simp only[zD,zB,zz,bA,Nat.reduceEqDiff,↓reduceIte];apply w;refine zu fun _ w=>?_;refine zT 9 mixed tz0 fun J0 j0=>?_;(iterate 7 (simp only[go_sem];refine zE 1 fun _ u=>?_;simp only[↓zX,↓dOp,↓bO,go_sem,seval,Tok.cells,qC,rdC,hw1,hw2,hw3,hi,List.take,List.drop,gM ht0];apply u;clear u));simp only[go_sem];refine zE 1 fun _ u=>?_;simp only[↓zX,↓dOp,↓bO,go_sem,seval,Tok.cells,qC,rdC,hw1,hw2,hw3,hi,List.take,List.drop,gM ht0];refine ⟨_,zdE _ _ _ _,?_⟩;apply u;clear u;simp only[↓zX,↓dOp,↓bO,go_sem,seval,Tok.cells,qC,rdC,hw1,hw2,hw3,hi,List.take,List.drop,gM ht0];refine j0 _ ?_;clear j0 J0;simp only[go_sem];simp only[↓bO,go_sem,seval,Tok.cells,qC,rdC,hw1,hw2,hw3,hi,List.take,List.drop,gM ht0];apply w;refine sqR fun _ w=>?_;(iterate 5 (refine chS 1 ?_ (by intro _ q;simp only[↓bO,go_sem,seval,Tok.cells,qC,rdC,hw1,hw2,hw3,hi,List.take,List.drop,gM ht0];exact q)));simp only[↓bO,go_sem,seval,Tok.cells,qC,rdC,hw1,hw2,hw3,hi,List.take,List.drop,gM ht0];apply w;apply zw;(try simp only[zD,zB,zz,zW,zU,zL,bS,bA,zK,zJ,zS,bL,Nat.reduceAdd,Nat.reduceLeDiff,Nat.reduceEqDiff,↓reduceIte,zaj,tyX,Tok.cells,zd,qC,rdC,hw1,hw2,hw3,hi,List.take,List.drop,gM ht0]);rw[h9];unfold zaS sp tm;simp only[Tm.k,Tm.s,Tm.n,Tm.t,Tm.ps,Tm.a,Tm.b,Ty.k,Ty.n,Ty.ps,zi,htk0];exact Le.agg ⟨.refl _,.refl _,.refl _,.refl _,.refl _,Le.slNil 3,Le.osl _ _ _,.refl _,.refl _,.refl _,.refl _,.refl _,.refl _,trivial⟩
end Go.Proofs.YtkokfdmggdhfmaaGreatDoor
namespace Go.Proofs.YtkokfdmggdhfmaaGreatDoor
open Go Go.RowKit
theorem dx_all {l:List Tok} (m:Int) (hl:l.length<=100000) (hG:zd6 l) (hK:zcY l):∀f,DxOk l m f
 | 0=>fun i n h1 h2 h3 h4=>absurd h1 (Nat.not_lt_zero _)
 | f+1=>fun i n h1 h2 h3 h4=>dexpr_c l m f i n hl hG (dx_all m hl hG hK f) (fun j k hw hf h5 h6=>dform_c l m f j k hl hK (dx_all m hl hG hK f) (zfJ l m f) (by rcases hw with h | h | h <;> exact zN h) hf h5 h6) (zfJ l m f) h2 tz1 h3 h4
def TkKd (t:Tok):Prop:=(t.k=3->kwB t.s=true)/\(t.k=4->∃c,(bl t.s)[0]?=some c/\smI c.toNat=false)
theorem isT_off {l:List Tok} {i:Nat} {k:Int} {s:ByteArray} (h:∀t∈l,t.k=k->¬t.s=s):isT l (i:Int) k s=false:=by
 cases h2:isT l (i:Int) k s with
 | false=>rfl
 | true =>
  have hl:=zN h2;obtain ⟨t,ht⟩:∃t,l[i]?=some t:=⟨_,zc hl⟩;have h3:=zer h2;rw[zaG ht] at h3;exact absurd h3.2 (h t (zm ht) h3.1)
theorem ex_first {s:ByteArray} {i n:Nat} (hi:i<s.size) (hn:0<n):(bl (s.extract i (i+n)))[0]?=some ((s[i]?).getD 0):=by
 have h1:bl (s.extract i (i+n))=((bl s).drop i).take n:=by
  simp only[bl,ByteArray.data_extract,Array.toList_extract,List.extract_eq_take_drop];(congr 1);omega
 rw[h1,List.getElem?_take,if_pos hn,List.getElem?_drop];exact za9 hi
theorem tkOf_kd {s:ByteArray} {i:Nat} (hi:i<s.size) (h:(nxF s i).2.2=0):TkKd (tkOf s i):=by
 have h5:=zeA hi h;refine ⟨fun hk=>?_,fun hk=>⟨_,ex_first hi h5.1,?_⟩⟩
 ·have hk2:(nxF s i).1=3:=hk
  by_cases h1:smI (bt s i)=true
  ·have hx:=zan h1 (rfl:zax s i inI=_)
   by_cases h2:kwB (s.extract i (i+zax s i inI))=true
   ·rw[if_pos h2] at hx
    (show kwB (s.extract i (i+(nxF s i).2.1))=true);rw[hx];exact h2
   rw[if_neg h2] at hx;rw[hx] at hk2;(split at hk2);(·exact absurd (show (0:Int)=3 from hk2) tz3);exact absurd (show (1:Int)=3 from hk2) tz3
  exfalso;unfold nxF at hk2;rw[if_neg h1] at hk2;split at hk2
  ·split at hk2
   (·exact absurd (show (0:Int)=3 from hk2) tz3);(split at hk2);(·exact absurd (show (0:Int)=3 from hk2) tz3);exact absurd (show (2:Int)=3 from hk2) tz3
  (split at hk2);(·exact absurd (show (4:Int)=3 from hk2) tz3);(split at hk2);(·exact absurd (show (4:Int)=3 from hk2) tz3);exact absurd (show (0:Int)=3 from hk2) tz3
 have hk2:(nxF s i).1=4:=hk
 cases h1:smI (bt s i) with
 | false=>exact h1
 | true =>
  exfalso;rw[zan h1 rfl] at hk2;(split at hk2);(·exact absurd (show (3:Int)=4 from hk2) tz3);(split at hk2);(·exact absurd (show (0:Int)=4 from hk2) tz3);exact absurd (show (1:Int)=4 from hk2) tz3
theorem wd_kd (s:ByteArray):∀(f i:Nat) (out:List Tok),i<=s.size->(∀t∈out,TkKd t)->∀t∈(wdF s f i out).1,TkKd t
 | 0,i,out,hi,hg=>fun t ht=>absurd ht (by simp[wdF])
 | f+1,i,out,hi,hg=>by
  unfold wdF
  by_cases h1:i<s.size
  ·rw[if_pos h1]
   by_cases h2:blI (bt s i)=true
   ·rw[if_pos h2]
    exact wd_kd s f (i+1) out tz1 hg
   rw[if_neg h2]
   by_cases h3:bt s i=35
   ·rw[if_pos h3]
    exact wd_kd s f _ out (zaN s i _ tz1) hg
   rw[if_neg h3]
   by_cases h4:(nxF s i).2.2=0
   ·rw[if_pos h4]
    refine wd_kd s f _ _ (zeA h1 h4).2 fun t ht=>?_;(rcases List.mem_append.1 ht with h6 | h6);(·exact hg t h6);rw[List.mem_singleton.1 h6];exact tkOf_kd h1 h4
   rw[if_neg h4];exact fun t ht=>absurd ht tz4
  rw[if_neg h1];intro t ht;(rcases List.mem_append.1 ht with h6 | h6);(·exact hg t h6);rw[List.mem_singleton.1 h6];exact ⟨fun h=>absurd (show (0:Int)=3 from h) tz3,fun h=>absurd (show (0:Int)=4 from h) tz3⟩
theorem wd_gk (s:ByteArray):zcY (wdA s).1:=fun i=>by
 have h:=wd_kd s (s.size+1) 0 [] (Nat.zero_le _) tz4
 have h3:∀b,kwB b=false->isT (wdA s).1 (i:Int) 3 b=false:=fun b hb=>isT_off fun t ht hk e=>by
  have:=(h t ht).1 hk;rw[e,hb] at this;exact absurd this tz4
 have h4:∀b c,(bl b)[0]?=some c->smI c.toNat=true->isT (wdA s).1 (i:Int) 4 b=false:=fun b c hb hc=>isT_off fun t ht hk e=>by
  obtain ⟨d,hd,hs⟩:=(h t ht).2 hk;rw[e,hb] at hd;(cases hd);rw[hc] at hs;exact absurd hs tz4
 exact ⟨h3 _ tz0,h3 _ tz0,h4 _ 116 rfl rfl,h4 _ 101 rfl rfl,h4 _ 105 rfl rfl⟩
def Rdx.okB (B i:Nat) (r:Rdx):Prop:=i<=r.i/\r.i<=B/\(r.e=0->i<r.i)
theorem rd_leB {l:List Tok} {B:Nat} (hB:∀{i k:Int} {s:ByteArray},¬k=0->isT l i k s=true->0<=i/\i<B) (m:Int):∀(f:Nat) (o:Option (List Ty)) (i lv:Int),(rd l m f o i lv).2.1<=max i B
 | 0,_,i,_=>by simp[rd];omega
 | f+1,none,i,lv=>by
  have ih:=rd_leB hB m f;unfold rd;split;(·simp only;omega);dsimp only;have h1:=ih none (i+1) (lv+1);have h2:=ih (some [(rd l m f none (i+1) (lv+1)).1]) (rd l m f none (i+1) (lv+1)).2.1 (lv+1)
  generalize hR:(if isT l i 3 zem then ((.mk 2 0 [],i+1,0):Ty×Int×Int) else if isT l i 3 zbn then (.mk 3 0 [],i+1,0)
    else if isT l i 4 bOpen then
     if (rd l m f none (i+1) (lv+1)).2.2=0 then rd l m f (some [(rd l m f none (i+1) (lv+1)).1]) (rd l m f none (i+1) (lv+1)).2.1 (lv+1) else (zTy,(rd l m f none (i+1) (lv+1)).2.1,(rd l m f none (i+1) (lv+1)).2.2)
    else (zTy,i,3))=r
  have h:r.2.1<=max i B:=by
   (split at hR);(·rename_i hh;have:=hB tz3 hh;subst hR;simp only;omega);(split at hR);(·rename_i hh;have:=hB tz3 hh;subst hR;simp only;omega);split at hR
   ·rename_i hh;have:=hB tz3 hh
    (split at hR);(·subst hR;omega);subst hR;simp only;omega
   subst hR;simp only;omega
  have h3:=ih none (r.2.1+1) (lv+1);split
  ·split
   ·rename_i hh;have:=hB tz3 hh
    split;(·simp only;omega);simp only;omega
   exact h
  exact h
 | f+1,some ps,i,lv=>by
  have ih:=rd_leB hB m f;unfold rd;split;(·rename_i hh;have:=hB tz3 hh;simp only;omega);split
  ·rename_i hh;have:=hB tz3 hh
   split;(·simp only;omega);dsimp only;have h1:=ih none (i+1) lv;split
   ·have h2:=ih (some (ps++[(rd l m f none (i+1) lv).1])) (rd l m f none (i+1) lv).2.1 lv
    omega
   simp only;omega
  simp only;omega
theorem Rdx.okB.up {B i j:Nat} {r:Rdx} (h:r.okB B j) (hij:i<=j):r.okB B i:=⟨Nat.le_trans hij h.1,h.2.1,fun he=>Nat.lt_of_le_of_lt hij (h.2.2 he)⟩
theorem zgb {B i j:Nat} {e:Int} (h1:i<=j) (h2:j<=B) (he:¬e=0):(wr j e).okB B i:=⟨h1,h2,fun h=>absurd h he⟩
theorem zbq {B i j:Nat} (h1:i<=j) (h2:j<=B):(wr j 3).okB B i:=zgb h1 h2 tz3
structure Lim (l:List Tok) (B:Nat):Prop where
 t:∀{i k:Int} {s:ByteArray},¬k=0->isT l i k s=true->0<=i/\i<B
 kn:∀{i:Nat} {k:Int},¬k=0->kdT l i k=true->i<B
theorem Lim.tn {l:List Tok} {B:Nat} (h:Lim l B) {i:Nat} {k:Int} {s:ByteArray} (hk:¬k=0) (h2:isT l (i:Int) k s=true):i<B:=by
 have:=h.t hk h2;omega
theorem beg_ltB {l:List Tok} {B:Nat} (hL:Lim l B) {i:Nat} (h:beg l i=true):i<B:=by
 unfold beg at h;simp only[Bool.or_eq_true] at h;(rcases h with (((h | h) | h) | h) | h);(·exact hL.kn tz3 h);(·exact hL.kn tz3 h);(·exact hL.tn tz3 h);(·exact hL.tn tz3 h);exact hL.tn tz3 h
theorem zc8 {l:List Tok} {B i j:Nat} {k:Int} {s:ByteArray} {K:Rdx} (h1:i<=j) (h2:j<=B) (hK:isT l (j:Int) k s=true->K.okB B i):(wtR l j k s K).okB B i:=by
 unfold wtR;split;(·exact hK ‹_›);exact zbq h1 h2
theorem zc5 {l:List Tok} {B i:Nat} {k:Int} {s:ByteArray} {i0:Nat} {ps:List Tm} {r:Rdx} (h:r.okB B i) (he:r.e=0):(zaS l k s i0 ps r).okB B i:=⟨h.1,h.2.1,fun _=>h.2.2 he⟩
def EOkB (E:Nat->Int->Rdx) (B:Nat):Prop:=∀(i:Nat) (n:Int),i<=B->(E i n).okB B i
section
variable {E:Nat->Int->Rdx} {l:List Tok} {m:Int} {B:Nat} (hL:Lim l B)
include hL
theorem anR_okB (i0:Nat) (n:Int) (t:Tm) (j:Nat) (h:j<B):(anR l m i0 n t j).okB B j:=by
 have h1:=zaJ l m (l.length+1) none ((j:Int)+1) (n+2);have h2:=rd_leB (fun h1 h2=>hL.t h1 h2) m (l.length+1) none ((j:Int)+1) (n+2);unfold anR;(generalize hP:rdF l m ((j:Int)+1) (n+2)=P);rw[show rd l m (l.length+1) none ((j:Int)+1) (n+2)=P from hP] at h1 h2;split
 ·split
  ·have h3:=hL.t tz3 ‹isT l P.2.1 4 zcq=true›
   refine ⟨?_,?_,fun _=>?_⟩
   ·show j<=P.2.1.toNat+1
    omega
   ·show P.2.1.toNat+1<=B
    omega
   (show j<P.2.1.toNat+1);omega
  exact zbq tz1 tz1
 exact zgb tz1 tz1 ‹_›
theorem tpR_okB (hE:EOkB E B) (i0:Nat) (n:Int):∀(f:Nat) (ps:List Tm) (i:Nat),i<=B->(tpR E l i0 n f ps i).okB B i
 | 0,ps,i,hi=>zbq (zh _) hi
 | f+1,ps,i,hi=>by
  unfold tpR;split
  ·have h1:=hL.tn tz3 ‹isT l (i:Int) 4 zen=true›
   have h2:=hE (i+1) (n+1) tz1;split;(·exact zgb (zh _) hi tz3);split;(·exact (tpR_okB hE i0 n f _ _ h2.2.1).up (by have:=h2.1;omega));exact h2.up tz1
  split
  ·have h1:=hL.tn tz3 ‹isT l (i:Int) 4 zcq=true›
   split;(·exact ⟨by show i<=i+1;omega,by show i+1<=B;omega,fun _=>by show i<i+1;omega⟩);exact ⟨by show i<=i+1;omega,by show i+1<=B;omega,fun _=>by show i<i+1;omega⟩
  exact zbq (zh _) hi
theorem brR_okB (hE:EOkB E B) (i:Nat) (n:Int) (hi:i<B):(brR E l m i n).okB B i:=by
 have h2:=hE (i+1) (n+1) tz1;unfold brR;split
 ·split
  ·have h1:=hL.tn tz3 ‹isT l ((E (i+1) (n+1)).i:Int) 4 zeC=true›
   exact (anR_okB hL _ _ _ _ h1).up (by have:=h2.1;omega)
  exact (tpR_okB hL hE _ _ _ _ _ h2.2.1).up (by have:=h2.1;omega)
 exact h2.up tz1
theorem zfe (hE:EOkB E B) (i:Nat) (n:Int) (hi:i<=B):(atR E l m i n).okB B i:=by
 unfold atR;split
 ·have h1:=beg_ltB hL ‹beg l i=true›
  (have h9:∀(t:Tm) (a b:Int),(⟨t,a,b,i+1,0⟩:Rdx).okB B i:=fun t a b=>⟨by show i<=i+1;omega,by show i+1<=B;omega,fun _=>by show i<i+1;omega⟩);split;(·exact h9 _ _ _);split;(·exact h9 _ _ _);split;(·exact h9 _ _ _);split;(·exact brR_okB hL hE i n h1);exact h9 _ _ _
 exact zbq (zh _) hi
theorem apR_okB (hE:EOkB E B) (i0:Nat) (n:Int):∀(f:Nat) (r:Rdx),r.okB B i0->(apR E l m n f r).okB B i0
 | 0,r,hr=>hr
 | f+1,r,hr=>by
  unfold apR;have h2:=zfe hL (m:=m) hE r.i n hr.2.1;split
  ·split
   (·refine apR_okB hE i0 n f _ ⟨Nat.le_trans hr.1 h2.1,h2.2.1,fun _=>Nat.lt_of_le_of_lt hr.1 (h2.2.2 ‹_›)⟩);exact h2.up hr.1
  exact hr
theorem funR_okB (hE:EOkB E B) (i:Nat) (n:Int) (hi:i<B):(zeh E l i n).okB B i:=by
 unfold zeh;split
 ·have h1:=hL.kn tz3 ‹kdT l (i+1) 1=true›
  refine zc8 tz1 tz1 fun h=>?_;have h2:=hL.tn tz3 h;have h3:=hE (i+3) (n+1) tz1;split;(·exact zc5 (h3.up tz1) ‹_›);exact h3.up tz1
 exact zbq tz1 tz1
theorem zga (hE:EOkB E B) (k:Int) (i0 j:Nat) (n:Int) (hj:j<=B):(zds E l k i0 j n).okB B j:=by
 unfold zds;split
 ·have h1:=hL.kn tz3 ‹kdT l j 1=true›
  refine zc8 tz1 tz1 fun h=>?_;have h2:=hL.tn tz3 h;have h3:=hE (j+2) (n+1) tz1;split
  ·refine zc8 (by have:=h3.1;omega) h3.2.1 fun h4=>?_
   have h5:=hL.tn tz3 h4;have h6:=hE ((E (j+2) (n+1)).i+1) (n+1) tz1;split;(·exact zc5 (h6.up (by have:=h3.1;omega)) ‹_›);exact h6.up (by have:=h3.1;omega)
  exact h3.up tz1
 exact zbq tz1 tz1
theorem ifR_okB (hE:EOkB E B) (i:Nat) (n:Int) (hi:i<B):(ifR E l i n).okB B i:=by
 unfold ifR;have h3:=hE (i+1) (n+1) tz1;split
 ·refine zc8 (by have:=h3.1;omega) h3.2.1 fun h4=>?_
  have h5:=hL.tn tz3 h4;have h6:=hE ((E (i+1) (n+1)).i+1) (n+1) tz1;split
  ·refine zc8 (by have:=h3.1;have:=h6.1;omega) h6.2.1 fun h7=>?_
   have h8:=hL.tn tz3 h7;have h9:=hE ((E ((E (i+1) (n+1)).i+1) (n+1)).i+1) (n+1) tz1;split;(·exact zc5 (h9.up (by have:=h3.1;have:=h6.1;omega)) ‹_›);exact h9.up (by have:=h3.1;have:=h6.1;omega)
  exact h6.up (by have:=h3.1;omega)
 exact h3.up tz1
theorem exR_okB (hE:EOkB E B) (i:Nat) (n:Int) (hi:i<=B):(exR E l m i n).okB B i:=by
 unfold exR;split;(·exact zgb (zh _) hi tz3);split;(·exact funR_okB hL hE i n (hL.tn (k:=3) tz3 ‹_›));split
 ·have h1:=hL.tn tz3 ‹isT l (i:Int) 3 zdn=true›
  split
  ·have h2:=hL.tn tz3 ‹isT l ((i+1:Nat):Int) 3 zfa=true›
   exact (zga hL hE 7 i (i+2) n tz1).up tz1
  exact (zga hL hE 6 i (i+1) n tz1).up tz1
 split;(·exact ifR_okB hL hE i n (hL.tn (k:=3) tz3 ‹_›));split;(·exact apR_okB hL hE i n _ _ (zfe hL hE i n hi));exact zfe hL hE i n hi
end
theorem rx_okB {l:List Tok} {B:Nat} (hL:Lim l B) (m:Int):∀(f i:Nat) (n:Int),i<=B->(rx l m f i n).okB B i
 | 0,i,n,hi=>zbq (zh _) hi
 | f+1,i,n,hi=>exR_okB hL (E:=rx l m f) (fun j k hj=>rx_okB hL m f j k hj) i n hi
end Go.Proofs.YtkokfdmggdhfmaaGreatDoor
namespace Go.Proofs.YtkokfdmggdhfmaaGreatDoor
open Go Go.RowKit
attribute [local irreducible] aops zX
def whR (l:List Tok) (m:Int):Rdx:=if (rxX l m).e=0/\kdT l (rxX l m).i 0=false then wr (rxX l m).i 3 else rxX l m
section
variable {l:List Tok} {m:Int}
theorem zcv (h:(rxX l m).e=0) (h2:kdT l (rxX l m).i 0=false):whR l m=wr (rxX l m).i 3:=if_pos ⟨h,h2⟩
theorem zco (h2:kdT l (rxX l m).i 0=true):whR l m=rxX l m:=if_neg fun h=>by rw[h2] at h;exact absurd h.2 tz4
theorem zct (h:¬(rxX l m).e=0):whR l m=rxX l m:=if_neg fun g=>h g.1
theorem whR_no (h:¬(whR l m).e=0):rxW l m=(zTm,(whR l m).i,(whR l m).e):=by
 by_cases a:(rxX l m).e=0
 ·cases b:kdT l (rxX l m).i 0 with
  | true=>rw[zco b] at h;exact absurd a h
  | false=>rw[zbF a b,zcv a b];rfl
 rw[zcp a,zct a]
theorem whR_yes (h:(whR l m).e=0):rxW l m=((whR l m).t,(whR l m).i+1,0):=by
 by_cases a:(rxX l m).e=0
 ·cases b:kdT l (rxX l m).i 0 with
  | true=>rw[zcz a b,zco b]
  | false=>rw[zcv a b] at h;exact absurd (show (3:Int)=0 from h) tz3
 rw[zct a] at h;exact absurd h a
theorem whR_i:(whR l m).i=(rxX l m).i:=by
 unfold whR;split <;> rfl
end
theorem zfp (l:List Tok) (m:Int) (hl:l.length<=100000) (hG:zd6 l) (hK:zcY l):APure Tryz.prog 108 [.sl 4 (l.map Tok.cells),.v (.int .i64 m)] (rwA l m):=by
  refine APure.mkL (.cons (Tok.dataSl l) (.cons (.v _) .nil)) (zdZ l m) ?_;refine aIn Tryz.func108 fun hm=>?_;simp only[Tryz.ntmps108,Tryz.results108,go_sem,seval];have hx:=(zfJ l m (l.length+1) 0 1 (Nat.zero_le _)).2.1;(have hx2:(whR l m).i<=l.length:=by (rw[whR_i];exact hx));(have hw:IntKind.i64.wrap (((whR l m).i:Int)+1)=(((whR l m).i+1:Nat):Int):=by (rw[zI tz1 tz1];omega));refine sqR fun _ u=>?_;(iterate 2 (refine chS 1 ?_ (by intro _ q;simp only[↓bO,go_sem,seval,Tok.cells,qC,rdC,List.take,List.drop,zj];exact q)));simp only[↓bO,go_sem,seval,Tok.cells,qC,rdC,List.take,List.drop,zj];apply u;refine sqR fun _ u=>?_;(iterate 2 (refine chS 1 ?_ (by intro _ q;simp only[↓bO,go_sem,seval,Tok.cells,qC,rdC,List.take,List.drop,zj];exact q)));refine zq 1 fun _ y=>?_;simp only[↓bO,go_sem,seval,Tok.cells,qC,rdC,List.take,List.drop,zj];refine APure.call (dx_all m hl hG hK (l.length+1) 0 1 tz1 tz1 tz1 tz1) ?_;apply y;clear y;refine chS 1 ?_ (by intro _ q;simp only[↓bO,go_sem,seval,Tok.cells,qC,rdC,List.take,List.drop,zj];exact q);simp only[↓bO,go_sem,seval,Tok.cells,qC,rdC,List.take,List.drop,zj];apply u;refine zaq (mB 46 144) ([]) ([(1,.cells 191 (rdC (whR l m)))]) ?_ ?_
  ·
   refine sqR fun _ u=>?_;(iterate 4 (refine chS 1 ?_ (by intro _ q;simp only[↓bO,go_sem,seval,Tok.cells,qC,rdC,List.take,List.drop,zj];exact q)));refine zC 14 rfl (fun hc14=>?_) (fun hc14=>?_)
   ·
    simp only[go_sem];(have he:(rxX l m).e=0:=by simpa using hc14);(iterate 6 (refine chS 1 ?_ (by intro _ q;simp only[↓bO,go_sem,seval,Tok.cells,qC,rdC,List.take,List.drop,zj];exact q)));refine zC 20 rfl (fun hc20=>?_) (fun hc20=>?_)
    ·
     simp only[go_sem];have a1:kdT l (rxX l m).i 0=false:=zd5 (by (have h9:=hc20;simp at h9;show ¬(rx l m (l.length+1) 0 1).i<l.length;omega));(iterate 8 (refine chS 1 ?_ (by intro _ q;simp only[↓bO,go_sem,seval,Tok.cells,qC,rdC,List.take,List.drop,zj];exact q)));simp only[↓bO,go_sem,seval,Tok.cells,qC,rdC,List.take,List.drop,zj];apply u;refine zt (b:=true) (by first | exact rfl | exact congrArg (fun b=>AV.v (.bool b)) hb29) (fun _=>?_) (fun h=>(by cases h));apply zA;(iterate 2 (refine chS 1 ?_ (by intro _ q;simp only[↓bO,go_sem,seval,Tok.cells,qC,rdC,List.take,List.drop,zj];exact q)));refine zq 1 fun _ y=>?_;simp only[↓bO,go_sem,seval,Tok.cells,qC,rdC,List.take,List.drop,zj];refine APure.call (z7 (rxX l m).i 3) ?_;apply y;clear y;simp only[↓bO,go_sem,seval,Tok.cells,qC,rdC,List.take,List.drop,zj];(try simp only[go_sem,seval]);(first | rw[zcv he a1] | rw[zco a1] | rw[zct he]);first | exact Weak.mk (by simp only[go_sem,Le.refl,Le.any]) (fun _ _ h=>h) rfl rfl
    simp only[go_sem];(have hlt0:(rx l m (l.length+1) 0 1).i<l.length:=by (have h9:=hc20;simp at h9;omega));have hlt:(rxX l m).i<l.length:=hlt0;obtain ⟨t,ht⟩:∃t,l[(rxX l m).i]?=some t:=⟨_,zc hlt⟩;(iterate 8 (refine chS 1 ?_ (by intro _ q;simp only[↓bO,go_sem,seval,Tok.cells,qC,rdC,List.take,List.drop,zj,hlt,gM ht];exact q)));simp only[↓bO,go_sem,seval,Tok.cells,qC,rdC,List.take,List.drop,zj,hlt,gM ht];apply u;apply zt rfl <;> intro hb29
    ·
     (have a1:kdT l (rxX l m).i 0=false:=by first | exact a1 | (rw[zag ht];have h9:=hb29;simp at h9;simp[h9]));apply zA;(iterate 2 (refine chS 1 ?_ (by intro _ q;simp only[↓bO,go_sem,seval,Tok.cells,qC,rdC,List.take,List.drop,zj,hlt,gM ht];exact q)));refine zq 1 fun _ y=>?_;simp only[↓bO,go_sem,seval,Tok.cells,qC,rdC,List.take,List.drop,zj,hlt,gM ht];refine APure.call (z7 (rxX l m).i 3) ?_;apply y;clear y;simp only[↓bO,go_sem,seval,Tok.cells,qC,rdC,List.take,List.drop,zj,hlt,gM ht];(try simp only[go_sem,seval]);(first | rw[zcv he a1] | rw[zco a1] | rw[zct he]);first | exact Weak.mk (by simp only[go_sem,Le.refl,Le.any]) (fun _ _ h=>h) rfl rfl
    (have a1:kdT l (rxX l m).i 0=true:=by (rw[zag ht];have h9:=hb29;simp at h9;simp[h9]));apply zy;(try simp only[go_sem]);(try simp only[go_sem,seval]);(first | rw[zcv he a1] | rw[zco a1] | rw[zct he]);first | exact Weak.mk (by simp only[go_sem,Le.refl,Le.any]) (fun _ _ h=>h) rfl rfl
   simp only[go_sem];(have he:¬(rxX l m).e=0:=by simpa using hc14);(iterate 14 (refine chS 1 ?_ (by intro _ q;simp only[↓bO,go_sem,seval,Tok.cells,qC,rdC,List.take,List.drop,zj];exact q)));simp only[↓bO,go_sem,seval,Tok.cells,qC,rdC,List.take,List.drop,zj];apply u;refine zt (b:=false) (by first | exact rfl | exact congrArg (fun b=>AV.v (.bool b)) hb29) (fun h=>(by cases h)) (fun _=>?_);apply zy;(try simp only[go_sem]);(try simp only[go_sem,seval]);(first | rw[zcv he a1] | rw[zco a1] | rw[zct he]);first | exact Weak.mk (by simp only[go_sem,Le.refl,Le.any]) (fun _ _ h=>h) rfl rfl
  simp only[go_sem,seval];refine zu fun _ u=>?_;refine sqR fun _ w=>?_;(iterate 2 (refine chS 1 ?_ (by intro _ q;simp only[↓bO,go_sem,seval,Tok.cells,qC,rdC,List.take,List.drop,zj];exact q)));simp only[↓bO,go_sem,seval,Tok.cells,qC,rdC,List.take,List.drop,zj];apply w;apply zt rfl <;> intro hb35
  ·
   (have he2:¬(whR l m).e=0:=by simpa using hb35);refine zu fun _ w=>?_;refine z6 [(1,11,[.v (.int .i64 ((whR l m).i:Int))]),(1,12,[.v (.int .i64 (whR l m).e)])] 8 rfl mixed (tz8) rfl ?_;dsimp only;refine tkK 1 rfl fun _ y=>?_;simp only[↓bO,go_sem,seval,Tok.cells,qC,rdC,List.take,List.drop,zj];apply y;clear y;refine tkL 2 0 rfl rfl fun _ y=>?_;simp only[↓bO,go_sem,seval,Tok.cells,qC,rdC,List.take,List.drop,zj];apply y;clear y;refine tkK 3 rfl fun _ y=>?_;simp only[↓bO,go_sem,seval,Tok.cells,qC,rdC,List.take,List.drop,zj];apply y;clear y;refine tkL 4 1 rfl rfl fun _ y=>?_;simp only[↓bO,go_sem,seval,Tok.cells,qC,rdC,List.take,List.drop,zj];apply y;clear y;refine al1 (i:=0) ?_;refine opT fun _ y=>?_;simp only[↓bO,go_sem,seval,Tok.cells,qC,rdC,List.take,List.drop,zj];refine y _ ⟨tz8,?_⟩;clear y;refine al1 (i:=5) ?_;refine opT fun _ y=>?_;simp only[↓bO,go_sem,seval,Tok.cells,qC,rdC,List.take,List.drop,zj];refine y _ ⟨tz8,?_⟩;clear y;refine tkK 6 rfl fun _ y=>?_;simp only[↓bO,go_sem,seval,Tok.cells,qC,rdC,List.take,List.drop,zj];apply y;clear y;refine tkK 7 rfl fun _ y=>?_;simp only[↓bO,go_sem,seval,Tok.cells,qC,rdC,List.take,List.drop,zj];apply y;clear y;refine dnA ?_;apply w;apply zw;(try simp only[zD,zB,zz,zW,zU,zL,bS,bA,zK,zJ,zS,bL,Nat.reduceAdd,Nat.reduceLeDiff,Nat.reduceEqDiff,↓reduceIte,zcF,tyX,Tok.cells,zd,qC,rdC,List.take,List.drop,zj]);unfold rwA;rw[whR_no he2];exact Le.tup ⟨zbg,.refl _,.refl _,trivial⟩
  (have he2:(whR l m).e=0:=by simpa using hb35);apply zy;apply u;refine zu fun _ u=>?_;refine z6 [(1,11,[.v (.int .i64 ((whR l m).i:Int))])] 8 rfl mixed (tz9) rfl ?_;dsimp only;refine tkK 0 rfl fun _ y=>?_;simp only[↓bO,go_sem,seval,Tok.cells,qC,rdC,List.take,List.drop,zj,hw];apply y;clear y;refine tkK 2 rfl fun _ y=>?_;simp only[↓bO,go_sem,seval,Tok.cells,qC,rdC,List.take,List.drop,zj,hw];apply y;clear y;refine tkL 3 0 rfl rfl fun _ y=>?_;simp only[↓bO,go_sem,seval,Tok.cells,qC,rdC,List.take,List.drop,zj,hw];apply y;clear y;refine zdF 4 rfl rfl tz0 tz0 tz0 (fun _ _ h=>h) fun _ y=>?_;simp only[↓bO,go_sem,seval,aInt,Tok.cells,qC,rdC,List.take,List.drop,zj,hw];apply y;clear y;refine al1 (i:=1) ?_;refine opT fun _ y=>?_;simp only[↓bO,go_sem,seval,Tok.cells,qC,rdC,List.take,List.drop,zj,hw];refine y _ ⟨tz9,?_⟩;clear y;refine al1 (i:=5) ?_;refine opT fun _ y=>?_;simp only[↓bO,go_sem,seval,Tok.cells,qC,rdC,List.take,List.drop,zj,hw];refine y _ ⟨tz9,?_⟩;clear y;refine tkK 6 rfl fun _ y=>?_;simp only[↓bO,go_sem,seval,Tok.cells,qC,rdC,List.take,List.drop,zj,hw];apply y;clear y;refine tkK 7 rfl fun _ y=>?_;simp only[↓bO,go_sem,seval,Tok.cells,qC,rdC,List.take,List.drop,zj,hw];apply y;clear y;refine dnA ?_;apply u;apply zw;(try simp only[zD,zB,zz,zW,zU,zL,bS,bA,zK,zJ,zS,bL,Nat.reduceAdd,Nat.reduceLeDiff,Nat.reduceEqDiff,↓reduceIte,zcF,tyX,Tok.cells,zd,qC,rdC,List.take,List.drop,zj,hw]);unfold rwA;rw[whR_yes he2,Tm.cells_eq];exact Le.refl _
end Go.Proofs.YtkokfdmggdhfmaaGreatDoor
namespace Go.Proofs.YtkokfdmggdhfmaaGreatDoor
open Go Go.RowKit
theorem zdT (s:ByteArray):∀(f i:Nat) (out:List Tok),(wdF s f i out).2.2=0->∃l,(wdF s f i out).1=l++[zdi s]
 | 0,i,out,h=>absurd (show (3:Int)=0 from h) tz3
 | f+1,i,out,h=>by
  unfold wdF at h ⊢
  by_cases h1:i<s.size
  ·rw[if_pos h1] at h ⊢
   by_cases h2:blI (bt s i)=true
   ·rw[if_pos h2] at h ⊢
    exact zdT s f _ _ h
   rw[if_neg h2] at h ⊢
   by_cases h3:bt s i=35
   ·rw[if_pos h3] at h ⊢
    exact zdT s f _ _ h
   rw[if_neg h3] at h ⊢
   by_cases h4:(nxF s i).2.2=0
   ·rw[if_pos h4] at h ⊢
    exact zdT s f _ _ h
   rw[if_neg h4] at h;exact absurd h h4
  rw[if_neg h1];exact ⟨out,rfl⟩
theorem lim_end (l:List Tok) (t:Tok) (ht:t.k=0):Lim (l++[t]) l.length:=by
 have hl:(l++[t]).length=l.length+1:=by simp
 have hk:∀{i:Nat} {k:Int},¬k=0->i<(l++[t]).length->(tk (l++[t]) i).k=k->i<l.length:=fun {i k} hk hi h=>by
  by_cases h2:i<l.length
  (·exact h2);exfalso;(have h3:i=l.length:=by omega);(have h4:(l++[t])[i]?=some t:=by rw[h3];simp);rw[zaG h4,ht] at h;exact hk h.symm
 refine ⟨fun {i k s} h0 h=>?_,fun {i k} h0 h=>hk h0 (zbj h) (ze4 h)⟩;have h1:=zai h;obtain ⟨j,rfl⟩:∃j:Nat,i=(j:Int):=⟨i.toNat,by omega⟩;have h2:=hk h0 tz1 (zer h).1;omega
theorem rxW_lt {s:ByteArray} {m:Int} (h:(wdA s).2.2=0) (h2:¬(rxW (wdA s).1 m).2.2=0):(rxW (wdA s).1 m).2.1<(wdA s).1.length:=by
 obtain ⟨l,hl⟩:=zdT s (s.size+1) 0 [] h;have hl2:(wdA s).1=l++[zdi s]:=hl;have hL:=lim_end l (zdi s) rfl;have h3:=rx_okB hL m ((l++[zdi s]).length+1) 0 1 (Nat.zero_le _);(have hlen:(l++[zdi s]).length=l.length+1:=by simp);rw[hl2] at h2 ⊢;rw[whR_no (by intro g;exact h2 (by rw[whR_yes g])),hlen];(show (whR (l++[zdi s]) m).i<l.length+1);rw[whR_i];have:=h3.2.1;(show (rx (l++[zdi s]) m ((l++[zdi s]).length+1) 0 1).i<l.length+1);omega
theorem txR_bad2 {s:ByteArray} {m:Int} (h:(wdA s).2.2=0) (h2:¬(rxW (wdA s).1 m).2.2=0):txR s m=(zTm,sp (wdA s).1 (rxW (wdA s).1 m).2.1,(rxW (wdA s).1 m).2.2):=by
 have h3:=rxW_lt h h2;rw[zbQ h h2,Nat.min_eq_left tz1]
end Go.Proofs.YtkokfdmggdhfmaaGreatDoor
namespace Go.Proofs.YtkokfdmggdhfmaaGreatDoor
open Go Go.RowKit
attribute [local irreducible] aops zX
theorem zgt (s:ByteArray) (m:Int) (hs:s.size<=90000):APure Tryz.prog 67 [.v (.string s),.v (.int .i64 m)] (txA s m):=by
  refine APure.mkL (.cons (.v _) (.cons (.v _) .nil)) (zf6 s m) ?_;refine aIn Tryz.func67 fun hm=>?_;simp only[Tryz.ntmps67,Tryz.results67,go_sem,seval];have hat:=wd_at s (s.size+1) 0 [] (Nat.zero_le _);have hln:=wd_len s;change 0<=(wdA s).2.1/\(wdA s).2.1<=s.size/\((wdA s).2.2=0->1<=(wdA s).1.length) at hat;(have hw:IntKind.i64.wrap ((wdA s).2.1+1)=(wdA s).2.1+1:=by (rw[zI tz1 tz1]));refine sqR fun _ u=>?_;(iterate 2 (refine chS 1 ?_ (by intro _ q;simp only[↓bO,go_sem,seval,Tok.cells,qC,rwA,hw,Tm.cells_eq (rxW (wdA s).1 m).1];exact q)));simp only[↓bO,go_sem,seval,Tok.cells,qC,rwA,hw,Tm.cells_eq (rxW (wdA s).1 m).1];apply u;refine sqR fun _ u=>?_;refine chS 1 ?_ (by intro _ q;simp only[↓bO,go_sem,seval,Tok.cells,qC,rwA,hw,Tm.cells_eq (rxW (wdA s).1 m).1];exact q);refine zq 1 fun _ y=>?_;simp only[↓bO,go_sem,seval,Tok.cells,qC,rwA,hw,Tm.cells_eq (rxW (wdA s).1 m).1];refine APure.call (zfA s tz1) ?_;(iterate 6 (apply y;clear y;refine zq 1 fun _ y=>?_;simp only[↓bO,go_sem,seval,Tok.cells,qC,rwA,hw,Tm.cells_eq (rxW (wdA s).1 m).1]));apply y;clear y;simp only[↓bO,go_sem,seval,Tok.cells,qC,rwA,hw,Tm.cells_eq (rxW (wdA s).1 m).1];apply u;refine zu fun _ u=>?_;refine sqR fun _ w=>?_;refine chS 1 ?_ (by intro _ q;simp only[↓bO,go_sem,seval,Tok.cells,qC,rwA,hw,Tm.cells_eq (rxW (wdA s).1 m).1];exact q);simp only[↓bO,go_sem,seval,Tok.cells,qC,rwA,hw,Tm.cells_eq (rxW (wdA s).1 m).1];apply w;apply zt rfl <;> intro hb19
  ·
   (have he:¬(wdA s).2.2=0:=by simpa using hb19);refine sqR fun _ w=>?_;(iterate 8 (refine chS 1 ?_ (by intro _ q;simp only[↓bO,go_sem,seval,Tok.cells,qC,rwA,hw,Tm.cells_eq (rxW (wdA s).1 m).1];exact q)));simp only[↓bO,go_sem,seval,Tok.cells,qC,rwA,hw,Tm.cells_eq (rxW (wdA s).1 m).1];apply w;apply zw;(try simp only[zD,zB,zz,zW,zU,zL,bS,bA,zK,zJ,zS,bL,Nat.reduceAdd,Nat.reduceLeDiff,Nat.reduceEqDiff,↓reduceIte,zcF,zcl,tyX,Tok.cells,zd,qC,rwA,hw,Tm.cells_eq (rxW (wdA s).1 m).1]);unfold txA;rw[txR_lex he];exact Le.tup ⟨zbg,.refl _,.refl _,trivial⟩
  (have he:(wdA s).2.2=0:=by simpa using hb19);apply zy;apply u;refine sqR fun _ u=>?_;(iterate 2 (refine chS 1 ?_ (by intro _ q;simp only[↓bO,go_sem,seval,Tok.cells,qC,rwA,hw,Tm.cells_eq (rxW (wdA s).1 m).1];exact q)));refine zq 1 fun _ y=>?_;simp only[↓bO,go_sem,seval,Tok.cells,qC,rwA,hw,Tm.cells_eq (rxW (wdA s).1 m).1];refine APure.call (zfp (wdA s).1 m tz1 (wd_gd s) (wd_gk s)) ?_;(iterate 7 (apply y;clear y;refine zq 1 fun _ y=>?_;simp only[↓bO,go_sem,seval,Tok.cells,qC,rwA,hw,Tm.cells_eq (rxW (wdA s).1 m).1]));apply y;clear y;simp only[↓bO,go_sem,seval,Tok.cells,qC,rwA,hw,Tm.cells_eq (rxW (wdA s).1 m).1];apply u;refine zu fun _ u=>?_;refine sqR fun _ w=>?_;refine chS 1 ?_ (by intro _ q;simp only[↓bO,go_sem,seval,Tok.cells,qC,rwA,hw,Tm.cells_eq (rxW (wdA s).1 m).1];exact q);simp only[↓bO,go_sem,seval,Tok.cells,qC,rwA,hw,Tm.cells_eq (rxW (wdA s).1 m).1];apply w;apply zt rfl <;> intro hb34
  ·
   (have he2:¬(rxW (wdA s).1 m).2.2=0:=by simpa using hb34);have hml:=rxW_lt he he2;obtain ⟨t,ht⟩:∃t,(wdA s).1[(rxW (wdA s).1 m).2.1]?=some t:=⟨_,zc hml⟩;refine zu fun _ w=>?_;refine zdz 10 [7] rfl mixed ?_;dsimp only;refine zM 1 rfl tz0 tz0 tz0 (fun _ _ h=>h) tz0 (fun d h=>by cases h;rfl) tz0 (G':=[36,7]) tz0 fun _ y=>?_;simp only[↓bO,go_sem,seval,zau,isE,zbi,isV,Tok.cells,qC,rwA,hw,Tm.cells_eq (rxW (wdA s).1 m).1,hml,gM ht];apply y;clear y;refine zM 2 rfl tz0 tz0 tz0 (fun _ _ h=>h) tz0 (fun d h=>by cases h;rfl) tz0 (G':=[36,7]) tz0 fun _ y=>?_;simp only[↓bO,go_sem,seval,zau,isE,zbi,isV,Tok.cells,qC,rwA,hw,Tm.cells_eq (rxW (wdA s).1 m).1,hml,gM ht];apply y;clear y;refine zM 3 rfl tz0 tz0 tz0 (fun _ _ h=>h) tz0 (fun d h=>by cases h;rfl) tz0 (G':=[38,36,7]) tz0 fun _ y=>?_;simp only[↓bO,go_sem,seval,zau,isE,zbi,isV,Tok.cells,qC,rwA,hw,Tm.cells_eq (rxW (wdA s).1 m).1,hml,gM ht];apply y;clear y;refine zM 4 rfl tz0 tz0 tz0 (fun _ _ h=>h) tz0 (fun d h=>by cases h;rfl) tz0 (G':=[39,38,36,7]) tz0 fun _ y=>?_;simp only[↓bO,go_sem,seval,zau,isE,zbi,isV,Tok.cells,qC,rwA,hw,Tm.cells_eq (rxW (wdA s).1 m).1,hml,gM ht];apply y;clear y;refine zM 5 rfl tz0 tz0 tz0 (fun _ _ h=>h) tz0 (fun d h=>by cases h;rfl) tz0 (G':=[40,39,38,36,7]) tz0 fun _ y=>?_;simp only[↓bO,go_sem,seval,zau,isE,zbi,isV,Tok.cells,qC,rwA,hw,Tm.cells_eq (rxW (wdA s).1 m).1,hml,gM ht];apply y;clear y;refine zM 6 rfl tz0 tz0 tz0 (fun _ _ h=>h) tz0 (fun d h=>by cases h;rfl) tz0 (G':=[40,39,38,36,7]) tz0 fun _ y=>?_;simp only[↓bO,go_sem,seval,zau,isE,zbi,isV,Tok.cells,qC,rwA,hw,Tm.cells_eq (rxW (wdA s).1 m).1,hml,gM ht];apply y;clear y;refine zY (i:=0) tz0 rfl (fun d h=>by cases h;rfl) ?_;refine opT fun _ y=>?_;simp only[↓bO,go_sem,seval,Tok.cells,qC,rwA,hw,Tm.cells_eq (rxW (wdA s).1 m).1,hml,gM ht];refine y _ ⟨⟨rfl,rfl,rfl,rfl,rfl,trivial⟩,?_⟩;clear y;refine zY (i:=7) tz0 rfl (fun d h=>by cases h) ?_;refine opT fun _ y=>?_;simp only[↓bO,go_sem,seval,Tok.cells,qC,rwA,hw,Tm.cells_eq (rxW (wdA s).1 m).1,hml,gM ht];refine y _ ⟨⟨rfl,rfl,rfl,rfl,rfl,trivial⟩,?_⟩;clear y;refine zY (i:=8) tz0 rfl (fun d h=>by cases h) ?_;refine opT fun _ y=>?_;simp only[↓bO,go_sem,seval,Tok.cells,qC,rwA,hw,Tm.cells_eq (rxW (wdA s).1 m).1,hml,gM ht];refine y _ ⟨⟨rfl,rfl,rfl,rfl,rfl,trivial⟩,?_⟩;clear y;refine zaz 9 rfl tz0 tz0 tz0 (fun _ _ h=>h) (fun d h=>by cases h;rfl) fun _ y=>?_;simp only[↓bO,go_sem,seval,Tok.cells,qC,rwA,hw,Tm.cells_eq (rxW (wdA s).1 m).1,hml,gM ht];apply y;clear y;refine zaQ tz0 ?_;simp only[go_sem];apply w;apply zw;(try simp only[zD,zB,zz,zW,zU,zL,bS,bA,zK,zJ,zS,bL,Nat.reduceAdd,Nat.reduceLeDiff,Nat.reduceEqDiff,↓reduceIte,zcF,zcl,tyX,Tok.cells,zd,qC,rwA,hw,Tm.cells_eq (rxW (wdA s).1 m).1,hml,gM ht]);unfold txA;rw[txR_bad2 he he2];unfold sp;rw[zaG ht];exact Le.tup ⟨zbg,.refl _,.refl _,trivial⟩
  (have he2:(rxW (wdA s).1 m).2.2=0:=by simpa using hb34);apply zy;apply u;refine sqR fun _ u=>?_;(iterate 4 (refine chS 1 ?_ (by intro _ q;simp only[↓bO,go_sem,seval,Tok.cells,qC,rwA,hw,Tm.cells_eq (rxW (wdA s).1 m).1];exact q)));simp only[↓bO,go_sem,seval,Tok.cells,qC,rwA,hw,Tm.cells_eq (rxW (wdA s).1 m).1];apply u;apply zw;(try simp only[zD,zB,zz,zW,zU,zL,bS,bA,zK,zJ,zS,bL,Nat.reduceAdd,Nat.reduceLeDiff,Nat.reduceEqDiff,↓reduceIte,zcF,zcl,tyX,Tok.cells,zd,qC,rwA,hw,Tm.cells_eq (rxW (wdA s).1 m).1]);unfold txA;rw[txR_ok he he2,Tm.cells_eq];exact Le.refl _
theorem zgn (t:Tm) (b:Bool):APure Tryz.prog 118 [.agg t.cells,.agg t.cells,.v (.bool b)] (.v (.bool true)):=by
  refine APure.mkL (.cons (Tm.dataAgg _) (.cons (Tm.dataAgg _) (.cons (.v _) .nil))) (.v _) ?_;refine aIn Tryz.func118 fun hm=>?_;simp only[Tryz.ntmps118,Tryz.results118,go_sem,seval];refine sqR fun _ u=>?_;(iterate 2 (refine chS 1 ?_ (by intro _ q;simp only[↓bO,go_sem,seval,Tok.cells,qC,Tm.cells_eq t,List.take,List.drop,Ty.same_refl];exact q)));simp only[↓bO,go_sem,seval,Tok.cells,qC,Tm.cells_eq t,List.take,List.drop,Ty.same_refl];apply u;refine zu fun _ u=>?_;refine sqR fun _ w=>?_;(iterate 6 (refine chS 1 ?_ (by intro _ q;simp only[↓bO,go_sem,seval,Tok.cells,qC,Tm.cells_eq t,List.take,List.drop,Ty.same_refl];exact q)));refine zC 12 rfl (fun hc12=>?_) (fun hc12=>?_)
  ·
   simp only[go_sem];exact absurd hc12 tz4
  (iterate 7 (refine chS 1 ?_ (by intro _ q;simp only[↓bO,go_sem,seval,Tok.cells,qC,Tm.cells_eq t,List.take,List.drop,Ty.same_refl];exact q)));refine zC 19 rfl (fun hc19=>?_) (fun hc19=>?_)
  ·
   simp only[go_sem];exact absurd hc19 (by simp[zac])
  (iterate 4 (refine chS 1 ?_ (by intro _ q;simp only[↓bO,go_sem,seval,Tok.cells,qC,Tm.cells_eq t,List.take,List.drop,Ty.same_refl];exact q)));refine zq 1 fun _ y=>?_;simp only[↓bO,go_sem,seval,Tok.cells,qC,Tm.cells_eq t,List.take,List.drop,Ty.same_refl];refine APure.call ((show APure Tryz.prog 51 [.agg [.v (.int .i64 t.t.k),.v (.int .i64 t.t.n),.sl 3 (t.t.ps.map Ty.cells)],.agg [.v (.int .i64 t.t.k),.v (.int .i64 t.t.n),.sl 3 (t.t.ps.map Ty.cells)]] (.v (.bool true)) from by (have h9:=Same_pure t.t t.t;rw[Ty.same_refl,Ty.cells_eq] at h9;exact h9))) ?_;(iterate 3 (apply y;clear y;refine zq 1 fun _ y=>?_;simp only[↓bO,go_sem,seval,Tok.cells,qC,Tm.cells_eq t,List.take,List.drop,Ty.same_refl]));apply y;clear y;refine zC 27 rfl (fun hc27=>?_) (fun hc27=>?_)
  ·
   simp only[go_sem];exact absurd hc27 tz4
  (iterate 7 (refine chS 1 ?_ (by intro _ q;simp only[↓bO,go_sem,seval,Tok.cells,qC,Tm.cells_eq t,List.take,List.drop,Ty.same_refl];exact q)));simp only[↓bO,go_sem,seval,Tok.cells,qC,Tm.cells_eq t,List.take,List.drop,Ty.same_refl];apply w;apply zt rfl <;> intro hb35
  ·
   exact absurd hb35 tz4
  apply zy;apply u;refine zu fun _ u=>?_;refine sqR fun _ w=>?_;simp only[↓bO,go_sem,seval,Tok.cells,qC,Tm.cells_eq t,List.take,List.drop,Ty.same_refl];apply w;apply zt rfl <;> intro hb36
  ·
   refine sqR fun _ w=>?_;(iterate 6 (refine chS 1 ?_ (by intro _ q;simp only[↓bO,go_sem,seval,Tok.cells,qC,Tm.cells_eq t,List.take,List.drop,Ty.same_refl];exact q)));refine zC 42 rfl (fun hc42=>?_) (fun hc42=>?_)
   ·
    (iterate 4 (refine chS 1 ?_ (by intro _ q;simp only[↓bO,go_sem,seval,Tok.cells,qC,Tm.cells_eq t,List.take,List.drop,Ty.same_refl];exact q)));refine chS 1 ?_ (by intro _ q;simp only[↓bO,go_sem,seval,i2t56,aEq2,eq2,Tok.cells,qC,Tm.cells_eq t,List.take,List.drop,Ty.same_refl];exact q);refine chS 1 ?_ (by intro _ q;simp only[↓bO,go_sem,seval,Tok.cells,qC,Tm.cells_eq t,List.take,List.drop,Ty.same_refl];exact q);simp only[↓bO,go_sem,seval,Tok.cells,qC,Tm.cells_eq t,List.take,List.drop,Ty.same_refl];apply w;apply zw;(try simp only[go_sem]);first | exact Le.refl _ | exact Le.of_eq (congrArg (fun b=>AV.v (.bool b)) tz4)
   simp only[go_sem];exact absurd hc42 tz4
  apply zy;apply u;refine sqR fun _ u=>?_;(iterate 6 (refine chS 1 ?_ (by intro _ q;simp only[↓bO,go_sem,seval,Tok.cells,qC,Tm.cells_eq t,List.take,List.drop,Ty.same_refl];exact q)));refine zC 54 rfl (fun hc54=>?_) (fun hc54=>?_)
  ·
   (iterate 4 (refine chS 1 ?_ (by intro _ q;simp only[↓bO,go_sem,seval,Tok.cells,qC,Tm.cells_eq t,List.take,List.drop,Ty.same_refl];exact q)));simp only[↓bO,go_sem,seval,Tok.cells,qC,Tm.cells_eq t,List.take,List.drop,Ty.same_refl];apply u;apply zw;(try simp only[go_sem]);first | exact Le.refl _ | exact Le.of_eq (congrArg (fun b=>AV.v (.bool b)) tz4)
  simp only[go_sem];exact absurd hc54 tz4
theorem Met.tmParts {args:List AV} (h:Met args) {t:Tm} (ht:AV.agg t.cells∈args):t.ps.length<=maxLen:=by
 obtain ⟨E,A,w,hr⟩:=h.at;obtain ⟨v,hv⟩:=hr _ ht;obtain ⟨u,hu⟩:=hv.aggAt (.sl 9 (t.ps.map Tm.cells)) (by rw[t.cells_eq];simp);have:=hu.slLen
 rwa [zd] at this
theorem zgr:∀(t:Tm) (b:Bool),APure Tryz.prog 78 [.agg t.cells,.agg t.cells,.v (.bool b)] (.v (.bool true)):=by
  refine Tm.ind fun t ih=>?_;intro b;refine APure.mkL (.cons (Tm.dataAgg _) (.cons (Tm.dataAgg _) (.cons (.v _) .nil))) (.v _) ?_;refine aIn Tryz.func78 fun hm=>?_;simp only[Tryz.ntmps78,Tryz.results78,go_sem,seval];have hml:=hm.tmParts (t:=t) tz4;simp only[maxLen] at hml;have htc:t.cells.length=9:=t.cells_len;refine sqR fun _ u=>?_;(iterate 2 (refine chS 1 ?_ (by intro _ q;simp only[↓bO,go_sem,seval,Tok.cells,qC,Tm.cells_eq t,List.take,List.drop];exact q)));simp only[↓bO,go_sem,seval,Tok.cells,qC,Tm.cells_eq t,List.take,List.drop];apply u;refine zu fun _ u=>?_;refine sqR fun _ w=>?_;(iterate 3 (refine chS 1 ?_ (by intro _ q;simp only[↓bO,go_sem,seval,Tok.cells,qC,Tm.cells_eq t,List.take,List.drop];exact q)));refine zq 1 fun _ y=>?_;simp only[↓bO,go_sem,seval,Tok.cells,qC,Tm.cells_eq t,List.take,List.drop];refine APure.call ((show APure Tryz.prog 118 [.agg [.v (.int .i64 t.k),.v (.string t.s),.v (.int .i64 t.n),.v (.int .i64 t.t.k),.v (.int .i64 t.t.n),.sl 3 (t.t.ps.map Ty.cells),.sl 9 (t.ps.map Tm.cells),.v (.int .i64 t.a),.v (.int .i64 t.b)],.agg [.v (.int .i64 t.k),.v (.string t.s),.v (.int .i64 t.n),.v (.int .i64 t.t.k),.v (.int .i64 t.t.n),.sl 3 (t.t.ps.map Ty.cells),.sl 9 (t.ps.map Tm.cells),.v (.int .i64 t.a),.v (.int .i64 t.b)],.v (.bool b)] (.v (.bool true)) from by (have h9:=zgn t b;rw[Tm.cells_eq] at h9;exact h9))) ?_;apply y;clear y;simp only[↓bO,go_sem,seval,Tok.cells,qC,Tm.cells_eq t,List.take,List.drop];apply w;apply zt rfl <;> intro hb12
  ·
   exact absurd hb12 tz4
  apply zy;apply u;refine zu fun _ u=>?_;refine sqR fun _ w=>?_;simp only[↓bO,go_sem,seval,Tok.cells,qC,Tm.cells_eq t,List.take,List.drop];apply w;apply zF;refine zV (σ:=Nat) (mB 33 156) (fun s=>s<=t.ps.length) (fun s=>[(7,.v (.int .i64 (s:Int)))]) (fun s=>[]) (fun s=>t.ps.length-s) 0 tz1 ?_ (fun s hs=>?_)
  ·
   (try simp only[go_sem,seval]);exact zaH
  simp only[go_sem,seval];refine zu fun _ w=>?_;refine sqR fun _ z=>?_;(iterate 4 (refine chS 1 ?_ (by intro _ q;simp only[↓bO,go_sem,seval,Tok.cells,qC,Tm.cells_eq t,List.take,List.drop];exact q)));simp only[↓bO,go_sem,seval,Tok.cells,qC,Tm.cells_eq t,List.take,List.drop];apply z;apply zt rfl <;> intro hb17
  ·
   (have hlt:s<t.ps.length:=by simpa using hb17);obtain ⟨p,hp⟩:∃p,t.ps[s]?=some p:=⟨_,zc hlt⟩;have hw1:IntKind.i64.wrap ((s:Int)+1)=(s:Int)+1:=zI tz1 tz1;apply zy;apply w;refine zu fun _ w=>?_;apply zF;refine zu fun _ z=>?_;refine zT 13 mixed tz0 fun J0 j0=>?_;(iterate 11 (simp only[go_sem];refine zE 1 fun _ y=>?_;simp only[↓zX,↓dOp,↓bO,go_sem,seval,Tok.cells,qC,Tm.cells_eq t,List.take,List.drop,hlt,gM hp,hw1,Tm.cells_eq p];apply y;clear y));simp only[go_sem];refine zE 1 fun _ y=>?_;simp only[↓zX,↓dOp,↓bO,go_sem,seval,Tok.cells,qC,Tm.cells_eq t,List.take,List.drop,hlt,gM hp,hw1,Tm.cells_eq p];refine ⟨_,(show APure Tryz.prog 78 [.agg [.v (.int .i64 p.k),.v (.string p.s),.v (.int .i64 p.n),.v (.int .i64 p.t.k),.v (.int .i64 p.t.n),.sl 3 (p.t.ps.map Ty.cells),.sl 9 (p.ps.map Tm.cells),.v (.int .i64 p.a),.v (.int .i64 p.b)],.agg [.v (.int .i64 p.k),.v (.string p.s),.v (.int .i64 p.n),.v (.int .i64 p.t.k),.v (.int .i64 p.t.n),.sl 3 (p.t.ps.map Ty.cells),.sl 9 (p.ps.map Tm.cells),.v (.int .i64 p.a),.v (.int .i64 p.b)],.v (.bool b)] (.v (.bool true)) from by (have h9:=ih p (zm hp) b;rw[Tm.cells_eq] at h9;exact h9)),?_⟩;apply y;clear y;simp only[↓zX,↓dOp,↓bO,go_sem,seval,Tok.cells,qC,Tm.cells_eq t,List.take,List.drop,hlt,gM hp,hw1,Tm.cells_eq p];refine j0 _ ?_;clear j0 J0;simp only[bL,aops,zD,zB,zz];apply z;apply zt rfl <;> intro hb32
   ·
    exact absurd hb32 tz4
   apply zy;apply w;apply zA;(iterate 2 (refine chS 1 ?_ (by intro _ q;simp only[↓bO,go_sem,seval,Tok.cells,qC,Tm.cells_eq t,List.take,List.drop,hlt,gM hp,hw1,Tm.cells_eq p];exact q)));simp only[↓bO,go_sem,seval,Tok.cells,qC,Tm.cells_eq t,List.take,List.drop,hlt,gM hp,hw1,Tm.cells_eq p];refine ⟨(s+1),tz1,by omega,?_⟩;(try simp only[go_sem,seval,hlt,gM hp,hw1,Tm.cells_eq p]);exact zaH
  apply zO;simp only[zD,zB,zz,bA,Nat.reduceEqDiff,↓reduceIte];apply u;refine sqR fun _ u=>?_;simp only[↓bO,go_sem,seval,Tok.cells,qC,Tm.cells_eq t,List.take,List.drop];apply u;apply zw;exact Le.refl _
theorem zgk (t:Tm):APure Tryz.prog 68 [.agg [.v (.int .i64 t.k),.v (.string t.s),.v (.int .i64 t.n),.v (.int .i64 t.t.k),.v (.int .i64 t.t.n),.sl 3 (t.t.ps.map Ty.cells),.sl 9 (t.ps.map Tm.cells),.v (.int .i64 t.a),.v (.int .i64 t.b)],.agg [.v (.int .i64 t.k),.v (.string t.s),.v (.int .i64 t.n),.v (.int .i64 t.t.k),.v (.int .i64 t.t.n),.sl 3 (t.t.ps.map Ty.cells),.sl 9 (t.ps.map Tm.cells),.v (.int .i64 t.a),.v (.int .i64 t.b)]] (.v (.bool true)):=by
 refine APure.mkL ((by rw[<- Tm.cells_eq];exact .cons (Tm.dataAgg _) (.cons (Tm.dataAgg _) .nil))) (.v _) ?_;refine aIn Tryz.func68 fun hm=>?_;simp only[Tryz.ntmps68,Tryz.results68,go_sem,seval];refine sqR fun _ u=>?_;(iterate 2 (refine chS 1 ?_ (by intro _ q;simp only[↓bO,go_sem,seval,Tok.cells,qC,List.take,List.drop];exact q)));simp only[↓bO,go_sem,seval,Tok.cells,qC,List.take,List.drop];apply u;refine sqR fun _ u=>?_;(iterate 2 (refine chS 1 ?_ (by intro _ q;simp only[↓bO,go_sem,seval,Tok.cells,qC,List.take,List.drop];exact q)));refine zq 1 fun _ y=>?_;simp only[↓bO,go_sem,seval,Tok.cells,qC,List.take,List.drop];refine APure.call ((show APure Tryz.prog 78 [.agg [.v (.int .i64 t.k),.v (.string t.s),.v (.int .i64 t.n),.v (.int .i64 t.t.k),.v (.int .i64 t.t.n),.sl 3 (t.t.ps.map Ty.cells),.sl 9 (t.ps.map Tm.cells),.v (.int .i64 t.a),.v (.int .i64 t.b)],.agg [.v (.int .i64 t.k),.v (.string t.s),.v (.int .i64 t.n),.v (.int .i64 t.t.k),.v (.int .i64 t.t.n),.sl 3 (t.t.ps.map Ty.cells),.sl 9 (t.ps.map Tm.cells),.v (.int .i64 t.a),.v (.int .i64 t.b)],.v (.bool true)] (.v (.bool true)) from by (have h9:=zgr t true;rw[Tm.cells_eq] at h9;exact h9))) ?_;apply y;clear y;simp only[↓bO,go_sem,seval,Tok.cells,qC,List.take,List.drop];apply u;apply zw;exact Le.refl _
theorem zfu (s:ByteArray) (m:Int) (hs:s.size<=90000):APure Tryz.prog 22 [.v (.string s),.v (.int .i64 m)] (.v (.bool true)):=by
  refine APure.mkL (.cons (.v _) (.cons (.v _) .nil)) (.v _) ?_;refine aIn Tryz.func22 fun hm=>?_;simp only[Tryz.ntmps22,Tryz.results22,go_sem,seval];refine sqR fun _ u=>?_;simp only[↓bO,go_sem,seval,Tok.cells,qC,List.take,List.drop,txA,Tm.cells_eq (txR s m).1];apply u;refine sqR fun _ u=>?_;(iterate 2 (refine chS 1 ?_ (by intro _ q;simp only[↓bO,go_sem,seval,Tok.cells,qC,List.take,List.drop,txA,Tm.cells_eq (txR s m).1];exact q)));refine zq 1 fun _ y=>?_;simp only[↓bO,go_sem,seval,Tok.cells,qC,List.take,List.drop,txA,Tm.cells_eq (txR s m).1];refine APure.call (zdQ s m hs) ?_;(iterate 8 (apply y;clear y;refine zq 1 fun _ y=>?_;simp only[↓bO,go_sem,seval,Tok.cells,qC,List.take,List.drop,txA,Tm.cells_eq (txR s m).1]));apply y;clear y;simp only[↓bO,go_sem,seval,Tok.cells,qC,List.take,List.drop,txA,Tm.cells_eq (txR s m).1];apply u;refine sqR fun _ u=>?_;(iterate 2 (refine chS 1 ?_ (by intro _ q;simp only[↓bO,go_sem,seval,Tok.cells,qC,List.take,List.drop,txA,Tm.cells_eq (txR s m).1];exact q)));refine zq 1 fun _ y=>?_;simp only[↓bO,go_sem,seval,Tok.cells,qC,List.take,List.drop,txA,Tm.cells_eq (txR s m).1];refine APure.call (zgt s m hs) ?_;(iterate 8 (apply y;clear y;refine zq 1 fun _ y=>?_;simp only[↓bO,go_sem,seval,Tok.cells,qC,List.take,List.drop,txA,Tm.cells_eq (txR s m).1]));apply y;clear y;simp only[↓bO,go_sem,seval,Tok.cells,qC,List.take,List.drop,txA,Tm.cells_eq (txR s m).1];apply u;refine sqR fun _ u=>?_;(iterate 4 (refine chS 1 ?_ (by intro _ q;simp only[↓bO,go_sem,seval,Tok.cells,qC,List.take,List.drop,txA,Tm.cells_eq (txR s m).1];exact q)));refine zC 28 rfl (fun hc28=>?_) (fun hc28=>?_)
  ·
   (iterate 2 (refine chS 1 ?_ (by intro _ q;simp only[↓bO,go_sem,seval,Tok.cells,qC,List.take,List.drop,txA,Tm.cells_eq (txR s m).1];exact q)));refine zq 1 fun _ y=>?_;simp only[↓bO,go_sem,seval,i2t56,aEq2,eq2,Tok.cells,qC,List.take,List.drop,txA,Tm.cells_eq (txR s m).1];(iterate 2 (apply y;clear y;refine zq 1 fun _ y=>?_;simp only[↓bO,go_sem,seval,Tok.cells,qC,List.take,List.drop,txA,Tm.cells_eq (txR s m).1]));apply y;clear y;refine zC 33 rfl (fun hc33=>?_) (fun hc33=>?_)
   ·
    (iterate 2 (refine chS 1 ?_ (by intro _ q;simp only[↓bO,go_sem,seval,Tok.cells,qC,List.take,List.drop,txA,Tm.cells_eq (txR s m).1];exact q)));refine zq 1 fun _ y=>?_;simp only[↓bO,go_sem,seval,Tok.cells,qC,List.take,List.drop,txA,Tm.cells_eq (txR s m).1];refine APure.call (zgk (txR s m).1) ?_;apply y;clear y;refine chS 1 ?_ (by intro _ q;simp only[↓bO,go_sem,seval,Tok.cells,qC,List.take,List.drop,txA,Tm.cells_eq (txR s m).1];exact q);simp only[↓bO,go_sem,seval,Tok.cells,qC,List.take,List.drop,txA,Tm.cells_eq (txR s m).1];apply u;apply zw;(try simp only[go_sem]);first | exact Le.refl _ | exact Le.of_eq (congrArg (fun b=>AV.v (.bool b)) tz4)
   simp only[go_sem];exact absurd hc33 tz4
  simp only[go_sem];exact absurd hc28 tz4
def aw6:ByteArray:=⟨#[102,32,40,120,41,32,49]⟩
def aw6T:Tm:=tm 5 ByteArray.empty 0 [tm 5 ByteArray.empty 0 [tm 1 ⟨#[102]⟩ 0 [] (0,1),tm 1 ⟨#[120]⟩ 0 [] (3,4)] (0,5),tm 2 ByteArray.empty 1 [] (6,7)] (0,7)
theorem aw6_read:txR aw6 9=(aw6T,(0,0),0):=by kernel_rfl
theorem aw6_pure:APure Tryz.prog 27 [.v (.string aw6),.v (.int .i64 9)] (.tup [.agg aw6T.cells,.agg [.v (.int .i64 0),.v (.int .i64 0)],.v (.int .i64 0)]):=by
 have h:=zdQ aw6 9 tz3;unfold txA at h;rw[aw6_read] at h;exact h
theorem zcU:APure Tryz.prog 21 [] (.v (.bool true)):=by
  refine APure.mkL (.nil) (.v _) ?_;refine aIn Tryz.func21 fun hm=>?_;simp only[Tryz.ntmps21,Tryz.results21,go_sem,seval];refine sqR fun _ u=>?_;simp only[↓bO,go_sem,seval,Tok.cells,qC,List.take,List.drop,aw6T,tm,Tm.cells_mk,Ty.k,Ty.n,Ty.ps];apply u;refine sqR fun _ u=>?_;refine zq 1 fun _ y=>?_;simp only[↓bO,go_sem,seval,Tok.cells,qC,List.take,List.drop,aw6T,tm,Tm.cells_mk,Ty.k,Ty.n,Ty.ps];refine APure.call (aw6_pure) ?_;(iterate 8 (apply y;clear y;refine zq 1 fun _ y=>?_;simp only[↓bO,go_sem,seval,Tok.cells,qC,List.take,List.drop,aw6T,tm,Tm.cells_mk,Ty.k,Ty.n,Ty.ps]));apply y;clear y;simp only[↓bO,go_sem,seval,Tok.cells,qC,List.take,List.drop,aw6T,tm,Tm.cells_mk,Ty.k,Ty.n,Ty.ps];apply u;refine sqR fun _ u=>?_;(iterate 3 (refine chS 1 ?_ (by intro _ q;simp only[↓bO,go_sem,seval,Tok.cells,qC,List.take,List.drop,aw6T,tm,Tm.cells_mk,Ty.k,Ty.n,Ty.ps];exact q)));refine zC 11 rfl (fun hc11=>?_) (fun hc11=>?_)
  ·
   (iterate 5 (refine chS 1 ?_ (by intro _ q;simp only[↓bO,go_sem,seval,Tok.cells,qC,List.take,List.drop,aw6T,tm,Tm.cells_mk,Ty.k,Ty.n,Ty.ps];exact q)));refine zC 16 rfl (fun hc16=>?_) (fun hc16=>?_)
   ·
    (iterate 3 (refine chS 1 ?_ (by intro _ q;simp only[↓bO,go_sem,seval,Tok.cells,qC,List.take,List.drop,aw6T,tm,Tm.cells_mk,Ty.k,Ty.n,Ty.ps];exact q)));refine zq 1 fun _ y=>?_;simp only[↓bO,go_sem,seval,i2t56,aEq2,eq2,Tok.cells,qC,List.take,List.drop,aw6T,tm,Tm.cells_mk,Ty.k,Ty.n,Ty.ps];(iterate 2 (apply y;clear y;refine zq 1 fun _ y=>?_;simp only[↓bO,go_sem,seval,Tok.cells,qC,List.take,List.drop,aw6T,tm,Tm.cells_mk,Ty.k,Ty.n,Ty.ps]));apply y;clear y;refine zC 22 rfl (fun hc22=>?_) (fun hc22=>?_)
    ·
     (iterate 6 (refine chS 1 ?_ (by intro _ q;simp only[↓bO,go_sem,seval,Tok.cells,qC,List.take,List.drop,aw6T,tm,Tm.cells_mk,Ty.k,Ty.n,Ty.ps];exact q)));refine zC 28 rfl (fun hc28=>?_) (fun hc28=>?_)
     ·
      (iterate 9 (refine chS 1 ?_ (by intro _ q;simp only[↓bO,go_sem,seval,Tok.cells,qC,List.take,List.drop,aw6T,tm,Tm.cells_mk,Ty.k,Ty.n,Ty.ps];exact q)));refine zC 37 rfl (fun hc37=>?_) (fun hc37=>?_)
      ·
       (iterate 9 (refine chS 1 ?_ (by intro _ q;simp only[↓bO,go_sem,seval,Tok.cells,qC,List.take,List.drop,aw6T,tm,Tm.cells_mk,Ty.k,Ty.n,Ty.ps];exact q)));refine chS 1 ?_ (by intro _ q;simp only[↓bO,go_sem,seval,i2t56,aEq2,eq2,Tok.cells,qC,List.take,List.drop,aw6T,tm,Tm.cells_mk,Ty.k,Ty.n,Ty.ps];exact q);refine chS 1 ?_ (by intro _ q;simp only[↓bO,go_sem,seval,Tok.cells,qC,List.take,List.drop,aw6T,tm,Tm.cells_mk,Ty.k,Ty.n,Ty.ps];exact q);simp only[↓bO,go_sem,seval,Tok.cells,qC,List.take,List.drop,aw6T,tm,Tm.cells_mk,Ty.k,Ty.n,Ty.ps];apply u;apply zw;(try simp only[go_sem]);first | exact Le.refl _ | exact Le.of_eq (congrArg (fun b=>AV.v (.bool b)) tz4)
      simp only[go_sem];exact absurd hc37 tz4
     simp only[go_sem];exact absurd hc28 tz4
    simp only[go_sem];exact absurd hc22 tz4
   simp only[go_sem];exact absurd hc16 tz4
  simp only[go_sem];exact absurd hc11 tz4
theorem zc2 (s:ByteArray) (m:Int):APure Tryz.prog 5 [.v (.string s),.v (.int .i64 m)] (.v (.bool true)):=by
  refine APure.mkL (.cons (.v _) (.cons (.v _) .nil)) (.v _) ?_;refine aIn Tryz.func5 fun hm=>?_;simp only[Tryz.ntmps5,Tryz.results5,go_sem,seval];refine sqR fun _ u=>?_;simp only[↓bO,go_sem,seval,Tok.cells,qC];apply u;refine zu fun _ u=>?_;refine sqR fun _ w=>?_;(iterate 2 (refine chS 1 ?_ (by intro _ q;simp only[↓bO,go_sem,seval,Tok.cells,qC];exact q)));simp only[↓bO,go_sem,seval,Tok.cells,qC];apply w;apply zt rfl <;> intro hb7
  ·
   refine sqR fun _ w=>?_;refine zq 1 fun _ y=>?_;simp only[↓bO,go_sem,seval,Tok.cells,qC];refine APure.call (zcU) ?_;apply y;clear y;simp only[↓bO,go_sem,seval,Tok.cells,qC];apply w;apply zw;exact Le.refl _
  (have hz:s.size<=400:=by (have h9:=hb7;simp at h9;omega));apply zy;apply u;refine sqR fun _ u=>?_;(iterate 2 (refine chS 1 ?_ (by intro _ q;simp only[↓bO,go_sem,seval,Tok.cells,qC];exact q)));refine zq 1 fun _ y=>?_;simp only[↓bO,go_sem,seval,Tok.cells,qC];refine APure.call (zfu s m tz1) ?_;apply y;clear y;refine chS 1 ?_ (by intro _ q;simp only[↓bO,go_sem,seval,Tok.cells,qC];exact q);simp only[go_sem];refine zC 12 rfl (fun hc12=>?_) (fun hc12=>?_)
  ·
   simp only[go_sem];refine zq 1 fun _ y=>?_;simp only[↓bO,go_sem,seval,Tok.cells,qC];refine APure.call (zcU) ?_;apply y;clear y;refine chS 1 ?_ (by intro _ q;simp only[↓bO,go_sem,seval,Tok.cells,qC];exact q);simp only[↓bO,go_sem,seval,Tok.cells,qC];apply u;apply zw;exact Le.refl _
  simp only[go_sem];exact absurd hc12 tz4
end Go.Proofs.YtkokfdmggdhfmaaGreatDoor
namespace Go.Proofs.YtkokfdmggdhfmaaGreatDoor
open Go Go.Shelf
def Tryz.lays157_ren:Go.Shelf.Ren:=⟨fun | 157=>41 | 229=>91 | 199=>92 | 261=>135 | 311=>176 | 312=>177 | n=>n,fun | 9=>9 | 31=>76 | 3=>3 | 5=>5 | 4=>4 | 119=>136 | 0=>0 | 40=>138 | 152=>173 | 21=>21 | 154=>175 | 51=>176 | 141=>178 | 196=>209 | 193=>206 | 198=>212 | 49=>210 | 194=>207 | 201=>215 | 226=>236 | 46=>205 | 227=>237 | n=>n,fun | 0=>0 | 6=>1 | n=>n⟩
theorem Tryz.lays157:Go.Proofs.Lays.n157 Tryz.prog Tryz.lays157_ren:={
 mixed:=by kernel_rfl
 f157:=Tryz.func41.trans (congrArg some tz0)
 f199:=Tryz.func92.trans (congrArg some tz0)
 f229:=Tryz.func91.trans (congrArg some tz0)
 f261:=Tryz.func135.trans (congrArg some tz0)
 f311:=Tryz.func176.trans (congrArg some tz0)
 f312:=Tryz.func177.trans (congrArg some tz0)
 t0:=Tryz.underlying0
 a0:=Tryz.isAgg0
 z0:=Tryz.sizeOf0
 v0:=Tryz.zeroValue0
 t3:=Tryz.underlying3
 a3:=Tryz.isAgg3
 z3:=Tryz.sizeOf3
 v3:=Tryz.zeroValue3
 t4:=Tryz.underlying4
 a4:=Tryz.isAgg4
 z4:=Tryz.sizeOf4
 v4:=Tryz.zeroValue4
 t5:=Tryz.underlying5
 a5:=Tryz.isAgg5
 z5:=Tryz.sizeOf5
 v5:=Tryz.zeroValue5
 t9:=Tryz.underlying9
 a9:=Tryz.isAgg9
 z9:=Tryz.sizeOf9
 v9:=Tryz.zeroValue9
 t21:=Tryz.underlying21
 a21:=Tryz.isAgg21
 z21:=Tryz.sizeOf21
 v21:=Tryz.zeroValue21
 t31:=Tryz.underlying76
 a31:=Tryz.isAgg76
 z31:=Tryz.sizeOf76
 v31:=Tryz.zeroValue76
 t40:=Tryz.underlying138
 a40:=Tryz.isAgg138
 z40:=Tryz.sizeOf138
 v40:=Tryz.zeroValue138
 t46:=Tryz.underlying205
 a46:=Tryz.isAgg205
 z46:=Tryz.sizeOf205
 v46:=Tryz.zeroValue205
 t49:=Tryz.underlying210
 a49:=Tryz.isAgg210
 z49:=Tryz.sizeOf210
 v49:=Tryz.zeroValue210
 t51:=Tryz.underlying176
 a51:=Tryz.isAgg176
 z51:=Tryz.sizeOf176
 v51:=Tryz.zeroValue176
 t119:=Tryz.underlying136
 a119:=Tryz.isAgg136
 z119:=Tryz.sizeOf136
 t141:=Tryz.underlying178
 a141:=Tryz.isAgg178
 z141:=Tryz.sizeOf178
 v141:=Tryz.zeroValue178
 t152:=Tryz.underlying173
 a152:=Tryz.isAgg173
 z152:=Tryz.sizeOf173
 v152:=Tryz.zeroValue173
 t154:=Tryz.underlying175
 a154:=Tryz.isAgg175
 z154:=Tryz.sizeOf175
 v154:=Tryz.zeroValue175
 t193:=Tryz.underlying206
 a193:=Tryz.isAgg206
 z193:=Tryz.sizeOf206
 v193:=Tryz.zeroValue206
 t194:=Tryz.underlying207
 a194:=Tryz.isAgg207
 z194:=Tryz.sizeOf207
 v194:=Tryz.zeroValue207
 t196:=Tryz.underlying209
 a196:=Tryz.isAgg209
 z196:=Tryz.sizeOf209
 v196:=Tryz.zeroValue209
 t198:=Tryz.underlying212
 a198:=Tryz.isAgg212
 z198:=Tryz.sizeOf212
 v198:=Tryz.zeroValue212
 t201:=Tryz.underlying215
 a201:=Tryz.isAgg215
 z201:=Tryz.sizeOf215
 v201:=Tryz.zeroValue215
 t226:=Tryz.underlying236
 a226:=Tryz.isAgg236
 z226:=Tryz.sizeOf236
 v226:=Tryz.zeroValue236
 t227:=Tryz.underlying237
 a227:=Tryz.isAgg237
 z227:=Tryz.sizeOf237
 v227:=Tryz.zeroValue237
 g0:=by kernel_rfl
 g6:=by kernel_rfl}
end Go.Proofs.YtkokfdmggdhfmaaGreatDoor
namespace Go.Proofs.YtkokfdmggdhfmaaGreatDoor
open Go
variable {H:Type} {enc:TypeId×Value->H}
theorem zcc {a:Assume} {C:Checked} {os:Go.Os} {f:FuncId} {fn:Func} {s:ChangeSpec} {conds:List PathCond} {apart fresh handsOn again:Bool} {X:World->Array Value->Prop}
  (hX:∀(w w':World) (args:Array Value),w.heap=w'.heap->X w args->X w' args)
  (own:ownKnob C.prog.godebug=none) (started:os.Started) (noInit:C.prog.inits.idxOf? f=none) (hfn:C.prog.funcs[f]?=some fn)
  (witness:∃(w:World) (tape:Tape) (i:Input),w.os=os/\(w.forCall tape i).Shaped C.prog/\i.vars=[]/\Input.okWide C.prog (w.forCall tape i) .any w.heap.size f i /\
   ((s.pre enc C.prog fn conds apart (w.forCall tape i).memory i.args/\X (w.forCall tape i).memory i.args)/\sizedMet enc C.prog fn (OpenSpec.ofChange s) apart (w.forCall tape i).memory i.args)/\a.holds C.prog (lone (Frame.enter C.prog f i.args .normal) [] (w.forCall tape i)))
  (contract:∀(W:World) (base:Nat) (args:Array Value) (ds gs:List (DataW H)) (before:List MemPlace),
   (∀(j:Nat) t v,fn.params[j]?=some t->args[j]?=some v->Value.okWide C.prog W .any base t v) ->
   DataW.Whole enc C.prog fn.params.toList s.vars apart W args.toList ds gs before ->
   conds.all (PathCond.test C.prog ⟨fn.params.toList,ds,s.plain.varTypes C.prog,gs⟩)=true ->
   X W args->W.ShapedOpen C.prog ->
   Calls C.prog f args W fun e W'=>∃v,e=.returned v/\s.post enc C.prog fn apart fresh handsOn again W args v W') :
  ReturnsInHanded a C os f .any (fun w args=>(s.pre enc C.prog fn conds apart w args/\X w args)/\sizedMet enc C.prog fn (OpenSpec.ofChange s) apart w args) (s.post enc C.prog fn apart fresh handsOn again) :=
 returnsInHanded_of_calls own started noInit witness fun w tape i _ hsh _ hok hpre _=>by
  obtain ⟨_,_,_,fn1,hf1,_,_,_,_,hval⟩:=hok;obtain rfl:fn1=fn:=Option.some.inj (hf1.symm.trans hfn);obtain ⟨⟨⟨ds,gs,before,hw,hc⟩,hx⟩,_⟩:=hpre;refine (contract (w.forCall tape i) w.heap.size i.args ds gs before hval (DataW.Whole.of_heap (w':=w.forCall tape i) (by rfl) hw) hc (hX _ _ _ (by rfl) hx) hsh).mono fun e W' ⟨v,he,hp⟩=>?_;subst he;exact ChangeSpec.post_blind hp
end Go.Proofs.YtkokfdmggdhfmaaGreatDoor
namespace Go.Proofs.YtkokfdmggdhfmaaGreatDoor.parseTerms
open Go Go.ChangeShapes Go.WideShapes Go.ChangeAt Go.RowKit
theorem own:ownKnob Tryz.prog.godebug=none:=by kernel_rfl
theorem laidOut:laidOutB Tryz.prog=true:=by kernel_rfl
theorem cT:Tryz.prog.cellsOf 26=3:=by kernel_rfl
theorem cI:Tryz.prog.cellsOf 3=1:=by kernel_rfl
theorem cS:Tryz.prog.cellsOf 24=1:=by kernel_rfl
section
variable {H:Type} {enc:TypeId×Value->H} {w:World} {base:Nat} {spare:Nat->Bool} {held:Bool}
theorem rdT (fuel:Nat):Rd enc Tryz.prog w base spare held Env.none fuel 26 Ty.cells :=
 rd_ty Tryz.underlying26 cT rfl rfl rfl rfl rfl rfl Tryz.underlying3 cI Tryz.underlying24 cS fuel
theorem rdS (fuel:Nat):Rd enc Tryz.prog w base spare held Env.none fuel 24 (fun xs:List Ty=>[.sl 3 (xs.map Ty.cells)]) :=
 zfN Tryz.underlying24 cT tz1 Ty.cells_len fun n _=>rdT n
end
set_option maxRecDepth 100000 in
theorem lifted (os:Go.Os) (started:os.Started) (H:Type) (enc:TypeId×Value->H) :
  ReturnsInHanded {} Tryz.checked os 5 .any (fun w args=>(Rows.parseTermsSpec.pre enc Tryz.prog Tryz.f5 Rows.parseTermsRow.domain false w args/\laidMetH Tryz.prog Rows.parseTermsRow.laid w)/\sizedMet enc Tryz.prog Tryz.f5 (OpenSpec.ofChange Rows.parseTermsSpec) false w args)
   (Rows.parseTermsSpec.post enc Tryz.prog Tryz.f5 false true false false):=by
 refine zcc (C:=Tryz.checked) (X:=fun w _=>laidMetH Tryz.prog Rows.parseTermsRow.laid w) (fun _ _ _ hh h=>h.of_heap hh) own started tz0 Tryz.func5
  (ChangeSpec.witness_shaped (enc:=enc) (C:=Tryz.checked) (os:=os) (X:=fun w _=>laidMetH Tryz.prog Rows.parseTermsRow.laid w) false (World.laidAll Tryz.prog os Rows.parseTermsRow.laid) #[.string ByteArray.empty,.int .i64 0] 8 (World.laidAll_os _ _ _)
   (World.shaped_of_ZipB tz0 tz0) tz0 tz0 tz0
   (by rw[MakeChecks.laidMetH_plain _ _ _ tz0];exact laidMet_laidAll _ tz0 tz0)) ?_
 intro W base args ds gs before hval0 hW hcnd hL hsh;have hlaid:laidMet Tryz.prog Rows.parseTermsRow.laid W:=by have h:=hL;rw[MakeChecks.laidMetH_plain _ _ _ tz0] at h;exact h
 have hgl:Gl (fun _ _=>False) W:=by
  refine ⟨?_,?_,?_⟩
  ·intro p hp
   have hp:p∈[(0,gv0),(5,gv5)]:=hp;rcases List.mem_cons.1 hp with rfl | hp
   ·refine gl_one (Lib.tabIs_of_head (zs:=gz0) (k:=.u8) (g:=0) (t:=136) (e:=5) (n:=256) (rest:=[]) (name:="strings.asciiSpace") tz0 tz0 Tryz.underlying136 Tryz.underlying5 tz0 tz0 ?_) tz0 rfl
    have h:=hlaid.filter (fun x=>x.1=="strings.asciiSpace");rw[show (Rows.parseTermsRow.laid.filter fun x=>x.1=="strings.asciiSpace")=[("strings.asciiSpace",Lib.tabData .u8 gz0)] from by kernel_rfl] at h;exact h
   rcases List.mem_cons.1 hp with rfl | hp
   ·refine gl_one (Lib.tabIs_of_head (zs:=gz5) (k:=.u64) (g:=5) (t:=258) (e:=238) (n:=20) (rest:=[]) (name:="internal/strconv.uint64pow10") tz0 tz0 Tryz.underlying258 Tryz.underlying238 tz0 tz0 ?_) tz0 rfl
    have h:=hlaid.filter (fun x=>x.1=="internal/strconv.uint64pow10");rw[show (Rows.parseTermsRow.laid.filter fun x=>x.1=="internal/strconv.uint64pow10")=[("internal/strconv.uint64pow10",Lib.tabData .u64 gz5)] from by kernel_rfl] at h;exact h
   cases hp
  ·intro p hp
   have hp:p∈([3,4]:List Nat):=hp;rcases List.mem_cons.1 hp with rfl | hp
   ·have h:=hlaid.filter (fun x=>x.1=="strconv.ErrSyntax")
    rw[show (Rows.parseTermsRow.laid.filter fun x=>x.1=="strconv.ErrSyntax")=[("strconv.ErrSyntax",.iface "*errors.errorString" (.ptr (.agg [.lit (.string [105,110,118,97,108,105,100,32,115,121,110,116,97,120])])))] from by kernel_rfl] at h
    obtain ⟨a0,s0,hv0,_⟩:=laid_sentinel (g:=3) (ti:=91) (tp:=254) (te:=256) (ts:=9) h tz0 tz0 Tryz.underlying91
     (fun u hu=>typeName_ptr_named (nm:="errors.errorString") (by rw[show "*"++"errors.errorString"="*errors.errorString" by decide];kernel_rfl) tz0 tz3 u (by rw[show "*"++"errors.errorString"="*errors.errorString" by decide];exact hu))
     Tryz.underlying254 Tryz.underlying256 rfl rfl Tryz.underlying9 tz0 tz0
    exact glE_one hv0 tz0
   rcases List.mem_cons.1 hp with rfl | hp
   ·have h:=hlaid.filter (fun x=>x.1=="strconv.ErrRange")
    rw[show (Rows.parseTermsRow.laid.filter fun x=>x.1=="strconv.ErrRange")=[("strconv.ErrRange",.iface "*errors.errorString" (.ptr (.agg [.lit (.string [118,97,108,117,101,32,111,117,116,32,111,102,32,114,97,110,103,101])])))] from by kernel_rfl] at h
    obtain ⟨a0,s0,hv0,_⟩:=laid_sentinel (g:=4) (ti:=91) (tp:=254) (te:=256) (ts:=9) h tz0 tz0 Tryz.underlying91
     (fun u hu=>typeName_ptr_named (nm:="errors.errorString") (by rw[show "*"++"errors.errorString"="*errors.errorString" by decide];kernel_rfl) tz0 tz3 u (by rw[show "*"++"errors.errorString"="*errors.errorString" by decide];exact hu))
     Tryz.underlying254 Tryz.underlying256 rfl rfl Tryz.underlying9 tz0 tz0
    exact glE_one hv0 tz0
   cases hp
  intro p hp;have hp:p∈([Lib.WhiteTab 1,fun w=>∃m:Int,w.cell? ⟨2,0,none⟩=some (.int .i64 m)]:List (World->Prop)):=hp;rcases List.mem_cons.1 hp with rfl | hp
  ·intro w1 hs1
   have h:=hlaid.filter (fun x=>x.1=="unicode.White_Space");rw[show (Rows.parseTermsRow.laid.filter fun x=>x.1=="unicode.White_Space")=[("unicode.White_Space",Lib.whiteData)] from by kernel_rfl] at h;exact WhiteTab_below (whiteTab_of_reads {Tryz.lays157 with} ⟨by kernel_rfl,by kernel_rfl,by kernel_rfl,by kernel_rfl,by kernel_rfl,by kernel_rfl,by kernel_rfl,by kernel_rfl⟩ (Lib.laidMet.reads h (.head _))) hs1.below
  rcases List.mem_cons.1 hp with rfl | hp
  ·intro w1 hs1
   obtain ⟨m,hm⟩:=cell_of_shapedOpen_int (P:=Tryz.prog) (g:=2) (t:=3) (k:=.i64) (zero:=#[.int .i64 0]) hsh (of_decide_eq_true tz0) tz0 rfl tz0 tz0 Tryz.underlying3;exact ⟨m,(hs1.below.cell (World.block_lt_of_cell? W _ hm)).trans hm⟩
  cases hp
 have hval:∀(j:Nat) t v,Tryz.f5.params[j]?=some t->args[j]?=some v->Value.okWide Tryz.prog W .any base t v:=hval0;have hW':=hW;obtain ⟨p,q,hA0,hV,rfl,hfz,hnd⟩:=hW;have hA:DataW.TrodAll enc Tryz.prog W 0 (fun _=>true) true Tryz.f5.params.toList args.toList ds p:=hA0;rw[Tryz.params5] at hA hval;obtain ⟨v0,vs0,d0,ds0,p0,y,hargs,rfl,rfl,h0,r0⟩:=trodAll_cons hA;obtain ⟨v1,vs1,d1,ds1,p1,z,rfl,rfl,rfl,h1,r1⟩:=trodAll_cons r0;obtain ⟨rfl,rfl,rfl⟩:=trodAll_nil r1;(obtain rfl:args=#[v0,v1]:=by cases args;simp_all);obtain ⟨rfl,rfl⟩:=trodVars_none hV;obtain ⟨a0,rfl,rfl,rfl,w0⟩:=ChangeMaps.open_string Tryz.underlying9 (hval 0 9 v0 rfl rfl) h0;obtain ⟨a1,rfl,rfl,rfl,w1⟩:=open_int Tryz.underlying3 (hval 1 3 v1 rfl rfl) h1;clear hA0 hval0;refine ((zc2 a0 a1).calls (w:=W) rfl ?_ hgl).mono fun e W' ⟨he,bel⟩=>?_
 ·intro i c u hc hu
  match i with
  | 0=>simp at hc hu;subst hc;subst hu;exact .v _
  | 1=>simp at hc hu;subst hc;subst hu;exact .v _
  | i+2=>simp at hc
 subst he;exact ⟨_,rfl,_,_,_,[],_,[],hW',trodAll_mk1 (shut_bool Tryz.underlying4 _),(trodAll_cons_mk (ChangeMaps.shut_string Tryz.underlying9 w0) (trodAll_cons_mk (shut_int Tryz.underlying3 w1) trodAll_mk0)),rfl,bel.frame _,fun h=>by cases h⟩
theorem over:Rows.parseTermsRow.holds Tryz.pinned (OpenSpec.ofChange Rows.parseTermsSpec) :=
 OpenClaim.holds_of_wide 5 Tryz.f5 rfl rfl rfl rfl rfl rfl rfl ⟨rfl,rfl,rfl,rfl,rfl⟩ rfl rfl rfl rfl rfl tz0 Tryz.func5 tz0
  (of_decide_eq_true tz0) (by unfold Func.isWrapper;first | (rw[if_pos (by decide +kernel)];kernel_rfl) | (rw[if_neg (by decide +kernel)];exact ⟨rfl,rfl⟩))
  (fun os started H enc _=>lifted os started H enc)
end Go.Proofs.YtkokfdmggdhfmaaGreatDoor.parseTerms
namespace Go.Proofs.YtkokfdmggdhfmaaGreatDoor
theorem parseTerms_proved : Rows.ParseTermsCardSaid :=
 Claim7.holds_tied_plain_at .later [] _ _ _ _ parseTerms.over (fun _ h=>by cases h) tz0 (fun _ h=>by cases h) parseTerms_row_tie rfl ⟨rfl,rfl⟩ tz0 rfl
  (fun f fn hf hfn=>by
   obtain rfl:f=5:=Option.some.inj ((show Tryz.prog.funcNamed "pangram/pangramlaw06.ParseTerms"=some 5 by kernel_rfl).symm.trans hf) |>.symm;obtain rfl:fn=Tryz.f5:=(Option.some.inj (Tryz.func5.symm.trans hfn)).symm;refine ⟨by kernel_rfl,fun j t ht=>?_⟩;rw[Tryz.params5] at ht;(have hm:t∈[9,3]:=by simpa using Array.mem_of_getElem? ht);(have hall:([9,3].all fun u=>!Tryz.prog.wantsStandIn u)=true:=by kernel_rfl);have:=List.all_eq_true.1 hall t hm;have h9:Tryz.prog.wantsStandIn t=false:=by simpa using this
   exact h9)
  tz0
#print axioms parseTerms_proved
end Go.Proofs.YtkokfdmggdhfmaaGreatDoor
