/- packed, part 48 of 49. Conditions: none. -/
import Derived.Test.YtkokfdmggdhfmaaGreatDoorPk47
import Derived.Shelf.Strings.FieldsAny
import Derived.Lib.IndexMore
import Derived.Shelf.LaysM
import Derived.Shelf.LaysC
import Derived.Shelf.Strings.Cut
import Derived.Shelf.Strings.Prefix
import Derived.Test.YtkokfdmggdhfmaaGreatDoorProg
import Derived.Lib.FrozenHead
import Derived.WalkSmall
set_option linter.unusedVariables false
set_option linter.unusedSimpArgs false
set_option maxRecDepth 100000
set_option maxHeartbeats 4000000
set_option linter.unnecessarySimpa false
namespace Go.Proofs.YtkokfdmggdhfmaaGreatDoor
open Go Go.RowKit
attribute [local irreducible] aops zaK
def opI (c op:Int):Int:=if c=40 then op+1 else if c=41 then op-1 else op
def zfa (s g:ByteArray) (all:Bool) (i:Nat) (op:Int) (out:List ByteArray):Bool:=decide (op=0/\i+g.size<=s.size)&&(eqS (s.extract i (i+g.size)) g&&(all||decide (out.length=0)))
def spF (s g:ByteArray) (all:Bool):Nat->Nat->Int->Nat->List ByteArray->List ByteArray
 | 0,_,_,a,out=>out++[s.extract a s.size]
 | f+1,i,op,a,out =>
  if i<s.size then
   if zfa s g all i (opI (bt s i) op) out then spF s g all f (i+g.size) (opI (bt s i) op) (i+g.size) (out++[s.extract a i])
   else spF s g all f (i+1) (opI (bt s i) op) a out
  else out++[s.extract a s.size]
def spA (s g:ByteArray) (all:Bool):List ByteArray:=spF s g all (s.size+1) 0 0 0 []
structure SpS where
 f:Nat
 i:Nat
 op:Int
 a:Nat
 out:List ByteArray
def SpS.ok (s g:ByteArray) (all:Bool) (w:SpS):Prop:=spF s g all w.f w.i w.op w.a w.out=spA s g all/\s.size-w.i<w.f/\w.i<=s.size/\w.a<=w.i/\w.out.length<=w.i/\-(w.i:Int)<=w.op/\w.op<=w.i
theorem SpS.start (s g:ByteArray) (all:Bool):SpS.ok s g all ⟨s.size+1,0,0,0,[]⟩:=⟨rfl,by simp,by simp,by simp,by simp,by simp,by simp⟩
section
variable {s g:ByteArray} {all:Bool} {w:SpS}
theorem opI_bnd (c:Int) {op:Int} {n:Int} (h1:-n<=op) (h2:op<=n):-(n+1)<=opI c op/\opI c op<=n+1:=by
 unfold opI;split;(·omega);split <;> omega
theorem SpS.ok.stop (h:w.ok s g all) (hi:¬w.i<s.size):spA s g all=w.out++[s.extract w.a s.size]:=by
 obtain ⟨h1,h2,_⟩:=h;obtain ⟨k,hk⟩:∃k,w.f=k+1:=⟨w.f-1,by omega⟩;rw[hk,spF,if_neg hi] at h1;exact h1.symm
theorem SpS.ok.cut (h:w.ok s g all) (hg:1<=g.size) (hi:w.i<s.size) (hc:zfa s g all w.i (opI (bt s w.i) w.op) w.out=true):SpS.ok s g all ⟨w.f-1,w.i+g.size,opI (bt s w.i) w.op,w.i+g.size,w.out++[s.extract w.a w.i]⟩:=by
 obtain ⟨h1,h2,h3,h4,h5,h6,h7⟩:=h;obtain ⟨k,hk⟩:∃k,w.f=k+1:=⟨w.f-1,by omega⟩;rw[hk,spF,if_pos hi,if_pos hc] at h1
 have h8:w.i+g.size<=s.size:=by
  unfold zfa at hc;simp only[zl,zg] at hc;exact hc.1.2
 have h9:=opI_bnd (bt s w.i) h6 h7;exact ⟨by simp only[hk,Nat.add_sub_cancel];exact h1,by simp only;omega,by simp only;omega,by simp only;omega,by simp only[zd,zx,zu];omega,by simp only;omega,by simp only;omega⟩
theorem SpS.ok.go (h:w.ok s g all) (hi:w.i<s.size) (hc:zfa s g all w.i (opI (bt s w.i) w.op) w.out=false):SpS.ok s g all ⟨w.f-1,w.i+1,opI (bt s w.i) w.op,w.a,w.out⟩:=by
 obtain ⟨h1,h2,h3,h4,h5,h6,h7⟩:=h;obtain ⟨k,hk⟩:∃k,w.f=k+1:=⟨w.f-1,by omega⟩;rw[hk,spF,if_pos hi,if_neg (by simp[hc])] at h1;have h9:=opI_bnd (bt s w.i) h6 h7;exact ⟨by simp only[hk,Nat.add_sub_cancel];exact h1,by simp only;omega,by simp only;omega,by simp only;omega,by simp only;omega,by simp only;omega,by simp only;omega⟩
end
theorem cut_no1 {s g:ByteArray} {all:Bool} {i:Nat} {op:Int} {out:List ByteArray} (h:¬op=0):zfa s g all i op out=false:=by
 unfold zfa;rw[decide_eq_false fun h9=>h h9.1];rfl
theorem zjX {s g:ByteArray} {all:Bool} {i:Nat} {op:Int} {out:List ByteArray} (h:¬i+g.size<=s.size):zfa s g all i op out=false:=by
 unfold zfa;rw[decide_eq_false fun h9=>h h9.2];rfl
theorem zjZ {s g:ByteArray} {all:Bool} {i:Nat} {op:Int} {out:List ByteArray} (h:eqS (s.extract i (i+g.size)) g=false):zfa s g all i op out=false:=by
 unfold zfa;rw[h];simp
theorem cut_no4 {s g:ByteArray} {all:Bool} {i:Nat} {op:Int} {out:List ByteArray} (h:all=false) (h2:¬out.length=0):zfa s g all i op out=false:=by
 unfold zfa;rw[h,decide_eq_false h2];simp
theorem zkq {s g:ByteArray} {all:Bool} {i:Nat} {op:Int} {out:List ByteArray} (h1:op=0) (h2:i+g.size<=s.size) (h3:eqS (s.extract i (i+g.size)) g=true) (h4:all=true\/out.length=0):zfa s g all i op out=true:=by
 unfold zfa;rw[decide_eq_true ⟨h1,h2⟩,h3];rcases h4 with h | h <;> simp[h]
theorem zf3 (s g:ByteArray) (all:Bool) (hg:1<=g.size) (hgs:g.size<=1048576) (hs:s.size<=1048576):APure Tryz.prog 142 [.v (.string s),.v (.string g),.v (.bool all)] (.sl 1 ((spA s g all).map zaf)):=by
  refine APure.mkL (.cons (.v _) (.cons (.v _) (.cons (.v _) .nil))) ((zdY _)) ?_;refine aIn Tryz.func142 fun hm=>?_;simp only[Tryz.ntmps142,Tryz.results142,go_sem,seval];(iterate 2 (refine zO fun _ y=>?_;apply zQ;simp only[↓bO,go_sem,seval];apply y));refine sqR fun _ y=>?_;refine chS 1 ?_;simp only[↓bO,go_sem,seval];apply y;refine zO fun _ y=>?_;refine sqD ?_;apply zV;refine zar (Weak.tokSlot 7 9 1 rfl) ?_;simp only[go_sem];refine zae (σ:=SpS) (mB 78 1927) (fun w=>w.ok s g all) (fun w=>[(7,.osl 0 1 (w.out.map zaf)),(8,.v (.int .i64 w.op)),(9,.v (.int .i64 (w.a:Int))),(10,.v (.int .i64 (w.i:Int)))]) (fun w=>[(0,.tok 9 1 w.out.length)]) (fun w=>s.size+1-w.i) ⟨s.size+1,0,0,0,[]⟩ (SpS.start s g all) ?_ (fun w hw=>?_)
  ·
   (try simp only[go_sem,seval,bL,Int.natCast_zero]);exact zaP
  simp only[go_sem,seval];have hwi:=hw.2.2;have hcc:((((s[w.i]?).getD 0).toNat:Nat):Int)=bt s w.i:=rfl;(have hw1:IntKind.i64.wrap ((w.i:Int)+1)=((w.i+1:Nat):Int):=by (rw[z8 tz1 tz1];omega));(have hw2:IntKind.i64.wrap ((w.i:Int)+(g.size:Int))=((w.i+g.size:Nat):Int):=by (rw[z8 tz1 tz1];omega));(have hw3:IntKind.i64.wrap (((w.i+g.size:Nat):Int)-1)=((w.i+g.size:Nat):Int)-1:=by (rw[z8 tz1 tz1]));(have hw4:IntKind.i64.wrap (((w.i+g.size:Nat):Int)-1+1)=((w.i+g.size:Nat):Int):=by (rw[z8 tz1 tz1];omega));(have hw5:IntKind.i64.wrap (w.op+1)=w.op+1:=by (rw[z8 tz1 tz1]));(have hw6:IntKind.i64.wrap ((if bt s w.i=40 then w.op+1 else w.op)-1)=(if bt s w.i=40 then w.op+1 else w.op)-1:=by (split <;> exact z8 tz1 tz1));(have hb1:(w.out.length+1) * 16<=140737488355328:=by omega);(have hb2:w.out.length+1<=maxLen:=by (simp only[maxLen];omega));have hai:((w.a:Int)<=(w.i:Int))=True:=eq_true tz1;have his:((w.i:Int)<=(s.size:Int))=True:=eq_true tz1;have hiu:((w.i:Int)<=((w.i+g.size:Nat):Int))=True:=eq_true tz1;refine zO fun _ u=>?_;refine sqR fun _ z=>?_;(iterate 3 (refine chS 1 ?_ (by intro _ q;simp only[↓bO,go_sem,seval,zaf,hcc,hw1,hw2,hw3,hw4,hw5,hw6,hb1,hb2,hai,his,hiu,zc,zd];exact q)));simp only[↓bO,go_sem,seval,zaf,hcc,hw1,hw2,hw3,hw4,hw5,hw6,hb1,hb2,hai,his,hiu,zc,zd];apply z;apply zP rfl <;> intro hb14
  ·
   (have hi:w.i<s.size:=by simpa using hb14);apply zS;apply u;refine zO fun _ u=>?_;apply zV;refine zaG (mB 78 1927) ([(8,.v (.int .i64 (if bt s w.i=40 then w.op+1 else w.op)))]) ([]) ?_ ?_
   ·
    refine sqR fun _ z=>?_;(iterate 3 (refine chS 1 ?_ (by intro _ q;simp only[↓bO,go_sem,seval,zaf,hcc,hw1,hw2,hw3,hw4,hw5,hw6,hb1,hb2,hai,his,hiu,zc,zd,hi];exact q)));simp only[↓bO,go_sem,seval,zaf,hcc,hw1,hw2,hw3,hw4,hw5,hw6,hb1,hb2,hai,his,hiu,zc,zd,hi];apply z;apply zP rfl <;> intro hb20
    ·
     apply zQ;(iterate 2 (refine chS 1 ?_ (by intro _ q;simp only[↓bO,go_sem,seval,zaf,hcc,hw1,hw2,hw3,hw4,hw5,hw6,hb1,hb2,hai,his,hiu,zc,zd,hi];exact q)));simp only[↓bO,go_sem,seval,zaf,hcc,hw1,hw2,hw3,hw4,hw5,hw6,hb1,hb2,hai,his,hiu,zc,zd,hi];(try simp only[go_sem,seval]);(first | rw[if_pos (by simpa using hb20)] | rw[if_neg (by simpa using hb20)]);exact zlh
    apply zS;(try simp only[go_sem]);(try simp only[go_sem,seval]);(first | rw[if_pos (by simpa using hb20)] | rw[if_neg (by simpa using hb20)]);exact zlh
   simp only[go_sem,seval];refine zaG (mB 78 1927) ([(8,.v (.int .i64 (opI (bt s w.i) w.op)))]) ([]) ?_ ?_
   ·
    refine sqR fun _ z=>?_;(iterate 3 (refine chS 1 ?_ (by intro _ q;simp only[↓bO,go_sem,seval,zaf,hcc,hw1,hw2,hw3,hw4,hw5,hw6,hb1,hb2,hai,his,hiu,zc,zd,hi];exact q)));simp only[↓bO,go_sem,seval,zaf,hcc,hw1,hw2,hw3,hw4,hw5,hw6,hb1,hb2,hai,his,hiu,zc,zd,hi];apply z;apply zP rfl <;> intro hb26
    ·
     apply zQ;(iterate 2 (refine chS 1 ?_ (by intro _ q;simp only[↓bO,go_sem,seval,zaf,hcc,hw1,hw2,hw3,hw4,hw5,hw6,hb1,hb2,hai,his,hiu,zc,zd,hi];exact q)));simp only[↓bO,go_sem,seval,zaf,hcc,hw1,hw2,hw3,hw4,hw5,hw6,hb1,hb2,hai,his,hiu,zc,zd,hi];(try simp only[go_sem,seval]);(have hop:(opI (bt s w.i) w.op)=if bt s w.i=41 then (if bt s w.i=40 then w.op+1 else w.op)-1 else (if bt s w.i=40 then w.op+1 else w.op):=by (unfold opI;split <;> split <;> omega));rw[hop];(first | rw[if_pos (show bt s w.i=41 by simpa using hb26)] | rw[if_neg (show ¬bt s w.i=41 by simpa using hb26)]);exact zlh
    apply zS;(try simp only[go_sem]);(try simp only[go_sem,seval]);(have hop:(opI (bt s w.i) w.op)=if bt s w.i=41 then (if bt s w.i=40 then w.op+1 else w.op)-1 else (if bt s w.i=40 then w.op+1 else w.op):=by (unfold opI;split <;> split <;> omega));rw[hop];(first | rw[if_pos (show bt s w.i=41 by simpa using hb26)] | rw[if_neg (show ¬bt s w.i=41 by simpa using hb26)]);exact zlh
   simp only[go_sem,seval];refine sqR fun _ z=>?_;(iterate 3 (refine chS 1 ?_ (by intro _ q;simp only[↓bO,go_sem,seval,zaf,hcc,hw1,hw2,hw3,hw4,hw5,hw6,hb1,hb2,hai,his,hiu,zc,zd,hi];exact q)));refine zW 31 rfl (fun hc31=>?_) (fun hc31=>?_)
   ·
    simp only[go_sem];(have h0:(opI (bt s w.i) w.op)=0:=by (have h9:=hc31;simp at h9;exact h9));(iterate 9 (refine chS 1 ?_ (by intro _ q;simp only[↓bO,go_sem,seval,zaf,hcc,hw1,hw2,hw3,hw4,hw5,hw6,hb1,hb2,hai,his,hiu,zc,zd,hi];exact q)));refine zW 40 rfl (fun hc40=>?_) (fun hc40=>?_)
    ·
     simp only[go_sem];(have hle:w.i+g.size<=s.size:=by (have h9:=hc40;simp at h9;omega));have hle2:(((w.i+g.size:Nat):Int)<=(s.size:Int))=True:=eq_true tz1;(iterate 11 (refine chS 1 ?_ (by intro _ q;simp only[↓bO,go_sem,seval,zaf,hcc,hw1,hw2,hw3,hw4,hw5,hw6,hb1,hb2,hai,his,hiu,zc,zd,hi,hle2];exact q)));refine zW 51 rfl (fun hc51=>?_) (fun hc51=>?_)
     ·
      simp only[go_sem];have hq:eqS (s.extract w.i (w.i+g.size)) g=true:=hc51;(iterate 2 (refine chS 1 ?_ (by intro _ q;simp only[↓bO,go_sem,seval,zaf,hcc,hw1,hw2,hw3,hw4,hw5,hw6,hb1,hb2,hai,his,hiu,zc,zd,hi,hle2];exact q)));refine zW 53 rfl (fun hc53=>?_) (fun hc53=>?_)
      ·
       simp only[go_sem];have hct:(zfa s g all w.i (opI (bt s w.i) w.op) w.out)=true:=zkq h0 hle hq (.inl hc53);(iterate 4 (refine chS 1 ?_ (by intro _ q;simp only[↓bO,go_sem,seval,zaf,hcc,hw1,hw2,hw3,hw4,hw5,hw6,hb1,hb2,hai,his,hiu,zc,zd,hi,hle2];exact q)));simp only[↓bO,go_sem,seval,zaf,hcc,hw1,hw2,hw3,hw4,hw5,hw6,hb1,hb2,hai,his,hiu,zc,zd,hi,hle2];apply z;refine zP (b:=true) (by first | exact rfl | exact congrArg (fun b=>AV.v (.bool b)) hb58) (fun _=>?_) (fun h=>(by cases h));refine sqR fun _ z=>?_;(iterate 5 (refine chS 1 ?_ (by intro _ q;simp only[↓bO,go_sem,seval,zaf,hcc,hw1,hw2,hw3,hw4,hw5,hw6,hb1,hb2,hai,his,hiu,zc,zd,hi,hle2];exact q)));refine chS 1 ?_ (by intro _ q;simp only[↓bO,go_sem,seval,↓zaV,↓za1,↓zaR,↓zaZ,↓zaS,↓zaY,↓za0,↓zaX,↓zaU,↓zax,↓zav,↓zaw,zaf,hcc,hw1,hw2,hw3,hw4,hw5,hw6,hb1,hb2,hai,his,hiu,zc,zd,hi,hle2];exact q);refine chS 1 ?_ (by intro _ q;simp only[↓bO,go_sem,seval,zaf,hcc,hw1,hw2,hw3,hw4,hw5,hw6,hb1,hb2,hai,his,hiu,zc,zd,hi,hle2];exact q);simp only[↓bO,go_sem,seval,zaf,hcc,hw1,hw2,hw3,hw4,hw5,hw6,hb1,hb2,hai,his,hiu,zc,zd,hi,hle2];apply z;refine sqR fun _ z=>?_;(iterate 4 (refine chS 1 ?_ (by intro _ q;simp only[↓bO,go_sem,seval,zaf,hcc,hw1,hw2,hw3,hw4,hw5,hw6,hb1,hb2,hai,his,hiu,zc,zd,hi,hle2];exact q)));simp only[↓bO,go_sem,seval,zaf,hcc,hw1,hw2,hw3,hw4,hw5,hw6,hb1,hb2,hai,his,hiu,zc,zd,hi,hle2];apply z;apply zQ;(iterate 2 (refine chS 1 ?_ (by intro _ q;simp only[↓bO,go_sem,seval,zaf,hcc,hw1,hw2,hw3,hw4,hw5,hw6,hb1,hb2,hai,his,hiu,zc,zd,hi,hle2];exact q)));simp only[↓bO,go_sem,seval,zaf,hcc,hw1,hw2,hw3,hw4,hw5,hw6,hb1,hb2,hai,his,hiu,zc,zd,hi,hle2];apply u;apply zQ;(iterate 2 (refine chS 1 ?_ (by intro _ q;simp only[↓bO,go_sem,seval,zaf,hcc,hw1,hw2,hw3,hw4,hw5,hw6,hb1,hb2,hai,his,hiu,zc,zd,hi,hle2];exact q)));simp only[↓bO,go_sem,seval,zaf,hcc,hw1,hw2,hw3,hw4,hw5,hw6,hb1,hb2,hai,his,hiu,zc,zd,hi,hle2];refine ⟨⟨w.f-1,w.i+g.size,(opI (bt s w.i) w.op),w.i+g.size,w.out++[s.extract w.a w.i]⟩,hw.cut hg hi hct,tz5,?_⟩;(try simp only[go_sem,seval,zaf,hcc,hw1,hw2,hw3,hw4,hw5,hw6,hb1,hb2,hai,his,hiu,zc,bL,zd,hi,hle2]);exact zaP
      simp only[go_sem];have hal:all=false:=hc53;(iterate 4 (refine chS 1 ?_ (by intro _ q;simp only[↓bO,go_sem,seval,zaf,hcc,hw1,hw2,hw3,hw4,hw5,hw6,hb1,hb2,hai,his,hiu,zc,zd,hi,hle2];exact q)));simp only[↓bO,go_sem,seval,zaf,hcc,hw1,hw2,hw3,hw4,hw5,hw6,hb1,hb2,hai,his,hiu,zc,zd,hi,hle2];apply z;apply zP rfl <;> intro hb58
      ·
       (have hct:(zfa s g all w.i (opI (bt s w.i) w.op) w.out)=true:=by (first | exact hct | exact zkq h0 hle hq (.inr (by have h9:=hb58;simp at h9;simpa using h9))));refine sqR fun _ z=>?_;(iterate 5 (refine chS 1 ?_ (by intro _ q;simp only[↓bO,go_sem,seval,zaf,hcc,hw1,hw2,hw3,hw4,hw5,hw6,hb1,hb2,hai,his,hiu,zc,zd,hi,hle2];exact q)));refine chS 1 ?_ (by intro _ q;simp only[↓bO,go_sem,seval,↓zaV,↓za1,↓zaR,↓zaZ,↓zaS,↓zaY,↓za0,↓zaX,↓zaU,↓zax,↓zav,↓zaw,zaf,hcc,hw1,hw2,hw3,hw4,hw5,hw6,hb1,hb2,hai,his,hiu,zc,zd,hi,hle2];exact q);refine chS 1 ?_ (by intro _ q;simp only[↓bO,go_sem,seval,zaf,hcc,hw1,hw2,hw3,hw4,hw5,hw6,hb1,hb2,hai,his,hiu,zc,zd,hi,hle2];exact q);simp only[↓bO,go_sem,seval,zaf,hcc,hw1,hw2,hw3,hw4,hw5,hw6,hb1,hb2,hai,his,hiu,zc,zd,hi,hle2];apply z;refine sqR fun _ z=>?_;(iterate 4 (refine chS 1 ?_ (by intro _ q;simp only[↓bO,go_sem,seval,zaf,hcc,hw1,hw2,hw3,hw4,hw5,hw6,hb1,hb2,hai,his,hiu,zc,zd,hi,hle2];exact q)));simp only[↓bO,go_sem,seval,zaf,hcc,hw1,hw2,hw3,hw4,hw5,hw6,hb1,hb2,hai,his,hiu,zc,zd,hi,hle2];apply z;apply zQ;(iterate 2 (refine chS 1 ?_ (by intro _ q;simp only[↓bO,go_sem,seval,zaf,hcc,hw1,hw2,hw3,hw4,hw5,hw6,hb1,hb2,hai,his,hiu,zc,zd,hi,hle2];exact q)));simp only[↓bO,go_sem,seval,zaf,hcc,hw1,hw2,hw3,hw4,hw5,hw6,hb1,hb2,hai,his,hiu,zc,zd,hi,hle2];apply u;apply zQ;(iterate 2 (refine chS 1 ?_ (by intro _ q;simp only[↓bO,go_sem,seval,zaf,hcc,hw1,hw2,hw3,hw4,hw5,hw6,hb1,hb2,hai,his,hiu,zc,zd,hi,hle2];exact q)));simp only[↓bO,go_sem,seval,zaf,hcc,hw1,hw2,hw3,hw4,hw5,hw6,hb1,hb2,hai,his,hiu,zc,zd,hi,hle2];refine ⟨⟨w.f-1,w.i+g.size,(opI (bt s w.i) w.op),w.i+g.size,w.out++[s.extract w.a w.i]⟩,hw.cut hg hi hct,tz5,?_⟩;(try simp only[go_sem,seval,zaf,hcc,hw1,hw2,hw3,hw4,hw5,hw6,hb1,hb2,hai,his,hiu,zc,bL,zd,hi,hle2]);exact zaP
      (have hct:(zfa s g all w.i (opI (bt s w.i) w.op) w.out)=false:=by (first | exact hct | exact cut_no4 hal (by have h9:=hb58;simp at h9;simpa using h9)));apply zS;apply u;apply zQ;(iterate 2 (refine chS 1 ?_ (by intro _ q;simp only[↓bO,go_sem,seval,zaf,hcc,hw1,hw2,hw3,hw4,hw5,hw6,hb1,hb2,hai,his,hiu,zc,zd,hi,hle2];exact q)));simp only[↓bO,go_sem,seval,zaf,hcc,hw1,hw2,hw3,hw4,hw5,hw6,hb1,hb2,hai,his,hiu,zc,zd,hi,hle2];refine ⟨⟨w.f-1,w.i+1,(opI (bt s w.i) w.op),w.a,w.out⟩,hw.go hi hct,tz5,?_⟩;(try simp only[go_sem,seval,zaf,hcc,hw1,hw2,hw3,hw4,hw5,hw6,hb1,hb2,hai,his,hiu,zc,bL,zd,hi,hle2]);exact zaP
     simp only[go_sem];have hct:(zfa s g all w.i (opI (bt s w.i) w.op) w.out)=false:=zjZ hc51;(iterate 6 (refine chS 1 ?_ (by intro _ q;simp only[↓bO,go_sem,seval,zaf,hcc,hw1,hw2,hw3,hw4,hw5,hw6,hb1,hb2,hai,his,hiu,zc,zd,hi,hle2];exact q)));simp only[↓bO,go_sem,seval,zaf,hcc,hw1,hw2,hw3,hw4,hw5,hw6,hb1,hb2,hai,his,hiu,zc,zd,hi,hle2];apply z;refine zP (b:=false) (by first | exact rfl | exact congrArg (fun b=>AV.v (.bool b)) hb58) (fun h=>(by cases h)) (fun _=>?_);apply zS;apply u;apply zQ;(iterate 2 (refine chS 1 ?_ (by intro _ q;simp only[↓bO,go_sem,seval,zaf,hcc,hw1,hw2,hw3,hw4,hw5,hw6,hb1,hb2,hai,his,hiu,zc,zd,hi,hle2];exact q)));simp only[↓bO,go_sem,seval,zaf,hcc,hw1,hw2,hw3,hw4,hw5,hw6,hb1,hb2,hai,his,hiu,zc,zd,hi,hle2];refine ⟨⟨w.f-1,w.i+1,(opI (bt s w.i) w.op),w.a,w.out⟩,hw.go hi hct,tz5,?_⟩;(try simp only[go_sem,seval,zaf,hcc,hw1,hw2,hw3,hw4,hw5,hw6,hb1,hb2,hai,his,hiu,zc,bL,zd,hi,hle2]);exact zaP
    simp only[go_sem];have hct:(zfa s g all w.i (opI (bt s w.i) w.op) w.out)=false:=zjX (by (have h9:=hc40;simp at h9;omega));(iterate 17 (refine chS 1 ?_ (by intro _ q;simp only[↓bO,go_sem,seval,zaf,hcc,hw1,hw2,hw3,hw4,hw5,hw6,hb1,hb2,hai,his,hiu,zc,zd,hi];exact q)));simp only[↓bO,go_sem,seval,zaf,hcc,hw1,hw2,hw3,hw4,hw5,hw6,hb1,hb2,hai,his,hiu,zc,zd,hi];apply z;refine zP (b:=false) (by first | exact rfl | exact congrArg (fun b=>AV.v (.bool b)) hb58) (fun h=>(by cases h)) (fun _=>?_);apply zS;apply u;apply zQ;(iterate 2 (refine chS 1 ?_ (by intro _ q;simp only[↓bO,go_sem,seval,zaf,hcc,hw1,hw2,hw3,hw4,hw5,hw6,hb1,hb2,hai,his,hiu,zc,zd,hi];exact q)));simp only[↓bO,go_sem,seval,zaf,hcc,hw1,hw2,hw3,hw4,hw5,hw6,hb1,hb2,hai,his,hiu,zc,zd,hi];refine ⟨⟨w.f-1,w.i+1,(opI (bt s w.i) w.op),w.a,w.out⟩,hw.go hi hct,tz5,?_⟩;(try simp only[go_sem,seval,zaf,hcc,hw1,hw2,hw3,hw4,hw5,hw6,hb1,hb2,hai,his,hiu,zc,bL,zd,hi]);exact zaP
   simp only[go_sem];have hct:(zfa s g all w.i (opI (bt s w.i) w.op) w.out)=false:=cut_no1 (by (have h9:=hc31;simp at h9;exact h9));(iterate 26 (refine chS 1 ?_ (by intro _ q;simp only[↓bO,go_sem,seval,zaf,hcc,hw1,hw2,hw3,hw4,hw5,hw6,hb1,hb2,hai,his,hiu,zc,zd,hi];exact q)));simp only[↓bO,go_sem,seval,zaf,hcc,hw1,hw2,hw3,hw4,hw5,hw6,hb1,hb2,hai,his,hiu,zc,zd,hi];apply z;refine zP (b:=false) (by first | exact rfl | exact congrArg (fun b=>AV.v (.bool b)) hb58) (fun h=>(by cases h)) (fun _=>?_);apply zS;apply u;apply zQ;(iterate 2 (refine chS 1 ?_ (by intro _ q;simp only[↓bO,go_sem,seval,zaf,hcc,hw1,hw2,hw3,hw4,hw5,hw6,hb1,hb2,hai,his,hiu,zc,zd,hi];exact q)));simp only[↓bO,go_sem,seval,zaf,hcc,hw1,hw2,hw3,hw4,hw5,hw6,hb1,hb2,hai,his,hiu,zc,zd,hi];refine ⟨⟨w.f-1,w.i+1,(opI (bt s w.i) w.op),w.a,w.out⟩,hw.go hi hct,tz5,?_⟩;(try simp only[go_sem,seval,zaf,hcc,hw1,hw2,hw3,hw4,hw5,hw6,hb1,hb2,hai,his,hiu,zc,bL,zd,hi]);exact zaP
  (have hi:¬w.i<s.size:=by simpa using hb14);apply zah;simp only[zag,z6,zY,bA,Nat.reduceEqDiff,↓reduceIte];apply y;have has:((w.a:Int)<=(s.size:Int))=True:=eq_true (by have:=hw.2.2;omega);(have hb3:(w.out.length+1) * 16<=140737488355328:=by (have:=hw.2.2;omega));(have hb4:w.out.length+1<=maxLen:=by (have:=hw.2.2;simp only[maxLen];omega));refine sqR fun _ y=>?_;(iterate 4 (refine chS 1 ?_ (by intro _ q;simp only[↓bO,go_sem,seval,has,hb3,hb4];exact q)));refine chS 1 ?_ (by intro _ q;simp only[↓bO,go_sem,seval,↓zaV,↓za1,↓zaR,↓zaZ,↓zaS,↓zaY,↓za0,↓zaX,↓zaU,↓zax,↓zav,↓zaw,has,hb3,hb4];exact q);refine chS 1 ?_ (by intro _ q;simp only[↓bO,go_sem,seval,has,hb3,hb4];exact q);simp only[↓bO,go_sem,seval,has,hb3,hb4];apply y;apply zR;(try simp only[go_sem]);rw[hw.stop hi];simp only[zc,zk,zq];exact Le.oslL
end Go.Proofs.YtkokfdmggdhfmaaGreatDoor
namespace Go.Proofs.YtkokfdmggdhfmaaGreatDoor
open Go Go.RowKit
def zdf (W:ByteArray->Ty×Bool):List ByteArray->List Ty->Ty×Bool
 | [],acc=>(.mk 5 0 acc,true)
 | x::l,acc=>if (W x).2=true then zdf W l (acc++[(W x).1]) else (.mk 0 0 [],false)
def trBr (W:ByteArray->Ty×Bool) (s:ByteArray):Ty×Bool :=
 if s.size<2\/¬bt s 0=40\/¬bt s (s.size-1)=41 then (.mk 0 0 [],false)
 else match spA (s.extract 1 (s.size-1)) bSt true with
  | [a]=>W a
  | l=>zdf W l []
def zb2 (W:ByteArray->Ty×Bool) (s:ByteArray):Ty×Bool :=
 if s=zgi then (.mk 2 0 [],true) else if s=zca then (.mk 3 0 [],true)
 else if 0<=nuR s then (.mk 1 (nuR s) [],true)
 else match spA s bAr false with
  | [a,b]=>(.mk 4 0 [(W a).1,(W b).1],(W a).2&&(W b).2)
  | _=>trBr W s
def trF:Nat->ByteArray->Ty×Bool
 | 0,_=>(.mk 0 0 [],false)
 | f+1,s=>zb2 (trF f) s
def pcs (g:ByteArray):List ByteArray->Nat
 | []=>0
 | x::l=>x.size+g.size+pcs g l
theorem zks (g:ByteArray) (l m:List ByteArray):pcs g (l++m)=pcs g l+pcs g m:=by
 induction l with
 | nil=>simp[pcs]
 | cons x l ih=>simp only[zt,pcs,ih];omega
theorem pcs_mem {g x:ByteArray} {l:List ByteArray} (h:x∈l):x.size+g.size<=pcs g l:=by
 induction l with
 | nil=>cases h
 | cons y l ih =>
  simp only[pcs];(rcases zK.1 h with rfl | h);(·omega);have:=ih h;omega
theorem zjH (s g:ByteArray) (all:Bool):∀(f i:Nat) (op:Int) (a:Nat) (out:List ByteArray),a<=i->i<=s.size->pcs g out=a->pcs g (spF s g all f i op a out)=s.size+g.size
 | 0,i,op,a,out,h1,h2,h3=>by
  rw[spF,zks,h3]
  simp only[pcs];rw[zct s tz1 (zy _)];omega
 | f+1,i,op,a,out,h1,h2,h3=>by
  rw[spF];split
  ·rename_i hi
   split
   ·rename_i hc
    have h8:i+g.size<=s.size:=by
     unfold zfa at hc;simp only[zl,zg] at hc;exact hc.1.2
    refine zjH s g all f _ _ _ _ (zy _) h8 ?_;rw[zks,h3];simp only[pcs];rw[zct s h1 h2];omega
   exact zjH s g all f _ _ _ _ tz1 tz1 h3
  rw[zks,h3];simp only[pcs];rw[zct s tz1 (zy _)];omega
theorem zf8 (s g:ByteArray) (all:Bool):pcs g (spA s g all)=s.size+g.size:=zjH s g all _ _ _ _ _ (zy _) tz1 rfl
theorem spA_len (s g:ByteArray) (all:Bool):1<=(spA s g all).length:=by
 have h:=zf8 s g all
 cases hs:spA s g all with
 | nil =>
  exfalso;unfold spA at hs
  have key:∀(f i:Nat) (op:Int) (a:Nat) (out:List ByteArray),spF s g all f i op a out≠[]:=by
   intro f
   induction f with
   | zero=>intro i op a out;rw[spF];simp
   | succ f ih =>
    intro i op a out;rw[spF];split
    ·split
     (·exact ih _ _ _ _);exact ih _ _ _ _
    simp
  exact key _ _ _ _ _ hs
 | cons x l=>simp
def TrB (s:ByteArray) (r:Ty×Bool):Prop:=r.1.cnt<=2 * s.size+1
theorem trBr_bnd {W:ByteArray->Ty×Bool} (hW:∀x,TrB x (W x)) (s:ByteArray):TrB s (trBr W s):=by
 unfold trBr;split;(·unfold TrB;rw[zbq];simp only[Ty.cntL];omega);(rename_i h);have hsz:=zct s (a:=1) (b:=s.size-1) tz1 tz1;have hp:=zf8 (s.extract 1 (s.size-1)) bSt true;rw[za9,hsz] at hp;split
 ·rename_i a ha
  rw[ha] at hp;simp only[pcs,za9] at hp;have h2:=hW a;unfold TrB at h2 ⊢;omega
 rename_i l hl
 have key:∀(l:List ByteArray) (acc:List Ty),(zdf W l acc).1.cnt+5 * l.length<=1+Ty.cntL acc+2 * pcs bSt l:=by
  intro l
  induction l with
  | nil=>intro acc;rw[zdf,zbq];simp[pcs]
  | cons x l ih =>
   intro acc;rw[zdf];have h2:=hW x;unfold TrB at h2;split
   ·have h1:=ih (acc++[(W x).1])
    rw[zjm] at h1;simp only[pcs,za9,zx];omega
   have h4:∀m:List ByteArray,3 * m.length<=pcs bSt m:=by
    intro m
    induction m with
    | nil=>simp[pcs]
    | cons y m ihm=>simp only[pcs,za9,zx];omega
   have h5:=h4 l;have h6:=ih acc;rw[zbq];simp only[Ty.cntL,pcs,za9,zx];omega
 have h1:=key (spA (s.extract 1 (s.size-1)) bSt true) [];have h3:=spA_len (s.extract 1 (s.size-1)) bSt true;simp only[Ty.cntL] at h1;unfold TrB;omega
theorem zfG:∀(f:Nat) (s:ByteArray),TrB s (trF f s)
 | 0,s=>by unfold TrB trF;rw[zbq];simp only[Ty.cntL];omega
 | f+1,s=>by
  rw[trF];unfold zb2;split;(·unfold TrB;rw[zbq];simp only[Ty.cntL];omega);split;(·unfold TrB;rw[zbq];simp only[Ty.cntL];omega);split;(·unfold TrB;rw[zbq];simp only[Ty.cntL];omega);split
  ·rename_i a b hab
   have hp:=zf8 s bAr false;rw[hab] at hp;simp only[pcs,zck] at hp;have h1:=zfG f a;have h2:=zfG f b;unfold TrB at h1 h2 ⊢;rw[zbq];simp only[Ty.cntL];omega
  exact trBr_bnd (zfG f) s
def dpL:Int->List UInt8->Int
 | op,[]=>op
 | op,c::l=>dpL (opI c.toNat op) l
def noS:Int->List UInt8->Prop
 | _,[]=>True
 | op,c::l=>¬(opI c.toNat op=0/\c=32)/\noS (opI c.toNat op) l
theorem zfR:∀(l m:List UInt8) (op:Int),dpL op (l++m)=dpL (dpL op l) m
 | [],m,op=>rfl
 | c::l,m,op=>by rw[zt,dpL,dpL,zfR l m]
theorem zhm:∀(l m:List UInt8) (op:Int),noS op (l++m)↔noS op l/\noS (dpL op l) m
 | [],m,op=>by simp[noS,dpL]
 | c::l,m,op=>by rw[zt,noS,noS,dpL,zhm l m,and_assoc]
theorem op_in {c:UInt8} (h:zcL c.toNat=true) (op:Int):opI c.toNat op=op/\c≠32:=by
 unfold zcL at h;rw[zg] at h;constructor;(·unfold opI;rw[if_neg tz1,if_neg tz1]);rintro rfl;have e:((32:UInt8).toNat:Int)=32:=rfl;omega
theorem zl0:∀(l:List UInt8),(∀c∈l,zcL c.toNat=true)->∀op,dpL op l=op/\noS op l
 | [],_,op=>⟨rfl,trivial⟩
 | c::l,h,op=>by
  have h1:=op_in (h c tz4) op;have h2:=zl0 l (fun x hx=>h x (by simp[hx])) op;rw[dpL,noS,h1.1];exact ⟨h2.1,fun h9=>h1.2 h9.2,h2.2⟩
structure Bal (x:ByteArray):Prop where
 dp:∀op,dpL op (bl x)=op
 up:∀op,1<=op->noS op (bl x)
theorem Bal.app {x y:ByteArray} (hx:Bal x) (hy:Bal y):Bal (x++y) :=
 ⟨fun op=>by rw[zaj,zfR,hx.dp,hy.dp],fun op h=>by rw[zaj,zhm,hx.dp];exact ⟨hx.up op h,hy.up op h⟩⟩
theorem Bal.br {x:ByteArray} (hx:Bal x):Bal (bLp++x++bRp)/\∀op,0<=op->noS op (bl (bLp++x++bRp)):=by
 have e1:bl bLp=[40]:=rfl;have e2:bl bRp=[41]:=rfl;(have o1:∀op,opI ((40:UInt8).toNat:Int) op=op+1:=fun op=>rfl);have o2:∀op,opI ((41:UInt8).toNat:Int) op=op-1:=fun op=>rfl
 have h2:∀op,0<=op->noS op (bl (bLp++x++bRp)):=fun op h=>by
  rw[zaj,zaj,zhm,zhm,e1,e2];simp only[noS,dpL,o1,zfR,hx.dp];exact ⟨⟨⟨fun h9=>absurd h9.2 tz3,trivial⟩,hx.up _ tz1⟩,fun h9=>absurd h9.2 tz3,trivial⟩
 refine ⟨⟨fun op=>?_,fun op h=>h2 op tz1⟩,h2⟩;rw[zaj,zaj,zfR,zfR,e1,e2];simp only[dpL,o1,hx.dp,o2];omega
theorem Bal.sign {x:ByteArray} (h:∀c∈bl x,c≠40/\c≠41):Bal x:=by
 have key:∀l:List UInt8,(∀c∈l,c≠40/\c≠41)->∀op,dpL op l=op/\(1<=op->noS op l):=by
  intro l
  induction l with
  | nil=>intro _ op;exact ⟨rfl,fun _=>trivial⟩
  | cons c l ih =>
   intro hl op;have hc:=hl c tz4
   have e:opI (c.toNat:Int) op=op:=by
    unfold opI;rw[if_neg fun h9=>hc.1 (UInt8.toNat_inj.1 (by show c.toNat=40;omega)),if_neg fun h9=>hc.2 (UInt8.toNat_inj.1 (by show c.toNat=41;omega))]
   have h2:=ih (fun x hx=>hl x (by simp[hx])) op;rw[dpL,noS,e];exact ⟨h2.1,fun h1=>⟨fun h9=>by omega,h2.2 h1⟩⟩
 exact ⟨fun op=>(key _ h op).1,fun op=>(key _ h op).2⟩
theorem Bal.ins {x:ByteArray} (h:∀c∈bl x,zcL c.toNat=true):Bal x:=⟨fun op=>(zl0 _ h op).1,fun op _=>(zl0 _ h op).2⟩
theorem zlp:∀c∈bl zgi,zcL c.toNat=true:=by decide
theorem zhD:∀c∈bl zca,zcL c.toNat=true:=by decide
theorem bal_jt:∀ps:List Ty,(∀p∈ps,Bal p.btx)->Bal (jt ps)
 | [],_=>⟨fun op=>rfl,fun op _=>trivial⟩
 | p::ps,h=>(Bal.sign (x:=bSt) tz3).app ((h p tz4).app (bal_jt ps fun q hq=>h q (by simp[hq])))
theorem zeI:∀T:Ty,T.right=true->Bal T.tx/\Bal T.btx/\noS 0 (bl T.btx):=by
 refine Ty.ind fun T ih=>?_;intro hr;have hok:=zbW hr;have hp:=right_part hr;have fin:¬T.k=4->Bal T.tx->noS 0 (bl T.tx)->Bal T.tx/\Bal T.btx/\noS 0 (bl T.btx):=fun h h1 h2=>by rw[zd1 h];exact ⟨h1,h1,h2⟩
 by_cases h1:T.k=1
 ·have hv:=right_var hr h1
  (have e1:((T.n.toNat:Nat):Int)=T.n:=by omega);(have e0:T.tx=nmB ((T.n.toNat:Nat):Int):=by rw[T.tx_eq,if_pos h1,e1]);have hb:=zff (n:=T.n.toNat) tz1;exact fin tz1 (by rw[e0];exact .ins hb) (by rw[e0];exact (zl0 _ hb 0).2)
 by_cases h2:T.k=2
 ·have e0:T.tx=zgi:=by rw[T.tx_eq,if_neg h1,if_pos h2];rfl
  exact fin tz1 (by rw[e0];exact .ins zlp) (by rw[e0];exact (zl0 _ zlp 0).2)
 by_cases h3:T.k=3
 ·have e0:T.tx=zca:=by rw[T.tx_eq,if_neg h1,if_neg h2,if_pos h3];rfl
  exact fin tz1 (by rw[e0];exact .ins zhD) (by rw[e0];exact (zl0 _ zhD 0).2)
 by_cases h4:T.k=4
 ·obtain ⟨a,b,hps⟩:=zbh hr h4
  have ha:=ih a (by rw[hps];simp) (hp a (by rw[hps];simp));have hb:=ih b (by rw[hps];simp) (hp b (by rw[hps];simp));(have e2:T=.mk 4 0 [a,b]:=by rw[zch T,h4,show T.n=0 by omega,hps]);(have e0:T.tx=a.btx++bAr++b.tx:=by rw[e2];rfl);(have e4:T.btx=bLp++T.tx++bRp:=by unfold Ty.btx brB;rw[if_pos (by simpa using h4)]);(have hT:Bal T.tx:=by rw[e0];exact (ha.2.1.app (.sign tz3)).app hb.1);exact ⟨hT,by rw[e4];exact hT.br.1,by rw[e4];exact hT.br.2 0 tz1⟩
 (have e0:T.tx=bLp++zbv (T.ps.map Ty.btx) bSt++bRp:=by rw[T.tx_eq,if_neg h1,if_neg h2,if_neg h3,if_neg h4]);have hb:∀p∈T.ps,Bal p.btx:=fun p hq=>(ih p hq (hp p hq)).2.1
 have hj:Bal (zbv (T.ps.map Ty.btx) bSt):=by
  cases hps:T.ps with
  | nil=>rw[hps] at hok;simp at hok;omega
  | cons q qs =>
   rw[hps] at hb;rw[zfW];exact (hb q tz4).app (bal_jt qs fun x hx=>hb x (by simp[hx]))
 have:=hj.br;rw[<- e0] at this;exact fin h4 this.1 (this.2 0 tz1)
section
variable {s g:ByteArray} {all:Bool}
def Sst (s g:ByteArray) (all:Bool) (i:Nat) (op:Int) (a:Nat) (out:List ByteArray) (i':Nat) (op':Int) (a':Nat) (out':List ByteArray):Prop :=
 ∀f,s.size-i<f->∃f',s.size-i'<f'/\spF s g all f i op a out=spF s g all f' i' op' a' out'
theorem Sst.refl (i:Nat) (op:Int) (a:Nat) (out:List ByteArray):Sst s g all i op a out i op a out:=fun f h=>⟨f,h,rfl⟩
theorem Sst.trans {i j k:Nat} {op op1 op2:Int} {a a1 a2:Nat} {o o1 o2:List ByteArray} (h:Sst s g all i op a o j op1 a1 o1) (h2:Sst s g all j op1 a1 o1 k op2 a2 o2):Sst s g all i op a o k op2 a2 o2:=fun f hf=>by
 obtain ⟨f1,g1,e1⟩:=h f hf;obtain ⟨f2,g2,e2⟩:=h2 f1 g1;exact ⟨f2,g2,e1.trans e2⟩
theorem Sst.one {P S:List UInt8} {c:UInt8} {op:Int} {a:Nat} {out:List ByteArray} (h:bl s=P++c::S) (hc:zfa s g all P.length (opI c.toNat op) out=false):Sst s g all P.length op a out (P.length+1) (opI c.toNat op) a out:=fun f hf=>by
 obtain ⟨h1,h2⟩:=zjU h;obtain ⟨k,rfl⟩:∃k,f=k+1:=⟨f-1,by omega⟩;refine ⟨k,by omega,?_⟩;rw[spF,if_pos h1,h2,if_neg (by simp[hc])]
theorem bt_ex {s:ByteArray} {i n:Nat} (hn:1<=n) (h:i+n<=s.size):bt (s.extract i (i+n)) 0=bt s i:=by
 have h1:(bl s)[i]?=some ((bl s)[i]'(by rw[zan];omega)):=zb _;have h2:=zcA h1
 have h3:(bl (s.extract i (i+n)))[0]?=some ((bl s)[i]'(by rw[zan];omega)):=by
  have e:bl (s.extract i (i+n))=((bl s).drop i).take n:=by
   simp only[bl,ByteArray.data_extract,Array.toList_extract,List.extract_eq_take_drop];rw[show i+n-i=n by omega]
  rw[e,List.getElem?_take,if_pos tz1,List.getElem?_drop];simpa using h1
 rw[zcA h3,h2]
theorem cut_hd {i:Nat} {op:Int} {out:List ByteArray} (hg:1<=g.size) (h:¬bt s i=bt g 0):zfa s g all i op out=false:=by
 by_cases hl:i+g.size<=s.size
 ·refine zjZ ?_
  rw[Bool.eq_false_iff];intro h9;have h8:=zbe.1 h9;have h7:=bt_ex hg hl;rw[h8] at h7;exact h h7.symm
 exact zjX hl
theorem Sst.go (hg:1<=g.size) (h32:bt g 0=32):∀(X P S:List UInt8) (op:Int) (a:Nat) (out:List ByteArray),bl s=P++(X++S)->noS op X->Sst s g all P.length op a out (P.length+X.length) (dpL op X) a out
 | [],P,S,op,a,out,h,hn=>Sst.refl _ _ _ _
 | c::X,P,S,op,a,out,h,hn=>by
  (have h1:bl s=P++c::(X++S):=by rw[h];rfl);obtain ⟨_,h2⟩:=zjU h1;rw[noS] at hn
  have h3:zfa s g all P.length (opI c.toNat op) out=false:=by
   by_cases h0:opI c.toNat op=0
   ·refine cut_hd hg ?_
    rw[h2,h32];intro h9;exact hn.1 ⟨h0,UInt8.toNat_inj.1 (by show c.toNat=32;omega)⟩
   exact cut_no1 h0
  have h4:=Sst.go hg h32 X (P++[c]) S (opI c.toNat op) a out (by rw[h];simp) hn.2;simp only[zd,zx,zu,zz] at h4;rw[dpL,zx,show P.length+(X.length+1)=P.length+1+X.length by omega];exact (Sst.one h1 h3).trans h4
theorem Sst.cut {P S:List UInt8} {a:Nat} {out:List ByteArray} (hg:1<=g.size) (h32:bt g 0=32) (h:bl s=P++(bl g++S)) (ho:all=true\/out.length=0) :
  Sst s g all P.length 0 a out (P.length+g.size) 0 (P.length+g.size) (out++[s.extract a P.length]):=fun f hf=>by
 have hsz:s.size=P.length+(g.size+S.length):=by rw[<- zan,h];simp[zan]
 have h1:bt s P.length=32:=by
  (have h2:(bl s)[P.length]?=(bl g)[0]?:=by rw[h,zp (zy _),Nat.sub_self,zr (by rw[zan];omega)]);have h3:(bl g)[0]?=some ((bl g)[0]'(by rw[zan];omega)):=zb _;rw[zcA (h2.trans h3),<- zcA h3,h32]
 have h4:=zix h;rw[zan] at h4;(have h5:s.extract P.length (P.length+g.size)=g:=by rw[h4]);obtain ⟨k,rfl⟩:∃k,f=k+1:=⟨f-1,by omega⟩;refine ⟨k,by omega,?_⟩;rw[spF,if_pos tz1,h1,show opI 32 0=0 from rfl,if_pos (zkq rfl tz1 (zbe.2 h5) ho)]
theorem sp_end {a:Nat} {op:Int} {out:List ByteArray} {f:Nat} (hf:0<f):spF s g all f s.size op a out=out++[s.extract a s.size]:=by
 obtain ⟨k,rfl⟩:∃k,f=k+1:=⟨f-1,by omega⟩;rw[spF,if_neg tz1]
theorem zkL {out:List ByteArray} (ho:¬out.length=0):∀(f i a:Nat) (op:Int),i<=s.size->s.size-i<f->spF s g false f i op a out=out++[s.extract a s.size]
 | 0,i,a,op,_,h=>by omega
 | f+1,i,a,op,hi,h=>by
  rw[spF];split
  ·rw[if_neg (by simp[cut_no4 rfl ho])]
   exact zkL ho f (i+1) a _ tz1 tz1
  rfl
end
theorem bAr32:bt bAr 0=32:=by decide
theorem zj8:bt bSt 0=32:=by decide
theorem ex_all (s:ByteArray):s.extract 0 s.size=s:=by
 have h:=zix (s:=s) (P:=[]) (X:=bl s) (S:=[]) tz4;simp only[zu,zz,zan] at h;rw[h]
theorem sp_none {s g:ByteArray} {all:Bool} (hg:1<=g.size) (h32:bt g 0=32) (hn:noS 0 (bl s)):spA s g all=[s]:=by
 obtain ⟨f,h1,h2⟩:=Sst.go (s:=s) (g:=g) (all:=all) hg h32 (bl s) [] [] 0 0 [] tz4 hn (s.size+1) tz4;unfold spA;simp only[zu,zz,zan] at h2;rw[h2,sp_end tz1,ex_all];rfl
theorem sp_arrow {a b:Ty} (ha:a.right=true):spA (a.btx++bAr++b.tx) bAr false=[a.btx,b.tx]:=by
 have hb:=zeI a ha;have e:a.btx++bAr++b.tx=a.btx++(bAr++b.tx):=zbs _ _ _;rw[e];have h1:=Sst.go (s:=a.btx++(bAr++b.tx)) (g:=bAr) (all:=false) tz3 bAr32 (bl a.btx) [] (bl (bAr++b.tx)) 0 0 [] (by rw[zaj];rfl) hb.2.2;rw[hb.2.1.dp] at h1;simp only[zu,zz] at h1;have h2:=Sst.cut (s:=a.btx++(bAr++b.tx)) (g:=bAr) (all:=false) (P:=bl a.btx) (S:=bl b.tx) (a:=0) (out:=[]) tz3 bAr32 (by rw[zaj,zaj]) (.inr rfl);obtain ⟨f,h3,h4⟩:=(h1.trans h2) ((a.btx++(bAr++b.tx)).size+1) tz1;unfold spA;(have hsz:(a.btx++(bAr++b.tx)).size=a.btx.size+bAr.size+b.tx.size:=by simp only[ByteArray.size_append];omega);rw[zan] at h3 h4;have e1:(a.btx++(bAr++b.tx)).extract 0 a.btx.size=a.btx:=ex_left _ _
 have e2:(a.btx++(bAr++b.tx)).extract (a.btx.size+bAr.size) (a.btx++(bAr++b.tx)).size=b.tx:=by
  rw[<- zbs,<- ByteArray.size_append];exact zfg _ _
 rw[h4,e1,zkL tz4 f _ _ _ tz1 h3,e2];rfl
theorem zkQ {s:ByteArray}:∀(ps:List Ty) (q:Ty) (P:List UInt8) (out:List ByteArray),(∀p∈q::ps,p.right=true)->bl s=P++bl (q.btx++jt ps) ->
  Sst s bSt true P.length 0 P.length out s.size 0 (s.size-((q::ps).getLast tz4).btx.size) (out++((q::ps).map Ty.btx).dropLast)
 | [],q,P,out,hr,h=>by
  have hb:=zeI q (hr q tz4);(have hsz:s.size=P.length+q.btx.size:=by rw[<- zan,h,zaj];simp[jt,ze0,zan]);have h1:=Sst.go (s:=s) (g:=bSt) (all:=true) tz3 zj8 (bl q.btx) P [] 0 P.length out (by rw[h,zaj,jt,ze0]) hb.2.2;rw[hb.2.1.dp,zan] at h1;simp only[List.getLast_singleton,zk,zq,List.dropLast_singleton,List.append_nil];rw[show s.size-q.btx.size=P.length by omega]
  rw[hsz];exact h1
 | p::ps,q,P,out,hr,h=>by
  have hb:=zeI q (hr q tz4);(have e:bl (q.btx++jt (p::ps))=bl q.btx++(bl bSt++bl (p.btx++jt ps)):=by rw[jt,zaj,zaj]);rw[e] at h;have h1:=Sst.go (s:=s) (g:=bSt) (all:=true) tz3 zj8 (bl q.btx) P (bl bSt++bl (p.btx++jt ps)) 0 P.length out h hb.2.2;rw[hb.2.1.dp] at h1;have h2:=Sst.cut (s:=s) (g:=bSt) (all:=true) (P:=P++bl q.btx) (S:=bl (p.btx++jt ps)) (a:=P.length) (out:=out) tz3 zj8 (by rw[h];simp) (.inl rfl);have h3:=zkQ ps p (P++bl q.btx++bl bSt) (out++[q.btx]) (fun x hx=>hr x (List.mem_cons_of_mem _ hx)) (by rw[h];simp);(have e1:s.extract P.length (P.length+(bl q.btx).length)=q.btx:=by rw[zix h]);simp only[zd,zan] at h1 h2 h3 e1;rw[e1] at h2;have h4:=(h1.trans h2).trans h3;have e2:(q::p::ps).getLast tz4=(p::ps).getLast tz4:=by rw[List.getLast_cons tz4]
  have e3:out++((q::p::ps).map Ty.btx).dropLast=out++[q.btx]++((p::ps).map Ty.btx).dropLast:=by
   rw[zk,zk,List.dropLast_cons_of_ne_nil tz4];simp
  rw[e2,e3];exact h4
theorem sp_tuple {q:Ty} {ps:List Ty} (hr:∀p∈q::ps,p.right=true):spA (zbv ((q::ps).map Ty.btx) bSt) bSt true=(q::ps).map Ty.btx:=by
 rw[zfW];obtain ⟨f,h1,h2⟩:=zkQ (s:=q.btx++jt ps) ps q [] [] hr tz4 ((q.btx++jt ps).size+1) tz4;unfold spA;rw[show ([]:List UInt8).length=0 from rfl] at h2;rw[h2,sp_end tz1]
 have hl:∀(ps:List Ty) (q:Ty),∃y:ByteArray,q.btx++jt ps=y++((q::ps).getLast tz4).btx:=by
  intro ps
  induction ps with
  | nil=>intro q;exact ⟨ByteArray.empty,by apply zb5;rw[zaj,zaj,jt,ze0];simp⟩
  | cons p ps ih =>
   intro q;obtain ⟨y,hy⟩:=ih p;refine ⟨q.btx++(bSt++y),?_⟩;rw[jt,hy,List.getLast_cons (a:=q) (List.cons_ne_nil p ps)];simp only[zbs]
 obtain ⟨y,hy⟩:=hl ps q
 have e:(q.btx++jt ps).extract ((q.btx++jt ps).size-((q::ps).getLast tz4).btx.size) (q.btx++jt ps).size=((q::ps).getLast tz4).btx:=by
  rw[hy];have h3:=zfg y ((q::ps).getLast tz4).btx;(have h4:(y++((q::ps).getLast tz4).btx).size-((q::ps).getLast tz4).btx.size=y.size:=by rw[ByteArray.size_append];omega);rw[h4];exact h3
 rw[e,zD];(have h5:((q::ps).getLast tz4).btx=((q::ps).map Ty.btx).getLast tz4:=by rw[List.getLast_map]);rw[h5,List.dropLast_concat_getLast]
theorem tx_hd {T:Ty} (hr:T.right=true):∃c l,bl T.tx=c::l/\c≠42:=by
 have key:∀T:Ty,T.right=true->∃c l,bl T.tx=c::l/\c≠42:=by
  refine Ty.ind fun T ih=>?_;intro hr;have hok:=zbW hr;have hp:=right_part hr
  by_cases h1:T.k=1
  ·have hv:=right_var hr h1
   (have e1:((T.n.toNat:Nat):Int)=T.n:=by omega);(have e0:T.tx=nmB ((T.n.toNat:Nat):Int):=by rw[T.tx_eq,if_pos h1,e1]);have hh:=zhT T.n.toNat tz1;rw[<- e0] at hh
   cases hb:bl T.tx with
   | nil=>rw[hb] at hh;cases hh
   | cons c l =>
    rw[hb] at hh;(obtain rfl:c=39:=by simpa using hh);exact ⟨_,_,rfl,by decide⟩
  by_cases h2:T.k=2
  ·have e0:T.tx=zgi:=by rw[T.tx_eq,if_neg h1,if_pos h2];rfl
   rw[e0];exact ⟨105,[110,116],rfl,by decide⟩
  by_cases h3:T.k=3
  ·have e0:T.tx=zca:=by rw[T.tx_eq,if_neg h1,if_neg h2,if_pos h3];rfl
   rw[e0];exact ⟨98,[111,111,108],rfl,by decide⟩
  by_cases h4:T.k=4
  ·obtain ⟨a,b,hps⟩:=zbh hr h4
   (have e2:T=.mk 4 0 [a,b]:=by rw[zch T,h4,show T.n=0 by omega,hps]);(have e0:T.tx=a.btx++bAr++b.tx:=by rw[e2];rfl);have ⟨c,l,g1,g2⟩:=ih a (by rw[hps];simp) (hp a (by rw[hps];simp));rw[e0,zaj,zaj];unfold Ty.btx brB;split;(·exact ⟨40,_,by rw[zaj,zaj];rfl,by decide⟩);rw[g1];exact ⟨c,_,rfl,g2⟩
  (have e0:T.tx=bLp++zbv (T.ps.map Ty.btx) bSt++bRp:=by rw[T.tx_eq,if_neg h1,if_neg h2,if_neg h3,if_neg h4]);rw[e0,zaj,zaj];exact ⟨40,_,rfl,by decide⟩
 exact key T hr
theorem st_no {s:ByteArray} {P S:List UInt8} {c:UInt8} (h:bl s=P++32::c::S) (hc:c≠42) {op:Int} {out:List ByteArray}:zfa s bSt true P.length op out=false:=by
 by_cases hl:P.length+bSt.size<=s.size
 ·refine zjZ ?_
  rw[Bool.eq_false_iff];intro h9;have h8:=zbe.1 h9;have h7:=congrArg (fun x=>(bl x)[1]?) h8
  have e:bl (s.extract P.length (P.length+bSt.size))=((bl s).drop P.length).take 3:=by
   simp only[bl,ByteArray.data_extract,Array.toList_extract,List.extract_eq_take_drop];rw[show P.length+bSt.size-P.length=3 by rw[za9];omega]
  simp only[e] at h7;rw[List.getElem?_take,if_pos tz1,List.getElem?_drop,h,zp tz1,show P.length+1-P.length=1 by omega] at h7;have h6:(bl bSt)[1]?=some 42:=rfl;rw[h6] at h7;(simp at h7);exact hc h7
 exact zjX hl
theorem st_arrow:∀T:Ty,T.right=true->∀(s:ByteArray) (P S:List UInt8),bl s=P++(bl T.tx++S)->Sst s bSt true P.length 0 0 [] (P.length+T.tx.size) 0 0 []:=by
 refine Ty.ind fun T ih=>?_;intro hr s P S h;have hbT:=zeI T hr
 by_cases h4:T.k=4
 ·obtain ⟨a,b,hps⟩:=zbh hr h4
  have hok:=zbW hr;have hp:=right_part hr;have hra:=hp a (by rw[hps];simp);have hrb:=hp b (by rw[hps];simp);(have e2:T=.mk 4 0 [a,b]:=by rw[zch T,h4,show T.n=0 by omega,hps]);(have e0:T.tx=a.btx++bAr++b.tx:=by rw[e2];rfl);have hba:=zeI a hra;obtain ⟨c,l,hc,hc2⟩:=tx_hd hrb;have e1:bl bAr=[32,45,62,32]:=rfl;rw[e0,zaj,zaj,e1] at h;have h1:=Sst.go (s:=s) (g:=bSt) (all:=true) tz3 zj8 (bl a.btx) P ([32,45,62,32]++(bl b.tx++S)) 0 0 [] (by rw[h];simp) hba.2.2;rw[hba.2.1.dp] at h1;have h2:=Sst.one (s:=s) (g:=bSt) (all:=true) (P:=P++bl a.btx) (c:=32) (S:=45::62::32::(bl b.tx++S)) (op:=0) (a:=0) (out:=[]) (by rw[h];simp) (st_no (c:=45) (S:=62::32::(bl b.tx++S)) (by rw[h];simp) tz3);have h3:=Sst.one (s:=s) (g:=bSt) (all:=true) (P:=P++bl a.btx++[32]) (c:=45) (S:=62::32::(bl b.tx++S)) (op:=0) (a:=0) (out:=[]) (by rw[h];simp) (cut_hd tz3 (by rw[(zjU (s:=s) (P:=P++bl a.btx++[32]) (c:=45) (S:=62::32::(bl b.tx++S)) (by rw[h];simp)).2,zj8];decide));have h5:=Sst.one (s:=s) (g:=bSt) (all:=true) (P:=P++bl a.btx++[32]++[45]) (c:=62) (S:=32::(bl b.tx++S)) (op:=0) (a:=0) (out:=[]) (by rw[h];simp) (cut_hd tz3 (by rw[(zjU (s:=s) (P:=P++bl a.btx++[32]++[45]) (c:=62) (S:=32::(bl b.tx++S)) (by rw[h];simp)).2,zj8];decide));have h6:=Sst.one (s:=s) (g:=bSt) (all:=true) (P:=P++bl a.btx++[32]++[45]++[62]) (c:=32) (S:=bl b.tx++S) (op:=0) (a:=0) (out:=[]) (by rw[h];simp) (st_no (S:=l++S) (c:=c) (by rw[h,hc];simp) hc2);have h7:=ih b (by rw[hps];simp) hrb s (P++bl a.btx++[32]++[45]++[62]++[32]) S (by rw[h];simp);have o1:opI ((32:UInt8).toNat:Int) 0=0:=rfl;have o2:opI ((45:UInt8).toNat:Int) 0=0:=rfl;have o3:opI ((62:UInt8).toNat:Int) 0=0:=rfl;rw[o1] at h2 h6;rw[o2] at h3;rw[o3] at h5;simp only[zd,zx,zu,zan,zz] at h1 h2 h3 h5 h6 h7;have h8:=((((h1.trans h2).trans h3).trans h5).trans h6).trans h7;(have e5:P.length+T.tx.size=P.length+a.btx.size+1+1+1+1+b.tx.size:=by rw[e0,ByteArray.size_append,ByteArray.size_append,zck];omega);rw[e5];exact h8
 have h1:=Sst.go (s:=s) (g:=bSt) (all:=true) tz3 zj8 (bl T.tx) P S 0 0 [] h (by have:=hbT.2.2;rwa [zd1 h4] at this);rw[hbT.1.dp,zan] at h1;exact h1
theorem sp_star {T:Ty} (hr:T.right=true):spA T.tx bSt true=[T.tx]:=by
 obtain ⟨f,h1,h2⟩:=st_arrow T hr T.tx [] [] tz4 (T.tx.size+1) tz4;unfold spA;simp only[zu,zz] at h2;rw[h2,sp_end tz1,ex_all];rfl
theorem nuR_neg {s:ByteArray} {c:UInt8} (h:c∈bl s) (hc:zcL c.toNat=false):nuR s<0:=by
 (rcases Int.lt_or_le (nuR s) 0 with h1 | h1);(·exact h1);have h2:=nm_nuR h1;have h3:=zff (n:=(nuR s).toNat) tz1 c (by rw[show (((nuR s).toNat:Nat):Int)=nuR s by omega,h2.2];exact h);rw[hc] at h3;cases h3
theorem not_in {s:ByteArray} {c:UInt8} (h:c∈bl s) (hc:zcL c.toNat=false):s≠zgi/\s≠zca/\nuR s<0 :=
 ⟨fun e=>(by rw[e] at h;rw[zlp c h] at hc;cases hc),fun e=>(by rw[e] at h;rw[zhD c h] at hc;cases hc),nuR_neg h hc⟩
theorem bt_br (x:ByteArray):2<=(bLp++x++bRp).size/\bt (bLp++x++bRp) 0=40/\bt (bLp++x++bRp) ((bLp++x++bRp).size-1)=41/\(bLp++x++bRp).extract 1 ((bLp++x++bRp).size-1)=x:=by
 (have hsz:(bLp++x++bRp).size=1+x.size+1:=by rw[ByteArray.size_append,ByteArray.size_append,zcM,zeg]);(have e:bl (bLp++x++bRp)=40::(bl x++[41]):=by rw[zaj,zaj];rfl);refine ⟨by omega,?_,?_,?_⟩
 ·have:=zcA (s:=bLp++x++bRp) (i:=0) (c:=40) (by rw[e];rfl)
  rw[this];rfl
 ·have:=zcA (s:=bLp++x++bRp) (i:=(bLp++x++bRp).size-1) (c:=41) (by
   rw[e,hsz,show 1+x.size+1-1=x.size+1 by omega,List.getElem?_cons_succ,zp (by rw[zan];omega),zan,Nat.sub_self];rfl)
  rw[this];rfl
 have h:=zix (s:=bLp++x++bRp) (P:=[40]) (X:=bl x) (S:=[41]) e;rw[hsz,show 1+x.size+1-1=1+x.size by omega];simp only[zx,zu,zan] at h;rw[show (0:Nat)+1=1 from rfl] at h;rw[h]
theorem trBr_br (W:ByteArray->Ty×Bool) (x:ByteArray):trBr W (bLp++x++bRp)=match spA x bSt true with
  | [a]=>W a
  | l=>zdf W l []:=by
 obtain ⟨h1,h2,h3,h4⟩:=bt_br x;unfold trBr;rw[if_neg tz1,h4]
theorem zli {W:ByteArray->Ty×Bool}:∀(ps acc:List Ty),(∀p∈ps,W p.btx=(p,true))->zdf W (ps.map Ty.btx) acc=(.mk 5 0 (acc++ps),true)
 | [],acc,_=>by rw[zq,zdf,List.append_nil]
 | p::ps,acc,h=>by
  rw[zk,zdf,h p tz4,if_pos rfl,zli ps _ fun q hq=>h q (by simp[hq])];simp
theorem tr_all:∀T:Ty,T.right=true->(∀f,T.tx.size<f->trF f T.tx=(T,true))/\∀f,T.btx.size<f->trF f T.btx=(T,true):=by
 refine Ty.ind fun T ih=>?_;intro hr;have hok:=zbW hr;have hp:=right_part hr;have hbT:=zeI T hr;have fin:¬T.k=4->(∀f,T.tx.size<f->trF f T.tx=(T,true))->(∀f,T.tx.size<f->trF f T.tx=(T,true))/\∀f,T.btx.size<f->trF f T.btx=(T,true):=fun h h1=>by rw[zd1 h];exact ⟨h1,h1⟩
 by_cases h1:T.k=1
 ·refine fin tz1 fun f hf=>?_
  obtain ⟨g,rfl⟩:∃g,f=g+1:=⟨f-1,by omega⟩;have hv:=right_var hr h1;(have e1:((T.n.toNat:Nat):Int)=T.n:=by omega);(have e0:T.tx=nmB ((T.n.toNat:Nat):Int):=by rw[T.tx_eq,if_pos h1,e1]);have hps:T.ps=[]:=zL tz1;have hh:=zhT T.n.toNat tz1;have hn:=zkZ (n:=T.n.toNat) tz1;rw[trF,e0];unfold zb2;rw[if_neg fun e=>by rw[e] at hh;exact absurd hh tz3,if_neg fun e=>by rw[e] at hh;exact absurd hh tz3,if_pos (by rw[hn];omega),hn,e1,<- h1,<- hps,<- zch]
 by_cases h2:T.k=2
 ·refine fin tz1 fun f hf=>?_
  obtain ⟨g,rfl⟩:∃g,f=g+1:=⟨f-1,by omega⟩;(have e0:T.tx=zgi:=by rw[T.tx_eq,if_neg h1,if_pos h2];rfl);(have e2:T=.mk 2 0 []:=by rw[zch T,h2,show T.n=0 by omega,zL (show T.ps.length=0 by omega)]);rw[trF,e0];unfold zb2;rw[if_pos rfl,<- e2]
 by_cases h3:T.k=3
 ·refine fin tz1 fun f hf=>?_
  obtain ⟨g,rfl⟩:∃g,f=g+1:=⟨f-1,by omega⟩;(have e0:T.tx=zca:=by rw[T.tx_eq,if_neg h1,if_neg h2,if_pos h3];rfl);(have e2:T=.mk 3 0 []:=by rw[zch T,h3,show T.n=0 by omega,zL (show T.ps.length=0 by omega)]);rw[trF,e0];unfold zb2;rw[if_neg tz3,if_pos rfl,<- e2]
 by_cases h4:T.k=4
 ·obtain ⟨a,b,hps⟩:=zbh hr h4
  have hra:=hp a (by rw[hps];simp);have hrb:=hp b (by rw[hps];simp);have ha:=ih a (by rw[hps];simp) hra;have hb:=ih b (by rw[hps];simp) hrb;(have e2:T=.mk 4 0 [a,b]:=by rw[zch T,h4,show T.n=0 by omega,hps]);have e0:T.tx=a.btx++bAr++b.tx:=by rw[e2];rfl
  have hT:∀f,T.tx.size<f->trF f T.tx=(T,true):=fun f hf=>by
   obtain ⟨g,rfl⟩:∃g,f=g+1:=⟨f-1,by omega⟩;have hno:=not_in (s:=T.tx) (c:=32) (by rw[e0,zaj,zaj];simp[show bl bAr=[32,45,62,32] from rfl]) (by rfl);rw[e0,ByteArray.size_append,ByteArray.size_append,zck] at hf;rw[trF];unfold zb2;rw[if_neg hno.1,if_neg hno.2.1,if_neg tz1,e0,sp_arrow hra];dsimp only;rw[ha.2 g tz1,hb.1 g tz1,<- e2];rfl
  refine ⟨hT,fun f hf=>?_⟩;obtain ⟨g,rfl⟩:∃g,f=g+1:=⟨f-1,by omega⟩;(have e4:T.btx=bLp++T.tx++bRp:=by unfold Ty.btx brB;rw[if_pos (by simpa using h4)]);have hno:=not_in (s:=T.btx) (c:=40) (by rw[e4,zaj,zaj];simp[show bl bLp=[40] from rfl]) (by rfl);rw[trF];unfold zb2;rw[if_neg hno.1,if_neg hno.2.1,if_neg tz1,sp_none tz3 bAr32 hbT.2.2];dsimp only;rw[e4,trBr_br,sp_star hr];dsimp only;rw[e4,ByteArray.size_append,ByteArray.size_append,zcM,zeg] at hf;exact hT g tz1
 refine fin h4 fun f hf=>?_;obtain ⟨g,rfl⟩:∃g,f=g+1:=⟨f-1,by omega⟩;have e0:T.tx=bLp++zbv (T.ps.map Ty.btx) bSt++bRp:=by rw[T.tx_eq,if_neg h1,if_neg h2,if_neg h3,if_neg h4]
 have e2:T=.mk 5 0 T.ps:=by
  have:=zch T;rw[show T.k=5 by omega,show T.n=0 by omega] at this;exact this
 have hno:=not_in (s:=T.tx) (c:=40) (by rw[e0,zaj,zaj];simp[show bl bLp=[40] from rfl]) (by rfl);have hn0:=hbT.2.2;rw[zd1 h4] at hn0
 obtain ⟨p,q,ps,hps⟩:∃p q ps,T.ps=p::q::ps:=by
  match hq:T.ps with
  | []=>rw[hq,zu] at hok;omega
  | [_]=>rw[hq,List.length_singleton] at hok;omega
  | p::q::ps=>exact ⟨p,q,ps,rfl⟩
 have hsp:spA (zbv (T.ps.map Ty.btx) bSt) bSt true=T.ps.map Ty.btx:=by
  rw[hps];rw[hps] at hp;exact sp_tuple hp
 rw[e0,ByteArray.size_append,ByteArray.size_append,zcM,zeg] at hf;(have hall:=zli (W:=trF g) T.ps [] fun x hx=>(ih x hx (hp x hx)).2 g (by have:=zeZ hx;omega));rw[zD,<- e2] at hall;rw[trF];unfold zb2;rw[if_neg hno.1,if_neg hno.2.1,if_neg tz1,sp_none tz3 bAr32 hn0];dsimp only;rw[e0,trBr_br,hsp];rw[hps] at hall ⊢;exact hall
theorem tr_tx {T:Ty} (h:T.right=true):trF (T.tx.size+1) T.tx=(T,true):=(tr_all T h).1 _ tz1
end Go.Proofs.YtkokfdmggdhfmaaGreatDoor
namespace Go.Proofs.YtkokfdmggdhfmaaGreatDoor
open Go Go.RowKit
attribute [local irreducible] aops zaK
def TrOk (f:Nat):Prop:=∀s:ByteArray,s.size<f->s.size<=524288->APure Tryz.prog 96 [.v (.string s)] (.tup [.agg (trF f s).1.cells,.v (.bool (trF f s).2)])
theorem und_slS {n:Nat} (l:List ByteArray):Und n (.sl 1 (l.map zaf)):=.data (zdY l)
structure TrS where
 l:List ByteArray
 acc:List Ty
def TrS.ok (f:Nat) (l:List ByteArray) (k:Nat) (w:TrS):Prop:=w.l=l.drop k/\k<=l.length/\w.acc.length=k/\zdf (trF f) w.l w.acc=zdf (trF f) l []
theorem TrS.start (f:Nat) (l:List ByteArray):TrS.ok f l 0 ⟨l,[]⟩:=⟨rfl,by omega,rfl,rfl⟩
theorem TrS.ok.next {f:Nat} {l:List ByteArray} {w:TrS} {x:ByteArray} (h:w.ok f l w.acc.length) (hx:l[w.acc.length]?=some x) (hg:(trF f x).2=true):TrS.ok f l (w.acc++[(trF f x).1]).length ⟨w.l.tail,w.acc++[(trF f x).1]⟩:=by
 obtain ⟨h1,h2,h3,h4⟩:=h;have hl:=(zf.1 hx).1;have hd:=List.drop_eq_getElem_cons hl;have he:=(zf.1 hx).2;rw[he] at hd;rw[hd] at h1;refine ⟨by rw[h1];simp,by simp;omega,rfl,?_⟩;rw[h1,zdf,if_pos hg] at h4;rw[<- h4,h1];rfl
theorem TrS.ok.bad {f:Nat} {l:List ByteArray} {w:TrS} {x:ByteArray} (h:w.ok f l w.acc.length) (hx:l[w.acc.length]?=some x) (hg:(trF f x).2=false):zdf (trF f) l []=(.mk 0 0 [],false):=by
 obtain ⟨h1,h2,h3,h4⟩:=h;have hl:=(zf.1 hx).1;have hd:=List.drop_eq_getElem_cons hl;have he:=(zf.1 hx).2;rw[he] at hd;rw[hd] at h1;rw[h1,zdf,if_neg (by simp[hg])] at h4;exact h4.symm
theorem TrS.ok.stop {f:Nat} {l:List ByteArray} {w:TrS} (h:w.ok f l w.acc.length) (hk:¬w.acc.length<l.length):zdf (trF f) l []=(.mk 5 0 w.acc,true):=by
 obtain ⟨h1,h2,h3,h4⟩:=h;rw[h1,List.drop_of_length_le tz1,zdf] at h4;exact h4.symm
theorem two_of {α:Type} {l:List α} (h:l.length=2):∃a b,l=[a,b]:=by
 match l,h with
 | [a,b],_=>exact ⟨a,b,rfl⟩
theorem oneS_of {α:Type} {l:List α} (h:l.length=1):∃a,l=[a]:=by
 match l,h with
 | [a],_=>exact ⟨a,rfl⟩
theorem zkd (W:ByteArray->Ty×Bool) {s:ByteArray} (h:s.size<2\/¬bt s 0=40\/¬bt s (s.size-1)=41):trBr W s=(.mk 0 0 [],false):=by unfold trBr;rw[if_pos h]
theorem trBr_one (W:ByteArray->Ty×Bool) {s a:ByteArray} (h:¬(s.size<2\/¬bt s 0=40\/¬bt s (s.size-1)=41)) (hs:spA (s.extract 1 (s.size-1)) bSt true=[a]):trBr W s=W a:=by unfold trBr;rw[if_neg h,hs]
theorem ziz (W:ByteArray->Ty×Bool) {s:ByteArray} (h:¬(s.size<2\/¬bt s 0=40\/¬bt s (s.size-1)=41)) (hs:¬(spA (s.extract 1 (s.size-1)) bSt true).length=1):trBr W s=zdf W (spA (s.extract 1 (s.size-1)) bSt true) []:=by
 unfold trBr;rw[if_neg h];split;(·rename_i a ha;rw[ha] at hs;exact absurd rfl hs);rfl
theorem zcx (W:ByteArray->Ty×Bool) {s:ByteArray} (h1:¬s=zgi) (h2:¬s=zca) (h3:¬0<=nuR s) (h4:¬(spA s bAr false).length=2):zb2 W s=trBr W s:=by
 unfold zb2;rw[if_neg h1,if_neg h2,if_neg h3];split;(·rename_i a b hab;rw[hab] at h4;exact absurd rfl h4);rfl
theorem zg1 (W:ByteArray->Ty×Bool) {s a b:ByteArray} (h1:¬s=zgi) (h2:¬s=zca) (h3:¬0<=nuR s) (h4:spA s bAr false=[a,b]):zb2 W s=(.mk 4 0 [(W a).1,(W b).1],(W a).2&&(W b).2):=by
 unfold zb2;rw[if_neg h1,if_neg h2,if_neg h3,h4]
theorem pcs_len:∀l:List ByteArray,3 * l.length<=pcs bSt l
 | []=>by simp[pcs]
 | x::l=>by
  have:=pcs_len l;simp only[pcs,za9,zx];omega
theorem zbT {l:List ByteArray} {i:Nat} {x:ByteArray} (h:l[i]?=some x):(l.map zaf).getD i []=[AV.v (.string x)]:=by rw[zj,zE,h];rfl
theorem rtype_s (f:Nat) (ih:∀g,g<=f->TrOk g) (s:ByteArray) (hf:s.size<f+1) (hs:s.size<=524288):APure Tryz.prog 96 [.v (.string s)] (.tup [.agg (trF (f+1) s).1.cells,.v (.bool (trF (f+1) s).2)]):=by
  refine APure.mkL (.cons (.v _) .nil) (.tup (.cons (Ty.dataAgg _) (.cons (.v _) .nil))) ?_;refine aIn Tryz.func96 fun hm=>?_;simp only[Tryz.ntmps96,Tryz.results96,go_sem,seval];have hb0:=za8 s 0;have hbl:=za8 s (s.size-1);have hc0:((((s[0]?).getD 0).toNat:Nat):Int)=bt s 0:=rfl;have hcl:((((s[s.size-1]?).getD 0).toNat:Nat):Int)=bt s (s.size-1):=rfl;have hpa:=zf8 s bAr false;rw[zck] at hpa;refine sqR fun _ u=>?_;refine chS 1 ?_ (by intro _ q;simp only[↓bO,go_sem,seval,zaf,hc0];exact q);simp only[↓bO,go_sem,seval,zaf,hc0];apply u;refine zO fun _ u=>?_;refine sqR fun _ z=>?_;refine chS 1 ?_ (by intro _ q;simp only[↓bO,go_sem,seval,zaf,hc0];exact q);simp only[↓bO,go_sem,seval,zaf,hc0];apply z;apply zP rfl <;> intro hb16
  ·
   have hi:s=zgi:=zbe.1 hb16;refine sqR fun _ z=>?_;(iterate 2 (refine chS 1 ?_ (by intro _ q;simp only[↓bO,go_sem,seval,zaf,hc0];exact q)));simp only[↓bO,go_sem,seval,zaf,hc0];apply z;apply zR;(try simp only[zag,z6,zY,zbg,za3,zap,bS,bA,zao,zad,zaO,bL,Nat.reduceAdd,Nat.reduceLeDiff,Nat.reduceEqDiff,↓reduceIte,zbR,tyX,zi,zaf,hc0]);rw[trF,zb2,if_pos hi];first | exact Le.refl _ | exact Le.tup ⟨zdw,.refl _,trivial⟩ | (simp only[Ty.pcells,zk,zq];first | exact Le.refl _ | exact Le.tup ⟨Le.agg ⟨.refl _,.refl _,Le.slNil 3,trivial⟩,.refl _,trivial⟩ | exact Le.tup ⟨Le.agg ⟨.refl _,.refl _,Le.osl _ _ _,trivial⟩,.refl _,trivial⟩)
  have hi:¬s=zgi:=zga hb16;apply zS;apply u;refine zO fun _ u=>?_;refine sqR fun _ z=>?_;refine chS 1 ?_ (by intro _ q;simp only[↓bO,go_sem,seval,zaf,hc0];exact q);simp only[↓bO,go_sem,seval,zaf,hc0];apply z;apply zP rfl <;> intro hb19
  ·
   have hb:s=zca:=zbe.1 hb19;refine sqR fun _ z=>?_;(iterate 2 (refine chS 1 ?_ (by intro _ q;simp only[↓bO,go_sem,seval,zaf,hc0];exact q)));simp only[↓bO,go_sem,seval,zaf,hc0];apply z;apply zR;(try simp only[zag,z6,zY,zbg,za3,zap,bS,bA,zao,zad,zaO,bL,Nat.reduceAdd,Nat.reduceLeDiff,Nat.reduceEqDiff,↓reduceIte,zbR,tyX,zi,zaf,hc0]);rw[trF,zb2,if_neg hi,if_pos hb];first | exact Le.refl _ | exact Le.tup ⟨zdw,.refl _,trivial⟩ | (simp only[Ty.pcells,zk,zq];first | exact Le.refl _ | exact Le.tup ⟨Le.agg ⟨.refl _,.refl _,Le.slNil 3,trivial⟩,.refl _,trivial⟩ | exact Le.tup ⟨Le.agg ⟨.refl _,.refl _,Le.osl _ _ _,trivial⟩,.refl _,trivial⟩)
  have hb:¬s=zca:=zga hb19;apply zS;apply u;refine zO fun _ u=>?_;refine sqR fun _ z=>?_;refine chS 1 ?_ (by intro _ q;simp only[↓bO,go_sem,seval,zaf,hc0];exact q);refine zN 1 fun _ y=>?_;simp only[↓bO,go_sem,seval,zaf,hc0];refine APure.call (ziU s tz1) ?_;apply y;clear y;simp only[↓bO,go_sem,seval,zaf,hc0];apply z;refine sqR fun _ z=>?_;refine chS 1 ?_ (by intro _ q;simp only[↓bO,go_sem,seval,zaf,hc0];exact q);simp only[↓bO,go_sem,seval,zaf,hc0];apply z;apply zP rfl <;> intro hb24
  ·
   (have hn:0<=nuR s:=by simpa using hb24);refine sqR fun _ z=>?_;(iterate 3 (refine chS 1 ?_ (by intro _ q;simp only[↓bO,go_sem,seval,zaf,hc0];exact q)));simp only[↓bO,go_sem,seval,zaf,hc0];apply z;apply zR;(try simp only[zag,z6,zY,zbg,za3,zap,bS,bA,zao,zad,zaO,bL,Nat.reduceAdd,Nat.reduceLeDiff,Nat.reduceEqDiff,↓reduceIte,zbR,tyX,zi,zaf,hc0]);rw[trF,zb2,if_neg hi,if_neg hb,if_pos hn];first | exact Le.refl _ | exact Le.tup ⟨zdw,.refl _,trivial⟩ | (simp only[Ty.pcells,zk,zq];first | exact Le.refl _ | exact Le.tup ⟨Le.agg ⟨.refl _,.refl _,Le.slNil 3,trivial⟩,.refl _,trivial⟩ | exact Le.tup ⟨Le.agg ⟨.refl _,.refl _,Le.osl _ _ _,trivial⟩,.refl _,trivial⟩)
  (have hn:¬0<=nuR s:=by simpa using hb24);apply zS;apply u;refine zO fun _ u=>?_;refine sqR fun _ z=>?_;refine chS 1 ?_ (by intro _ q;simp only[↓bO,go_sem,seval,zaf,hc0];exact q);refine zN 1 fun _ y=>?_;simp only[↓bO,go_sem,seval,zaf,hc0];refine APure.call (zf3 s bAr false tz3 tz3 tz1) ?_;apply y;clear y;simp only[↓bO,go_sem,seval,zaf,hc0];apply z;refine sqR fun _ z=>?_;(iterate 2 (refine chS 1 ?_ (by intro _ q;simp only[↓bO,go_sem,seval,zaf,hc0];exact q)));simp only[↓bO,go_sem,seval,zaf,hc0];apply z;apply zP rfl <;> intro hb31
  ·
   obtain ⟨a,b,hab⟩:=two_of (l:=spA s bAr false) (by have h9:=hb31;simp at h9;omega);rw[hab] at hpa;simp only[pcs,zck] at hpa;simp only[hab,zk,zq];refine sqR fun _ z=>?_;(iterate 3 (refine chS 1 ?_ (by intro _ q;simp only[↓bO,go_sem,seval,zaf,hc0];exact q)));refine zN 1 fun _ y=>?_;simp only[↓bO,go_sem,seval,zaf,hc0];refine APure.call (ih f (zy f) a tz1 tz1) ?_;(iterate 5 (apply y;clear y;refine zN 1 fun _ y=>?_;simp only[↓bO,go_sem,seval,zaf,hc0]));apply y;clear y;simp only[↓bO,go_sem,seval,zaf,hc0];apply z;refine sqR fun _ z=>?_;(iterate 3 (refine chS 1 ?_ (by intro _ q;simp only[↓bO,go_sem,seval,zaf,hc0];exact q)));refine zN 1 fun _ y=>?_;simp only[↓bO,go_sem,seval,zaf,hc0];refine APure.call (ih f (zy f) b tz1 tz1) ?_;(iterate 5 (apply y;clear y;refine zN 1 fun _ y=>?_;simp only[↓bO,go_sem,seval,zaf,hc0]));apply y;clear y;simp only[↓bO,go_sem,seval,zaf,hc0];apply z;refine sqR fun _ z=>?_;(iterate 2 (refine chS 1 ?_ (by intro _ q;simp only[↓bO,go_sem,seval,zaf,hc0];exact q)));refine zN 1 fun _ y=>?_;simp only[↓bO,go_sem,seval,↓zik,↓ziw,↓zig,↓zh1,↓ziR,↓zjl,↓ziy,↓zil,↓zie,↓ze4,↓ze2,↓zeV,zaf,hc0];(iterate 3 (apply y;clear y;refine zN 1 fun _ y=>?_;simp only[↓bO,go_sem,seval,zaf,hc0]));apply y;clear y;refine zW 51 rfl (fun hc51=>?_) (fun hc51=>?_)
   ·
    simp only[go_sem];(have ha2:(trF f a).2=true:=by simpa using hc51);simp only[ha2,Bool.true_and];(iterate 3 (refine chS 1 ?_ (by intro _ q;simp only[↓bO,go_sem,seval,zaf,hc0];exact q)));simp only[↓bO,go_sem,seval,zaf,hc0];apply z;apply zR;(try simp only[zag,z6,zY,zbg,za3,zap,bS,bA,zao,zad,zaO,bL,Nat.reduceAdd,Nat.reduceLeDiff,Nat.reduceEqDiff,↓reduceIte,zbR,tyX,zi,zaf,hc0]);rw[trF,zg1 _ hi hb hn hab];simp only[ha2,Bool.true_and,Bool.false_and];first | exact Le.refl _ | exact Le.tup ⟨zdw,.refl _,trivial⟩ | (simp only[Ty.pcells,zk,zq];first | exact Le.refl _ | exact Le.tup ⟨Le.agg ⟨.refl _,.refl _,Le.slNil 3,trivial⟩,.refl _,trivial⟩ | exact Le.tup ⟨Le.agg ⟨.refl _,.refl _,Le.osl _ _ _,trivial⟩,.refl _,trivial⟩)
   simp only[go_sem];(have ha2:(trF f a).2=false:=by simpa using hc51);simp only[ha2,Bool.false_and];(iterate 3 (refine chS 1 ?_ (by intro _ q;simp only[↓bO,go_sem,seval,zaf,hc0];exact q)));simp only[↓bO,go_sem,seval,zaf,hc0];apply z;apply zR;(try simp only[zag,z6,zY,zbg,za3,zap,bS,bA,zao,zad,zaO,bL,Nat.reduceAdd,Nat.reduceLeDiff,Nat.reduceEqDiff,↓reduceIte,zbR,tyX,zi,zaf,hc0]);rw[trF,zg1 _ hi hb hn hab];simp only[ha2,Bool.true_and,Bool.false_and];first | exact Le.refl _ | exact Le.tup ⟨zdw,.refl _,trivial⟩ | (simp only[Ty.pcells,zk,zq];first | exact Le.refl _ | exact Le.tup ⟨Le.agg ⟨.refl _,.refl _,Le.slNil 3,trivial⟩,.refl _,trivial⟩ | exact Le.tup ⟨Le.agg ⟨.refl _,.refl _,Le.osl _ _ _,trivial⟩,.refl _,trivial⟩)
  (have h2:¬(spA s bAr false).length=2:=by (have h9:=hb31;simp at h9;omega));apply zS;apply u;refine zO fun _ u=>?_;refine sqR fun _ z=>?_;(iterate 4 (refine chS 1 ?_ (by intro _ q;simp only[↓bO,go_sem,seval,zaf,hc0];exact q)));refine zW 57 rfl (fun hc57=>?_) (fun hc57=>?_)
  ·
   simp only[go_sem];have hbr:s.size<2\/¬bt s 0=40\/¬bt s (s.size-1)=41:=.inl (by (have h9:=hc57;simp at h9;omega));(iterate 11 (refine chS 1 ?_ (by intro _ q;simp only[↓bO,go_sem,seval,zaf,hc0];exact q)));simp only[↓bO,go_sem,seval,zaf,hc0];apply z;refine zP (b:=true) (by first | exact rfl | exact congrArg (fun b=>AV.v (.bool b)) hb69) (fun _=>?_) (fun h=>(by cases h));refine sqR fun _ z=>?_;(iterate 2 (refine chS 1 ?_ (by intro _ q;simp only[↓bO,go_sem,seval,zaf,hc0];exact q)));simp only[↓bO,go_sem,seval,zaf,hc0];apply z;apply zR;(try simp only[zag,z6,zY,zbg,za3,zap,bS,bA,zao,zad,zaO,bL,Nat.reduceAdd,Nat.reduceLeDiff,Nat.reduceEqDiff,↓reduceIte,zbR,tyX,zi,zaf,hc0]);rw[trF,zcx _ hi hb hn h2,zkd _ hbr];first | exact Le.refl _ | exact Le.tup ⟨zdw,.refl _,trivial⟩ | (simp only[Ty.pcells,zk,zq];first | exact Le.refl _ | exact Le.tup ⟨Le.agg ⟨.refl _,.refl _,Le.slNil 3,trivial⟩,.refl _,trivial⟩ | exact Le.tup ⟨Le.agg ⟨.refl _,.refl _,Le.osl _ _ _,trivial⟩,.refl _,trivial⟩)
  simp only[go_sem];(have hs2:2<=s.size:=by (have h9:=hc57;simp at h9;omega));have hl0:((0:Int)<(s.size:Int))=True:=eq_true tz1;(have hw1:IntKind.i64.wrap ((s.size:Int)-1)=((s.size-1:Nat):Int):=by (rw[z8 tz1 tz1];omega));have hll:(((s.size-1:Nat):Int)<(s.size:Int))=True:=eq_true tz1;have hl1:((1:Int)<=((s.size-1:Nat):Int))=True:=eq_true tz1;have hle:(((s.size-1:Nat):Int)<=(s.size:Int))=True:=eq_true tz1;have hex:=zct s (a:=1) (b:=s.size-1) tz1 tz1;(iterate 5 (refine chS 1 ?_ (by intro _ q;simp only[↓bO,go_sem,seval,zaf,hc0,hl0,hw1,hll,hl1,hle,hcl];exact q)));refine zW 62 rfl (fun hc62=>?_) (fun hc62=>?_)
  ·
   simp only[go_sem];(have hbr:s.size<2\/¬bt s 0=40\/¬bt s (s.size-1)=41:=by (first | exact hbr | exact .inr (.inl (by (have h9:=hc62;simp at h9;omega)))));(iterate 6 (refine chS 1 ?_ (by intro _ q;simp only[↓bO,go_sem,seval,zaf,hc0,hl0,hw1,hll,hl1,hle,hcl];exact q)));simp only[↓bO,go_sem,seval,zaf,hc0,hl0,hw1,hll,hl1,hle,hcl];apply z;refine zP (b:=true) (by first | exact rfl | exact congrArg (fun b=>AV.v (.bool b)) hb69) (fun _=>?_) (fun h=>(by cases h));refine sqR fun _ z=>?_;(iterate 2 (refine chS 1 ?_ (by intro _ q;simp only[↓bO,go_sem,seval,zaf,hc0,hl0,hw1,hll,hl1,hle,hcl];exact q)));simp only[↓bO,go_sem,seval,zaf,hc0,hl0,hw1,hll,hl1,hle,hcl];apply z;apply zR;(try simp only[zag,z6,zY,zbg,za3,zap,bS,bA,zao,zad,zaO,bL,Nat.reduceAdd,Nat.reduceLeDiff,Nat.reduceEqDiff,↓reduceIte,zbR,tyX,zi,zaf,hc0,hl0,hw1,hll,hl1,hle,hcl]);rw[trF,zcx _ hi hb hn h2,zkd _ hbr];first | exact Le.refl _ | exact Le.tup ⟨zdw,.refl _,trivial⟩ | (simp only[Ty.pcells,zk,zq];first | exact Le.refl _ | exact Le.tup ⟨Le.agg ⟨.refl _,.refl _,Le.slNil 3,trivial⟩,.refl _,trivial⟩ | exact Le.tup ⟨Le.agg ⟨.refl _,.refl _,Le.osl _ _ _,trivial⟩,.refl _,trivial⟩)
  simp only[go_sem];(have h40:bt s 0=40:=by (have h9:=hc62;simp at h9;omega));(iterate 6 (refine chS 1 ?_ (by intro _ q;simp only[↓bO,go_sem,seval,zaf,hc0,hl0,hw1,hll,hl1,hle,hcl];exact q)));simp only[↓bO,go_sem,seval,zaf,hc0,hl0,hw1,hll,hl1,hle,hcl];apply z;apply zP rfl <;> intro hb69
  ·
   (have hbr:s.size<2\/¬bt s 0=40\/¬bt s (s.size-1)=41:=by (first | exact hbr | exact .inr (.inr (by (have h9:=hb69;simp at h9;omega)))));refine sqR fun _ z=>?_;(iterate 2 (refine chS 1 ?_ (by intro _ q;simp only[↓bO,go_sem,seval,zaf,hc0,hl0,hw1,hll,hl1,hle,hcl];exact q)));simp only[↓bO,go_sem,seval,zaf,hc0,hl0,hw1,hll,hl1,hle,hcl];apply z;apply zR;(try simp only[zag,z6,zY,zbg,za3,zap,bS,bA,zao,zad,zaO,bL,Nat.reduceAdd,Nat.reduceLeDiff,Nat.reduceEqDiff,↓reduceIte,zbR,tyX,zi,zaf,hc0,hl0,hw1,hll,hl1,hle,hcl]);rw[trF,zcx _ hi hb hn h2,zkd _ hbr];first | exact Le.refl _ | exact Le.tup ⟨zdw,.refl _,trivial⟩ | (simp only[Ty.pcells,zk,zq];first | exact Le.refl _ | exact Le.tup ⟨Le.agg ⟨.refl _,.refl _,Le.slNil 3,trivial⟩,.refl _,trivial⟩ | exact Le.tup ⟨Le.agg ⟨.refl _,.refl _,Le.osl _ _ _,trivial⟩,.refl _,trivial⟩)
  (have h41:bt s (s.size-1)=41:=by (have h9:=hb69;simp at h9;omega));(have hbr:¬(s.size<2\/¬bt s 0=40\/¬bt s (s.size-1)=41):=by omega);have hps:=zf8 (s.extract 1 (s.size-1)) bSt true;rw[za9,hex] at hps;apply zS;apply u;refine sqR fun _ u=>?_;(iterate 5 (refine chS 1 ?_ (by intro _ q;simp only[↓bO,go_sem,seval,zaf,hc0,hl0,hw1,hll,hl1,hle,hcl];exact q)));refine zN 1 fun _ y=>?_;simp only[↓bO,go_sem,seval,zaf,hc0,hl0,hw1,hll,hl1,hle,hcl];refine APure.call (zf3 (s.extract 1 (s.size-1)) bSt true tz3 tz3 tz1) ?_;apply y;clear y;simp only[↓bO,go_sem,seval,zaf,hc0,hl0,hw1,hll,hl1,hle,hcl];apply u;refine zO fun _ u=>?_;refine sqR fun _ z=>?_;(iterate 2 (refine chS 1 ?_ (by intro _ q;simp only[↓bO,go_sem,seval,zaf,hc0,hl0,hw1,hll,hl1,hle,hcl];exact q)));simp only[↓bO,go_sem,seval,zaf,hc0,hl0,hw1,hll,hl1,hle,hcl];apply z;apply zP rfl <;> intro hb79
  ·
   obtain ⟨a,ha⟩:=oneS_of (l:=(spA (s.extract 1 (s.size-1)) bSt true)) (by have h9:=hb79;simp at h9;omega);rw[ha] at hps;simp only[pcs,za9] at hps;simp only[ha,zk,zq];refine sqR fun _ z=>?_;(iterate 3 (refine chS 1 ?_ (by intro _ q;simp only[↓bO,go_sem,seval,zaf,hc0,hl0,hw1,hll,hl1,hle,hcl];exact q)));refine zN 1 fun _ y=>?_;simp only[↓bO,go_sem,seval,zaf,hc0,hl0,hw1,hll,hl1,hle,hcl];refine APure.call (ih f (zy f) a tz1 tz1) ?_;(iterate 3 (apply y;clear y;refine zN 1 fun _ y=>?_;simp only[↓bO,go_sem,seval,zaf,hc0,hl0,hw1,hll,hl1,hle,hcl]));apply y;clear y;simp only[↓bO,go_sem,seval,zaf,hc0,hl0,hw1,hll,hl1,hle,hcl];apply z;apply zR;(try simp only[zag,z6,zY,zbg,za3,zap,bS,bA,zao,zad,zaO,bL,Nat.reduceAdd,Nat.reduceLeDiff,Nat.reduceEqDiff,↓reduceIte,zbR,tyX,zi,zaf,hc0,hl0,hw1,hll,hl1,hle,hcl]);rw[trF,zcx _ hi hb hn h2,trBr_one _ hbr ha];first | exact Le.refl _ | exact Le.tup ⟨zdw,.refl _,trivial⟩ | (simp only[Ty.pcells,zk,zq];first | exact Le.refl _ | exact Le.tup ⟨Le.agg ⟨.refl _,.refl _,Le.slNil 3,trivial⟩,.refl _,trivial⟩ | exact Le.tup ⟨Le.agg ⟨.refl _,.refl _,Le.osl _ _ _,trivial⟩,.refl _,trivial⟩)
  (have h1:¬(spA (s.extract 1 (s.size-1)) bSt true).length=1:=by (have h9:=hb79;simp at h9;omega));apply zS;apply u;refine sqR fun _ u=>?_;(iterate 2 (refine chS 1 ?_ (by intro _ q;simp only[↓bO,go_sem,seval,zaf,hc0,hl0,hw1,hll,hl1,hle,hcl];exact q)));simp only[↓bO,go_sem,seval,zaf,hc0,hl0,hw1,hll,hl1,hle,hcl];apply u;refine zO fun _ u=>?_;refine sqR fun _ z=>?_;simp only[↓bO,go_sem,seval,zaf,hc0,hl0,hw1,hll,hl1,hle,hcl];apply z;apply zV;refine zar (Weak.tokCell 26 3 (id:=1) (t:=26) [.v (.int .i64 5),.v (.int .i64 0),.osl 2 3 []] rfl ⟨.inl (.refl _),.inl (.refl _),.inr ⟨rfl,rfl⟩,trivial⟩) ?_;simp only[zaz,Nat.reduceEqDiff,↓reduceIte];refine zae (σ:=TrS) (mB 111 7172) (fun w=>w.ok f (spA (s.extract 1 (s.size-1)) bSt true) w.acc.length) (fun w=>[(12,.v (.int .i64 (w.acc.length:Int)))]) (fun w=>[(1,.cells 26 [.v (.int .i64 5),.v (.int .i64 0),.osl 2 3 (w.acc.map Ty.cells)]),(2,.tok 26 3 w.acc.length)]) (fun w=>(spA (s.extract 1 (s.size-1)) bSt true).length-w.acc.length) ⟨(spA (s.extract 1 (s.size-1)) bSt true),[]⟩ (TrS.start f _) ?_ (fun w hw=>?_)
  ·
   (try simp only[go_sem,seval,bL,Int.natCast_zero]);exact zaP
  simp only[go_sem,seval];(have hpl:3 * (spA (s.extract 1 (s.size-1)) bSt true).length<=s.size+1:=by (have h9:=pcs_len (spA (s.extract 1 (s.size-1)) bSt true);omega));refine zO fun _ z=>?_;refine sqR fun _ k=>?_;(iterate 3 (refine chS 1 ?_ (by intro _ q;simp only[↓bO,go_sem,seval,zaf,hc0,zc,zd,hl0,hw1,hll,hl1,hle,hcl];exact q)));simp only[↓bO,go_sem,seval,zaf,hc0,zc,zd,hl0,hw1,hll,hl1,hle,hcl];apply k;apply zP rfl <;> intro hb90
  ·
   (have hk:w.acc.length<(spA (s.extract 1 (s.size-1)) bSt true).length:=by (have h9:=hb90;simp at h9;omega));obtain ⟨x,hx⟩:∃x,(spA (s.extract 1 (s.size-1)) bSt true)[w.acc.length]?=some x:=⟨_,zb hk⟩;have hxm:=pcs_mem (g:=bSt) (zh hx);rw[za9] at hxm;(have hw3:IntKind.i64.wrap ((w.acc.length:Int)+1)=((w.acc.length+1:Nat):Int):=by (rw[z8 tz1 tz1];omega));(have hb1:(w.acc.length+1) * 40<=140737488355328:=by omega);(have hb2:w.acc.length+1<=maxLen:=by (simp only[maxLen];omega));apply zS;apply z;refine zO fun _ z=>?_;apply zV;refine sqR fun _ k=>?_;(iterate 4 (refine chS 1 ?_ (by intro _ q;simp only[↓bO,go_sem,seval,zaf,hc0,zc,zd,hl0,hw1,hll,hl1,hle,hcl,hk,zbT hx,hw3,hb1,hb2];exact q)));refine zN 1 fun _ y=>?_;simp only[↓bO,go_sem,seval,zaf,hc0,zc,zd,hl0,hw1,hll,hl1,hle,hcl,hk,zbT hx,hw3,hb1,hb2];refine APure.call (ih f (zy f) x tz1 tz1) ?_;(iterate 5 (apply y;clear y;refine zN 1 fun _ y=>?_;simp only[↓bO,go_sem,seval,zaf,hc0,zc,zd,hl0,hw1,hll,hl1,hle,hcl,hk,zbT hx,hw3,hb1,hb2]));apply y;clear y;simp only[↓bO,go_sem,seval,zaf,hc0,zc,zd,hl0,hw1,hll,hl1,hle,hcl,hk,zbT hx,hw3,hb1,hb2];apply k;refine zO fun _ k=>?_;refine sqR fun _ j=>?_;refine chS 1 ?_ (by intro _ q;simp only[↓bO,go_sem,seval,zaf,hc0,zc,zd,hl0,hw1,hll,hl1,hle,hcl,hk,zbT hx,hw3,hb1,hb2];exact q);simp only[↓bO,go_sem,seval,zaf,hc0,zc,zd,hl0,hw1,hll,hl1,hle,hcl,hk,zbT hx,hw3,hb1,hb2];apply j;apply zP rfl <;> intro hb102
   ·
    (have hbad:(trF f x).2=false:=by simpa using hb102);refine sqR fun _ j=>?_;(iterate 2 (refine chS 1 ?_ (by intro _ q;simp only[↓bO,go_sem,seval,zaf,hc0,zc,zd,hl0,hw1,hll,hl1,hle,hcl,hk,zbT hx,hw3,hb1,hb2];exact q)));simp only[↓bO,go_sem,seval,zaf,hc0,zc,zd,hl0,hw1,hll,hl1,hle,hcl,hk,zbT hx,hw3,hb1,hb2];apply j;apply zR;(try simp only[zag,z6,zY,zbg,za3,zap,bS,bA,zao,zad,zaO,bL,Nat.reduceAdd,Nat.reduceLeDiff,Nat.reduceEqDiff,↓reduceIte,zbR,tyX,zi,zaf,hc0,zc,zd,hl0,hw1,hll,hl1,hle,hcl,hk,zbT hx,hw3,hb1,hb2]);rw[trF,zcx _ hi hb hn h2,ziz _ hbr h1,hw.bad hx hbad];first | exact Le.refl _ | exact Le.tup ⟨zdw,.refl _,trivial⟩ | (simp only[Ty.pcells,zk,zq];first | exact Le.refl _ | exact Le.tup ⟨Le.agg ⟨.refl _,.refl _,Le.slNil 3,trivial⟩,.refl _,trivial⟩ | exact Le.tup ⟨Le.agg ⟨.refl _,.refl _,Le.osl _ _ _,trivial⟩,.refl _,trivial⟩)
   (have hgood:(trF f x).2=true:=by simpa using hb102);apply zS;apply k;apply zQ;(iterate 3 (refine chS 1 ?_ (by intro _ q;simp only[↓bO,go_sem,seval,zaf,hc0,zc,zd,hl0,hw1,hll,hl1,hle,hcl,hk,zbT hx,hw3,hb1,hb2];exact q)));refine zN 1 fun _ y=>?_;simp only[↓bO,go_sem,seval,↓zaV,↓za1,↓zaR,↓zaZ,↓zaS,↓zaY,↓za0,↓zaX,↓zaU,↓zax,↓zav,↓zaw,zaf,hc0,zc,zd,hl0,hw1,hll,hl1,hle,hcl,hk,zbT hx,hw3,hb1,hb2];(iterate 2 (apply y;clear y;refine zN 1 fun _ y=>?_;simp only[↓bO,go_sem,seval,zaf,hc0,zc,zd,hl0,hw1,hll,hl1,hle,hcl,hk,zbT hx,hw3,hb1,hb2]));apply y;clear y;simp only[↓bO,go_sem,seval,zaf,hc0,zc,zd,hl0,hw1,hll,hl1,hle,hcl,hk,zbT hx,hw3,hb1,hb2];apply z;apply zQ;(iterate 2 (refine chS 1 ?_ (by intro _ q;simp only[↓bO,go_sem,seval,zaf,hc0,zc,zd,hl0,hw1,hll,hl1,hle,hcl,hk,zbT hx,hw3,hb1,hb2];exact q)));simp only[↓bO,go_sem,seval,zaf,hc0,zc,zd,hl0,hw1,hll,hl1,hle,hcl,hk,zbT hx,hw3,hb1,hb2];refine ⟨⟨w.l.tail,w.acc++[(trF f x).1]⟩,hw.next hx hgood,(by simp only[zd,zx,zu];omega),?_⟩;simp only[go_sem,seval,zc,bL,zd,hl0,hw1,hll,hl1,hle,hcl,hk,zbT hx,hw3,hb1,hb2];(first | (refine Weak.drops 1 3 rfl rfl tz5 tz5 ?_ ?_ ?_) | (refine Weak.drops 0 3 rfl rfl tz5 tz5 ?_ ?_ ?_));(· simp only[go_sem,Le.refl,Le.any,za,Int.cast_ofNat_Int,zm]);(· simp only[UndL,UndOs,Ob.Und,and_true,true_and,and_self,Und.v,Und.any,Und.ptr,Und.map,Nat.reduceLT,zC,Und.tys,Und.tyAgg,Und.oslTys,Und.oslTys1,Und.clo0,Und.ty,und_slS]);simp only[UndL,UndOs,Ob.Und,and_true,true_and,and_self,Und.v,Und.any,Und.ptr,Und.map,Nat.reduceLT,zC,Und.tys,Und.tyAgg,Und.oslTys,Und.oslTys1,Und.clo0,Und.ty,und_slS]
  (have hk:¬w.acc.length<(spA (s.extract 1 (s.size-1)) bSt true).length:=by (have h9:=hb90;simp at h9;omega));apply zah;simp only[zag,z6,zY,bA,Nat.reduceEqDiff,↓reduceIte];apply u;refine sqR fun _ u=>?_;(iterate 2 (refine chS 1 ?_ (by intro _ q;simp only[↓bO,go_sem,seval,zaf,hc0,hl0,hw1,hll,hl1,hle,hcl];exact q)));simp only[↓bO,go_sem,seval,zaf,hc0,hl0,hw1,hll,hl1,hle,hcl];apply u;apply zR;(try simp only[zag,z6,zY,zbg,za3,zap,bS,bA,zao,zad,zaO,bL,Nat.reduceAdd,Nat.reduceLeDiff,Nat.reduceEqDiff,↓reduceIte,zbR,tyX,zi,zaf,hc0,hl0,hw1,hll,hl1,hle,hcl]);rw[trF,zcx _ hi hb hn h2,ziz _ hbr h1,hw.stop hk];first | exact Le.refl _ | exact Le.tup ⟨zdw,.refl _,trivial⟩ | (simp only[Ty.pcells,zk,zq];first | exact Le.refl _ | exact Le.tup ⟨Le.agg ⟨.refl _,.refl _,Le.slNil 3,trivial⟩,.refl _,trivial⟩ | exact Le.tup ⟨Le.agg ⟨.refl _,.refl _,Le.osl _ _ _,trivial⟩,.refl _,trivial⟩)
theorem rtype_c:∀f,TrOk f:=by
 intro f
 induction f using Nat.strongRecOn with
 | _ f ih =>
  intro s hf hs
  match f,ih,hf with
  | 0,_,hf=>omega
  | f+1,ih,hf=>exact rtype_s f (fun g hg=>ih g tz1) s hf hs
def zbF (s:ByteArray):Ty×Bool:=if (trF (s.size+1) s).2=true/\(trF (s.size+1) s).1.right=true/\(trF (s.size+1) s).1.tx=s then ((trF (s.size+1) s).1,true) else (.mk 0 0 [],false)
theorem zen {s:ByteArray} (h:¬((trF (s.size+1) s).2=true/\(trF (s.size+1) s).1.right=true/\(trF (s.size+1) s).1.tx=s)):zbF s=(.mk 0 0 [],false):=if_neg h
theorem zfr {s:ByteArray} (h:(trF (s.size+1) s).2=true/\(trF (s.size+1) s).1.right=true/\(trF (s.size+1) s).1.tx=s):zbF s=((trF (s.size+1) s).1,true):=if_pos h
theorem zjv (s:ByteArray) (hs:s.size<=524287):APure Tryz.prog 46 [.v (.string s)] (.tup [.agg (zbF s).1.cells,.v (.bool (zbF s).2)]):=by
  refine APure.mkL (.cons (.v _) .nil) (.tup (.cons (Ty.dataAgg _) (.cons (.v _) .nil))) ?_;refine aIn Tryz.func46 fun hm=>?_;simp only[Tryz.ntmps46,Tryz.results46,go_sem,seval];have hcb:(trF (s.size+1) s).1.cnt<=2 * s.size+1:=zfG (s.size+1) s;refine sqR fun _ u=>?_;refine chS 1 ?_ (by intro _ q;simp only[↓bO,go_sem,seval,zaf];exact q);simp only[↓bO,go_sem,seval,zaf];apply u;refine sqR fun _ u=>?_;refine chS 1 ?_ (by intro _ q;simp only[↓bO,go_sem,seval,zaf];exact q);refine zN 1 fun _ y=>?_;simp only[↓bO,go_sem,seval,zaf];refine APure.call (rtype_c (s.size+1) s tz1 tz1) ?_;(iterate 5 (apply y;clear y;refine zN 1 fun _ y=>?_;simp only[↓bO,go_sem,seval,zaf]));apply y;clear y;simp only[↓bO,go_sem,seval,zaf];apply u;refine zO fun _ u=>?_;refine sqR fun _ w=>?_;(iterate 3 (refine chS 1 ?_ (by intro _ q;simp only[↓bO,go_sem,seval,zaf];exact q)));refine zW 13 rfl (fun hc13=>?_) (fun hc13=>?_)
  ·
   simp only[go_sem];have hP:=zen (s:=s) (fun h=>by (have h9:=h.1;have h8:=hc13;simp[h9] at h8));(iterate 9 (refine chS 1 ?_ (by intro _ q;simp only[↓bO,go_sem,seval,zaf];exact q)));simp only[↓bO,go_sem,seval,zaf];apply w;refine zP (b:=true) (by first | exact rfl | exact congrArg (fun b=>AV.v (.bool b)) hb23) (fun _=>?_) (fun h=>(by cases h));refine sqR fun _ w=>?_;(iterate 2 (refine chS 1 ?_ (by intro _ q;simp only[↓bO,go_sem,seval,zaf];exact q)));simp only[↓bO,go_sem,seval,zaf];apply w;apply zR;(try simp only[zag,z6,zY,zbg,za3,zap,bS,bA,zao,zad,zaO,bL,Nat.reduceAdd,Nat.reduceLeDiff,Nat.reduceEqDiff,↓reduceIte,zbR,tyX,zi,zaf]);rw[hP];first | exact Le.tup ⟨zdw,.refl _,trivial⟩ | exact Le.refl _
  simp only[go_sem];(have hg:(trF (s.size+1) s).2=true:=by simpa using hc13);refine chS 1 ?_ (by intro _ q;simp only[↓bO,go_sem,seval,zaf];exact q);refine zN 1 fun _ y=>?_;simp only[↓bO,go_sem,seval,zaf];refine APure.call (zd7 (trF (s.size+1) s).1) ?_;(iterate 3 (apply y;clear y;refine zN 1 fun _ y=>?_;simp only[↓bO,go_sem,seval,zaf]));apply y;clear y;refine zW 18 rfl (fun hc18=>?_) (fun hc18=>?_)
  ·
   simp only[go_sem];(have hP:zbF s=(.mk 0 0 [],false):=by (first | exact hP | exact zen (s:=s) (fun h=>by (have h9:=h.2.1;have h8:=hc18;simp[h9] at h8))));(iterate 4 (refine chS 1 ?_ (by intro _ q;simp only[↓bO,go_sem,seval,zaf];exact q)));simp only[↓bO,go_sem,seval,zaf];apply w;refine zP (b:=true) (by first | exact rfl | exact congrArg (fun b=>AV.v (.bool b)) hb23) (fun _=>?_) (fun h=>(by cases h));refine sqR fun _ w=>?_;(iterate 2 (refine chS 1 ?_ (by intro _ q;simp only[↓bO,go_sem,seval,zaf];exact q)));simp only[↓bO,go_sem,seval,zaf];apply w;apply zR;(try simp only[zag,z6,zY,zbg,za3,zap,bS,bA,zao,zad,zaO,bL,Nat.reduceAdd,Nat.reduceLeDiff,Nat.reduceEqDiff,↓reduceIte,zbR,tyX,zi,zaf]);rw[hP];first | exact Le.tup ⟨zdw,.refl _,trivial⟩ | exact Le.refl _
  simp only[go_sem];(have hr:(trF (s.size+1) s).1.right=true:=by simpa using hc18);refine chS 1 ?_ (by intro _ q;simp only[↓bO,go_sem,seval,zaf];exact q);refine zN 1 fun _ y=>?_;simp only[↓bO,go_sem,seval,zaf];refine APure.call (zew (trF (s.size+1) s).1 hr tz1) ?_;(iterate 2 (apply y;clear y;refine zN 1 fun _ y=>?_;simp only[↓bO,go_sem,seval,zaf]));apply y;clear y;simp only[↓bO,go_sem,seval,zaf];apply w;apply zP rfl <;> intro hb23
  ·
   (have hP:zbF s=(.mk 0 0 [],false):=by (first | exact hP | exact zen (s:=s) (fun h=>zga (a:=(trF (s.size+1) s).1.tx) (b:=s) (zd9 hb23) h.2.2)));refine sqR fun _ w=>?_;(iterate 2 (refine chS 1 ?_ (by intro _ q;simp only[↓bO,go_sem,seval,zaf];exact q)));simp only[↓bO,go_sem,seval,zaf];apply w;apply zR;(try simp only[zag,z6,zY,zbg,za3,zap,bS,bA,zao,zad,zaO,bL,Nat.reduceAdd,Nat.reduceLeDiff,Nat.reduceEqDiff,↓reduceIte,zbR,tyX,zi,zaf]);rw[hP];first | exact Le.tup ⟨zdw,.refl _,trivial⟩ | exact Le.refl _
  have hp:(trF (s.size+1) s).1.tx=s:=zbe.1 (zeb hb23);have hP:=zfr ⟨hg,hr,hp⟩;apply zS;apply u;refine sqR fun _ u=>?_;(iterate 2 (refine chS 1 ?_ (by intro _ q;simp only[↓bO,go_sem,seval,zaf];exact q)));simp only[↓bO,go_sem,seval,zaf];apply u;apply zR;(try simp only[zag,z6,zY,zbg,za3,zap,bS,bA,zao,zad,zaO,bL,Nat.reduceAdd,Nat.reduceLeDiff,Nat.reduceEqDiff,↓reduceIte,zbR,tyX,zi,zaf]);rw[hP];first | exact Le.tup ⟨zdw,.refl _,trivial⟩ | exact Le.refl _
end Go.Proofs.YtkokfdmggdhfmaaGreatDoor
namespace Go.Proofs.YtkokfdmggdhfmaaGreatDoor
open Go Go.RowKit
def renM (vs names:List Int) (v:Int):Int:=match vs,names with
 | x::vs,n::names=>if x=v then n else renM vs names v
 | _,_=>v
theorem zkF:∀{vs names:List Int} {v:Int},v∉vs->renM vs names v=v
 | [],_,v,_=>by unfold renM;rfl
 | x::vs,[],v,_=>by unfold renM;rfl
 | x::vs,n::names,v,h=>by
  rw[renM,if_neg (fun e=>h (by simp[e]))];exact zkF fun h9=>h (by simp[h9])
theorem zle:∀{vs names:List Int},vs.Nodup->vs.length=names.length->vs.map (renM vs names)=names
 | [],[],_,_=>rfl
 | x::vs,n::names,hn,hl=>by
  have h1:=List.nodup_cons.1 hn;have ih:=zle h1.2 (show vs.length=names.length by simpa using hl);rw[zk,renM,if_pos rfl]
  have e:vs.map (renM (x::vs) (n::names))=vs.map (renM vs names):=List.map_congr_left fun v hv=>by
   rw[renM,if_neg fun e=>h1.1 (by rw[e];exact hv)]
  rw[e,ih]
theorem renM_bfun {vs names:List Int} (hn:vs.Nodup) (hl:vs.length=names.length) (v:Int):bfun (zbG vs names) v=vTy (renM vs names v):=by
 have hv:=callB_v hl
 by_cases hm:v∈vs
 ·obtain ⟨i,hi⟩:=List.mem_iff_getElem?.1 hm
  have hil:=(zf.1 hi).1;have hni:names[i]?=some (names[i]'tz1):=zb tz1;have h1:=bfun_in (o:=zbG vs names) (b:=⟨v,vTy (names[i]'tz1)⟩) (by rw[hv];exact hn) (zG.2 ⟨(v,_),zh (List.getElem?_zip_eq_some.2 ⟨hi,hni⟩),rfl⟩);have h2:=congrArg (fun l=>l[i]?) (zle hn hl);simp only[zE,hi,Option.map_some] at h2;rw[hni] at h2;rw[h1,Option.some.inj h2]
 rw[zkU (by rw[hv];exact hm),zkF hm]
theorem canonL_lt {free:List Int} {k:Nat} {v:Int} (h:v∈zbp free k):0<=v/\v<((k+free.length:Nat):Int):=by
 have h1:=List.mem_of_mem_take h;unfold za7 at h1;obtain ⟨i,hi,rfl⟩:=zG.1 (List.mem_filter.1 h1).1;have:=List.mem_range.1 hi;omega
theorem zfy:∀T:Ty,T.right=true->∀v,T.occ v->0<=v/\v<1073741824:=by
 refine Ty.ind fun T ih=>?_;intro hr v hv;have hp:=right_part hr;unfold Ty.occ at hv;rw[Ty.rvars_eq] at hv
 have key:∀ps:List Ty,(∀p∈ps,p∈T.ps)->∀l:List Int,(∀x∈l,0<=x/\x<1073741824)->v∈Ty.rvarsL ps l->0<=v/\v<1073741824:=by
  intro ps
  induction ps with
  | nil=>intro _ l hl h;rw[Ty.rvarsL] at h;exact hl v h
  | cons p ps ihp =>
   intro hm l hl h;rw[Ty.rvarsL] at h;refine ihp (fun q hq=>hm q (by simp[hq])) _ (fun x hx=>?_) h;(rcases (Ty.mem_rvars x p l).1 hx with h9 | h9);(·exact hl x h9);exact ih p (hm p tz4) (hp p (hm p tz4)) x h9
 refine key T.ps (fun p h=>h) _ (fun x hx=>?_) hv;split at hx
 ·rename_i h1
  (rcases zhN.1 hx with h | h);(·cases h);rw[h];exact right_var hr h1
 cases hx
section
variable {s:Sch}
theorem Sch.vs_known (h:s.ok=true) {v:Int} (hv:v∈s.vs):0<=v/\v<1073741824:=zfy s.t (Sch.ok_iff.1 h).1 v (Sch.vs_occ h hv)
end
def bSp:ByteArray:=⟨#[32]⟩
def bDs:ByteArray:=⟨#[46,32]⟩
def jnB:List Int->ByteArray
 | []=>ByteArray.empty
 | [v]=>nmB v
 | v::l=>nmB v++(bSp++jnB l)
theorem zhC (v w:Int) (l:List Int):jnB (v::w::l)=nmB v++(bSp++jnB (w::l)):=rfl
def Sch.txt (s:Sch):ByteArray:=if s.vs=[] then s.t.tx else jnB s.vs++(bDs++s.t.tx)
theorem bl_bSp:bl bSp=[32]:=rfl
theorem bl_bDs:bl bDs=[46,32]:=rfl
def nmL (l:List Int):List UInt8:=l.flatMap fun v=>bl (nmB v)++[32]
theorem zlR:∀l:List Int,l≠[]->bl (jnB l)++[32]=nmL l
 | [],h=>absurd rfl h
 | [v],_=>by simp[jnB,nmL]
 | v::w::l,_=>by
  have ih:=zlR (w::l) tz4;rw[zhC,zaj,zaj,bl_bSp,List.append_assoc,List.append_assoc,ih];simp[nmL]
theorem cat_bl (l:List Int):bl (zhW nmB l)=nmL l:=by
 have key:∀(l:List Int) (b:ByteArray),bl (l.foldl (fun b v=>b++(nmB v++⟨#[32]⟩)) b)=bl b++nmL l:=by
  intro l
  induction l with
  | nil=>intro b;simp[nmL]
  | cons v l ih =>
   intro b;rw[List.foldl_cons,ih,zaj,zaj];(show bl b++(bl (nmB v)++[32])++nmL l=_);simp[nmL]
 unfold zhW;rw[key];rfl
theorem trim_jn {l:List Int} (h:l≠[]):(⟨(Lib.trimSuffix (bl (zhW nmB l)) (bl (⟨#[32]⟩:ByteArray))).toArray⟩:ByteArray)=jnB l:=by
 apply zb5;(show Lib.trimSuffix (bl (zhW nmB l)) [32]=_);rw[cat_bl,<- zlR l h]
 have e:Lib.hasSuffix (bl (jnB l)++[32]) [32]=true:=by
  unfold Lib.hasSuffix;rw[List.isSuffixOf_iff_suffix];exact ⟨_,rfl⟩
 unfold Lib.trimSuffix;rw[if_pos e];simp
def zdq (l:List Int):Nat->ByteArray
 | 0=>ByteArray.empty
 | k+1=>match l[k]? with
  | some v=>(if 0<k then zdq l k++bSp else zdq l k)++nmB v
  | none=>zdq l k
theorem zf7 {l:List Int} {k:Nat} {v:Int} (h:l[k]?=some v):zdq l (k+1)=(if 0<k then zdq l k++bSp else zdq l k)++nmB v:=by rw[zdq,h]
theorem accN_bl (l:List Int):∀k,k<l.length->bl (zdq l (k+1))++[32]=nmL (l.take (k+1))
 | 0,h=>by
  obtain ⟨v,hv⟩:∃v,l[0]?=some v:=⟨_,zb h⟩;rw[zf7 hv,if_neg tz1,List.take_add_one,hv,zaj]
  simp[zdq,nmL,ze0]
 | k+1,h=>by
  obtain ⟨v,hv⟩:∃v,l[k+1]?=some v:=⟨_,zb h⟩;have ih:=accN_bl l k tz1;rw[zf7 hv,if_pos tz1,zaj,zaj,bl_bSp,ih,List.take_add_one (i:=k+1),hv];simp[nmL]
theorem accN_all {l:List Int} (h:l≠[]):zdq l l.length=jnB l:=by
 have h0:0<l.length:=List.length_pos_iff.2 h;have h1:=accN_bl l (l.length-1) tz1;rw[show l.length-1+1=l.length by omega,zw,<- zlR l h] at h1;exact zb5 (List.append_cancel_right h1)
theorem jn_size {l:List Int} (h:∀v∈l,0<=v/\v<1073741824):(jnB l).size<=24 * l.length:=by
 induction l with
 | nil=>simp[jnB]
 | cons v l ih =>
  have h1:=zcP (h v tz4).1 (h v tz4).2;have h2:=ih fun x hx=>h x (by simp[hx])
  cases l with
  | nil=>simp only[jnB,zx,zu];omega
  | cons w l =>
   rw[zhC,ByteArray.size_append,ByteArray.size_append];have:bSp.size=1:=rfl;simp only[zx] at h2 ⊢;omega
theorem ziL {l:List Int} (h:∀v∈l,0<=v/\v<1073741824):∀k,(zdq l k).size<=24 * k
 | 0=>by simp[zdq]
 | k+1=>by
  have ih:=ziL h k;rw[zdq];split
  ·rename_i v hv
   have h1:=h v (zh hv);have h2:=zcP h1.1 h1.2;rw[ByteArray.size_append];split
   ·rw[ByteArray.size_append]
    have:bSp.size=1:=rfl;omega
   omega
  omega
theorem zcf {v:Int} (h0:0<=v) (h1:v<1073741824):(∀c∈bl (nmB v),zcL c.toNat=true)/\(bl (nmB v)).head?=some 39/\nuR (nmB v)=v:=by
 (have e:((v.toNat:Nat):Int)=v:=by omega);have a:=zff (n:=v.toNat) tz1;have b:=zhT v.toNat tz1;have c:=zkZ (n:=v.toNat) tz1;rw[e] at a b c;exact ⟨a,b,c⟩
def TxIn (c:UInt8):Prop:=zcL c.toNat=true\/c=40\/c=41\/c=32\/c=45\/c=62\/c=42
theorem zkI:∀T:Ty,T.right=true->(∀c∈bl T.tx,TxIn c)/\∀c∈bl T.btx,TxIn c:=by
 refine Ty.ind fun T ih=>?_;intro hr;have hok:=zbW hr;have hp:=right_part hr
 have br:(∀c∈bl T.tx,TxIn c)->(∀c∈bl T.tx,TxIn c)/\∀c∈bl T.btx,TxIn c:=fun h=>by
  refine ⟨h,fun c hc=>?_⟩;unfold Ty.btx brB at hc;split at hc
  ·rw[zaj,zaj] at hc
   rcases List.mem_append.1 hc with hc | hc
   ·rcases List.mem_append.1 hc with hc | hc
    ·obtain rfl:c=40:=by simpa [bl,bLp] using hc
     exact .inr (.inl rfl)
    exact h c hc
   (obtain rfl:c=41:=by simpa [bl,bRp] using hc);exact .inr (.inr (.inl rfl))
  exact h c hc
 refine br ?_
 by_cases h1:T.k=1
 ·have hv:=right_var hr h1
  (have e0:T.tx=nmB T.n:=by rw[T.tx_eq,if_pos h1]);rw[e0];exact fun c hc=>.inl ((zcf hv.1 hv.2).1 c hc)
 by_cases h2:T.k=2
 ·have e0:T.tx=zgi:=by rw[T.tx_eq,if_neg h1,if_pos h2];rfl
  rw[e0];exact fun c hc=>.inl (zlp c hc)
 by_cases h3:T.k=3
 ·have e0:T.tx=zca:=by rw[T.tx_eq,if_neg h1,if_neg h2,if_pos h3];rfl
  rw[e0];exact fun c hc=>.inl (zhD c hc)
 by_cases h4:T.k=4
 ·obtain ⟨a,b,hps⟩:=zbh hr h4
  have ha:=ih a (by rw[hps];simp) (hp a (by rw[hps];simp));have hb:=ih b (by rw[hps];simp) (hp b (by rw[hps];simp));(have e2:T=.mk 4 0 [a,b]:=by rw[zch T,h4,show T.n=0 by omega,hps]);(have e0:T.tx=a.btx++bAr++b.tx:=by rw[e2];rfl);rw[e0,zaj,zaj];intro c hc;rcases List.mem_append.1 hc with hc | hc
  ·rcases List.mem_append.1 hc with hc | hc
   (·exact ha.2 c hc);(have hc:c=32\/c=45\/c=62\/c=32:=by simpa [bl,bAr] using hc);unfold TxIn;rcases hc with h | h | h | h <;> simp[h]
  exact hb.1 c hc
 have e0:T.tx=bLp++zbv (T.ps.map Ty.btx) bSt++bRp:=by rw[T.tx_eq,if_neg h1,if_neg h2,if_neg h3,if_neg h4]
 have hj:∀ps:List Ty,(∀p∈ps,∀c∈bl p.btx,TxIn c)->∀c∈bl (jt ps),TxIn c:=by
  intro ps
  induction ps with
  | nil=>intro _ c hc;cases hc
  | cons p ps ihp =>
   intro h c hc;rw[jt,zaj,zaj] at hc;rcases List.mem_append.1 hc with hc | hc
   ·have hc:c=32\/c=42\/c=32:=by simpa [bl,bSt] using hc
    unfold TxIn;rcases hc with h | h | h <;> simp[h]
   (rcases List.mem_append.1 hc with hc | hc);(·exact h p tz4 c hc);exact ihp (fun q hq=>h q (by simp[hq])) c hc
 rw[e0,zaj,zaj];intro c hc;rcases List.mem_append.1 hc with hc | hc
 ·rcases List.mem_append.1 hc with hc | hc
  ·obtain rfl:c=40:=by simpa [bl,bLp] using hc
   exact .inr (.inl rfl)
  cases hps:T.ps with
  | nil=>rw[hps,zu] at hok;omega
  | cons q qs =>
   rw[hps,zfW,zaj] at hc;(have hq:∀p∈q::qs,∀c∈bl p.btx,TxIn c:=fun p hpm=>by rw[<- hps] at hpm;exact (ih p hpm (hp p hpm)).2);(rcases List.mem_append.1 hc with hc | hc);(·exact hq q tz4 c hc);exact hj qs (fun p hp2=>hq p (by simp[hp2])) c hc
 (obtain rfl:c=41:=by simpa [bl,bRp] using hc);exact .inr (.inr (.inl rfl))
theorem zlc {c:UInt8} (h:TxIn c):c≠46:=by
 rintro rfl;(rcases h with h | h | h | h | h | h | h);(·cases h);all_goals exact absurd h tz3
theorem zht {l:List Int} (h:∀v∈l,0<=v/\v<1073741824):∀c∈bl (jnB l),zcL c.toNat=true\/c=32:=by
 intro c hc
 cases hl:l with
 | nil=>rw[hl] at hc;cases hc
 | cons v m =>
  (have h2:c∈nmL l:=by rw[<- zlR l (by rw[hl];simp)];exact List.mem_append_left _ hc);obtain ⟨v,hv,hcv⟩:=List.mem_flatMap.1 h2;(rcases List.mem_append.1 hcv with h3 | h3);(·exact .inl ((zcf (h v hv).1 (h v hv).2).1 c h3));exact .inr (by simpa using h3)
theorem zk6 {c:UInt8} (h:zcL c.toNat=true\/c=32):c≠46:=by
 rintro rfl;(rcases h with h | h);(·cases h);exact absurd h tz3
theorem pwIn_sp {c:UInt8} (h:zcL c.toNat=true):Lib.isSp c=false/\c.toNat<128:=by
 unfold zcL at h;rw[zg] at h;constructor
 ·unfold Lib.isSp
  (have e:∀d:UInt8,c.toNat≠d.toNat->(c==d)=false:=fun d hd=>by rw[beq_eq_false_iff_ne];rintro rfl;exact hd rfl);rw[e 9 (by show c.toNat≠9;omega),e 10 (by show c.toNat≠10;omega),e 11 (by show c.toNat≠11;omega),e 12 (by show c.toNat≠12;omega),e 13 (by show c.toNat≠13;omega),e 32 (by show c.toNat≠32;omega)];rfl
 omega
theorem zfq {x:List UInt8} (h:∀c∈x,Lib.isSp c=false):∀(cur r:List UInt8),Lib.fieldsGo cur (x++r)=Lib.fieldsGo (cur++x) r:=by
 induction x with
 | nil=>intro cur r;simp
 | cons c x ih =>
  intro cur r;rw[zt,Lib.fieldsGo_more _ _ _ (h c tz4),ih (fun y hy=>h y (by simp[hy]))];simp
theorem zic:∀l:List Int,(∀v∈l,0<=v/\v<1073741824)->Lib.fieldsGo [] (bl (jnB l))=l.map fun v=>bl (nmB v)
 | [],_=>rfl
 | v::l,h=>by
  have hk:=zcf (h v tz4).1 (h v tz4).2;(have hs:∀c∈bl (nmB v),Lib.isSp c=false:=fun c hc=>(pwIn_sp (hk.1 c hc)).1);have hne:bl (nmB v)≠[]:=fun e=>by have:=hk.2.1;rw[e] at this;cases this
  cases l with
  | nil =>
   have:=zfq hs [] [];rw[List.append_nil] at this;(show Lib.fieldsGo [] (bl (nmB v))=_);rw[this];simp only[zD,Lib.fieldsGo]
   rw[if_neg (by simpa using hne)];rfl
  | cons w l =>
   (have ih:=zic (w::l) fun x hx=>h x (by simp[hx]));rw[zhC,zaj,zaj,bl_bSp,zfq hs,zD,List.singleton_append,Lib.fieldsGo_end _ _ _ tz3 hne,ih];rfl
def zbS (s:ByteArray):ByteArray×ByteArray:=if (Lib.cut (bl s) [46,32]).2.2=true then (⟨(Lib.cut (bl s) [46,32]).1.toArray⟩,⟨(Lib.cut (bl s) [46,32]).2.1.toArray⟩) else (ByteArray.empty,s)
def zhV (s:ByteArray):List ByteArray:=(Lib.fieldsD (bl s)).map fun x=>⟨x.toArray⟩
def spVs (s:ByteArray):List Int:=(zhV (zbS s).1).map zbV
def spS (s:ByteArray):Sch:=⟨spVs s,(zbz (zbS s).2).1⟩
def Sch.ptxt (c:Sch):ByteArray:=if 0<c.vs.length then jnB c.vs++⟨#[46,32]⟩++c.t.ptx else c.t.ptx
theorem occ_no {l:List UInt8} (h:∀c∈l,c≠46) (i:Nat):Lib.occAt l [46,32] i=false:=by
 unfold Lib.occAt;rw[Bool.eq_false_iff];intro h9;rw[List.isPrefixOf_iff_prefix] at h9;have h1:(46:UInt8)∈l.drop i:=h9.subset tz4;exact h 46 (List.mem_of_mem_drop h1) rfl
theorem cut_none {l:List UInt8} (h:∀c∈l,c≠46):Lib.cut l [46,32]=(l,[],false):=by
 unfold Lib.cut;rw[Lib.index_none fun j _=>occ_no h j,if_neg tz3]
theorem cut_at {x r:List UInt8} (h:∀c∈x,c≠46):Lib.cut (x++([46,32]++r)) [46,32]=(x,r,true):=by
 have hi:Lib.index (x++([46,32]++r)) [46,32]=x.length:=by
  refine Lib.index_first tz4 ?_ fun j hj=>?_
  ·unfold Lib.occAt
   rw[List.drop_left',List.isPrefixOf_iff_prefix];(·exact ⟨r,rfl⟩);rfl
  unfold Lib.occAt;rw[List.drop_append_of_le_length tz1,Bool.eq_false_iff];intro h9;rw[List.isPrefixOf_iff_prefix] at h9;have hd:x.drop j=x[j]::x.drop (j+1):=List.drop_eq_getElem_cons hj;rw[hd,zt] at h9;obtain ⟨t,ht⟩:=h9;rw[zt] at ht;exact h _ (List.getElem_mem hj) (List.cons.inj ht).1.symm
 unfold Lib.cut;rw[hi,if_pos tz1];simp
theorem mkL (s:ByteArray):(⟨(bl s).toArray⟩:ByteArray)=s:=zb5 rfl
section
variable {c:Sch}
theorem spCut_txt (h:c.ok=true):zbS c.txt=(jnB c.vs,c.t.tx):=by
 have hr:=(Sch.ok_iff.1 h).1;(have hv:∀v∈c.vs,0<=v/\v<1073741824:=fun v hm=>Sch.vs_known h hm);unfold zbS Sch.txt
 by_cases hn:c.vs=[]
 (·rw[if_pos hn,cut_none fun x hx=>zlc ((zkI c.t hr).1 x hx),if_neg tz4,hn];rfl);(have e:bl (jnB c.vs++(bDs++c.t.tx))=bl (jnB c.vs)++([46,32]++bl c.t.tx):=by rw[zaj,zaj,bl_bDs]);rw[if_neg hn,e,cut_at fun x hx=>zk6 (zht hv x hx),if_pos rfl,mkL,mkL]
theorem spVs_jn {l:List Int} (hv:∀v∈l,0<=v/\v<1073741824):(zhV (jnB l)).map zbV=l:=by
 have ha:∀b∈bl (jnB l),b.toNat<128:=fun b hb=>by
  (rcases zht hv b hb with h | rfl);(·exact (pwIn_sp h).2);decide
 unfold zhV;rw[Lib.fieldsD_ascii _ ha];unfold Lib.fields;rw[zic l hv,List.map_map,List.map_map]
 have:l.map ((zbV ∘ fun x:List UInt8=>(⟨x.toArray⟩:ByteArray)) ∘ fun v=>bl (nmB v))=l.map id:=List.map_congr_left fun v hm=>by
  simp only[Function.comp,mkL,id];unfold zbV;rw[(zcf (hv v hm).1 (hv v hm).2).2.2,if_pos (hv v hm).1]
 rw[this,List.map_id]
theorem zjO (h:c.ok=true):spS c.txt=c/\(zbz (zbS c.txt).2).2=0:=by
 have hr:=(Sch.ok_iff.1 h).1;(have hv:∀v∈c.vs,0<=v/\v<1073741824:=fun v hm=>Sch.vs_known h hm);have h1:=pw_tx hr;have g1:=zdT (s:=c.t.tx) (by rw[h1];exact ⟨rfl,rfl,zhO hr⟩);have e:=spCut_txt h;constructor
 ·unfold spS spVs
  rw[e];(simp only);rw[spVs_jn hv,g1,h1]
 rw[e];(simp only);rw[g1]
theorem zkX (h:c.ok=true):c.ptxt=c.txt:=by
 have hr:=(Sch.ok_iff.1 h).1;unfold Sch.ptxt Sch.txt;rw[zhO hr]
 by_cases hn:c.vs=[]
 (·rw[if_pos hn,hn,if_neg tz4]);rw[if_neg hn,if_pos (List.length_pos_iff.2 hn)];exact zbs _ _ _
end
abbrev zgB (s:ByteArray):Prop:=(zbz (zbS s).2).2=0/\(zaq (spS s)).ptxt=s/\(zaq (spS s)).vs=(spS s).vs/\(zaq (spS s)).t.same (spS s).t=true
def dotF (s:ByteArray):Nat->Nat->Nat
 | 0,_=>0
 | f+1,i=>if i+1<s.size then (if bt s i=46/\bt s (i+1)=32 then i+2 else dotF s f (i+1)) else 0
def dotN (s:ByteArray):Nat:=dotF s s.size 0
def ahK (s:ByteArray) (a:Nat) (nm:ByteArray) (k:Nat):Bool:=decide (k+nm.size<a)&&(eqS (s.extract k (k+nm.size)) nm&&decide (bt s (k+nm.size)=32\/bt s (k+nm.size)=46))
def ahB (s:ByteArray) (a:Nat) (nm:ByteArray):Bool:=(List.range a).any fun k=>ahK s a nm k
def rcT (s:ByteArray):Ty×Bool:=zbF (s.extract (dotN s) s.size)
def rcS (s:ByteArray):Sch:=⟨((rcT s).1.rvars []).filter fun v=>ahB s (dotN s) (nmB v),(rcT s).1⟩
abbrev zgM (s:ByteArray):Prop:=(rcT s).2=true/\(rcS s).txt=s/\(rcS s).ok=true/\(zaq (rcS s)).vs=(rcS s).vs/\(zaq (rcS s)).t.same (rcS s).t=true
theorem zi5 {s:ByteArray}:∀f i,(∀j,i<=j->j+1<s.size->¬(bt s j=46/\bt s (j+1)=32))->dotF s f i=0
 | 0,_,_=>rfl
 | f+1,i,h=>by
  rw[dotF];split
  ·rename_i hi
   rw[if_neg (h i tz1 hi)];exact zi5 f (i+1) fun j hj=>h j tz1
  rfl
theorem dotF_at {s:ByteArray} {n:Nat} (hn:n+1<s.size) (h1:bt s n=46/\bt s (n+1)=32):∀f i,i<=n->n-i<f->(∀j,i<=j->j<n->¬(bt s j=46/\bt s (j+1)=32))->dotF s f i=n+2
 | 0,_,_,h,_=>by omega
 | f+1,i,hi,hf,h=>by
  rw[dotF,if_pos tz1]
  by_cases he:i=n
  (·subst he;rw[if_pos h1]);rw[if_neg (h i tz1 tz1)];exact dotF_at hn h1 f (i+1) tz1 tz1 fun j hj=>h j tz1
theorem bt_mem {s:ByteArray} {j:Nat} (h:j<s.size):∃c∈bl s,(bl s)[j]?=some c/\bt s j=c.toNat:=by
 have h1:(bl s)[j]?=some ((bl s)[j]'(by rw[zan];exact h)):=zb _;exact ⟨_,List.getElem_mem _,h1,zcA h1⟩
theorem nm_inj {v w:Int} (hv:0<=v/\v<1073741824) (hw:0<=w/\w<1073741824) (h:nmB v=nmB w):v=w:=by
 have h1:=(zcf hv.1 hv.2).2.2;rw[h,(zcf hw.1 hw.2).2.2] at h1;exact h1.symm
theorem zka:∀(l:List Int),(∀v∈l,0<=v/\v<1073741824)->∀(x:List UInt8) (e:UInt8) (P S R:List UInt8),(∀c∈x,zcL c.toNat=true)->x.head?=some 39->(e=32\/e=46)->P++(x++e::S)=nmL l++R->P.length+x.length<(nmL l).length->∃v∈l,x=bl (nmB v)
 | [],_,x,e,P,S,R,_,_,_,_,hl=>by simp[nmL] at hl
 | v::l,hk,x,e,P,S,R,hx,hh,he,hE,hl=>by
  have hv:=zcf (hk v tz4).1 (hk v tz4).2;(have e1:nmL (v::l)=bl (nmB v)++(32::nmL l):=by simp[nmL]);(have he2:zcL e.toNat=false:=by rcases he with rfl | rfl <;> rfl);rw[e1,List.append_assoc,zt] at hE;rw[e1,zd,zx] at hl
  have htw:∀(a b:List UInt8) (c d:UInt8) (r t:List UInt8),(∀y∈a,zcL y.toNat=true)->(∀y∈b,zcL y.toNat=true)->zcL c.toNat=false->zcL d.toNat=false->a++c::r=b++d::t->a=b:=by
   intro a
   induction a with
   | nil =>
    intro b c d r t _ hb hc hd h
    cases b with
    | nil=>rfl
    | cons y b =>
     rw[zD,zt] at h;have:=(List.cons.inj h).1
     rw[this,hb y tz4] at hc;cases hc
   | cons z a iha =>
    intro b c d r t ha hb hc hd h
    cases b with
    | nil =>
     rw[zt,zD] at h;have:=(List.cons.inj h).1
     rw[<- this,ha z tz4] at hd;cases hd
    | cons y b =>
     rw[zt,zt] at h;obtain ⟨h1,h2⟩:=List.cons.inj h;rw[h1,iha b c d r t (fun w hw=>ha w (by simp[hw])) (fun w hw=>hb w (by simp[hw])) hc hd h2]
  by_cases hP:P.length<=(bl (nmB v)).length
  ·-- it begins in the first name
   obtain ⟨Q,hQ⟩:∃Q,bl (nmB v)=P++Q:=by
    have:=List.append_eq_append_iff.1 hE;(rcases this with ⟨a,g1,g2⟩ | ⟨a,g1,g2⟩);(·exact ⟨a,g1⟩);have hlen:=congrArg List.length g1;rw[zd] at hlen;have:a=[]:=zL tz1;subst this;exact ⟨[],by rw[List.append_nil] at g1 ⊢;exact g1.symm⟩
   rw[hQ,List.append_assoc] at hE;have hE2:=List.append_cancel_left hE;(have hQin:∀y∈Q,zcL y.toNat=true:=fun y hy=>hv.1 y (by rw[hQ];exact List.mem_append_right _ hy));have hxQ:=htw x Q e 32 S (nmL l++R) hx hQin he2 tz3 hE2
   -- a quote stands only ahead of a name
   cases P with
   | nil=>exact ⟨v,by simp,by rw[hQ,<- hxQ];rfl⟩
   | cons p P =>
    exfalso
    have hq:(39:UInt8)∈P++Q:=by
     rw[<- hxQ];refine List.mem_append_right _ ?_
     cases x with
     | nil=>cases hh
     | cons y x =>
      (have:y=39:=by simpa using hh);rw[this];simp
    -- behind the first byte of a name there is no quote
    have hno:∀(n:Nat),n<1073741824->∀c r,bl (nmB (n:Int))=c::r->(39:UInt8)∉r:=by
     intro n hn c r hb hm
     by_cases h9:n<26
     ·rw[zds h9] at hb
      obtain ⟨_,rfl⟩:=List.cons.inj hb;(have h3:(39:UInt8)=UInt8.ofNat (97+n):=by simpa using hm);have h4:=congrArg UInt8.toNat h3;(have e5:(UInt8.ofNat (97+n)).toNat=97+n:=by simp;omega);rw[e5] at h4;have:(39:UInt8).toNat=39:=rfl;omega
     rw[zdv h9] at hb;obtain ⟨_,rfl⟩:=List.cons.inj hb;rcases zK.1 hm with h3 | h3
     ·have h4:=congrArg UInt8.toNat h3
      (have e5:(UInt8.ofNat (97+n % 26)).toNat=97+n % 26:=by simp;omega);rw[e5] at h4;have:(39:UInt8).toNat=39:=rfl;omega
     have:=zd6 _ 39 h3;exact absurd this.1 tz3
    (have hvn:((v.toNat:Nat):Int)=v:=by have:=hk v tz4;omega);have:=hno v.toNat (by have:=hk v tz4;omega) p (P++Q) (by rw[hvn,hQ];rfl);exact this hq
  -- it begins behind
  obtain ⟨P',hP'⟩:∃P',P=bl (nmB v)++32::P':=by
   have:=List.append_eq_append_iff.1 hE;rcases this with ⟨a,g1,g2⟩ | ⟨a,g1,g2⟩
   ·have hlen:=congrArg List.length g1
    rw[zd] at hlen;omega
   cases a with
   | nil =>
    rw[List.append_nil] at g1
    rw[g1] at hP;omega
   | cons y a =>
    rw[zt] at g2;obtain ⟨rfl,_⟩:=List.cons.inj g2;exact ⟨a,g1⟩
  rw[hP',List.append_assoc,zt] at hE;have hE2:=(List.cons.inj (List.append_cancel_left hE)).2;rw[hP',zd,zx] at hl;obtain ⟨w,hw,e⟩:=zka l (fun y hy=>hk y (by simp[hy])) x e P' S R hx hh he hE2 tz1;exact ⟨w,by simp[hw],e⟩
section
variable {c:Sch}
theorem txt_bl (h:c.vs≠[]):bl c.txt++[]=bl (jnB c.vs)++46::(32::bl c.t.tx):=by
 unfold Sch.txt;rw[if_neg h,zaj,zaj,bl_bDs];simp
theorem zkR (h:c.ok=true):dotN c.txt=if c.vs=[] then 0 else (jnB c.vs).size+2:=by
 have hr:=(Sch.ok_iff.1 h).1;(have hv:∀v∈c.vs,0<=v/\v<1073741824:=fun v hm=>Sch.vs_known h hm);unfold dotN
 by_cases hn:c.vs=[]
 ·rw[if_pos hn]
  refine zi5 _ _ fun j _ hj hh=>?_;obtain ⟨x,hx,_,e⟩:=bt_mem (s:=c.txt) (j:=j) tz1;(have e2:c.txt=c.t.tx:=by unfold Sch.txt;rw[if_pos hn]);rw[e2] at hx;exact zlc ((zkI c.t hr).1 x hx) (UInt8.toNat_inj.1 (by show x.toNat=46;omega))
 rw[if_neg hn];have hb:=txt_bl hn;rw[List.append_nil] at hb;have h1:=zjU (P:=bl (jnB c.vs)) (c:=46) (S:=32::bl c.t.tx) hb;have h2:=zjU (s:=c.txt) (P:=bl (jnB c.vs)++[46]) (c:=32) (S:=bl c.t.tx) (by rw[hb];simp);simp only[zd,zx,zu,zan] at h1 h2;refine dotF_at tz1 ⟨h1.2,h2.2⟩ _ _ tz1 tz1 fun j _ hj hh=>?_
 have h3:(bl c.txt)[j]?=some ((bl (jnB c.vs))[j]'(by rw[zan];exact hj)):=by
  rw[hb,zr (by rw[zan];exact hj)];exact zb _
 have h4:=zcA h3
 exact zk6 (zht hv _ (List.getElem_mem _)) (UInt8.toNat_inj.1 (by
  show ((bl (jnB c.vs))[j]'(by rw[zan];exact hj)).toNat=46
  omega))
theorem rcT_txt (h:c.ok=true):rcT c.txt=(c.t,true):=by
 have hr:=(Sch.ok_iff.1 h).1
 have e:c.txt.extract (dotN c.txt) c.txt.size=c.t.tx:=by
  rw[zkR h];unfold Sch.txt
  by_cases hn:c.vs=[]
  (·rw[if_pos hn,if_pos hn];exact ex_all _);rw[if_neg hn,if_neg hn,<- zbs];have:=zfg (jnB c.vs++bDs) c.t.tx
  rwa [ByteArray.size_append,show bDs.size=2 from rfl] at this
 unfold rcT;rw[e];have h2:=tr_tx hr;rw[zfr (s:=c.t.tx) (by rw[h2];exact ⟨rfl,hr,rfl⟩),h2]
theorem zk3 {α:Type} (A B C:List α) (m:Nat):(A++(B++C)).take (A.length+B.length+m)=A++(B++C.take m):=by
 rw[Nat.add_assoc,List.take_length_add_append,List.take_length_add_append]
theorem nmL_app (l m:List Int):nmL (l++m)=nmL l++nmL m:=by simp[nmL]
theorem ahB_txt (h:c.ok=true) {v:Int} (hv:0<=v/\v<1073741824):ahB c.txt (dotN c.txt) (nmB v)=decide (v∈c.vs):=by
 (have hk:∀v∈c.vs,0<=v/\v<1073741824:=fun v hm=>Sch.vs_known h hm);have hnv:=zcf hv.1 hv.2;rw[zkR h]
 by_cases hn:c.vs=[]
 (·rw[if_pos hn,hn];rfl);rw[if_neg hn];have hb:=txt_bl hn;rw[List.append_nil] at hb;have hj:=zlR c.vs hn;have hjl:(nmL c.vs).length=(jnB c.vs).size+1:=by rw[<- hj,zd,zan];rfl
 -- the text with the dot read as a blank
 rw[zM,zg];unfold ahB;rw[List.any_eq_true];constructor
 ·rintro ⟨k,hkr,hkk⟩
  unfold ahK at hkk;simp only[zl,zg] at hkk;obtain ⟨h1,h2,h3⟩:=hkk;have h2:=zbe.1 h2
  -- the bytes at k
  (have hsz:c.txt.size=(jnB c.vs).size+2+c.t.tx.size:=by rw[<- zan,hb];simp[zan];omega);obtain ⟨e,he0,he1,he2⟩:=bt_mem (s:=c.txt) (j:=k+(nmB v).size) tz1
  have he:e=32\/e=46:=by
   (rcases h3 with h3 | h3);(·exact .inl (UInt8.toNat_inj.1 (by show e.toNat=32;omega)));exact .inr (UInt8.toNat_inj.1 (by show e.toNat=46;omega))
  have hsp:bl c.txt=(bl c.txt).take k++(bl (nmB v)++e::(bl c.txt).drop (k+(nmB v).size+1)):=by
   have g1:bl (c.txt.extract k (k+(nmB v).size))=((bl c.txt).drop k).take (nmB v).size:=by
    simp only[bl,ByteArray.data_extract,Array.toList_extract,List.extract_eq_take_drop];rw[show k+(nmB v).size-k=(nmB v).size by omega]
   rw[h2] at g1
   have g2:(bl c.txt).drop (k+(nmB v).size)=e::(bl c.txt).drop (k+(nmB v).size+1):=by
    (have hl:k+(nmB v).size<(bl c.txt).length:=by rw[zan];omega);rw[List.drop_eq_getElem_cons hl];(congr 1);rw[zb hl] at he1;exact Option.some.inj he1
   rw[<- g2,g1,<- List.drop_drop,List.take_append_drop,List.take_append_drop]
  have hlk:((bl c.txt).take k).length=k:=by rw[List.length_take,zan];omega
  -- what stands ahead of the dot
  by_cases hlt:k+(nmB v).size<(jnB c.vs).size
  ·-- behind it goes a byte of the names
   obtain ⟨S,hS⟩:∃S,(bl c.txt).take k++(bl (nmB v)++e::S)=nmL c.vs++[]:=by
    refine ⟨((bl (jnB c.vs)).drop (k+(nmB v).size+1))++[32],?_⟩;rw[List.append_nil,<- hj];have e5:bl (jnB c.vs)=(bl c.txt).take (jnB c.vs).size:=by rw[hb,List.take_left' (zan _)]
    have e6:(bl c.txt).take (jnB c.vs).size=(bl c.txt).take k++(bl (nmB v)++e::((bl (jnB c.vs)).drop (k+(nmB v).size+1))):=by
     have e7:(bl (jnB c.vs)).drop (k+(nmB v).size+1)=((bl c.txt).drop (k+(nmB v).size+1)).take ((jnB c.vs).size-(k+(nmB v).size+1)):=by
      rw[e5,List.drop_take]
     have e8:=zk3 ((bl c.txt).take k) (bl (nmB v)) (e::(bl c.txt).drop (k+(nmB v).size+1)) (((jnB c.vs).size-(k+(nmB v).size+1))+1);rw[<- hsp,hlk,zan,show k+(nmB v).size+((jnB c.vs).size-(k+(nmB v).size+1)+1)=(jnB c.vs).size by omega,List.take_succ_cons] at e8;rw[e7];exact e8
    have e9:=congrArg (fun z=>z++[(32:UInt8)]) (e5.trans e6);refine Eq.trans ?_ e9.symm;simp
   obtain ⟨w,hw,ew⟩:=zka c.vs hk (bl (nmB v)) e _ S [] hnv.1 hnv.2.1 he hS (by rw[hlk,zan,hjl];omega);have:=nm_inj hv (hk w hw) (zb5 ew);rw[this];exact hw
  -- it is the last one
  have hk2:k+(nmB v).size=(jnB c.vs).size:=by
   (rcases zH (k+(nmB v).size) ((jnB c.vs).size+1) with g | g);(·omega);exfalso
   -- the name would end behind the dot: its last byte is the dot
   have g9:k+(nmB v).size=(jnB c.vs).size+1:=by omega
   have g0:0<(nmB v).size:=by
    rw[<- zan]
    cases hq:bl (nmB v) with
    | nil=>have:=hnv.2.1;rw[hq] at this;cases this
    | cons _ _=>simp
   have g1:(bl c.txt)[(jnB c.vs).size]?=some 46:=by rw[hb,zp (by rw[zan];omega),zan,Nat.sub_self];rfl
   have g2:(bl c.txt)[(jnB c.vs).size]?=(bl (nmB v))[(nmB v).size-1]?:=by
    rw[hsp,zp (by rw[hlk];omega),hlk,zr (by rw[zan];omega)];congr 1;omega
   rw[g1] at g2;have g3:=hnv.1 46 (zh g2.symm);cases g3
  have hS:(bl c.txt).take k++(bl (nmB v)++32::[])=nmL c.vs++[]:=by
   rw[List.append_nil,<- hj,<- List.append_assoc];(congr 1);(have e5:bl (jnB c.vs)=(bl c.txt).take (jnB c.vs).size:=by rw[hb,List.take_left' (zan _)]);have e8:=zk3 ((bl c.txt).take k) (bl (nmB v)) (e::(bl c.txt).drop (k+(nmB v).size+1)) 0;rw[<- hsp,hlk,zan,show k+(nmB v).size+0=(jnB c.vs).size by omega,List.take_zero,List.append_nil] at e8;rw[e5];exact e8.symm
  obtain ⟨w,hw,ew⟩:=zka c.vs hk (bl (nmB v)) 32 _ [] [] hnv.1 hnv.2.1 (.inl rfl) hS (by rw[hlk,zan,hjl];omega);have:=nm_inj hv (hk w hw) (zb5 ew);rw[this];exact hw
 intro hm;obtain ⟨a,b,hab⟩:=List.append_of_mem hm;have hnl:nmL c.vs=nmL a++(bl (nmB v)++32::nmL b):=by rw[hab,nmL_app];simp[nmL]
 have hlen:(nmL a).length+(nmB v).size+1+(nmL b).length=(jnB c.vs).size+1:=by
  rw[<- hjl,hnl];simp only[zd,zx,zan];omega
 refine ⟨(nmL a).length,List.mem_range.2 tz1,?_⟩
 -- the text
 have ht:∃e S,bl c.txt=nmL a++(bl (nmB v)++e::S)/\(e=32\/e=46):=by
  have h5:bl (jnB c.vs)++[32]=nmL a++(bl (nmB v)++32::nmL b):=hj.trans hnl;rcases List.eq_nil_or_concat (nmL b) with hbn | ⟨S,x,hbS⟩
  ·rw[hbn] at h5
   have h6:bl (jnB c.vs)=nmL a++bl (nmB v):=by
    (have:bl (jnB c.vs)++[32]=(nmL a++bl (nmB v))++[32]:=by rw[h5];simp);exact List.append_cancel_right this
   exact ⟨46,32::bl c.t.tx,by rw[hb,h6];simp,.inr rfl⟩
  rw[List.concat_eq_append] at hbS;rw[hbS] at h5
  have h6:bl (jnB c.vs)=nmL a++(bl (nmB v)++32::S):=by
   (have h7:bl (jnB c.vs)++[32]=(nmL a++(bl (nmB v)++32::S))++[x]:=by rw[h5];simp);exact (List.append_inj' h7 rfl).1
  exact ⟨32,S++46::(32::bl c.t.tx),by rw[hb,h6];simp,.inl rfl⟩
 obtain ⟨e,S,ht,he⟩:=ht;have h8:=zix ht;rw[zan] at h8;have h9:=(zjU (s:=c.txt) (P:=nmL a++bl (nmB v)) (c:=e) (S:=S) (by rw[ht];simp)).2;simp only[zd,zan] at h9;unfold ahK;rw[h8,mkL,zbe.2 rfl,h9,decide_eq_true tz1,decide_eq_true (by rcases he with rfl | rfl;exact .inl rfl;exact .inr rfl)];rfl
theorem rcS_txt (h:c.ok=true):rcS c.txt=c:=by
 have hr:=(Sch.ok_iff.1 h).1;unfold rcS;rw[rcT_txt h]
 have e:(c.t.rvars []).filter (fun v=>ahB c.txt (dotN c.txt) (nmB v))=c.vs:=by
  have h1:=(Sch.ok_iff.1 h).2;refine Eq.trans ?_ h1.symm;exact List.filter_congr fun v hv=>ahB_txt h (zfy c.t hr v hv)
 simp only[e]
end
theorem same_eq {a b:Sch} (h1:a.vs=b.vs) (h2:a.t.same b.t=true):a=b:=by
 have h3:=(Ty.same_iff _ _).1 h2;(cases a;cases b);(simp only at h1 h3);rw[h1,h3]
theorem zgY (s:ByteArray):zgB s↔∃c:Sch,c.ok=true/\zaq c=c/\c.txt=s:=by
 constructor
 ·rintro ⟨h1,h2,h3,h4⟩
  have he:=same_eq h3 h4
  have hr:(spS s).t.right=true:=by
   have g:=h1;unfold spS;simp only
   by_cases hy:(pwF ((zbS s).2.size+1) (zbS s).2).2.2=false/\(pwF ((zbS s).2.size+1) (zbS s).2).2.1=ByteArray.empty/\(pwF ((zbS s).2.size+1) (zbS s).2).1.ptx=(zbS s).2
   ·rw[zdT hy]
    simp only
    cases hrr:(pwF ((zbS s).2.size+1) (zbS s).2).1.right with
    | true=>rfl
    | false =>
     exfalso;obtain ⟨a1,a2,a3⟩:=hy;rw[ptx_no hrr] at a3;rw[<- a3] at a1
     revert a1
     decide +kernel
   rw[zdo hy] at g;cases g
  have hok:(spS s).ok=true:=by
   cases hb:(spS s).ok with
   | true=>rfl
   | false =>
    exfalso;(have:zaq (spS s)=zSch:=by unfold zaq;rw[if_neg (by simp[hb])]);rw[this] at he;rw[<- he] at hr
    revert hr;decide
  rw[he] at h2;exact ⟨spS s,hok,he,(zkX hok).symm.trans h2⟩
 rintro ⟨c,h1,h2,rfl⟩;obtain ⟨g1,g2⟩:=zjO h1;refine ⟨g2,?_,?_,?_⟩;(·rw[g1,h2,zkX h1]);(·rw[g1,h2]);rw[g1,h2];exact Ty.same_refl _
theorem zgF (s:ByteArray):zgM s↔∃c:Sch,c.ok=true/\zaq c=c/\c.txt=s:=by
 constructor
 ·rintro ⟨h1,h2,h3,h4,h5⟩
  exact ⟨rcS s,h3,same_eq h4 h5,h2⟩
 rintro ⟨c,h1,h2,rfl⟩;have g:=rcS_txt h1;refine ⟨by rw[rcT_txt h1],by rw[g],by rw[g];exact h1,by rw[g,h2],by rw[g,h2];exact Ty.same_refl _⟩
theorem zlO {s:ByteArray} (h:zgB s):zgM s/\spS s=rcS s/\(spS s).ok=true:=by
 obtain ⟨c,h1,h2,rfl⟩:=(zgY s).1 h;exact ⟨(zgF _).2 ⟨c,h1,h2,rfl⟩,by rw[(zjO h1).1,rcS_txt h1],by rw[(zjO h1).1];exact h1⟩
end Go.Proofs.YtkokfdmggdhfmaaGreatDoor
namespace Go.Proofs.YtkokfdmggdhfmaaGreatDoor
open Go Go.Shelf
def Tryz.lays102_ren:Go.Shelf.Ren:=⟨fun | 102=>54 | 209=>101 | 207=>145 | n=>n,fun | 9=>9 | 4=>4 | 3=>3 | n=>n,fun | n=>n⟩
theorem Tryz.lays102:Go.Proofs.Lays.n102 Tryz.prog Tryz.lays102_ren:={
 mixed:=by kernel_rfl
 f102:=Tryz.func54.trans (congrArg some tz0)
 f207:=Tryz.func145.trans (congrArg some tz0)
 f209:=Tryz.func101.trans (congrArg some tz0)
 t3:=Tryz.underlying3
 a3:=Tryz.isAgg3
 z3:=Tryz.sizeOf3
 v3:=Tryz.zeroValue3
 t4:=Tryz.underlying4
 a4:=Tryz.isAgg4
 z4:=Tryz.sizeOf4
 v4:=Tryz.zeroValue4
 t9:=Tryz.underlying9
 a9:=Tryz.isAgg9
 z9:=Tryz.sizeOf9
 v9:=Tryz.zeroValue9}
open Go.RowKit Go.Lib in
theorem Tryz.strings_TrimSuffix (s p:ByteArray) (w:World) (hs:s.size<=9223372036854775807) :
  Calls Tryz.prog 54 #[.string s,.string p] w fun e w'=>e=.returned (.string ⟨(Lib.trimSuffix s.data.toList p.data.toList).toArray⟩)/\w'=w:=Any.strings_TrimSuffix Tryz.lays102 s p w hs
def Tryz.lays145_ren:Go.Shelf.Ren:=⟨fun | 145=>40 | 220=>90 | 219=>134 | 217=>172 | 225=>173 | 224=>174 | 267=>175 | 266=>199 | 314=>200 | n=>n,fun | 9=>9 | 4=>4 | 59=>74 | 3=>3 | 5=>5 | 46=>205 | 146=>234 | 51=>176 | n=>n,fun | 1=>2 | n=>n⟩
theorem Tryz.lays145:Go.Proofs.Lays.n145 Tryz.prog Tryz.lays145_ren:={
 mixed:=by kernel_rfl
 f145:=Tryz.func40.trans (congrArg some tz0)
 f217:=Tryz.func172.trans (congrArg some tz0)
 f219:=Tryz.func134.trans (congrArg some tz0)
 f220:=Tryz.func90.trans (congrArg some tz0)
 f224:=Tryz.func174.trans (congrArg some tz0)
 f225:=Tryz.func173.trans (congrArg some tz0)
 f266:=Tryz.func199.trans (congrArg some tz0)
 f267:=Tryz.func175.trans (congrArg some tz0)
 f314:=Tryz.func200.trans (congrArg some tz0)
 t3:=Tryz.underlying3
 a3:=Tryz.isAgg3
 z3:=Tryz.sizeOf3
 v3:=Tryz.zeroValue3
 t4:=Tryz.underlying4
 a4:=Tryz.isAgg4
 z4:=Tryz.sizeOf4
 v4:=Tryz.zeroValue4
 t5:=Tryz.underlying5
 a5:=Tryz.isAgg5
 z5:=Tryz.sizeOf5
 v5:=Tryz.zeroValue5
 t9:=Tryz.underlying9
 a9:=Tryz.isAgg9
 z9:=Tryz.sizeOf9
 v9:=Tryz.zeroValue9
 t46:=Tryz.underlying205
 a46:=Tryz.isAgg205
 z46:=Tryz.sizeOf205
 v46:=Tryz.zeroValue205
 t51:=Tryz.underlying176
 a51:=Tryz.isAgg176
 z51:=Tryz.sizeOf176
 v51:=Tryz.zeroValue176
 t59:=Tryz.underlying74
 a59:=Tryz.isAgg74
 z59:=Tryz.sizeOf74
 v59:=Tryz.zeroValue74
 t146:=Tryz.underlying234
 a146:=Tryz.isAgg234
 z146:=Tryz.sizeOf234
 v146:=Tryz.zeroValue234
 g1:=by kernel_rfl}
open Go.RowKit Go.Lib in
theorem Tryz.strings_Cut (s sep:ByteArray) (m:Int) (w:World) (hs:s.size<4294967281) (hm:w.cell? ⟨2,0,none⟩=some (.int .i64 m)) :
  Calls Tryz.prog 40 #[.string s,.string sep] w fun e w'=>e=.returned (.tuple #[.string ⟨(Lib.cut s.data.toList sep.data.toList).1.toArray⟩,.string ⟨(Lib.cut s.data.toList sep.data.toList).2.1.toArray⟩,.bool (Lib.cut s.data.toList sep.data.toList).2.2])/\∃n,w'=w.drewN n:=Any.strings_Cut Tryz.lays145 s sep m w hs hm
def Tryz.lays157_ren:Go.Shelf.Ren:=⟨fun | 157=>41 | 229=>91 | 199=>92 | 261=>135 | 311=>176 | 312=>177 | n=>n,fun | 9=>9 | 31=>76 | 3=>3 | 5=>5 | 4=>4 | 119=>136 | 0=>0 | 40=>138 | 152=>173 | 21=>21 | 154=>175 | 51=>176 | 141=>178 | 196=>209 | 193=>206 | 198=>212 | 49=>210 | 194=>207 | 201=>215 | 226=>236 | 46=>205 | 227=>237 | n=>n,fun | 0=>0 | 6=>1 | n=>n⟩
theorem Tryz.lays157:Go.Proofs.Lays.n157 Tryz.prog Tryz.lays157_ren:={
 mixed:=by kernel_rfl
 f157:=Tryz.func41.trans (congrArg some tz0)
 f199:=Tryz.func92.trans (congrArg some tz0)
 f229:=Tryz.func91.trans (congrArg some tz0)
 f261:=Tryz.func135.trans (congrArg some tz0)
 f311:=Tryz.func176.trans (congrArg some tz0)
 f312:=Tryz.func177.trans (congrArg some tz0)
 t0:=Tryz.underlying0
 a0:=Tryz.isAgg0
 z0:=Tryz.sizeOf0
 v0:=Tryz.zeroValue0
 t3:=Tryz.underlying3
 a3:=Tryz.isAgg3
 z3:=Tryz.sizeOf3
 v3:=Tryz.zeroValue3
 t4:=Tryz.underlying4
 a4:=Tryz.isAgg4
 z4:=Tryz.sizeOf4
 v4:=Tryz.zeroValue4
 t5:=Tryz.underlying5
 a5:=Tryz.isAgg5
 z5:=Tryz.sizeOf5
 v5:=Tryz.zeroValue5
 t9:=Tryz.underlying9
 a9:=Tryz.isAgg9
 z9:=Tryz.sizeOf9
 v9:=Tryz.zeroValue9
 t21:=Tryz.underlying21
 a21:=Tryz.isAgg21
 z21:=Tryz.sizeOf21
 v21:=Tryz.zeroValue21
 t31:=Tryz.underlying76
 a31:=Tryz.isAgg76
 z31:=Tryz.sizeOf76
 v31:=Tryz.zeroValue76
 t40:=Tryz.underlying138
 a40:=Tryz.isAgg138
 z40:=Tryz.sizeOf138
 v40:=Tryz.zeroValue138
 t46:=Tryz.underlying205
 a46:=Tryz.isAgg205
 z46:=Tryz.sizeOf205
 v46:=Tryz.zeroValue205
 t49:=Tryz.underlying210
 a49:=Tryz.isAgg210
 z49:=Tryz.sizeOf210
 v49:=Tryz.zeroValue210
 t51:=Tryz.underlying176
 a51:=Tryz.isAgg176
 z51:=Tryz.sizeOf176
 v51:=Tryz.zeroValue176
 t119:=Tryz.underlying136
 a119:=Tryz.isAgg136
 z119:=Tryz.sizeOf136
 t141:=Tryz.underlying178
 a141:=Tryz.isAgg178
 z141:=Tryz.sizeOf178
 v141:=Tryz.zeroValue178
 t152:=Tryz.underlying173
 a152:=Tryz.isAgg173
 z152:=Tryz.sizeOf173
 v152:=Tryz.zeroValue173
 t154:=Tryz.underlying175
 a154:=Tryz.isAgg175
 z154:=Tryz.sizeOf175
 v154:=Tryz.zeroValue175
 t193:=Tryz.underlying206
 a193:=Tryz.isAgg206
 z193:=Tryz.sizeOf206
 v193:=Tryz.zeroValue206
 t194:=Tryz.underlying207
 a194:=Tryz.isAgg207
 z194:=Tryz.sizeOf207
 v194:=Tryz.zeroValue207
 t196:=Tryz.underlying209
 a196:=Tryz.isAgg209
 z196:=Tryz.sizeOf209
 v196:=Tryz.zeroValue209
 t198:=Tryz.underlying212
 a198:=Tryz.isAgg212
 z198:=Tryz.sizeOf212
 v198:=Tryz.zeroValue212
 t201:=Tryz.underlying215
 a201:=Tryz.isAgg215
 z201:=Tryz.sizeOf215
 v201:=Tryz.zeroValue215
 t226:=Tryz.underlying236
 a226:=Tryz.isAgg236
 z226:=Tryz.sizeOf236
 v226:=Tryz.zeroValue236
 t227:=Tryz.underlying237
 a227:=Tryz.isAgg237
 z227:=Tryz.sizeOf237
 v227:=Tryz.zeroValue237
 g0:=by kernel_rfl
 g6:=by kernel_rfl}
open Go.RowKit Go.Lib in
theorem Tryz.strings_Fields_any (s:ByteArray) (w:World) (hs:s.size<4294967281) (htab:Lib.TabIs Tryz.prog w "strings.asciiSpace" .u8 Lib.asciiSpaceTab) (hW:Lib.WhiteTab 1 w) :
  Calls Tryz.prog 41 #[.string s] w fun e w'=>∃A,e=.returned (.slice (some ⟨A,0,none⟩) (Lib.fieldsD s.data.toList).length (Lib.fieldsD s.data.toList).length)/\w.heap.size<=A /\
   w'.ownsRow w.heap.size 9 1 (.slice (some ⟨A,0,none⟩) (Lib.fieldsD s.data.toList).length (Lib.fieldsD s.data.toList).length) (Lib.fieldsD s.data.toList).length ((Lib.fieldsD s.data.toList).map fun x=>Value.string ⟨x.toArray⟩)/\Below w.heap.size w w':=Any.strings_Fields_any Tryz.lays157 tz0 tz0 tz0 s w hs htab hW
end Go.Proofs.YtkokfdmggdhfmaaGreatDoor
namespace Go.Proofs.YtkokfdmggdhfmaaGreatDoor
open Go Go.RowKit
attribute [local irreducible] aops zaK
theorem Trim_pure (s p:ByteArray) (hs:s.size<=1099511627776):APure Tryz.prog 54 [.v (.string s),.v (.string p)] (.v (.string ⟨(Lib.trimSuffix (bl s) (bl p)).toArray⟩)):=by
 refine APure.ofCalls ⟨_,Tryz.func54,by kernel_rfl,by kernel_rfl⟩ (.cons (.v _) (.cons (.v _) .nil)) (.v _) fun E A w vs hgl hA hr=>?_;obtain ⟨u,v,rfl,h1,h2⟩:=hr.two;(cases h1;cases h2);refine (Tryz.strings_TrimSuffix s p w tz1).mono ?_;rintro e w' ⟨rfl,rfl⟩;exact ⟨_,rfl,Below.refl _ _,.v _⟩
theorem rp_three {E:Env} {A:Nat->Nat->Prop} {w:World} (a b c:Value):Rp E A w (.tup [.v a,.v b,.v c]) (.tuple #[a,b,c]):=by
 refine .tup rfl fun i x u hc hu=>?_
 match i,hc,hu with
 | 0,hc,hu=>cases hc;cases hu;exact .v _
 | 1,hc,hu=>cases hc;cases hu;exact .v _
 | 2,hc,hu=>cases hc;cases hu;exact .v _
theorem zlr (a b c:Value):Data (.tup [.v a,.v b,.v c]):=.tup (.cons (.v _) (.cons (.v _) (.cons (.v _) .nil)))
theorem Cut_pure (s p:ByteArray) (hs:s.size<=1048576):APure Tryz.prog 40 [.v (.string s),.v (.string p)] (.tup [.v (.string ⟨(Lib.cut (bl s) (bl p)).1.toArray⟩),.v (.string ⟨(Lib.cut (bl s) (bl p)).2.1.toArray⟩),.v (.bool (Lib.cut (bl s) (bl p)).2.2)]):=by
 refine APure.ofCalls ⟨_,Tryz.func40,by kernel_rfl,by kernel_rfl⟩ (.cons (.v _) (.cons (.v _) .nil)) (zlr _ _ _) fun E A w vs hgl hA hr=>?_;obtain ⟨u,v,rfl,h1,h2⟩:=hr.two;(cases h1;cases h2);obtain ⟨m,hm⟩:=hgl.has gw_MaxLen;refine (Tryz.strings_Cut s p m w tz1 hm).mono ?_;rintro e w' ⟨rfl,n,rfl⟩;exact ⟨_,rfl,⟨rfl,rfl,rfl,zy _,fun _ _=>rfl⟩,rp_three _ _ _⟩
theorem fl_bnd:∀(f:Nat) (cur l:List UInt8),(Lib.fieldsGoD f cur l).length<=f+1/\∀x∈Lib.fieldsGoD f cur l,x.length<=cur.length+l.length
 | 0,cur,l=>by
  rw[Lib.fieldsGoD];split;·exact ⟨by simp,fun x hx=>by cases hx⟩
  exact ⟨by simp,fun x hx=>by obtain rfl:=List.mem_singleton.1 hx;omega⟩
 | f+1,cur,l=>by
  rw[Lib.fieldsGoD];split
  ·split
   (·exact ⟨by simp,fun x hx=>by cases hx⟩);exact ⟨by simp,fun x hx=>by obtain rfl:=List.mem_singleton.1 hx;omega⟩
  split
  ·have ih:=fl_bnd f [] (l.drop (Lib.decodeL l).2)
   (have hd:(l.drop (Lib.decodeL l).2).length<=l.length:=by rw[List.length_drop];omega);split;(·exact ⟨by rw[zD];omega,fun x hx=>by have:=ih.2 x (by simpa using hx);simp only[zu] at this;omega⟩);refine ⟨by rw[zd];simp only[zx,zu];omega,fun x hx=>?_⟩;(rcases List.mem_append.1 hx with hx | hx);(·obtain rfl:=List.mem_singleton.1 hx;omega);have:=ih.2 x hx;simp only[zu] at this;omega
  have ih:=fl_bnd f (cur++l.take (Lib.decodeL l).2) (l.drop (Lib.decodeL l).2);refine ⟨by omega,fun x hx=>?_⟩;have:=ih.2 x hx;(have e:(l.take (Lib.decodeL l).2).length+(l.drop (Lib.decodeL l).2).length=l.length:=by rw[List.length_take,List.length_drop];omega);rw[zd] at this;omega
theorem zg5 (s:ByteArray):(zhV s).length<=s.size+2/\∀x∈zhV s,x.size<=s.size:=by
 have h:=fl_bnd ((bl s).length+1) [] (bl s);unfold zhV Lib.fieldsD;rw[zi];rw[zan] at h ⊢;refine ⟨h.1,fun x hx=>?_⟩;obtain ⟨y,hy,rfl⟩:=zG.1 hx;have:=h.2 y hy;(show y.toArray.size<=_);simpa using this
theorem ziK (s:ByteArray) (hs:s.size<=1048576):APure Tryz.prog 41 [.v (.string s)] (.sl 1 ((zhV s).map zaf)):=by
 refine APure.ofCalls ⟨_,Tryz.func41,by kernel_rfl,by kernel_rfl⟩ (.cons (.v _) .nil) (zdY _) fun E A w vs hgl hA hr=>?_;obtain ⟨u,rfl,h1⟩:=hr.one;(cases h1);refine (Tryz.strings_Fields_any s w tz1 (hgl.tab gl_mem0 tz0 tz0) (hgl.has gw_white)).mono ?_;rintro e w' ⟨a,rfl,ha,ho,hb⟩;refine ⟨_,rfl,hb,?_⟩;have hc:=(World.ownsRowF_of ho).cells (g:=a) rfl;(have hn:(Lib.fieldsD s.data.toList).length=(zhV s).length:=by unfold zhV;rw[zi]);(have hmx:(zhV s).length<=maxLen:=by have:=(zg5 s).1;simp only[maxLen];omega);rw[hn];refine .sl (fun j=>((zhV s).map Value.string).getD j undef) (by rw[zi]) (zy _) hmx (fun x hx=>by obtain ⟨y,_,rfl⟩:=zG.1 hx;rfl) (fun j hj=>⟨?_,fun h9=>?_⟩) fun j c hj=>?_
 ·rw[zei,zi] at hj
  (have h5:((Lib.fieldsD s.data.toList).map fun x=>Value.string ⟨x.toArray⟩)=(zhV s).map Value.string:=by unfold zhV;rw[List.map_map];rfl);rw[h5] at hc;have h6:=hc j (((zhV s).map Value.string).getD j undef) (by rw[zE,zj,zE,zb hj];rfl);rw[<- h6];cases j <;> simp[Addr.add]
 (·have:=hA _ _ h9;omega);rw[zei,zE] at hj
 cases hx:(zhV s)[j]? with
 | none=>rw[hx] at hj;cases hj
 | some y =>
  rw[hx] at hj;(cases hj);(have:((zhV s).map Value.string).getD j undef=.string y:=by rw[zj,zE,hx];rfl);rw[this];exact .v _
theorem subF_cnt (ρ:Int->Int):∀T:Ty,(T.subF fun v=>vTy (ρ v)).cnt<=T.cnt:=by
 refine Ty.ind fun T ih=>?_;have h:=T.cnt_eq
 by_cases h1:T.k=1
 (·rw[Ty.subF_var h1];unfold vTy;rw[zbq];simp only[Ty.cntL];omega);rw[Ty.subF_more h1,zbq]
 have key:∀ps:List Ty,(∀p∈ps,p∈T.ps)->Ty.cntL (ps.map (Ty.subF fun v=>vTy (ρ v)))<=Ty.cntL ps:=by
  intro ps
  induction ps with
  | nil=>intro _;exact zy _
  | cons p ps ihp =>
   intro hm;have h2:=ih p (hm p tz4);(have h3:=ihp fun q hq=>hm q (by simp[hq]));simp only[zk,Ty.cntL];omega
 (have:=key T.ps fun p h=>h);omega
theorem zjk (s:Sch):(zaq s).t.cnt<=s.t.cnt:=by
 by_cases h:s.ok=true
 ·have hnd:=Sch.vs_nodup h
  unfold zaq;rw[if_pos h];(simp only);rw[Ty.sub_subF _ _ (Sch.ok_iff.1 h).1,Ty.subF_congr (σ:=bfun _) (τ:=fun v=>vTy (renM s.vs (zbp s.free s.vs.length) v)) _ fun v _=>renM_bfun hnd (zcC _ _).symm v];exact subF_cnt _ _
 unfold zaq;rw[if_neg h];exact zhj _
theorem zi3 (s:Sch):(zaq s).vs.length<=s.vs.length:=by
 unfold zaq;split;(·exact Nat.le_of_eq (zcC _ _));simp[zSch]
theorem zkb {s:Sch} (hc:s.t.cnt<=400000) (hv:s.vs.length<=16000):∀v∈(zaq s).vs,0<=v/\v<1073741824:=by
 intro v hm;have hfl:=s.free_len;unfold zaq at hm;split at hm
 ·have:=canonL_lt hm
  omega
 cases hm
theorem ptx_size {T:Ty}:T.ptx.size<=30 * T.cnt:=by
 cases h:T.right with
 | true=>rw[zhO h];have:=zco h;omega
 | false=>rw[ptx_no h];show 0<=_;omega
theorem zfU (s:Sch) (hc:s.t.cnt<=400000) (hv:s.vs.length<=16000):APure Tryz.prog 12 [.agg s.cells] (.v (.string (zaq s).ptxt)):=by
 have hk:=zkb hc hv;have hl:=zi3 s;have hcc:=zjk s;have hj:=jn_size hk;have hp:=@ptx_size (zaq s).t
 have h:=zkV s (zaq s) nmB (jnB (zaq s).vs) (zaq s).t.ptx (zdF s tz1 tz1) (fun v hm=>zfV v (hk v hm).1 (hk v hm).2) (fun v hm=>by have:=zcP (hk v hm).1 (hk v hm).2;omega) tz1
  (fun h0=>by
   have h9:=Trim_pure (zhW nmB (zaq s).vs) ⟨#[32]⟩ (by
    have:=zef (nm:=nmB) (l:=(zaq s).vs) (fun v hm=>by have:=zcP (hk v hm).1 (hk v hm).2;omega) (zaq s).vs.length
    rw[zw] at this;omega)
   rw[trim_jn (List.length_pos_iff.1 h0)] at h9
   exact h9) (zfC (zaq s).t tz1) tz1 tz1
 exact h
theorem zg7 (s:Sch) (hok:s.ok=true) (hc:s.t.cnt<=1048576) (hv:s.vs.length<=1048576):APure Tryz.prog 18 [.agg s.cells] (.agg (zaq s).cells):=by
  refine APure.mkL (.cons Sch.agg .nil) (Sch.agg) ?_;refine aIn Tryz.func18 fun hm=>?_;simp only[Tryz.ntmps18,Tryz.results18,go_sem,seval];have hfl:=s.free_len;refine sqR fun _ u=>?_;refine chS 1 ?_ (by intro _ q;simp only[↓bO,go_sem,seval,Sch.cells];exact q);simp only[↓bO,go_sem,seval,Sch.cells];apply u;refine sqR fun _ u=>?_;refine chS 1 ?_ (by intro _ q;simp only[↓bO,go_sem,seval,Sch.cells];exact q);refine zN 1 fun _ y=>?_;simp only[↓bO,go_sem,seval,Sch.cells];refine APure.call (zjW s hc) ?_;apply y;clear y;simp only[↓bO,go_sem,seval,Sch.cells];apply u;refine sqR fun _ u=>?_;simp only[↓bO,go_sem,seval,Sch.cells];apply u;refine zO fun _ u=>?_;refine sqR fun _ w=>?_;simp only[↓bO,go_sem,seval,Sch.cells];apply w;apply zV;refine zar (Weak.tokSlot 4 3 1 rfl) ?_;simp only[go_sem];refine zae (σ:=Nat) (mB 29 62) (fun z=>(za7 s.free z).length<=s.vs.length) (fun z=>[(4,.osl 2 1 ((za7 s.free z).map intC)),(5,.v (.int .i64 (z:Int)))]) (fun z=>[(2,.tok 3 1 (za7 s.free z).length)]) (fun z=>s.vs.length+s.free.length+1-z) 0 ((by simp[za7])) ?_ (fun z hz=>?_)
  ·
   simp only[go_sem,seval,za7,List.range_zero,bL,zo];exact zaP
  simp only[go_sem,seval];refine zO fun _ w=>?_;refine sqR fun _ x=>?_;(iterate 5 (refine chS 1 ?_ (by intro _ q;simp only[↓bO,go_sem,seval,Sch.cells];exact q)));simp only[↓bO,go_sem,seval,Sch.cells];apply x;apply zP rfl <;> intro hb13
  ·
   (have hk:(za7 s.free z).length<s.vs.length:=by (have h9:=hb13;simp at h9;omega));have hzl:=zbN s.free z;have hw:IntKind.i64.wrap ((z:Int)+1)=(z:Int)+1:=z8 tz1 tz1;(have hb1:((za7 s.free z).length+1) * 8<=140737488355328:=by omega);(have hb2:(za7 s.free z).length+1<=maxLen:=by (simp only[maxLen];omega));apply zS;apply w;refine zO fun _ w=>?_;apply zV;refine sqR fun _ x=>?_;(iterate 2 (refine chS 1 ?_ (by intro _ q;simp only[↓bO,go_sem,seval,Sch.cells,hw,hb1,hb2,intC,za];exact q)));refine zN 1 fun _ y=>?_;simp only[↓bO,go_sem,seval,Sch.cells,hw,hb1,hb2,intC,za];refine APure.call ((show APure Tryz.prog 64 [.sl 1 (s.free.map intC),.v (.int .i64 (z:Int))] (.v (.bool (decide ((z:Int)∈s.free)))) from by have h9:=zhs s.free (z:Int);rw[zf2] at h9;exact h9)) ?_;apply y;clear y;simp only[↓bO,go_sem,seval,Sch.cells,hw,hb1,hb2,intC,za];apply x;apply zP rfl <;> intro hb19
   ·
    (have hin:decide ((z:Int)∈s.free)=false:=by simpa using hb19);(have hst:za7 s.free (z+1)=(za7 s.free z)++[(z:Int)]:=by (rw[zcz,if_neg (by simp[hin])]));apply zQ;(iterate 2 (refine chS 1 ?_ (by intro _ q;simp only[↓bO,go_sem,seval,Sch.cells,hw,hb1,hb2,intC,za,hst,zc,zd];exact q)));refine chS 1 ?_ (by intro _ q;simp only[↓bO,go_sem,seval,↓zaV,↓za1,↓zaR,↓zaZ,↓zaS,↓zaY,↓za0,↓zaX,↓zaU,↓zax,↓zav,↓zaw,Sch.cells,hw,hb1,hb2,intC,za,hst,zc,zd];exact q);refine chS 1 ?_ (by intro _ q;simp only[↓bO,go_sem,seval,Sch.cells,hw,hb1,hb2,intC,za,hst,zc,zd];exact q);simp only[↓bO,go_sem,seval,Sch.cells,hw,hb1,hb2,intC,za,hst,zc,zd];apply w;apply zQ;(iterate 2 (refine chS 1 ?_ (by intro _ q;simp only[↓bO,go_sem,seval,Sch.cells,hw,hb1,hb2,intC,za,hst,zc,zd];exact q)));simp only[↓bO,go_sem,seval,Sch.cells,hw,hb1,hb2,intC,za,hst,zc,zd];refine ⟨z+1,(by rw[hst];first | exact hz | (rw[zd];simp only[zx,zu];omega)),(by have h9:=zbN s.free z;omega),?_⟩;simp only[go_sem,seval,hw,hb1,hb2,intC,za,zm,hst,zc,bL,zd];exact zaP
   (have hin:decide ((z:Int)∈s.free)=true:=by simpa using hb19);(have hst:za7 s.free (z+1)=(za7 s.free z):=by (rw[zcz,if_pos hin]));apply zS;apply w;apply zQ;(iterate 2 (refine chS 1 ?_ (by intro _ q;simp only[↓bO,go_sem,seval,Sch.cells,hw,hb1,hb2,intC,za,hst];exact q)));simp only[↓bO,go_sem,seval,Sch.cells,hw,hb1,hb2,intC,za,hst];refine ⟨z+1,(by rw[hst];first | exact hz | (rw[zd];simp only[zx,zu];omega)),(by have h9:=zbN s.free z;omega),?_⟩;simp only[go_sem,seval,hw,hb1,hb2,intC,za,zm,hst];exact zaP
  (have hk:(za7 s.free z).length=s.vs.length:=by (have h9:=hb13;simp at h9;omega));rw[zis hk];apply zah;simp only[zag,z6,zY,bA,Nat.reduceEqDiff,↓reduceIte];apply u;refine sqR fun _ u=>?_;(iterate 3 (refine chS 1 ?_ (by intro _ q;simp only[↓bO,go_sem,seval,Sch.cells];exact q)));refine zN 1 fun _ y=>?_;simp only[↓bO,go_sem,seval,Sch.cells];refine ACalls.args (args':=[.agg s.cells,.sl 1 ((zbp s.free s.vs.length).map intC)]) ⟨.refl _,Le.oslL,trivial⟩ ?_;refine APure.call (zkc s (zbp s.free s.vs.length) (zcC _ _).symm hv hc) ?_;apply y;clear y;refine chS 1 ?_ (by intro _ q;simp only[↓bO,go_sem,seval,Sch.cells];exact q);simp only[↓bO,go_sem,seval,Sch.cells];apply u;apply zR;(try simp only[zag,z6,zY,zbg,za3,zap,bS,bA,zao,zad,zaO,bL,Nat.reduceAdd,Nat.reduceLeDiff,Nat.reduceEqDiff,↓reduceIte,ti32,tyX,Sch.cells,zi]);unfold zaq;rw[if_pos hok];exact Le.agg ⟨Le.osl _ _ _,LeL.refl _⟩
def preN (l:List Int) (k:Nat):ByteArray:=if 0<k then zdq l k++bSp else zdq l k
theorem zbw {l:List Int} {k:Nat} {v:Int} (h:l[k]?=some v):zdq l (k+1)=preN l k++nmB v:=zf7 h
theorem preN_size (l:List Int) (k:Nat):(preN l k).size<=(zdq l k).size+1:=by
 unfold preN;split;(·rw[ByteArray.size_append];exact zy _);omega
theorem accN0 (l:List Int):zdq l 0=⟨#[]⟩:=rfl
theorem txt_end (s:Sch):(eqS (zdq s.vs s.vs.length) ⟨#[]⟩=true->zdq s.vs s.vs.length++s.t.tx=s.txt)/\(eqS (zdq s.vs s.vs.length) ⟨#[]⟩=false->zdq s.vs s.vs.length++(⟨#[46,32]⟩:ByteArray)++s.t.tx=s.txt):=by
 unfold Sch.txt
 by_cases hn:s.vs=[]
 ·rw[if_pos hn,hn]
  refine ⟨fun _=>zjC _,fun h=>?_⟩;have h2:eqS (zdq [] ([]:List Int).length) ⟨#[]⟩=true:=zbe.2 rfl;rw[h2] at h;cases h
 rw[if_neg hn,accN_all hn];refine ⟨fun h=>?_,fun _=>zbs _ _ _⟩;have h1:=zbe.1 h;have h2:=zlR s.vs hn;rw[h1] at h2
 cases hv:s.vs with
 | nil=>exact absurd hv hn
 | cons v l =>
  rw[hv] at h2;have h3:=congrArg List.length h2;simp only[nmL,List.flatMap_cons,zd,zx,zu] at h3;have h4:(bl (⟨#[]⟩:ByteArray)).length=0:=rfl;rw[h4,zan] at h3
  have h5:0<(nmB v).size:=by
   unfold nmB;split;(·rw[ByteArray.size_append,zdr];omega);rw[zdr];omega
  omega
theorem zji (s:Sch) (hr:s.t.right=true) (hk:∀v∈s.vs,0<=v/\v<1073741824) (hc:s.t.cnt<=1048576) (hv:s.vs.length<=1048576):APure Tryz.prog 20 [.agg s.cells] (.v (.string s.txt)):=by
  refine APure.mkL (.cons Sch.agg .nil) (.v _) ?_;refine aIn Tryz.func20 fun hm=>?_;simp only[Tryz.ntmps20,Tryz.results20,go_sem,seval];have hte:=txt_end s;have htx:=zco hr;refine sqR fun _ u=>?_;refine chS 1 ?_ (by intro _ q;simp only[↓bO,go_sem,seval,Sch.cells];exact q);simp only[↓bO,go_sem,seval,Sch.cells];apply u;refine sqR fun _ u=>?_;simp only[↓bO,go_sem,seval,Sch.cells];apply u;refine zO fun _ u=>?_;refine sqR fun _ w=>?_;simp only[↓bO,go_sem,seval,Sch.cells];apply w;apply zV;refine zae (σ:=Nat) (mB 33 26) (fun z=>z<=s.vs.length) (fun z=>[(3,.v (.string (zdq s.vs z))),(4,.v (.int .i64 (z:Int)))]) (fun z=>[]) (fun z=>s.vs.length-z) 0 tz1 ?_ (fun z hz=>?_)
  ·
   (try simp only[go_sem,seval,accN0]);exact zaP
  simp only[go_sem,seval];have has:=ziL hk z;have hps:=preN_size s.vs z;have hz1:((((zdq s.vs z).size+(#[32]:Array UInt8).size:Nat):Int)<=IntKind.i64.max)=True:=eq_true (by ( show (((zdq s.vs z).size+1:Nat):Int)<=9223372036854775807);omega);refine zO fun _ w=>?_;refine sqR fun _ x=>?_;(iterate 4 (refine chS 1 ?_ (by intro _ q;simp only[↓bO,go_sem,seval,Sch.cells,hz1,intC];exact q)));simp only[↓bO,go_sem,seval,Sch.cells,hz1,intC];apply x;apply zP rfl <;> intro hb9
  ·
   (have hlt:z<s.vs.length:=by (have h9:=hb9;simp at h9;omega));obtain ⟨v,hvp⟩:∃v,s.vs[z]?=some v:=⟨_,zb hlt⟩;have hnz:=zcP (hk v (zh hvp)).1 (hk v (zh hvp)).2;(have hw:IntKind.i64.wrap ((z:Int)+1)=((z+1:Nat):Int):=by (rw[z8 tz1 tz1];omega));have hz2:((((preN s.vs z).size+(nmB v).size:Nat):Int)<=IntKind.i64.max)=True:=eq_true (by ( show (((preN s.vs z).size+(nmB v).size:Nat):Int)<=9223372036854775807);omega);apply zS;apply w;refine zO fun _ w=>?_;apply zV;refine zaG (mB 33 26) ([(3,.v (.string (preN s.vs z)))]) ([]) ?_ ?_
   ·
    refine sqR fun _ x=>?_;refine chS 1 ?_ (by intro _ q;simp only[↓bO,go_sem,seval,Sch.cells,hz1,intC,hlt,gM hvp,hw,hz2,zbw hvp];exact q);simp only[↓bO,go_sem,seval,Sch.cells,hz1,intC,hlt,gM hvp,hw,hz2,zbw hvp];apply x;apply zP rfl <;> intro hb13
    ·
     apply zQ;(iterate 2 (refine chS 1 ?_ (by intro _ q;simp only[↓bO,go_sem,seval,Sch.cells,hz1,intC,hlt,gM hvp,hw,hz2,zbw hvp];exact q)));simp only[↓bO,go_sem,seval,Sch.cells,hz1,intC,hlt,gM hvp,hw,hz2,zbw hvp];(try simp only[go_sem,seval]);unfold preN;(first | rw[if_pos (show 0<z by (have h9:=hb13;simp at h9;omega))] | rw[if_neg (show ¬0<z by (have h9:=hb13;simp at h9;omega))]);(try simp only[bSp]);exact zlh
    apply zS;(try simp only[go_sem]);(try simp only[go_sem,seval]);unfold preN;(first | rw[if_pos (show 0<z by (have h9:=hb13;simp at h9;omega))] | rw[if_neg (show ¬0<z by (have h9:=hb13;simp at h9;omega))]);(try simp only[bSp]);exact zlh
   simp only[go_sem,seval];apply zQ;(iterate 6 (refine chS 1 ?_ (by intro _ q;simp only[↓bO,go_sem,seval,Sch.cells,hz1,intC,hlt,gM hvp,hw,hz2,zbw hvp];exact q)));refine zN 1 fun _ y=>?_;simp only[↓bO,go_sem,seval,Sch.cells,hz1,intC,hlt,gM hvp,hw,hz2,zbw hvp];refine APure.call (by have h9:=zeq v.toNat (by have:=hk v (zh hvp);omega);rw[show ((v.toNat:Nat):Int)=v by have:=hk v (zh hvp);omega] at h9;exact h9) ?_;apply y;clear y;refine chS 1 ?_ (by intro _ q;simp only[↓bO,go_sem,seval,Sch.cells,hz1,intC,hlt,gM hvp,hw,hz2,zbw hvp];exact q);simp only[↓bO,go_sem,seval,Sch.cells,hz1,intC,hlt,gM hvp,hw,hz2,zbw hvp];apply w;apply zQ;(iterate 2 (refine chS 1 ?_ (by intro _ q;simp only[↓bO,go_sem,seval,Sch.cells,hz1,intC,hlt,gM hvp,hw,hz2,zbw hvp];exact q)));simp only[↓bO,go_sem,seval,Sch.cells,hz1,intC,hlt,gM hvp,hw,hz2,zbw hvp];refine ⟨(z+1),tz1,tz1,?_⟩;(try simp only[go_sem,seval,hz1,intC,hlt,gM hvp,hw,hz2,zbw hvp]);exact zaP
  (have hke:z=s.vs.length:=by (have h9:=hb9;simp at h9;omega));subst hke;have hz3:((((zdq s.vs s.vs.length).size+(#[46,32]:Array UInt8).size:Nat):Int)<=IntKind.i64.max)=True:=eq_true (by ( show (((zdq s.vs s.vs.length).size+2:Nat):Int)<=9223372036854775807);omega);have hz4:((((zdq s.vs s.vs.length).size+(#[46,32]:Array UInt8).size+s.t.tx.size:Nat):Int)<=IntKind.i64.max)=True:=eq_true (by ( show (((zdq s.vs s.vs.length).size+2+s.t.tx.size:Nat):Int)<=9223372036854775807);omega);have hz5:((((zdq s.vs s.vs.length).size+s.t.tx.size:Nat):Int)<=IntKind.i64.max)=True:=eq_true (by ( show (((zdq s.vs s.vs.length).size+s.t.tx.size:Nat):Int)<=9223372036854775807);omega);apply zah;simp only[zag,z6,zY,bA,Nat.reduceEqDiff,↓reduceIte];apply u;refine zO fun _ u=>?_;refine sqR fun _ w=>?_;refine chS 1 ?_ (by intro _ q;simp only[↓bO,go_sem,seval,Sch.cells,hz3,hz4,hz5];exact q);simp only[↓bO,go_sem,seval,Sch.cells,hz3,hz4,hz5];apply w;apply zP rfl <;> intro hb25
  ·
   have hne:eqS (zdq s.vs s.vs.length) ⟨#[]⟩=false:=zd9 hb25;apply zQ;(iterate 2 (refine chS 1 ?_ (by intro _ q;simp only[↓bO,go_sem,seval,Sch.cells,hz3,hz4,hz5];exact q)));simp only[↓bO,go_sem,seval,Sch.cells,hz3,hz4,hz5];apply u;refine sqR fun _ u=>?_;(iterate 3 (refine chS 1 ?_ (by intro _ q;simp only[↓bO,go_sem,seval,Sch.cells,hz3,hz4,hz5];exact q)));refine zN 1 fun _ y=>?_;simp only[↓bO,go_sem,seval,Sch.cells,hz3,hz4,hz5];refine APure.call (zew s.t hr hc) ?_;apply y;clear y;refine chS 1 ?_ (by intro _ q;simp only[↓bO,go_sem,seval,Sch.cells,hz3,hz4,hz5];exact q);simp only[↓bO,go_sem,seval,Sch.cells,hz3,hz4,hz5];apply u;apply zR;(try simp only[go_sem]);refine Le.of_eq (congrArg (fun s=>AV.v (.string s)) ?_);exact hte.2 hne
  have hne:eqS (zdq s.vs s.vs.length) ⟨#[]⟩=true:=zeb hb25;apply zS;apply u;refine sqR fun _ u=>?_;(iterate 3 (refine chS 1 ?_ (by intro _ q;simp only[↓bO,go_sem,seval,Sch.cells,hz3,hz4,hz5];exact q)));refine zN 1 fun _ y=>?_;simp only[↓bO,go_sem,seval,Sch.cells,hz3,hz4,hz5];refine APure.call (zew s.t hr hc) ?_;apply y;clear y;refine chS 1 ?_ (by intro _ q;simp only[↓bO,go_sem,seval,Sch.cells,hz3,hz4,hz5];exact q);simp only[↓bO,go_sem,seval,Sch.cells,hz3,hz4,hz5];apply u;apply zR;(try simp only[go_sem]);refine Le.of_eq (congrArg (fun s=>AV.v (.string s)) ?_);exact hte.1 hne
theorem zgO (s:ByteArray):(zbS s).1.size<=s.size/\(zbS s).2.size<=s.size:=by
 have h:(Lib.cut (bl s) [46,32]).1.length<=s.size/\(Lib.cut (bl s) [46,32]).2.1.length<=s.size:=by
  unfold Lib.cut;split;(·simp only[List.length_take,List.length_drop,zan];omega);simp only[zan,zu];omega
 unfold zbS;split;(·exact ⟨by show ((Lib.cut (bl s) [46,32]).1).toArray.size<=_;simpa using h.1,by show ((Lib.cut (bl s) [46,32]).2.1).toArray.size<=_;simpa using h.2⟩);exact ⟨Nat.zero_le _,zy _⟩
theorem ze1 (s:ByteArray):(zbz s).1.cnt<=2 * s.size+1:=by
 unfold zbz;split
 ·have:=zdQ (s.size+1) s
  unfold PwB at this;dsimp only;omega
 dsimp only;rw[zbq];simp only[Ty.cntL];omega
def zcc (s:ByteArray):Sch×Int:=if zgB s then (spS s,0) else (zSch,3)
def zcS (s:ByteArray):Sch×Bool:=if zgM s then (rcS s,true) else (zSch,false)
theorem zgk:Le (.agg [.v (.slice none 0 0),.v (.int .i64 0),.v (.int .i64 0),.v (.slice none 0 0)]) (.agg zSch.cells):=by
 rw[Sch.cells_eq];exact Le.agg ⟨Le.slNil 1,.refl _,.refl _,Le.slNil 3,trivial⟩
theorem zbA {l:List ByteArray} {i:Nat} {x:ByteArray} (h:l[i]?=some x):(l.map zaf).getD i []=[AV.v (.string x)]:=by rw[zj,zE,h];rfl
theorem clz7 {p:Prop} (h:p:=by repeat' first | exact trivial | exact .refl _ | exact .any _ | (refine ⟨?_,?_⟩)):p:=h
theorem sparse_w (s n r:ByteArray) (hs:s.size<=15000) (hcut:zbS s=(n,r)) (fl:List ByteArray) (hfl:zhV n=fl) (S:Sch) (hSv:fl.map zbV=S.vs) (e:Int) (hp:zbz r=(S.t,e)):APure Tryz.prog 9 [.v (.string s)] (.tup [.agg (zcc s).1.cells,.v (.int .i64 (zcc s).2)]):=by
  refine APure.mkL (.cons (.v _) .nil) (.tup (.cons Sch.agg (.cons (.v _) .nil))) ?_;refine aIn Tryz.func9 fun hm=>?_;simp only[Tryz.ntmps9,Tryz.results9,go_sem,seval];have hcs:=zgO s;rw[hcut] at hcs;(simp only at hcs);have hfb:=zg5 n;rw[hfl] at hfb;(have hSS:spS s=S:=by (unfold spS spVs;rw[hcut];simp only;rw[hfl,hSv,hp]));(have hSc:S.t.cnt<=2 * r.size+1:=by (have h9:=ze1 r;rw[hp] at h9;exact h9));(have hSl:S.vs.length=fl.length:=by rw[<- hSv,zi]);(have hG:zgB s↔(e=0/\(zaq S).ptxt=s/\(zaq S).vs=S.vs/\(zaq S).t.same S.t=true):=by (unfold zgB;rw[hSS,hcut,hp]));have hcl:=zi3 S;have hcc:=zjk S;refine sqR fun _ u=>?_;refine chS 1 ?_ (by intro _ q;simp only[↓bO,go_sem,seval,zaf,intC];exact q);simp only[go_sem];(iterate 2 (simp only[↓bO,go_sem,seval,zaf,intC];apply u;refine zO fun _ u=>?_;apply zQ));refine chS 1 ?_ (by intro _ q;simp only[↓bO,go_sem,seval,zaf,intC];exact q);refine zN 1 fun _ y=>?_;simp only[↓bO,go_sem,seval,zaf,intC];refine APure.call (Cut_pure s ⟨#[46,32]⟩ tz1) ?_;(iterate 6 (apply y;clear y;refine zN 1 fun _ y=>?_;simp only[↓bO,go_sem,seval,zaf,intC]));apply y;clear y;simp only[↓bO,go_sem,seval,zaf,intC];apply u;refine zaG (mB 76 117) ([(5,.v (.string n)),(6,.v (.string r))]) ([]) ?_ ?_
  ·
   refine sqR fun _ u=>?_;refine chS 1 ?_ (by intro _ q;simp only[↓bO,go_sem,seval,zaf,intC];exact q);simp only[↓bO,go_sem,seval,zaf,intC];apply u;apply zP rfl <;> intro hb21
   ·
    apply zQ;(iterate 2 (refine chS 1 ?_ (by intro _ q;simp only[↓bO,go_sem,seval,zaf,intC];exact q)));simp only[↓bO,go_sem,seval,zaf,intC];(try simp only[go_sem,seval]);have hc2:=hcut;unfold zbS at hc2;(first | rw[if_pos (by simpa using hb21)] at hc2 | rw[if_neg (by simpa using hb21)] at hc2);obtain ⟨rfl,rfl⟩:=Prod.mk.inj hc2;refine Weak.mk ?_ (fun _ _ h=>h) rfl rfl;exact clz7
   apply zS;(try simp only[go_sem]);(try simp only[go_sem,seval]);have hc2:=hcut;unfold zbS at hc2;(first | rw[if_pos (by simpa using hb21)] at hc2 | rw[if_neg (by simpa using hb21)] at hc2);obtain ⟨rfl,rfl⟩:=Prod.mk.inj hc2;refine Weak.mk ?_ (fun _ _ h=>h) rfl rfl;exact clz7
  simp only[go_sem,seval];refine zO fun _ u=>?_;refine sqR fun _ w=>?_;refine chS 1 ?_ (by intro _ q;simp only[↓bO,go_sem,seval,zaf,intC];exact q);refine zN 1 fun _ y=>?_;simp only[↓bO,go_sem,seval,zaf,intC];refine APure.call (by have h9:=ziK n tz1;rw[hfl] at h9;exact h9) ?_;apply y;clear y;refine chS 1 ?_ (by intro _ q;simp only[↓bO,go_sem,seval,zaf,intC];exact q);simp only[↓bO,go_sem,seval,zaf,intC];apply w;apply zV;refine zar (Weak.tokCell 3 1 (id:=1) (t:=28) [.osl 2 1 [],.v (.int .i64 0),.v (.int .i64 0),.v (.slice none 0 0)] rfl ⟨.inr ⟨rfl,rfl⟩,.inl (.refl _),.inl (.refl _),.inl (.refl _),trivial⟩) ?_;simp only[zaz,Nat.reduceEqDiff,↓reduceIte];refine zae (σ:=Nat) (mB 76 117440597) (fun k=>k<=fl.length) (fun k=>[(26,.v (.int .i64 (k:Int)))]) (fun k=>[(1,.cells 28 [.osl 2 1 ((((fl.take k).map zbV)).map intC),.v (.int .i64 0),.v (.int .i64 0),.v (.slice none 0 0)]),(2,.tok 3 1 k)]) (fun k=>fl.length-k) 0 tz1 ?_ (fun k hk=>?_)
  ·
   (try simp only[go_sem,seval,bL]);exact zaP
  simp only[go_sem,seval];refine sqR fun _ w=>?_;simp only[↓bO,go_sem,seval,zaf,intC];apply w;refine zO fun _ w=>?_;apply zP rfl <;> intro hb27
  ·
   (have hlt:k<fl.length:=by (have h9:=hb27;simp at h9;omega));obtain ⟨x,hx⟩:∃x,fl[k]?=some x:=⟨_,zb hlt⟩;have hxs:=hfb.2 x (zh hx);(have hw:IntKind.i64.wrap ((k:Int)+1)=((k+1:Nat):Int):=by (rw[z8 tz1 tz1];omega));(have hst:((fl.take (k+1)).map zbV).map intC=((fl.take k).map zbV).map intC++[[.v (.int .i64 (zbV x))]]:=by (rw[List.take_add_one,hx,zc,zc];rfl));(have hlen:(fl.take k).length=k:=by (rw[List.length_take];omega));(have hb1:(k+1) * 8<=140737488355328:=by omega);(have hb2:k+1<=maxLen:=by (simp only[maxLen];omega));apply zS;apply w;refine zO fun _ w=>?_;apply zV;refine sqR fun _ z=>?_;(iterate 2 (refine chS 1 ?_ (by intro _ q;simp only[↓bO,go_sem,seval,zaf,intC,hlt,zbA hx,hw,hst,hlen,hb1,hb2];exact q)));simp only[↓bO,go_sem,seval,zaf,intC,hlt,zbA hx,hw,hst,hlen,hb1,hb2];apply z;refine sqR fun _ z=>?_;refine chS 1 ?_ (by intro _ q;simp only[↓bO,go_sem,seval,zaf,intC,hlt,zbA hx,hw,hst,hlen,hb1,hb2];exact q);refine zN 1 fun _ y=>?_;simp only[↓bO,go_sem,seval,zaf,intC,hlt,zbA hx,hw,hst,hlen,hb1,hb2];refine APure.call (zdI x tz1) ?_;(iterate 4 (apply y;clear y;refine zN 1 fun _ y=>?_;simp only[↓bO,go_sem,seval,zaf,intC,hlt,zbA hx,hw,hst,hlen,hb1,hb2]));apply y;clear y;simp only[↓bO,go_sem,seval,zaf,intC,hlt,zbA hx,hw,hst,hlen,hb1,hb2];apply z;apply zQ;(iterate 3 (refine chS 1 ?_ (by intro _ q;simp only[↓bO,go_sem,seval,zaf,intC,hlt,zbA hx,hw,hst,hlen,hb1,hb2];exact q)));refine zN 1 fun _ y=>?_;simp only[↓bO,go_sem,seval,↓zaV,↓za1,↓zaR,↓zaZ,↓zaS,↓zaY,↓za0,↓zaX,↓zaU,↓zax,↓zav,↓zaw,zaf,intC,hlt,zbA hx,hw,hst,hlen,hb1,hb2];(iterate 2 (apply y;clear y;refine zN 1 fun _ y=>?_;simp only[↓bO,go_sem,seval,zaf,intC,hlt,zbA hx,hw,hst,hlen,hb1,hb2]));apply y;clear y;simp only[↓bO,go_sem,seval,zaf,intC,hlt,zbA hx,hw,hst,hlen,hb1,hb2];apply w;apply zQ;refine chS 1 ?_ (by intro _ q;simp only[↓bO,go_sem,seval,zaf,intC,hlt,zbA hx,hw,hst,hlen,hb1,hb2];exact q);simp only[↓bO,go_sem,seval,zaf,intC,hlt,zbA hx,hw,hst,hlen,hb1,hb2];refine ⟨(k+1),tz1,tz1,?_⟩;(try simp only[go_sem,seval,hlt,zbA hx,hw,hst,hlen,hb1,hb2]);exact zaP
  (have hke:k=fl.length:=by (have h9:=hb27;simp at h9;omega));subst hke;apply zah;simp only[zag,z6,zY,bA,Nat.reduceEqDiff,↓reduceIte];apply u;refine sqR fun _ u=>?_;simp only[↓bO,go_sem,seval,zaf,intC];apply u;refine zar (Weak.recell (id:=1) (t:=28) (cs:=[.osl 2 1 ((fl.map zbV).map intC),.v (.int .i64 0),.v (.int .i64 0),.v (.slice none 0 0)]) [.sl 1 (S.vs.map intC),.v (.int .i64 0),.v (.int .i64 0),.v (.slice none 0 0)] rfl ⟨by (rw[hSv];exact Le.osl _ _ _),.refl _,.refl _,.refl _,trivial⟩) ?_;simp only[zaz,Nat.reduceEqDiff,↓reduceIte];refine sqR fun _ u=>?_;refine chS 1 ?_ (by intro _ q;simp only[↓bO,go_sem,seval,zaf,intC];exact q);refine zN 1 fun _ y=>?_;simp only[↓bO,go_sem,seval,zaf,intC];refine APure.call (by have h9:=zkk r tz1;rw[hp,Ty.cells_eq] at h9;exact h9) ?_;(iterate 5 (apply y;clear y;refine zN 1 fun _ y=>?_;simp only[↓bO,go_sem,seval,zaf,intC]));apply y;clear y;simp only[↓bO,go_sem,seval,zaf,intC];apply u;refine zO fun _ u=>?_;refine sqR fun _ w=>?_;refine chS 1 ?_ (by intro _ q;simp only[↓bO,go_sem,seval,zaf,intC];exact q);refine zN 1 fun _ y=>?_;simp only[↓bO,go_sem,seval,zaf,intC];refine APure.call (by have h9:=zdF S tz1 tz1;rw[Sch.cells_eq S,Sch.cells_eq (zaq S)] at h9;exact h9) ?_;apply y;clear y;refine chS 1 ?_ (by intro _ q;simp only[↓bO,go_sem,seval,zaf,intC];exact q);simp only[↓bO,go_sem,seval,zaf,intC];apply w;refine sqR fun _ w=>?_;(iterate 3 (refine chS 1 ?_ (by intro _ q;simp only[↓bO,go_sem,seval,zaf,intC];exact q)));refine zW 52 rfl (fun hc52=>?_) (fun hc52=>?_)
  ·
   simp only[go_sem];(have he:¬e=0:=by simpa using hc52);(have hP:zcc s=(zSch,3):=by (first | exact hP | exact if_neg fun h=>he (hG.1 h).1));(iterate 20 (refine chS 1 ?_ (by intro _ q;simp only[↓bO,go_sem,seval,zaf,intC];exact q)));simp only[↓bO,go_sem,seval,zaf,intC];apply w;refine zP (b:=true) (by first | exact rfl | exact congrArg (fun b=>AV.v (.bool b)) hb73) (fun _=>?_) (fun h=>(by cases h));refine sqR fun _ w=>?_;(iterate 2 (refine chS 1 ?_ (by intro _ q;simp only[↓bO,go_sem,seval,zaf,intC];exact q)));simp only[↓bO,go_sem,seval,zaf,intC];apply w;apply zR;(try simp only[zag,z6,zY,zbg,za3,zap,bS,bA,zao,zad,zaO,bL,Nat.reduceAdd,Nat.reduceLeDiff,Nat.reduceEqDiff,↓reduceIte,ti28,tyX,zi,zaf,intC]);rw[hP];first | exact Le.tup ⟨zgk,.refl _,trivial⟩ | (rw[Sch.cells_eq S];exact Le.refl _)
  simp only[go_sem];(have he:e=0:=by simpa using hc52);refine chS 1 ?_ (by intro _ q;simp only[↓bO,go_sem,seval,zaf,intC];exact q);refine zN 1 fun _ y=>?_;simp only[↓bO,go_sem,seval,zaf,intC];refine APure.call (by have h9:=zfU S tz1 tz1;rw[Sch.cells_eq S] at h9;exact h9) ?_;(iterate 4 (apply y;clear y;refine zN 1 fun _ y=>?_;simp only[↓bO,go_sem,seval,zaf,intC]));apply y;clear y;refine zW 58 rfl (fun hc58=>?_) (fun hc58=>?_)
  ·
   simp only[go_sem];(have hP:zcc s=(zSch,3):=by (first | exact hP | exact if_neg fun h=>zga (a:=(zaq S).ptxt) (b:=s) (zd9 hc58) (hG.1 h).2.1));(iterate 14 (refine chS 1 ?_ (by intro _ q;simp only[↓bO,go_sem,seval,zaf,intC];exact q)));simp only[↓bO,go_sem,seval,zaf,intC];apply w;refine zP (b:=true) (by first | exact rfl | exact congrArg (fun b=>AV.v (.bool b)) hb73) (fun _=>?_) (fun h=>(by cases h));refine sqR fun _ w=>?_;(iterate 2 (refine chS 1 ?_ (by intro _ q;simp only[↓bO,go_sem,seval,zaf,intC];exact q)));simp only[↓bO,go_sem,seval,zaf,intC];apply w;apply zR;(try simp only[zag,z6,zY,zbg,za3,zap,bS,bA,zao,zad,zaO,bL,Nat.reduceAdd,Nat.reduceLeDiff,Nat.reduceEqDiff,↓reduceIte,ti28,tyX,zi,zaf,intC]);rw[hP];first | exact Le.tup ⟨zgk,.refl _,trivial⟩ | (rw[Sch.cells_eq S];exact Le.refl _)
  simp only[go_sem];have hpt:(zaq S).ptxt=s:=zbe.1 (zeb hc58);(iterate 4 (refine chS 1 ?_ (by intro _ q;simp only[↓bO,go_sem,seval,zaf,intC];exact q)));refine zN 1 fun _ y=>?_;simp only[↓bO,go_sem,seval,zaf,intC];refine APure.call (zlo (zaq S).vs S.vs tz1) ?_;(iterate 3 (apply y;clear y;refine zN 1 fun _ y=>?_;simp only[↓bO,go_sem,seval,zaf,intC]));apply y;clear y;refine zW 66 rfl (fun hc66=>?_) (fun hc66=>?_)
  ·
   simp only[go_sem];(have hP:zcc s=(zSch,3):=by (first | exact hP | exact if_neg fun h=>(by have h8:=(hG.1 h).2.2.1;have h9:=hc66;simp[h8] at h9)));(iterate 6 (refine chS 1 ?_ (by intro _ q;simp only[↓bO,go_sem,seval,zaf,intC];exact q)));simp only[↓bO,go_sem,seval,zaf,intC];apply w;refine zP (b:=true) (by first | exact rfl | exact congrArg (fun b=>AV.v (.bool b)) hb73) (fun _=>?_) (fun h=>(by cases h));refine sqR fun _ w=>?_;(iterate 2 (refine chS 1 ?_ (by intro _ q;simp only[↓bO,go_sem,seval,zaf,intC];exact q)));simp only[↓bO,go_sem,seval,zaf,intC];apply w;apply zR;(try simp only[zag,z6,zY,zbg,za3,zap,bS,bA,zao,zad,zaO,bL,Nat.reduceAdd,Nat.reduceLeDiff,Nat.reduceEqDiff,↓reduceIte,ti28,tyX,zi,zaf,intC]);rw[hP];first | exact Le.tup ⟨zgk,.refl _,trivial⟩ | (rw[Sch.cells_eq S];exact Le.refl _)
  simp only[go_sem];(have hve:(zaq S).vs=S.vs:=by simpa using hc66);(iterate 4 (refine chS 1 ?_ (by intro _ q;simp only[↓bO,go_sem,seval,zaf,intC];exact q)));refine zN 1 fun _ y=>?_;simp only[↓bO,go_sem,seval,zaf,intC];refine APure.call (by have h9:=zez (zaq S).t S.t;rw[Ty.cells_eq (zaq S).t,Ty.cells_eq S.t] at h9;exact h9) ?_;apply y;clear y;refine chS 1 ?_ (by intro _ q;simp only[↓bO,go_sem,seval,zaf,intC];exact q);simp only[↓bO,go_sem,seval,zaf,intC];apply w;apply zP rfl <;> intro hb73
  ·
   (have hP:zcc s=(zSch,3):=by (first | exact hP | exact if_neg fun h=>(by have h8:=(hG.1 h).2.2.2;have h9:=hb73;simp[h8] at h9)));refine sqR fun _ w=>?_;(iterate 2 (refine chS 1 ?_ (by intro _ q;simp only[↓bO,go_sem,seval,zaf,intC];exact q)));simp only[↓bO,go_sem,seval,zaf,intC];apply w;apply zR;(try simp only[zag,z6,zY,zbg,za3,zap,bS,bA,zao,zad,zaO,bL,Nat.reduceAdd,Nat.reduceLeDiff,Nat.reduceEqDiff,↓reduceIte,ti28,tyX,zi,zaf,intC]);rw[hP];first | exact Le.tup ⟨zgk,.refl _,trivial⟩ | (rw[Sch.cells_eq S];exact Le.refl _)
  (have hte:(zaq S).t.same S.t=true:=by simpa using hb73);(have hP:zcc s=(S,0):=by (unfold zcc;rw[if_pos (hG.2 ⟨he,hpt,hve,hte⟩),hSS]));apply zS;apply u;refine sqR fun _ u=>?_;(iterate 2 (refine chS 1 ?_ (by intro _ q;simp only[↓bO,go_sem,seval,zaf,intC];exact q)));simp only[↓bO,go_sem,seval,zaf,intC];apply u;apply zR;(try simp only[zag,z6,zY,zbg,za3,zap,bS,bA,zao,zad,zaO,bL,Nat.reduceAdd,Nat.reduceLeDiff,Nat.reduceEqDiff,↓reduceIte,ti28,tyX,zi,zaf,intC]);rw[hP];first | exact Le.tup ⟨zgk,.refl _,trivial⟩ | (rw[Sch.cells_eq S];exact Le.refl _)
theorem zhz (s:ByteArray) (hs:s.size<=15000):APure Tryz.prog 9 [.v (.string s)] (.tup [.agg (zcc s).1.cells,.v (.int .i64 (zcc s).2)]) :=
 sparse_w s _ _ hs rfl _ rfl (spS s) rfl _ rfl
end Go.Proofs.YtkokfdmggdhfmaaGreatDoor
