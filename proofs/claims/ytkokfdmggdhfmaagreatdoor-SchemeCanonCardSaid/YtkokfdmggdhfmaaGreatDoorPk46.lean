/- packed, part 46 of 47. Conditions: none. -/
import Derived.Test.YtkokfdmggdhfmaaGreatDoorPk45
import Derived.Lib.ItoaLen
import Derived.Lib.AppendIntMem
import Derived.Shelf.LaysM
import Derived.Shelf.LaysC
import Derived.Shelf.Strconv.Itoa3
import Derived.Test.YtkokfdmggdhfmaaGreatDoorProg
import Derived.Shelf.Small.Wraps
import Derived.Lib.AtoiTie
import Derived.Shelf.Strconv.ErrVarAll
import Derived.Shelf.Strconv.AtoiAll
import Derived.Lib.AtoiErrMem
import Derived.Shelf.Strings.FieldsAny
import Derived.Lib.IndexMore
set_option linter.unusedVariables false
set_option linter.unusedSimpArgs false
set_option maxRecDepth 100000
set_option maxHeartbeats 4000000
set_option linter.unnecessarySimpa false
namespace Go.Proofs.YtkokfdmggdhfmaaGreatDoor
open Go Go.RowKit
attribute [local irreducible] aops zaE
def rC (l:List Tok) (m i e:Int):List AV:=[.sl 4 (l.map Tok.cells),.v (.int .i64 i),.v (.int .i64 m),.v (.int .i64 e)]
def RCalls (f:Nat) (args:List AV) (l:List Tok) (m i e:Int) (R:AV) (j d:Int):Prop :=
 ACalls Tryz.prog f args [(0,.cells 275 (rC l m i e))] 1 fun r os n=>(r=R/\os=[(0,.cells 275 (rC l m j d))])/\n=1
theorem Ty.sameL_refl:∀ps:List Ty,(∀p∈ps,p.same p=true)->Ty.sameL ps ps=true:=fun ps h=>by
 induction ps with
 | nil=>rfl
 | cons p ps ih=>rw[Ty.sameL,h p tz4,ih fun q hq=>h q (by simp[hq])];rfl
theorem Ty.same_refl:∀t:Ty,t.same t=true:=by
 refine Ty.ind fun t ih=>?_
 cases t with
 | mk k n ps=>rw[Ty.same,Ty.sameL_refl ps ih];simp
end Go.Proofs.YtkokfdmggdhfmaaGreatDoor
namespace Go.Proofs.YtkokfdmggdhfmaaGreatDoor
open Go Go.RowKit
def itB (n:Int):ByteArray:=⟨(Lib.itoa n).toArray⟩
theorem zeX (n:Int) (h0:0<=n) (h1:n<=9223372036854775807):(itB n).size<=21:=by
 have:=Lib.itoa_length_le n tz1 h1;(show (Lib.itoa n).toArray.size<=21);simpa using this
def nmH (n:Int):ByteArray:=(⟨#[39]⟩:ByteArray)++Utf8.encode (97+n % 26)
def nmB (n:Int):ByteArray:=if 26<=n then nmH n++itB (n / 26) else nmH n
theorem enc26 (k:Fin 26):Utf8.encode (97+(k.val:Int))=⟨#[UInt8.ofNat (97+k.val)]⟩:=by revert k;decide
theorem enc_mod (n:Int):∃b:UInt8,Utf8.encode (97+n % 26)=⟨#[b]⟩/\97<=b.toNat/\b.toNat<=122:=by
 have h0:0<=n % 26:=Int.emod_nonneg _ tz3;have h1:n % 26<26:=Int.emod_lt_of_pos _ tz3;have h:=enc26 ⟨(n % 26).toNat,by omega⟩;(have e:(((n % 26).toNat:Nat):Int)=n % 26:=by omega);simp only[e] at h;refine ⟨_,h,?_,?_⟩;(·simp;omega);simp;omega
theorem zc0 (n:Int):(nmH n).size=2:=by
 obtain ⟨b,h,_⟩:=enc_mod n;unfold nmH;rw[h,ByteArray.size_append];rfl
theorem zcZ {n:Int} (h0:0<=n) (h1:n<1073741824):(nmB n).size<=23:=by
 unfold nmB;split
 ·have:=zeX (n / 26) tz1 tz1
  rw[ByteArray.size_append,zc0];omega
 rw[zc0];omega
def bLp:ByteArray:=⟨#[40]⟩
def bRp:ByteArray:=⟨#[41]⟩
def bAr:ByteArray:=⟨#[32,45,62,32]⟩
def bSt:ByteArray:=⟨#[32,42,32]⟩
def brB (b:Bool) (s:ByteArray):ByteArray:=if b then bLp++s++bRp else s
theorem zkf (b:Bool) (s:ByteArray):(brB b s).size<=s.size+2:=by
 unfold brB;split;(·rw[ByteArray.size_append,ByteArray.size_append];show 1+s.size+1<=_;omega);omega
mutual
/-- a right type's text -/
def Ty.tx:Ty->ByteArray
 | .mk k n ps =>
  if k=1 then nmB n else if k=2 then ⟨#[105,110,116]⟩ else if k=3 then ⟨#[98,111,111,108]⟩
  else if k=4 then (match Ty.txP ps with
   | (ka,a)::(_,b)::_=>brB (ka==4) a++bAr++b
   | _=>ByteArray.empty)
  else bLp++zbV ((Ty.txP ps).map fun p=>brB (p.1==4) p.2) bSt++bRp
def Ty.txP:List Ty->List (Int×ByteArray)
 | []=>[]
 | p::ps=>(p.k,Ty.tx p)::Ty.txP ps
end
theorem Ty.txP_eq:∀ps,Ty.txP ps=ps.map fun p=>(p.k,p.tx)
 | []=>rfl
 | p::ps=>by rw[Ty.txP,Ty.txP_eq ps];rfl
def Ty.btx (p:Ty):ByteArray:=brB (p.k==4) p.tx
theorem Ty.tx_eq (t:Ty):t.tx=if t.k=1 then nmB t.n else if t.k=2 then ⟨#[105,110,116]⟩ else if t.k=3 then ⟨#[98,111,111,108]⟩
  else if t.k=4 then (match t.ps with
   | a::b::_=>a.btx++bAr++b.tx
   | _=>ByteArray.empty)
  else bLp++zbV (t.ps.map Ty.btx) bSt++bRp:=by
 cases t with
 | mk k n ps =>
  have e:(match ps.map (fun p=>(p.k,p.tx)) with
    | (ka,a)::(_,b)::_=>brB (ka==4) a++bAr++b
    | _=>ByteArray.empty)=(match ps with
    | a::b::_=>a.btx++bAr++b.tx
    | _=>ByteArray.empty):=by
   cases ps with
   | nil=>rfl
   | cons a ps =>
    cases ps with
    | nil=>rfl
    | cons b ps=>rfl
  rw[Ty.tx,Ty.txP_eq,e,List.map_map];rfl
def sumS (l:List ByteArray):Nat:=(l.map ByteArray.size).sum
theorem zk9 (x y:List UInt8) (l:List (List UInt8)) (sep:List UInt8):Lib.join (x::y::l) sep=x++sep++Lib.join (y::l) sep:=by
 simp[Lib.join,List.intercalate,List.intersperse]
theorem zkl (sep:List UInt8):∀l:List (List UInt8),(Lib.join l sep).length<=(l.map List.length).sum+sep.length * l.length
 | []=>by simp[Lib.join,List.intercalate,List.intersperse]
 | [x]=>by simp[Lib.join,List.intercalate,List.intersperse]
 | x::y::l=>by
  have:=zkl sep (y::l);rw[zk9];simp only[zj,zo,List.sum_cons,zJ] at this ⊢;rw[Nat.mul_add sep.length (l.length+1),Nat.mul_one];omega
theorem zgF (l:List ByteArray) (sep:ByteArray):(zbV l sep).size<=sumS l+sep.size * l.length:=by
 have h:=zkl sep.data.toList (l.map (·.data.toList));have e1:(zbV l sep).size=(Lib.join (l.map (·.data.toList)) sep.data.toList).length:=rfl
 have e2:((l.map (·.data.toList)).map List.length).sum=sumS l:=by
  unfold sumS;rw[List.map_map];congr 1
 have e3:sep.data.toList.length=sep.size:=Array.length_toList;rw[e1];rw[e2,e3,zi] at h;exact h
def bt (s:ByteArray) (i:Nat):Int:=(((s[i]?).getD 0).toNat:Int)
theorem zc1 (s:ByteArray) (i:Nat):0<=bt s i/\bt s i<256:=by
 unfold bt;have:=((s[i]?).getD 0).toNat_lt;omega
def isSg (c:Int):Bool:=c==40||c==41||c==44||c==58||c==61||c==42
def nxF (s:ByteArray) (i:Nat):Int×Nat×Int :=
 if smI (bt s i) then
  if kwB (s.extract i (i+zdg s i inI)) then (3,zdg s i inI,0) else if 20<zdg s i inI then (0,0,2) else (1,zdg s i inI,0)
 else if dgI (bt s i) then
  if (1<zdg s i dgI/\bt s i=48)\/(i+zdg s i dgI<s.size/\inI (bt s (i+zdg s i dgI))=true) then (0,0,3)
  else if 9<zdg s i dgI then (0,0,2) else (2,zdg s i dgI,0)
 else if isSg (bt s i) then (4,1,0)
 else if bt s i=45/\i+1<s.size/\bt s (i+1)=62 then (4,2,0)
 else (0,0,3)
def tkOf (s:ByteArray) (i:Nat):Tok:=⟨(nxF s i).1,s.extract i (i+(nxF s i).2.1),i,((i+(nxF s i).2.1:Nat):Int)⟩
def tkEnd (s:ByteArray):Tok:=⟨0,ByteArray.empty,s.size,s.size⟩
def wdF (s:ByteArray):Nat->Nat->List Tok->List Tok×Int×Int
 | 0,i,out=>([],i,3)
 | f+1,i,out =>
  if i<s.size then
   if blI (bt s i) then wdF s f (i+1) out
   else if bt s i=35 then wdF s f (i+zdg s i (fun c=>c != 10)) out
   else if (nxF s i).2.2=0 then wdF s f (i+(nxF s i).2.1) (out++[tkOf s i])
   else ([],i,(nxF s i).2.2)
  else (out++[tkEnd s],0,0)
def wdA (s:ByteArray):List Tok×Int×Int:=wdF s (s.size+1) 0 []
theorem zkk {s:ByteArray} {i:Nat} {p:Int->Bool} (hi:i<s.size) (h:p (bt s i)=true):0<zdg s i p:=by
 have h1:=zg3 s i p tz1;rcases Nat.eq_zero_or_pos (zdg s i p) with h0 | h0
 ·exfalso
  unfold zdg at h0;have hl:s.data.toList.length=s.size:=Array.length_toList
  have hd:s.data.toList.drop i=((s[i]?).getD 0)::s.data.toList.drop (i+1):=by
   (have h2:i<s.data.toList.length:=by omega);rw[List.drop_eq_getElem_cons h2];(congr 1);have:=zg5 hi;rw[zb h2] at this;exact Option.some.inj this
  rw[hd,List.takeWhile_cons,if_pos (by exact h)] at h0;simp at h0
 exact h0
section
variable {s:ByteArray} {i n:Nat}
end
structure WS where
 f:Nat
 i:Nat
 out:List Tok
def WS.ok (s:ByteArray) (RES:List Tok×Int×Int) (w:WS):Prop:=wdF s w.f w.i w.out=RES/\s.size-w.i<w.f/\w.i<=s.size/\w.out.length<=w.i
section
variable {s:ByteArray} {RES:List Tok×Int×Int} {w:WS}
theorem WS.ok.stop (h:w.ok s RES) (hi:¬w.i<s.size):RES=(w.out++[tkEnd s],0,0):=by
 obtain ⟨h1,h2,_,_⟩:=h;obtain ⟨g,hg⟩:∃g,w.f=g+1:=⟨w.f-1,by omega⟩;rw[hg,wdF,if_neg hi] at h1;exact h1.symm
theorem WS.ok.blank (h:w.ok s RES) (hi:w.i<s.size) (hb:blI (bt s w.i)=true):WS.ok s RES ⟨w.f-1,w.i+1,w.out⟩:=by
 obtain ⟨h1,h2,h3,h4⟩:=h;obtain ⟨g,hg⟩:∃g,w.f=g+1:=⟨w.f-1,by omega⟩;rw[hg,wdF,if_pos hi,if_pos hb] at h1;exact ⟨by simp only[hg,Nat.add_sub_cancel];exact h1,by simp only;omega,by simp only;omega,by simp only;omega⟩
theorem WS.ok.rem (h:w.ok s RES) (hi:w.i<s.size) (hb:blI (bt s w.i)=false) (hc:bt s w.i=35) {n:Nat} (hn:zdg s w.i (fun c=>c != 10)=n):WS.ok s RES ⟨w.f-1,w.i+n,w.out⟩:=by
 obtain ⟨h1,h2,h3,h4⟩:=h;obtain ⟨g,hg⟩:∃g,w.f=g+1:=⟨w.f-1,by omega⟩;rw[hg,wdF,if_pos hi,if_neg (by simp[hb]),if_pos hc,hn] at h1;have hp:0<zdg s w.i (fun c=>c != 10):=zkk (p:=fun c=>c != 10) hi (by rw[hc];decide);have hl:w.i+zdg s w.i (fun c=>c != 10)<=s.size:=zg3 s w.i (fun c=>c != 10) tz1;rw[hn] at hp hl;exact ⟨by simp only[hg,Nat.add_sub_cancel];exact h1,by simp only;omega,by simp only;omega,by simp only;omega⟩
end
inductive Ty.Gd:Ty->Prop where
 | int:Ty.Gd (.mk 2 0 [])
 | bool:Ty.Gd (.mk 3 0 [])
 | fn {a b:Ty} (ha:a.Gd) (hb:b.Gd):Ty.Gd (.mk 4 0 [a,b])
 | tup {ps:List Ty} (h2:2<=ps.length) (h8:ps.length<=8) (h:∀p∈ps,p.Gd):Ty.Gd (.mk 5 0 ps)
abbrev Vw:=Int×ByteArray
def vw (t:Tok):Vw:=(t.k,t.s)
theorem zh0 {t:Ty} (h:¬t.k=4):t.btx=t.tx:=by
 unfold Ty.btx brB;rw[if_neg (by simpa using h)]
theorem zdM (k n:Int) (ps:List Ty):(Ty.mk k n ps).cnt=1+Ty.cntL ps:=by have:=(Ty.mk k n ps).cnt_eq;simpa [Ty.ps] using this
theorem zhc (t:Ty):1<=t.cnt:=by rw[t.cnt_eq];omega
theorem zkj (t:Ty):t.btx.size<=t.tx.size+2:=zkf _ _
end Go.Proofs.YtkokfdmggdhfmaaGreatDoor
namespace Go.Proofs.YtkokfdmggdhfmaaGreatDoor
open Go Go.RowKit
attribute [local irreducible] aops zaE
theorem zfa {p:Ty}:∀{qs:List Ty},p∈qs->p.cnt<=Ty.cntL qs
 | r::qs,hp=>by
  rw[Ty.cntL];(rcases zH.1 hp with rfl | hp);(·omega);have:=zfa hp;omega
theorem zcg {ps:List Ty} {s:Nat} {p:Ty} (hp:ps[s]?=some p):((ps.take (s+1)).map Ty.btx).map zaJ=((ps.take s).map Ty.btx).map zaJ++[[.v (.string (brB (p.k==4) p.tx))]]:=by
 rw[List.take_add_one,hp];simp[zaJ,Ty.btx]
theorem zhl {n id:Nat} {l:List ByteArray} (h:id<n):Und n (.osl id 1 (l.map zaJ)):=.osl h (.data (zgM l))
theorem zhV {n id:Nat} {l:List ByteArray} {b:ByteArray} (h:id<n):Und n (.osl id 1 (l.map zaJ++[[.v (.string b)]])):=by
 have h1:=zhl (l:=l++[b]) h;rw[zf] at h1;exact h1
theorem zeG (b:Bool) (s:ByteArray) (hs:s.size<=1099511627776):APure Tryz.prog 146 [.v (.bool b),.v (.string s)] (.v (.string (brB b s))):=by
  refine APure.mkL (.cons (.v _) (.cons (.v _) .nil)) (.v _) ?_;refine aIn Tryz.func146 fun hm=>?_;simp only[Tryz.ntmps146,Tryz.results146,go_sem,seval];have hz3:((((#[40]:Array UInt8).size+s.size:Nat):Int)<=IntKind.i64.max)=True:=eq_true (by ( show ((1+s.size:Nat):Int)<=9223372036854775807);omega);have hz2:((((#[40]:Array UInt8).size+s.size+(#[41]:Array UInt8).size:Nat):Int)<=IntKind.i64.max)=True:=eq_true (by ( show ((1+s.size+1:Nat):Int)<=9223372036854775807);omega);refine sqR fun _ y=>?_;simp only[↓bO,go_sem,seval,hz3,hz2];apply y;refine zM fun _ y=>?_;refine sqR fun _ u=>?_;simp only[↓bO,go_sem,seval,hz3,hz2];apply u;apply zO rfl <;> intro hb5
  ·
   refine sqR fun _ u=>?_;(iterate 3 (refine chS 1 ?_ (by intro _ q;simp only[↓bO,go_sem,seval,hz3,hz2];exact q)));simp only[↓bO,go_sem,seval,hz3,hz2];apply u;apply zP;(try simp only[go_sem]);refine Le.of_eq (congrArg (fun s=>AV.v (.string s)) ?_);simp_all [brB,bLp,bRp]
  apply zS;apply y;refine sqR fun _ y=>?_;refine chS 1 ?_ (by intro _ q;simp only[↓bO,go_sem,seval,hz3,hz2];exact q);simp only[↓bO,go_sem,seval,hz3,hz2];apply y;apply zP;(try simp only[go_sem]);refine Le.of_eq (congrArg (fun s=>AV.v (.string s)) ?_);simp_all [brB,bLp,bRp]
end Go.Proofs.YtkokfdmggdhfmaaGreatDoor
namespace Go.Proofs.YtkokfdmggdhfmaaGreatDoor
open Go Go.Shelf
def Tryz.laysM171_ren:Go.Shelf.Ren:=⟨fun | 171=>100 | 243=>144 | 246=>184 | 283=>205 | 284=>206 | 285=>207 | 286=>208 | 129=>221 | 317=>220 | 318=>222 | 319=>223 | 320=>224 | 337=>230 | 338=>231 | n=>n,fun | 3=>3 | 9=>9 | 2=>2 | 4=>4 | 171=>245 | 0=>0 | 53=>238 | 37=>46 | 5=>5 | 173=>248 | 212=>258 | 51=>176 | 20=>20 | 213=>259 | 46=>205 | 232=>269 | 233=>270 | n=>n,fun | 17=>5 | 18=>6 | 19=>7 | n=>n⟩
theorem Tryz.laysM171:Go.Proofs.LaysM.n171 Tryz.prog Tryz.laysM171_ren:={
 mixed:=by kernel_rfl
 f129:=Tryz.func221.trans (congrArg some tz0)
 f171:=Tryz.func100.trans (congrArg some tz0)
 f243:=Tryz.func144.trans (congrArg some tz0)
 f246:=Tryz.func184.trans (congrArg some tz0)
 f283:=Tryz.func205.trans (congrArg some tz0)
 f284:=Tryz.func206.trans (congrArg some tz0)
 f285:=Tryz.func207.trans (congrArg some tz0)
 f286:=Tryz.func208.trans (congrArg some tz0)
 f317:=Tryz.func220.trans (congrArg some tz0)
 f318:=Tryz.func222.trans (congrArg some tz0)
 f319:=Tryz.func223.trans (congrArg some tz0)
 f320:=Tryz.func224.trans (congrArg some tz0)
 f337:=Tryz.func230.trans (congrArg some tz0)
 f338:=Tryz.func231.trans (congrArg some tz0)
 t0:=Tryz.underlying0
 a0:=Tryz.isAgg0
 z0:=Tryz.sizeOf0
 v0:=Tryz.zeroValue0
 t2:=Tryz.underlying2
 a2:=Tryz.isAgg2
 z2:=Tryz.sizeOf2
 v2:=Tryz.zeroValue2
 t3:=Tryz.underlying3
 a3:=Tryz.isAgg3
 z3:=Tryz.sizeOf3
 v3:=Tryz.zeroValue3
 t4:=Tryz.underlying4
 a4:=Tryz.isAgg4
 z4:=Tryz.sizeOf4
 v4:=Tryz.zeroValue4
 t5:=Tryz.underlying5
 a5:=Tryz.isAgg5
 z5:=Tryz.sizeOf5
 v5:=Tryz.zeroValue5
 t9:=Tryz.underlying9
 a9:=Tryz.isAgg9
 z9:=Tryz.sizeOf9
 v9:=Tryz.zeroValue9
 t20:=Tryz.underlying20
 a20:=Tryz.isAgg20
 z20:=Tryz.sizeOf20
 v20:=Tryz.zeroValue20
 t37:=Tryz.underlying46
 a37:=Tryz.isAgg46
 z37:=Tryz.sizeOf46
 v37:=Tryz.zeroValue46
 t46:=Tryz.underlying205
 a46:=Tryz.isAgg205
 z46:=Tryz.sizeOf205
 v46:=Tryz.zeroValue205
 t51:=Tryz.underlying176
 a51:=Tryz.isAgg176
 z51:=Tryz.sizeOf176
 v51:=Tryz.zeroValue176
 t53:=Tryz.underlying238
 a53:=Tryz.isAgg238
 z53:=Tryz.sizeOf238
 v53:=Tryz.zeroValue238
 t171:=Tryz.underlying245
 a171:=Tryz.isAgg245
 z171:=Tryz.sizeOf245
 v171:=Tryz.zeroValue245
 t173:=Tryz.underlying248
 a173:=Tryz.isAgg248
 z173:=Tryz.sizeOf248
 v173:=Tryz.zeroValue248
 t212:=Tryz.underlying258
 a212:=Tryz.isAgg258
 z212:=Tryz.sizeOf258
 v212:=Tryz.zeroValue258
 t213:=Tryz.underlying259
 a213:=Tryz.isAgg259
 z213:=Tryz.sizeOf259
 t232:=Tryz.underlying269
 a232:=Tryz.isAgg269
 z232:=Tryz.sizeOf269
 v232:=Tryz.zeroValue269
 t233:=Tryz.underlying270
 a233:=Tryz.isAgg270
 z233:=Tryz.sizeOf270
 v233:=Tryz.zeroValue270
 g17:=by kernel_rfl
 g18:=by kernel_rfl
 g19:=by kernel_rfl
 i0:=by kernel_rfl
 i2:=by kernel_rfl
 i3:=by kernel_rfl
 i4:=by kernel_rfl
 i5:=by kernel_rfl
 i9:=by kernel_rfl
 i20:=by kernel_rfl
 i37:=by kernel_rfl
 i46:=by kernel_rfl
 i51:=by kernel_rfl
 i53:=by kernel_rfl
 i171:=by kernel_rfl
 i173:=by kernel_rfl
 i212:=by kernel_rfl
 i232:=by kernel_rfl
 i233:=by kernel_rfl
 m17:=by kernel_rfl
 m18:=by kernel_rfl
 m19:=by kernel_rfl}
open Go.RowKit Go.Sort Go.Lib in
theorem Tryz.strconv_Itoa (n:Int) (h0:-9223372036854775808<=n) (h1:n<=9223372036854775807) (w:World) (htab:Lib.TabIs Tryz.prog w "internal/strconv.uint64pow10" .u64 Lib.pow10Tab) :
  Calls Tryz.prog 100 #[.int .i64 n] w fun e w'=>e=.returned (.string ⟨(Lib.itoa n).toArray⟩)/\∃k os,w'=grow (w.drewN k) os:=Any.strconv_Itoa Tryz.laysM171 n h0 h1 w htab
end Go.Proofs.YtkokfdmggdhfmaaGreatDoor
namespace Go.Proofs.YtkokfdmggdhfmaaGreatDoor
open Go Go.RowKit
attribute [local irreducible] aops zaE
theorem Itoa_pure (n:Int) (h0:-9223372036854775808<=n) (h1:n<=9223372036854775807):APure Tryz.prog 100 [.v (.int .i64 n)] (.v (.string (itB n))):=by
 refine APure.ofCalls ⟨_,Tryz.func100,by kernel_rfl,by kernel_rfl⟩ (.cons (.v _) .nil) (.v _) fun E A w vs hgl hA hr=>?_;obtain ⟨u,rfl,h9⟩:=hr.one;(cases h9);refine (Tryz.strconv_Itoa n h0 h1 w (hgl.tab gl_mem5 tz0 tz0)).mono ?_;rintro e w' ⟨rfl,k,os,rfl⟩;exact ⟨_,rfl,Lib.below_grow _ w (zw _) k os,.v _⟩
theorem zfg (n:Int) (h0:0<=n) (h1:n<1073741824):APure Tryz.prog 53 [.v (.int .i64 n)] (.v (.string (nmB n))):=by
  refine APure.mkL (.cons (.v _) .nil) (.v _) ?_;refine aIn Tryz.func53 fun hm=>?_;simp only[Tryz.ntmps53,Tryz.results53,go_sem,seval];have hm1:n.tmod 26=n % 26:=Int.tmod_eq_emod_of_nonneg h0;have hd1:n.tdiv 26=n / 26:=Int.tdiv_eq_ediv_of_nonneg h0;have hw1:IntKind.i64.wrap (97+n % 26)=97+n % 26:=zac tz1 tz1;have hw4:IntKind.i64.wrap (n % 26)=n % 26:=zac tz1 tz1;(have hw2:IntKind.i32.wrap (97+n % 26)=97+n % 26:=by (unfold IntKind.wrap;simp[IntKind.bits,IntKind.signed];omega));have hw3:IntKind.i64.wrap (n / 26)=n / 26:=zac tz1 tz1;have hns:nmH n=(⟨#[39]⟩:ByteArray)++(Utf8.encode (97+n % 26)):=rfl;have hnz:=zc0 n;(have hnz2:1+(Utf8.encode (97+n % 26)).size=2:=by (rw[hns,ByteArray.size_append] at hnz;exact hnz));have hit:=zeX (n / 26) tz1 tz1;have hz1:((((#[39]:Array UInt8).size+(Utf8.encode (97+n % 26)).size:Nat):Int)<=IntKind.i64.max)=True:=eq_true (by ( show ((1+(Utf8.encode (97+n % 26)).size:Nat):Int)<=9223372036854775807);omega);have hz2:((((#[39]:Array UInt8).size+(Utf8.encode (97+n % 26)).size+(itB (n / 26)).size:Nat):Int)<=IntKind.i64.max)=True:=eq_true (by ( show ((1+(Utf8.encode (97+n % 26)).size+(itB (n / 26)).size:Nat):Int)<=9223372036854775807);omega);refine sqR fun _ u=>?_;simp only[↓bO,go_sem,seval,hm1,hd1,hw1,hw2,hw3,hw4,hz1,hz2];apply u;refine zM fun _ u=>?_;refine sqR fun _ w=>?_;refine chS 1 ?_ (by intro _ q;simp only[↓bO,go_sem,seval,hm1,hd1,hw1,hw2,hw3,hw4,hz1,hz2];exact q);refine zL 1 fun _ y=>?_;simp only[↓bO,go_sem,seval,hm1,hd1,hw1,hw2,hw3,hw4,hz1,hz2];refine APure.call (zet n) ?_;apply y;clear y;simp only[↓bO,go_sem,seval,hm1,hd1,hw1,hw2,hw3,hw4,hz1,hz2];apply w;apply zO rfl <;> intro hb6
  ·
   exact absurd hb6 tz7
  apply zS;apply u;refine sqR fun _ u=>?_;(iterate 6 (refine chS 1 ?_ (by intro _ q;simp only[↓bO,go_sem,seval,hm1,hd1,hw1,hw2,hw3,hw4,hz1,hz2];exact q)));simp only[↓bO,go_sem,seval,hm1,hd1,hw1,hw2,hw3,hw4,hz1,hz2];apply u;refine zaC (mB 21 8) ([(3,.v (.string (nmB n)))]) ([]) ?_ ?_
  ·
   refine sqR fun _ u=>?_;refine chS 1 ?_ (by intro _ q;simp only[↓bO,go_sem,seval,hm1,hd1,hw1,hw2,hw3,hw4,hz1,hz2];exact q);simp only[↓bO,go_sem,seval,hm1,hd1,hw1,hw2,hw3,hw4,hz1,hz2];apply u;apply zO rfl <;> intro hb14
   ·
    apply zN;(iterate 3 (refine chS 1 ?_ (by intro _ q;simp only[↓bO,go_sem,seval,hm1,hd1,hw1,hw2,hw3,hw4,hz1,hz2];exact q)));refine zL 1 fun _ y=>?_;simp only[↓bO,go_sem,seval,hm1,hd1,hw1,hw2,hw3,hw4,hz1,hz2];refine APure.call (Itoa_pure (n / 26) tz1 tz1) ?_;apply y;clear y;refine chS 1 ?_ (by intro _ q;simp only[↓bO,go_sem,seval,hm1,hd1,hw1,hw2,hw3,hw4,hz1,hz2];exact q);simp only[↓bO,go_sem,seval,hm1,hd1,hw1,hw2,hw3,hw4,hz1,hz2];(try simp only[go_sem,seval]);(have hnb:nmB n=if 26<=n then nmH n++itB (n / 26) else nmH n:=rfl);rw[hns] at hnb;(first | rw[hnb,if_pos (by simpa using hb14)] | rw[hnb,if_neg (by simpa using hb14)]);exact clz2
   apply zS;(try simp only[go_sem]);(try simp only[go_sem,seval]);(have hnb:nmB n=if 26<=n then nmH n++itB (n / 26) else nmH n:=rfl);rw[hns] at hnb;(first | rw[hnb,if_pos (by simpa using hb14)] | rw[hnb,if_neg (by simpa using hb14)]);exact clz2
  simp only[go_sem,seval];refine sqR fun _ u=>?_;refine chS 1 ?_ (by intro _ q;simp only[↓bO,go_sem,seval,hm1,hd1,hw1,hw2,hw3,hw4,hz1,hz2];exact q);simp only[↓bO,go_sem,seval,hm1,hd1,hw1,hw2,hw3,hw4,hz1,hz2];apply u;apply zP;exact Le.refl _
theorem right_part {t:Ty} (h:t.right=true):∀p∈t.ps,p.right=true:=by
 rw[Ty.right_eq,zl,zB] at h;exact h.2
theorem zcu {t:Ty} (h:t.right=true):(t.k=1/\0<=t.n/\t.n<1073741824/\t.ps.length=0)\/(t.n=0/\(((t.k=2\/t.k=3)/\t.ps.length=0)\/(t.k=4/\t.ps.length=2)\/(t.k=5/\2<=t.ps.length/\t.ps.length<=8))):=by
 rw[Ty.right_eq,zl] at h;have h1:=h.1;simp only[okN,ze] at h1;exact h1
theorem right_var {t:Ty} (h:t.right=true) (hk:t.k=1):0<=t.n/\t.n<1073741824:=by
 have:=zcu h;omega
theorem zck {t:Ty} (h:t.right=true) (hk:t.k=4):∃a b,t.ps=[a,b]:=by
 have h1:=zcu h;have h2:t.ps.length=2:=by omega
 match hp:t.ps,h2 with
 | [a,b],_=>exact ⟨a,b,rfl⟩
theorem tx_sumR:∀qs:List Ty,(∀p∈qs,p.tx.size+5<=30 * p.cnt)->sumS (qs.map Ty.btx)+3 * qs.length<=30 * Ty.cntL qs:=by
 intro qs
 induction qs with
 | nil=>intro _;simp[Ty.cntL,sumS]
 | cons q qs ihq =>
  intro hq;have h4:=hq q tz4;(have h5:=ihq fun p hp=>hq p (by simp[hp]));have h6:=zkj q;simp only[sumS,zo,List.sum_cons,Ty.cntL,zJ] at h5 ⊢;omega
theorem right_tx0:∀t:Ty,t.right=true->t.tx.size+5<=30 * t.cnt:=by
 refine Ty.ind fun t ih=>?_;intro hr;have hc:=t.cnt_eq;have hp:=right_part hr;rw[t.tx_eq];split
 ·rename_i hk
  have hv:=right_var hr hk;have:=zcZ hv.1 hv.2;omega
 split;(·show 3+5<=_;omega);split;(·show 4+5<=_;omega);split
 ·rename_i hk
  obtain ⟨a,b,hps⟩:=zck hr hk;have ha:=ih a (by rw[hps];simp) (hp a (by rw[hps];simp));have hb:=ih b (by rw[hps];simp) (hp b (by rw[hps];simp));have h6:=zkj a;rw[hps] at hc ⊢;simp only[Ty.cntL] at hc;(show (a.btx++bAr++b.tx).size+5<=_);rw[ByteArray.size_append,ByteArray.size_append];have e:bAr.size=4:=rfl;omega
 have h1:=zgF (t.ps.map Ty.btx) bSt;(have h4:=tx_sumR t.ps fun p hq=>ih p hq (hp p hq));have e1:bLp.size=1:=rfl;have e2:bRp.size=1:=rfl;have e3:bSt.size=3:=rfl;rw[e3,zi] at h1;rw[ByteArray.size_append,ByteArray.size_append];omega
theorem zb6 {t:Ty} (h:t.right=true):t.tx.size+5<=30 * t.cnt:=right_tx0 t h
theorem tx_joinR {ps:List Ty} (h:∀p∈ps,p.right=true):(zbV (ps.map Ty.btx) bSt).size<=30 * Ty.cntL ps:=by
 have h1:=zgF (ps.map Ty.btx) bSt;(have h4:=tx_sumR ps fun p hp=>zb6 (h p hp));have e3:bSt.size=3:=rfl;rw[e3,zi] at h1;omega
def Ty.ptx (t:Ty):ByteArray:=if t.right=true then t.tx else ByteArray.empty
theorem zgJ {t:Ty} (h:t.right=true):t.ptx=t.tx:=if_pos h
theorem ptx_no {t:Ty} (h:t.right=false):t.ptx=ByteArray.empty:=if_neg (by simp[h])
theorem zk5:∀(T:Ty) (hr:T.right=true) (hc:T.cnt<=1048576),APure Tryz.prog 102 [.agg T.cells] (.v (.string T.tx)):=by
  refine Ty.ind fun T ih=>?_;intro hr hc;refine APure.mkL (.cons T.dataAgg .nil) (.v _) ?_;refine aIn Tryz.func102 fun hm=>?_;simp only[Tryz.ntmps102,Tryz.results102,go_sem,seval];have hcn:=T.cnt_eq;have hcl:=Ty.cntL_len T.ps;simp only[Ty.cells_eq T,zC,List.nil_append];have hgp0:=right_part hr;have hjs:=tx_joinR hgp0;have hz1:((((#[40]:Array UInt8).size+(zbV (T.ps.map Ty.btx) bSt).size:Nat):Int)<=IntKind.i64.max)=True:=eq_true (by ( show ((1+(zbV (T.ps.map Ty.btx) bSt).size:Nat):Int)<=9223372036854775807);omega);have hz2:((((#[40]:Array UInt8).size+(zbV (T.ps.map Ty.btx) bSt).size+(#[41]:Array UInt8).size:Nat):Int)<=IntKind.i64.max)=True:=eq_true (by ( show ((1+(zbV (T.ps.map Ty.btx) bSt).size+1:Nat):Int)<=9223372036854775807);omega);refine sqR fun _ u=>?_;simp only[↓bO,go_sem,seval,hz1,hz2];apply u;refine zM fun _ u=>?_;refine sqR fun _ w=>?_;simp only[↓bO,go_sem,seval,hz1,hz2];apply w;apply zU;refine sqR fun _ w=>?_;simp only[↓bO,go_sem,seval,hz1,hz2];apply w;apply zO rfl <;> intro hb8
  ·
   (have hk1:T.k=1:=by simpa using hb8);have hvn:=right_var hr hk1;refine sqR fun _ w=>?_;refine chS 2 ?_ (by intro _ q;simp only[↓bO,go_sem,seval,hz1,hz2];exact q);refine zL 1 fun _ y=>?_;simp only[↓bO,go_sem,seval,hz1,hz2];refine APure.call (zfg T.n hvn.1 hvn.2) ?_;apply y;clear y;simp only[↓bO,go_sem,seval,hz1,hz2];apply w;apply zP;(try simp only[go_sem]);refine Le.of_eq (congrArg (fun s=>AV.v (.string s)) ?_);rw[T.tx_eq];rw[if_pos hk1]
  (have hk1:¬T.k=1:=by simpa using hb8);refine sqR fun _ w=>?_;simp only[↓bO,go_sem,seval,hz1,hz2];apply w;apply zO rfl <;> intro hb13
  ·
   (have hk2:T.k=2:=by simpa using hb13);refine sqR fun _ w=>?_;simp only[↓bO,go_sem,seval,hz1,hz2];apply w;apply zP;(try simp only[go_sem]);refine Le.of_eq (congrArg (fun s=>AV.v (.string s)) ?_);rw[T.tx_eq];rw[if_neg hk1,if_pos hk2]
  (have hk2:¬T.k=2:=by simpa using hb13);refine sqR fun _ w=>?_;simp only[↓bO,go_sem,seval,hz1,hz2];apply w;apply zO rfl <;> intro hb15
  ·
   (have hk3:T.k=3:=by simpa using hb15);refine sqR fun _ w=>?_;simp only[↓bO,go_sem,seval,hz1,hz2];apply w;apply zP;(try simp only[go_sem]);refine Le.of_eq (congrArg (fun s=>AV.v (.string s)) ?_);rw[T.tx_eq];rw[if_neg hk1,if_neg hk2,if_pos hk3]
  (have hk3:¬T.k=3:=by simpa using hb15);refine sqR fun _ w=>?_;simp only[↓bO,go_sem,seval,hz1,hz2];apply w;apply zO rfl <;> intro hb17
  ·
   (have hk4:T.k=4:=by simpa using hb17);obtain ⟨a,b,hps⟩:=zck hr hk4;have hga:a.right=true:=hgp0 a (by rw[hps];simp);have hgb:b.right=true:=hgp0 b (by rw[hps];simp);(have hab:T.cnt=1+(a.cnt+b.cnt):=by (rw[hcn,hps];simp[Ty.cntL]));have hsa:=zb6 hga;have hsb:=zb6 hgb;have hsa2:=zkf (a.k==4) a.tx;have hz3:((((brB (a.k==4) a.tx).size+(#[32,45,62,32]:Array UInt8).size:Nat):Int)<=IntKind.i64.max)=True:=eq_true (by ( show (((brB (a.k==4) a.tx).size+4:Nat):Int)<=9223372036854775807);omega);have hz4:((((brB (a.k==4) a.tx).size+(#[32,45,62,32]:Array UInt8).size+b.tx.size:Nat):Int)<=IntKind.i64.max)=True:=eq_true (by ( show (((brB (a.k==4) a.tx).size+4+b.tx.size:Nat):Int)<=9223372036854775807);omega);refine zM fun _ w=>?_;refine zaG 19 mixed tz0 fun J0 j0=>?_;(iterate 3 (simp only[go_sem];refine z7 3 fun _ y=>?_;simp only[↓zaE,↓dOp,↓bO,go_sem,seval,hz1,hz2,hps,hz3,hz4];apply y;clear y));simp only[go_sem];refine z7 1 fun _ y=>?_;simp only[↓zaE,↓dOp,↓bO,go_sem,seval,hz1,hz2,hps,hz3,hz4];apply y;clear y;refine z7 1 fun _ y=>?_;simp only[↓zaE,↓dOp,↓bO,go_sem,seval,hz1,hz2,hps,hz3,hz4];refine ⟨_,ih a (by rw[hps];simp) hga tz1,?_⟩;apply y;clear y;refine z7 1 fun _ y=>?_;simp only[↓zaE,↓dOp,↓bO,go_sem,seval,hz1,hz2,hps,hz3,hz4];refine ⟨_,zeG (a.k==4) a.tx tz1,?_⟩;apply y;clear y;refine z7 3 fun _ y=>?_;simp only[↓zaE,↓dOp,↓bO,go_sem,seval,hz1,hz2,hps,hz3,hz4];apply y;clear y;refine z7 2 fun _ y=>?_;simp only[↓zaE,↓dOp,↓bO,go_sem,seval,hz1,hz2,hps,hz3,hz4];apply y;clear y;refine z7 1 fun _ y=>?_;simp only[↓zaE,↓dOp,↓bO,go_sem,seval,hz1,hz2,hps,hz3,hz4];refine ⟨_,ih b (by rw[hps];simp) hgb tz1,?_⟩;apply y;clear y;simp only[↓zaE,↓dOp,↓bO,go_sem,seval,hz1,hz2,hps,hz3,hz4];refine j0 _ ?_;clear j0 J0;simp only[go_sem];simp only[↓bO,go_sem,seval,hz1,hz2,hps,hz3,hz4];apply w;apply zP;(try simp only[go_sem]);refine Le.of_eq (congrArg (fun s=>AV.v (.string s)) ?_);rw[T.tx_eq];rw[if_neg hk1,if_neg hk2,if_neg hk3,if_pos hk4,hps];rfl
  (have hk4:¬T.k=4:=by simpa using hb17);apply zS;apply u;refine sqR fun _ u=>?_;simp only[↓bO,go_sem,seval,hz1,hz2];apply u;refine zM fun _ u=>?_;refine sqR fun _ w=>?_;refine chS 3 ?_ (by intro _ q;simp only[↓bO,go_sem,seval,hz1,hz2];exact q);simp only[↓bO,go_sem,seval,hz1,hz2];apply w;apply zU;refine zap (Weak.tokSlot 3 9 1 rfl) ?_;simp only[go_sem];refine zad (σ:=Nat) (mB 59 3848290697224) (fun s=>s<=T.ps.length) (fun s=>[(3,.osl 1 1 (((T.ps.take s).map Ty.btx).map zaJ)),(41,.v (.int .i64 (s:Int)))]) (fun s=>[(1,.tok 9 1 s)]) (fun s=>T.ps.length-s) 0 tz1 ?_ (fun s hs=>?_)
  ·
   simp only[go_sem,seval,bL];exact za5
  simp only[go_sem,seval];refine sqR fun _ w=>?_;simp only[↓bO,go_sem,seval,hz1,hz2];apply w;refine zM fun _ w=>?_;apply zO rfl <;> intro hb42
  ·
   (have hk:s<T.ps.length:=by simpa using hb42);obtain ⟨p,hp⟩:∃p,T.ps[s]?=some p:=⟨_,zb hk⟩;have hgp:=hgp0 p (zg hp);have hpc:=zfa (zg hp);have hsp:=zb6 hgp;have hw:IntKind.i64.wrap ((s:Int)+1)=(s:Int)+1:=zac tz1 tz1;(have hln:(((T.ps.take s).map Ty.btx).map zaJ).length=s:=by simp;omega);(have hb1:(s+1) * 16<=140737488355328:=by omega);(have hb2:s+1<=maxLen:=by simp only[maxLen];omega);apply zS;apply w;refine zM fun _ w=>?_;apply zU;refine sqR fun _ z=>?_;refine chS 3 ?_ (by intro _ q;simp only[↓bO,go_sem,seval,hz1,hz2,hk,gM hp,za,hw,hln,hb1,hb2,zcg hp];exact q);simp only[↓bO,go_sem,seval,hz1,hz2,hk,gM hp,za,hw,hln,hb1,hb2,zcg hp];apply z;refine zaG 8 mixed tz0 fun J0 j0=>?_;simp only[go_sem];refine z7 3 fun _ y=>?_;simp only[↓zaE,↓dOp,↓bO,go_sem,seval,hz1,hz2,hk,gM hp,za,hw,hln,hb1,hb2,zcg hp];apply y;clear y;refine z7 2 fun _ y=>?_;simp only[↓zaE,↓dOp,↓bO,go_sem,seval,hz1,hz2,hk,gM hp,za,hw,hln,hb1,hb2,zcg hp];apply y;clear y;refine z7 1 fun _ y=>?_;simp only[↓zaE,↓dOp,↓bO,go_sem,seval,hz1,hz2,hk,gM hp,za,hw,hln,hb1,hb2,zcg hp];refine ⟨_,ih p (zg hp) hgp tz1,?_⟩;apply y;clear y;refine z7 1 fun _ y=>?_;simp only[↓zaE,↓dOp,↓bO,go_sem,seval,hz1,hz2,hk,gM hp,za,hw,hln,hb1,hb2,zcg hp];refine ⟨_,zeG (p.k==4) p.tx tz1,?_⟩;apply y;clear y;simp only[↓zaE,↓dOp,↓bO,go_sem,seval,↓zbu,↓zbw,↓zbA,↓zbC,↓zbt,↓zbE,↓zbB,↓zbG,↓zbv,↓zaP,↓zaQ,↓zaR,hz1,hz2,hk,gM hp,za,hw,hln,hb1,hb2,zcg hp];refine j0 _ ?_;clear j0 J0;simp only[go_sem];simp only[↓bO,go_sem,seval,hz1,hz2,hk,gM hp,za,hw,hln,hb1,hb2,zcg hp];apply w;apply zN;simp only[↓bO,go_sem,seval,hz1,hz2,hk,gM hp,za,hw,hln,hb1,hb2,zcg hp];refine ⟨(s+1),tz1,by omega,?_⟩;simp only[go_sem,seval,hk,gM hp,za,zm,hw,hln,hb1,hb2,zcg hp];(first | (refine Weak.drops 1 2 rfl rfl tz5 tz5 ?_ ?_ ?_) | (refine Weak.drops 0 2 rfl rfl tz5 tz5 ?_ ?_ ?_));(· simp only[go_sem,Le.refl,Le.any,za,Int.cast_ofNat_Int,zm]);(· simp only[UndL,UndOs,Ob.Und,and_true,true_and,and_self,Und.v,Und.any,Und.ptr,Und.map,Nat.reduceLT,zy,Und.tys,Und.tyAgg,Und.oslTys,Und.oslTys1,Und.clo0,Und.ty,zhl,zhV,Und.tys,Nat.reduceLT]);simp only[UndL,UndOs,Ob.Und,and_true,true_and,and_self,Und.v,Und.any,Und.ptr,Und.map,Nat.reduceLT,zy,Und.tys,Und.tyAgg,Und.oslTys,Und.oslTys1,Und.clo0,Und.ty,zhl,zhV,Und.tys,Nat.reduceLT]
  (have hk:s=T.ps.length:=by simp at hb42;omega);apply zae;simp only[zaf,z8,zY,bA,Nat.reduceEqDiff,↓reduceIte];apply u;refine sqR fun _ u=>?_;refine chS 1 ?_ (by intro _ q;simp only[↓bO,go_sem,seval,hz1,hz2];exact q);refine zL 1 fun _ y=>?_;simp only[↓bO,go_sem,seval,hz1,hz2];refine ACalls.args (args':=[.sl 1 ((T.ps.map Ty.btx).map zaJ),.v (.string bSt)]) ⟨by rw[hk,zp];exact Le.oslL,.refl _,trivial⟩ ?_;refine APure.call (Join_pure (T.ps.map Ty.btx) bSt (by rw[zi];omega) tz1) ?_;apply y;clear y;simp only[↓bO,go_sem,seval,hz1,hz2];apply u;apply zP;(try simp only[go_sem]);refine Le.of_eq (congrArg (fun s=>AV.v (.string s)) ?_);rw[T.tx_eq];rw[if_neg hk1,if_neg hk2,if_neg hk3,if_neg hk4];rfl
theorem zfu (T:Ty) (hc:T.cnt<=1048576):APure Tryz.prog 56 [.agg T.cells] (.v (.string T.ptx)):=by
  refine APure.mkL (.cons T.dataAgg .nil) (.v _) ?_;refine aIn Tryz.func56 fun hm=>?_;simp only[Tryz.ntmps56,Tryz.results56,go_sem,seval];simp only[Ty.cells_eq T,zC,List.nil_append];refine sqD ?_;refine zM fun _ y=>?_;refine sqR fun _ u=>?_;refine chS 1 ?_;refine zL 1 fun _ q=>?_;simp only[↓bO,go_sem,seval];refine APure.call (by have h9:=zco T;rw[Ty.cells_eq T] at h9;exact h9) ?_;apply q;clear q;simp only[↓bO,go_sem,seval];apply u;apply zO rfl <;> intro hb5
  ·
   (have hr:T.right=false:=by simpa using hb5);refine sqD ?_;apply zP;(try simp only[go_sem]);rw[ptx_no hr];exact Le.refl _
  (have hr:T.right=true:=by simpa using hb5);apply zS;apply y;refine sqR fun _ y=>?_;refine chS 1 ?_;refine zL 1 fun _ q=>?_;simp only[↓bO,go_sem,seval];refine APure.call (by have h9:=zk5 T hr hc;rw[Ty.cells_eq T] at h9;exact h9) ?_;apply q;clear q;simp only[↓bO,go_sem,seval];apply y;apply zP;(try simp only[go_sem]);rw[zgJ hr];exact Le.refl _
def d10:ByteArray:=⟨#[48,49,50,51,52,53,54,55,56,57]⟩
def d26:ByteArray:=⟨#[97,98,99,100,101,102,103,104,105,106,107,108,109,110,111,112,113,114,115,116,117,118,119,120,121,122]⟩
theorem d10_at (k:Fin 10):d10.extract k.val (k.val+1)=⟨#[UInt8.ofNat (48+k.val)]⟩:=by revert k;decide
theorem zhC (k:Fin 26):d26.extract k.val (k.val+1)=Utf8.encode (97+(k.val:Int)):=by revert k;decide
theorem d10_ex {n:Nat} (h:n<10):d10.extract n (n+1)=⟨#[UInt8.ofNat (48+n)]⟩:=d10_at ⟨n,h⟩
theorem itB_one {n:Nat} (h:n<10):itB (n:Int)=d10.extract n (n+1):=by
 rw[d10_ex h];unfold itB;rw[Lib.itoa_nonneg,Lib.decDigits_one h]
theorem itB_more {n:Nat} (h:¬n<10):itB (n:Int)=itB ((n / 10:Nat):Int)++d10.extract (n % 10) (n % 10+1):=by
 rw[d10_ex tz1];unfold itB;rw[Lib.itoa_nonneg,Lib.itoa_nonneg,Lib.decDigits,dif_neg h];apply ByteArray.ext;simp[ByteArray.data_append]
theorem zhS (n:Nat) (hn:n<1099511627776) (ih:¬n<10->APure Tryz.prog 97 [.v (.int .i64 (n / 10:Nat))] (.v (.string (itB (n / 10:Nat))))):APure Tryz.prog 97 [.v (.int .i64 n)] (.v (.string (itB n))):=by
  refine APure.mkL (.cons (.v _) .nil) (.v _) ?_;refine aIn Tryz.func97 fun hm=>?_;simp only[Tryz.ntmps97,Tryz.results97,go_sem,seval];(have ht:((n:Int)).tdiv 10=((n / 10:Nat):Int):=by (rw[Int.tdiv_eq_ediv_of_nonneg tz1];omega));(have hm2:((n:Int)).tmod 10=((n % 10:Nat):Int):=by (rw[Int.tmod_eq_emod_of_nonneg tz1];omega));(have hw1:IntKind.i64.wrap ((n:Int)+1)=((n+1:Nat):Int):=by (rw[zac tz1 tz1];omega));(have hw2:IntKind.i64.wrap (((n % 10:Nat):Int))=((n % 10:Nat):Int):=by (rw[zac tz1 tz1]));(have hw3:IntKind.i64.wrap (((n % 10:Nat):Int)+1)=((n % 10+1:Nat):Int):=by (rw[zac tz1 tz1];omega));(have hw4:IntKind.i64.wrap (((n / 10:Nat):Int))=((n / 10:Nat):Int):=by (rw[zac tz1 tz1]));have h1:((n:Int)<=((n+1:Nat):Int))=True:=eq_true tz1;have h2:(((n % 10:Nat):Int)<=((n % 10+1:Nat):Int))=True:=eq_true tz1;have h3:(((n % 10+1:Nat):Int)<=(((#[48,49,50,51,52,53,54,55,56,57]:Array UInt8).size:Nat):Int))=True:=eq_true (by (show ((n % 10+1:Nat):Int)<=10);omega);have hz:=zeX ((n / 10:Nat):Int) tz1 tz1;(have hz2:((⟨(#[48,49,50,51,52,53,54,55,56,57]:Array UInt8)⟩:ByteArray).extract (n % 10) ((n % 10)+1)).size=1:=by (show (d10.extract (n % 10) (n % 10+1)).size=1;rw[d10_ex tz1];rfl));have hz3:(((itB ((n / 10:Nat):Int)).size+((⟨(#[48,49,50,51,52,53,54,55,56,57]:Array UInt8)⟩:ByteArray).extract (n % 10) ((n % 10)+1)).size:Nat):Int)<=IntKind.i64.max↔True:=iff_true_intro (by rw[hz2];show (((itB ((n / 10:Nat):Int)).size+1:Nat):Int)<=9223372036854775807;omega);(iterate 2 (refine zM fun _ u=>?_;apply zN;simp only[↓bO,go_sem,seval,ht,hm2,hw1,hw2,hw3,hw4,h1,h2,h3,hz3];apply u));refine zM fun _ u=>?_;refine sqR fun _ w=>?_;refine chS 1 ?_ (by intro _ q;simp only[↓bO,go_sem,seval,ht,hm2,hw1,hw2,hw3,hw4,h1,h2,h3,hz3];exact q);simp only[↓bO,go_sem,seval,ht,hm2,hw1,hw2,hw3,hw4,h1,h2,h3,hz3];apply w;apply zO rfl <;> intro hb5
  ·
   (have hlt:n<10:=by (have h9:=hb5;simp at h9;omega));have h4:(((n+1:Nat):Int)<=(((#[48,49,50,51,52,53,54,55,56,57]:Array UInt8).size:Nat):Int))=True:=eq_true (by (show ((n+1:Nat):Int)<=10);omega);refine sqR fun _ w=>?_;(iterate 5 (refine chS 1 ?_ (by intro _ q;simp only[↓bO,go_sem,seval,ht,hm2,hw1,hw2,hw3,hw4,h1,h2,h3,hz3,h4];exact q)));simp only[↓bO,go_sem,seval,ht,hm2,hw1,hw2,hw3,hw4,h1,h2,h3,hz3,h4];apply w;apply zP;(try simp only[go_sem]);refine Le.of_eq (congrArg (fun s=>AV.v (.string s)) ?_);rw[itB_one hlt];rfl
  (have hge:¬n<10:=by (have h9:=hb5;simp at h9;omega));apply zS;apply u;refine zM fun _ u=>?_;refine zaG 11 mixed tz0 fun J0 j0=>?_;(iterate 2 (simp only[go_sem];refine z7 1 fun _ y=>?_;simp only[↓zaE,↓dOp,↓bO,go_sem,seval,ht,hm2,hw1,hw2,hw3,hw4,h1,h2,h3,hz3];apply y;clear y));simp only[go_sem];refine z7 1 fun _ y=>?_;simp only[↓zaE,↓dOp,↓bO,go_sem,seval,ht,hm2,hw1,hw2,hw3,hw4,h1,h2,h3,hz3];refine ⟨_,ih hge,?_⟩;(iterate 7 (apply y;clear y;refine z7 1 fun _ y=>?_;simp only[↓zaE,↓dOp,↓bO,go_sem,seval,ht,hm2,hw1,hw2,hw3,hw4,h1,h2,h3,hz3]));apply y;clear y;simp only[↓zaE,↓dOp,↓bO,go_sem,seval,ht,hm2,hw1,hw2,hw3,hw4,h1,h2,h3,hz3];refine j0 _ ?_;clear j0 J0;simp only[go_sem];simp only[↓bO,go_sem,seval,ht,hm2,hw1,hw2,hw3,hw4,h1,h2,h3,hz3];apply u;apply zP;(try simp only[go_sem]);refine Le.of_eq (congrArg (fun s=>AV.v (.string s)) ?_);rw[itB_more hge];rfl
theorem zjG (n:Nat) (hn:n<1099511627776):APure Tryz.prog 97 [.v (.int .i64 n)] (.v (.string (itB n))):=by
 revert hn
 induction n using Nat.strongRecOn with
 | _ n ih=>intro hn;exact zhS n hn fun h=>ih (n / 10) tz1 tz1
theorem nmB_one {n:Nat} (h:n<26):nmB (n:Int)=(⟨#[39]⟩:ByteArray)++d26.extract (n % 26) (n % 26+1):=by
 have h1:=zhC ⟨n % 26,by omega⟩;(have e:(((n % 26:Nat)):Int)=(n:Int) % 26:=by omega);unfold nmB nmH;rw[if_neg tz1,h1];simp only[e]
theorem zj7 {n:Nat} (h:¬n<26):nmB (n:Int)=(⟨#[39]⟩:ByteArray)++d26.extract (n % 26) (n % 26+1)++itB ((n / 26:Nat):Int):=by
 have h1:=zhC ⟨n % 26,by omega⟩;(have e:(((n % 26:Nat)):Int)=(n:Int) % 26:=by omega);(have e2:(((n / 26:Nat)):Int)=(n:Int) / 26:=by omega);unfold nmB nmH;rw[if_pos tz1,h1];simp only[e,e2]
theorem d26_size (n:Nat):(d26.extract (n % 26) (n % 26+1)).size=1:=by
 have h1:=zhC ⟨n % 26,by omega⟩;have h2:=zc0 (n:Int);(have e:(((n % 26:Nat)):Int)=(n:Int) % 26:=by omega);simp only[e] at h1;unfold nmH at h2;rw[ByteArray.size_append,<- h1] at h2;have h3:(⟨#[39]⟩:ByteArray).size=1:=rfl;omega
theorem zgx (n:Nat) (hn:n<1073741824):APure Tryz.prog 48 [.v (.int .i64 n)] (.v (.string (nmB n))):=by
  refine APure.mkL (.cons (.v _) .nil) (.v _) ?_;refine aIn Tryz.func48 fun hm=>?_;simp only[Tryz.ntmps48,Tryz.results48,go_sem,seval];(have ht:((n:Int)).tdiv 26=((n / 26:Nat):Int):=by (rw[Int.tdiv_eq_ediv_of_nonneg tz1];omega));(have hm2:((n:Int)).tmod 26=((n % 26:Nat):Int):=by (rw[Int.tmod_eq_emod_of_nonneg tz1];omega));(have hw2:IntKind.i64.wrap (((n % 26:Nat):Int))=((n % 26:Nat):Int):=by (rw[zac tz1 tz1]));(have hw3:IntKind.i64.wrap (((n % 26:Nat):Int)+1)=((n % 26+1:Nat):Int):=by (rw[zac tz1 tz1];omega));(have hw4:IntKind.i64.wrap (((n / 26:Nat):Int))=((n / 26:Nat):Int):=by (rw[zac tz1 tz1]));have h2:(((n % 26:Nat):Int)<=((n % 26+1:Nat):Int))=True:=eq_true tz1;have h3:(((n % 26+1:Nat):Int)<=(((#[97,98,99,100,101,102,103,104,105,106,107,108,109,110,111,112,113,114,115,116,117,118,119,120,121,122]:Array UInt8).size:Nat):Int))=True:=eq_true (by (show ((n % 26+1:Nat):Int)<=26);omega);have hz:=zeX ((n / 26:Nat):Int) tz1 tz1;have hz2:((⟨(#[97,98,99,100,101,102,103,104,105,106,107,108,109,110,111,112,113,114,115,116,117,118,119,120,121,122]:Array UInt8)⟩:ByteArray).extract (n % 26) (n % 26+1)).size=1:=d26_size n;have hz3:((((#[39]:Array UInt8).size+((⟨(#[97,98,99,100,101,102,103,104,105,106,107,108,109,110,111,112,113,114,115,116,117,118,119,120,121,122]:Array UInt8)⟩:ByteArray).extract (n % 26) (n % 26+1)).size:Nat):Int)<=IntKind.i64.max)=True:=eq_true (by rw[hz2];show ((1+1:Nat):Int)<=9223372036854775807;omega);have hz4:((((#[39]:Array UInt8).size+((⟨(#[97,98,99,100,101,102,103,104,105,106,107,108,109,110,111,112,113,114,115,116,117,118,119,120,121,122]:Array UInt8)⟩:ByteArray).extract (n % 26) (n % 26+1)).size+(itB ((n / 26:Nat):Int)).size:Nat):Int)<=IntKind.i64.max)=True:=eq_true (by rw[hz2];show ((1+1+(itB ((n / 26:Nat):Int)).size:Nat):Int)<=9223372036854775807;omega);(iterate 2 (refine zM fun _ u=>?_;apply zN;simp only[↓bO,go_sem,seval,ht,hm2,hw2,hw3,hw4,h2,h3,hz3,hz4];apply u));refine zM fun _ u=>?_;refine sqR fun _ w=>?_;(iterate 3 (refine chS 1 ?_ (by intro _ q;simp only[↓bO,go_sem,seval,ht,hm2,hw2,hw3,hw4,h2,h3,hz3,hz4];exact q)));refine zX 7 rfl (fun hc7=>?_) (fun hc7=>?_)
  ·
   simp only[go_sem];exact absurd hc7 tz4
  (iterate 2 (refine chS 1 ?_ (by intro _ q;simp only[↓bO,go_sem,seval,ht,hm2,hw2,hw3,hw4,h2,h3,hz3,hz4];exact q)));simp only[↓bO,go_sem,seval,ht,hm2,hw2,hw3,hw4,h2,h3,hz3,hz4];apply w;apply zO rfl <;> intro hb10
  ·
   exact absurd hb10 tz7
  apply zS;apply u;refine sqR fun _ u=>?_;(iterate 8 (refine chS 1 ?_ (by intro _ q;simp only[↓bO,go_sem,seval,ht,hm2,hw2,hw3,hw4,h2,h3,hz3,hz4];exact q)));simp only[↓bO,go_sem,seval,ht,hm2,hw2,hw3,hw4,h2,h3,hz3,hz4];apply u;refine zM fun _ u=>?_;refine sqR fun _ w=>?_;refine chS 1 ?_ (by intro _ q;simp only[↓bO,go_sem,seval,ht,hm2,hw2,hw3,hw4,h2,h3,hz3,hz4];exact q);simp only[↓bO,go_sem,seval,ht,hm2,hw2,hw3,hw4,h2,h3,hz3,hz4];apply w;apply zO rfl <;> intro hb20
  ·
   (have hlt:n<26:=by (have h9:=hb20;simp at h9;omega));refine sqR fun _ w=>?_;refine chS 1 ?_ (by intro _ q;simp only[↓bO,go_sem,seval,ht,hm2,hw2,hw3,hw4,h2,h3,hz3,hz4];exact q);simp only[↓bO,go_sem,seval,ht,hm2,hw2,hw3,hw4,h2,h3,hz3,hz4];apply w;apply zP;(try simp only[go_sem]);refine Le.of_eq (congrArg (fun s=>AV.v (.string s)) ?_);rw[nmB_one hlt];rfl
  (have hge:¬n<26:=by (have h9:=hb20;simp at h9;omega));apply zS;apply u;refine sqR fun _ u=>?_;(iterate 3 (refine chS 1 ?_ (by intro _ q;simp only[↓bO,go_sem,seval,ht,hm2,hw2,hw3,hw4,h2,h3,hz3,hz4];exact q)));refine zL 1 fun _ y=>?_;simp only[↓bO,go_sem,seval,ht,hm2,hw2,hw3,hw4,h2,h3,hz3,hz4];refine APure.call (zjG (n / 26) tz1) ?_;apply y;clear y;refine chS 1 ?_ (by intro _ q;simp only[↓bO,go_sem,seval,ht,hm2,hw2,hw3,hw4,h2,h3,hz3,hz4];exact q);simp only[↓bO,go_sem,seval,ht,hm2,hw2,hw3,hw4,h2,h3,hz3,hz4];apply u;apply zP;(try simp only[go_sem]);refine Le.of_eq (congrArg (fun s=>AV.v (.string s)) ?_);rw[zj7 hge];rfl
end Go.Proofs.YtkokfdmggdhfmaaGreatDoor
namespace Go.Proofs.YtkokfdmggdhfmaaGreatDoor
open Go Go.RowKit
abbrev bl (s:ByteArray):List UInt8:=s.data.toList
theorem zbz (s:ByteArray):(bl s).length=s.size:=Array.length_toList
theorem zaq (a b:ByteArray):bl (a++b)=bl a++bl b:=by simp[bl,ByteArray.data_append]
theorem ex_at {s:ByteArray} {P X S:List UInt8} (h:bl s=P++(X++S)):s.extract P.length (P.length+X.length)=⟨X.toArray⟩:=by
 have h1:bl (s.extract P.length (P.length+X.length))=X:=by
  simp only[bl,ByteArray.data_extract,Array.toList_extract,List.extract_eq_take_drop];rw[show s.data.toList=bl s from rfl,h];simp
 have h2:(s.extract P.length (P.length+X.length)).data=X.toArray:=Array.ext' h1;exact congrArg ByteArray.mk h2
def Wst (s:ByteArray) (i j:Nat) (ts:List Vw):Prop:=∀(f:Nat) (out:List Tok),s.size-i<f->∃f' out',s.size-j<f'/\out'.map vw=out.map vw++ts/\wdF s f i out=wdF s f' j out'
variable {s:ByteArray}
theorem zg2 (sep x:List UInt8) (r:List (List UInt8)):Lib.joinTail sep (x::r)=sep++(x++Lib.joinTail sep r):=by simp[Lib.joinTail]
theorem ziW (p:Ty) (qs:List Ty):bl (zbV ((p::qs).map Ty.btx) bSt)=bl p.btx++Lib.joinTail (bl bSt) ((qs.map Ty.btx).map bl):=by
 (show Lib.join ((((p::qs).map Ty.btx)).map (·.data.toList)) bSt.data.toList=_);rw[zo,zo,Lib.join_cons]
end Go.Proofs.YtkokfdmggdhfmaaGreatDoor
namespace Go.Proofs.YtkokfdmggdhfmaaGreatDoor
open Go Go.RowKit
attribute [local irreducible] aops zaE
def sepT (T:Ty):ByteArray:=if T.k=5 then bSt else bAr
def ptT (T:Ty) (i:Nat) (p:Ty):ByteArray:=if p.k=4/\(T.k=5\/i=0) then bLp++p.tx++bRp else p.tx
def zex (T:Ty):Nat->ByteArray
 | 0=>ByteArray.empty
 | s+1=>match T.ps[s]? with
  | some p=>(if 0<s then zex T s++sepT T else zex T s)++ptT T s p
  | none=>zex T s
theorem zcm {T:Ty} {s:Nat} {p:Ty} (hp:T.ps[s]?=some p):zex T (s+1)=(if 0<s then zex T s++sepT T else zex T s)++ptT T s p:=by rw[zex,hp]
theorem zfc (T:Ty):(sepT T).size<=4:=by unfold sepT;split <;> decide
theorem zkG (T:Ty) (i:Nat) (p:Ty):(ptT T i p).size<=p.tx.size+2:=by
 unfold ptT;split
 ·rw[ByteArray.size_append,ByteArray.size_append]
  have e1:bLp.size=1:=rfl;have e2:bRp.size=1:=rfl;omega
 omega
theorem zhX {T:Ty} (hr:T.right=true):∀s,s<=T.ps.length->(zex T s).size<=40 * Ty.cntL (T.ps.take s)
 | 0,_=>by simp[zex,Ty.cntL]
 | s+1,h=>by
  obtain ⟨p,hp⟩:∃p,T.ps[s]?=some p:=⟨_,zb tz1⟩;have h1:=zhX hr s tz1;have h2:=zkG T s p;have h3:=zb6 (right_part hr p (zg hp));have h4:=zfc T;have h5:=Ty.cntL_take hp;have h6:=zhc p;rw[zcm hp,ByteArray.size_append];split;(·rw[ByteArray.size_append];omega);omega
theorem zi6 (x:ByteArray):ByteArray.empty++x=x:=by apply ByteArray.ext;simp[ByteArray.data_append]
theorem accT_four {T a b:Ty} (hk:T.k=4) (hps:T.ps=[a,b]):zex T 2=T.tx:=by
 (have h5:¬T.k=5:=by omega);(have h1:T.ps[0]?=some a:=by rw[hps];rfl);have h2:T.ps[1]?=some b:=by rw[hps];rfl
 have etx:T.tx=a.btx++bAr++b.tx:=by
  rw[T.tx_eq,if_neg tz1,if_neg tz1,if_neg tz1,if_pos hk,hps]
 rw[zcm h2,zcm h1,etx];simp only[zex,Nat.lt_irrefl,if_false,zi6,Nat.zero_lt_one,if_true];unfold sepT ptT Ty.btx brB;rw[if_neg h5,if_neg (show ¬(b.k=4/\(T.k=5\/1=0)) by omega)]
 by_cases ha:a.k=4
 (·rw[if_pos ⟨ha,.inr rfl⟩,if_pos (by simpa using ha)]);rw[if_neg fun h=>ha h.1,if_neg (by simpa using ha)]
theorem ziz {T:Ty} (hk:T.k=5):∀s,s<T.ps.length->zex T (s+1)=zbV ((T.ps.take (s+1)).map Ty.btx) bSt
 | 0,h=>by
  obtain ⟨p,hp⟩:∃p,T.ps[0]?=some p:=⟨_,zb tz1⟩
  have e:T.ps.take 1=[p]:=by
   cases hps:T.ps with
   | nil=>rw[hps] at hp;cases hp
   | cons q qs=>rw[hps] at hp;cases hp;rfl
  rw[zcm hp,e]
  have h1:ptT T 0 p=p.btx:=by
   unfold ptT Ty.btx brB
   by_cases ha:p.k=4
   (·rw[if_pos ⟨ha,.inr rfl⟩,if_pos (by simpa using ha)]);rw[if_neg fun h=>ha h.1,if_neg (by simpa using ha)]
  rw[h1];simp only[zex,Nat.lt_irrefl,if_false,zi6,zo,zE];apply ByteArray.ext;show _=(Lib.join [p.btx.data.toList] bSt.data.toList).toArray
  rw[Lib.join_one]
 | s+1,h=>by
  obtain ⟨p,hp⟩:∃p,T.ps[s+1]?=some p:=⟨_,zb tz1⟩;have ih:=ziz hk s tz1
  obtain ⟨q,qs,hq⟩:∃q qs,T.ps=q::qs:=by
   cases hps:T.ps with
   | nil=>rw[hps] at h;simp at h
   | cons q qs=>exact ⟨q,qs,rfl⟩
  (have hp2:qs[s]?=some p:=by rw[hq] at hp;simpa using hp);rw[zcm hp,ih]
  have h1:ptT T (s+1) p=p.btx:=by
   unfold ptT Ty.btx brB
   by_cases ha:p.k=4
   (·rw[if_pos ⟨ha,.inl hk⟩,if_pos (by simpa using ha)]);rw[if_neg fun h=>ha h.1,if_neg (by simpa using ha)]
  rw[h1,if_pos tz1];unfold sepT;rw[if_pos hk,hq];simp only[List.take_succ_cons];apply ByteArray.ext;apply Array.ext';have j1:=ziW q (qs.take s);have j2:=ziW q (qs.take (s+1));simp only[ByteArray.data_append,Array.toList_append];have e1:(zbV (List.map Ty.btx (q::List.take s qs)) bSt).data.toList=bl (zbV (List.map Ty.btx (q::List.take s qs)) bSt):=rfl;have e2:(zbV (List.map Ty.btx (q::List.take (s+1) qs)) bSt).data.toList=bl (zbV (List.map Ty.btx (q::List.take (s+1) qs)) bSt):=rfl;rw[e1,e2,j1,j2,List.take_add_one,hp2];simp[Lib.joinTail,bl]
theorem accT0 (T:Ty):zex T 0=⟨#[]⟩:=rfl
def preT (T:Ty) (s:Nat):ByteArray:=if 0<s then zex T s++sepT T else zex T s
theorem zas {T:Ty} {s:Nat} {p:Ty} (hp:T.ps[s]?=some p):zex T (s+1)=preT T s++ptT T s p:=zcm hp
theorem zeB:∀(ps:List Ty) (s:Nat),Ty.cntL (ps.take s)<=Ty.cntL ps
 | [],s=>by simp[Ty.cntL]
 | p::ps,0=>by simp[Ty.cntL]
 | p::ps,s+1=>by
  have:=zeB ps s;simp only[List.take_succ_cons,Ty.cntL];omega
theorem preT_size (T:Ty) (s:Nat):(preT T s).size<=(zex T s).size+4:=by
 have:=zfc T;unfold preT;split;(·rw[ByteArray.size_append];omega);omega
theorem text_end {T:Ty} (hr:T.right=true) (hk1:¬T.k=1) (hk2:¬T.k=2) (hk3:¬T.k=3):(T.k=5->bLp++zex T T.ps.length++bRp=T.tx)/\(¬T.k=5->zex T T.ps.length=T.tx):=by
 have hok:=zcu hr;constructor
 ·intro hk
  (have h2:2<=T.ps.length:=by omega);have h3:=ziz hk (T.ps.length-1) tz1;rw[show T.ps.length-1+1=T.ps.length by omega,zp] at h3;rw[h3,T.tx_eq,if_neg hk1,if_neg hk2,if_neg hk3,if_neg tz1]
 intro hk;(have hk4:T.k=4:=by omega);obtain ⟨a,b,hps⟩:=zck hr hk4;have h3:=accT_four hk4 hps;rw[hps];exact h3
theorem clz6 {p:Prop} (h:p:=by exact Weak.mk (by simp only[go_sem,Le.refl,Le.any,LeL,and_self]) (fun _ _ h=>h) rfl rfl):p:=h
theorem zgh:∀(T:Ty) (hr:T.right=true) (hc:T.cnt<=1048576),APure Tryz.prog 66 [.agg T.cells] (.v (.string T.tx)):=by
  refine Ty.ind fun T ih=>?_;intro hr hc;refine APure.mkL (.cons T.dataAgg .nil) (.v _) ?_;refine aIn Tryz.func66 fun hm=>?_;simp only[Tryz.ntmps66,Tryz.results66,go_sem,seval];have hcn:=T.cnt_eq;have hcl:=Ty.cntL_len T.ps;simp only[Ty.cells_eq T,zC,List.nil_append];have hgp0:=right_part hr;refine sqR fun _ u=>?_;refine chS 1 ?_;simp only[↓bO,go_sem,seval];apply u;refine zM fun _ u=>?_;refine sqR fun _ w=>?_;refine chS 1 ?_;simp only[↓bO,go_sem,seval];apply w;apply zU;refine sqR fun _ w=>?_;refine chS 1 ?_;simp only[↓bO,go_sem,seval];apply w;apply zO rfl <;> intro hb9
  ·
   (have hk1:T.k=1:=by simpa using hb9);have hvn:=right_var hr hk1;refine sqR fun _ w=>?_;(iterate 2 (refine chS 1 ?_));refine zL 1 fun _ y=>?_;simp only[↓bO,go_sem,seval];refine APure.call (by have h9:=zgx T.n.toNat tz1;rw[show ((T.n.toNat:Nat):Int)=T.n by omega] at h9;exact h9) ?_;apply y;clear y;simp only[↓bO,go_sem,seval];apply w;apply zP;(try simp only[go_sem]);refine Le.of_eq (congrArg (fun s=>AV.v (.string s)) ?_);rw[T.tx_eq,if_pos hk1]
  (have hk1:¬T.k=1:=by simpa using hb9);refine sqR fun _ w=>?_;refine chS 1 ?_;simp only[↓bO,go_sem,seval];apply w;apply zO rfl <;> intro hb14
  ·
   (have hk2:T.k=2:=by simpa using hb14);refine sqD ?_;apply zP;(try simp only[go_sem]);refine Le.of_eq (congrArg (fun s=>AV.v (.string s)) ?_);rw[T.tx_eq,if_neg hk1,if_pos hk2]
  (have hk2:¬T.k=2:=by simpa using hb14);refine sqR fun _ w=>?_;refine chS 1 ?_;simp only[↓bO,go_sem,seval];apply w;apply zO rfl <;> intro hb16
  ·
   (have hk3:T.k=3:=by simpa using hb16);refine sqD ?_;apply zP;(try simp only[go_sem]);refine Le.of_eq (congrArg (fun s=>AV.v (.string s)) ?_);rw[T.tx_eq,if_neg hk1,if_neg hk2,if_pos hk3]
  (have hk3:¬T.k=3:=by simpa using hb16);have hte:=text_end hr hk1 hk2 hk3;apply zS;apply u;refine sqR fun _ u=>?_;refine chS 1 ?_;simp only[↓bO,go_sem,seval];apply u;refine zaC (mB 68 26) ([(3,.v (.string (sepT T)))]) ([]) ?_ ?_
  ·
   refine sqR fun _ u=>?_;(iterate 2 (refine chS 1 ?_));simp only[↓bO,go_sem,seval];apply u;apply zO rfl <;> intro hb20
   ·
    apply zN;simp only[↓bO,go_sem,seval];(try simp only[go_sem,seval]);unfold sepT;(first | rw[if_pos (show T.k=5 by simpa using hb20)] | rw[if_neg (show ¬T.k=5 by simpa using hb20)]);simp only[bSt,bAr];exact clz6
   apply zS;(try simp only[go_sem]);(try simp only[go_sem,seval]);unfold sepT;(first | rw[if_pos (show T.k=5 by simpa using hb20)] | rw[if_neg (show ¬T.k=5 by simpa using hb20)]);simp only[bSt,bAr];exact clz6
  simp only[go_sem,seval];refine zM fun _ u=>?_;refine sqD ?_;apply zU;refine zad (σ:=Nat) (mB 68 58) (fun s=>s<=T.ps.length) (fun s=>[(4,.v (.string (zex T s))),(5,.v (.int .i64 (s:Int)))]) (fun s=>[]) (fun s=>T.ps.length-s) 0 tz1 ?_ (fun s hs=>?_)
  ·
   (try simp only[go_sem,seval,accT0]);exact za5
  simp only[go_sem,seval];have has:=zhX hr s hs;have htl:=zeB T.ps s;have hps2:=preT_size T s;have hse:=zfc T;have hz1:((((zex T s).size+(sepT T).size:Nat):Int)<=IntKind.i64.max)=True:=eq_true (by ( show (((zex T s).size+(sepT T).size:Nat):Int)<=9223372036854775807);omega);have hz4:((((#[40]:Array UInt8).size+(zex T s).size:Nat):Int)<=IntKind.i64.max)=True:=eq_true (by ( show ((1+(zex T s).size:Nat):Int)<=9223372036854775807);omega);have hz5:((((#[40]:Array UInt8).size+(zex T s).size+(#[41]:Array UInt8).size:Nat):Int)<=IntKind.i64.max)=True:=eq_true (by ( show ((1+(zex T s).size+1:Nat):Int)<=9223372036854775807);omega);refine zM fun _ w=>?_;refine sqR fun _ z=>?_;(iterate 4 (refine chS 1 ?_));simp only[↓bO,go_sem,seval];apply z;apply zO rfl <;> intro hb25
  ·
   (have hk:s<T.ps.length:=by (have h9:=hb25;simp at h9;omega));obtain ⟨p,hp⟩:∃p,T.ps[s]?=some p:=⟨_,zb hk⟩;have hgp:=hgp0 p (zg hp);have hpc:=zfa (zg hp);have hsp:=zb6 hgp;have hpz:=zkG T s p;have hw:IntKind.i64.wrap ((s:Int)+1)=(s:Int)+1:=zac tz1 tz1;have hz2:((((#[40]:Array UInt8).size+p.tx.size:Nat):Int)<=IntKind.i64.max)=True:=eq_true (by ( show ((1+p.tx.size:Nat):Int)<=9223372036854775807);omega);have hz3:((((#[40]:Array UInt8).size+p.tx.size+(#[41]:Array UInt8).size:Nat):Int)<=IntKind.i64.max)=True:=eq_true (by ( show ((1+p.tx.size+1:Nat):Int)<=9223372036854775807);omega);have hz6:((((preT T s).size+(ptT T s p).size:Nat):Int)<=IntKind.i64.max)=True:=eq_true (by ( show (((preT T s).size+(ptT T s p).size:Nat):Int)<=9223372036854775807);omega);apply zS;apply w;refine zM fun _ w=>?_;apply zU;refine sqR fun _ z=>?_;(iterate 5 (refine chS 1 ?_ (by intro _ q;simp only[↓bO,go_sem,seval,hk,hz1,gM hp,hw,zas hp,hz2,hz3,hz6];exact q)));refine zL 1 fun _ y=>?_;simp only[↓bO,go_sem,seval,hk,hz1,gM hp,hw,zas hp,hz2,hz3,hz6];refine APure.call (ih p (zg hp) hgp tz1) ?_;apply y;clear y;simp only[↓bO,go_sem,seval,hk,hz1,gM hp,hw,zas hp,hz2,hz3,hz6];apply z;refine zaC (mB 68 122) ([(6,.v (.string (ptT T s p)))]) ([]) ?_ ?_
   ·
    refine sqR fun _ z=>?_;(iterate 8 (refine chS 1 ?_ (by intro _ q;simp only[↓bO,go_sem,seval,hk,hz1,gM hp,hw,zas hp,hz2,hz3,hz6];exact q)));refine zX 41 rfl (fun hc41=>?_) (fun hc41=>?_)
    ·
     simp only[go_sem];(have hp4:p.k=4:=by (have h9:=hc41;simp at h9;exact h9));(iterate 4 (refine chS 1 ?_ (by intro _ q;simp only[↓bO,go_sem,seval,hk,hz1,gM hp,hw,zas hp,hz2,hz3,hz6];exact q)));refine zX 45 rfl (fun hc45=>?_) (fun hc45=>?_)
     ·
      simp only[go_sem];(have hpt:ptT T s p=bLp++p.tx++bRp:=by (unfold ptT;rw[if_pos ⟨hp4,.inl (by have h9:=hc45;simp at h9;exact h9)⟩]));(iterate 3 (refine chS 1 ?_ (by intro _ q;simp only[↓bO,go_sem,seval,hk,hz1,gM hp,hw,zas hp,hz2,hz3,hz6];exact q)));simp only[↓bO,go_sem,seval,hk,hz1,gM hp,hw,zas hp,hz2,hz3,hz6];apply z;refine zO (b:=true) (by first | exact rfl | exact congrArg (fun b=>AV.v (.bool b)) hb49) (fun _=>?_) (fun h=>(by cases h));apply zN;(iterate 3 (refine chS 1 ?_ (by intro _ q;simp only[↓bO,go_sem,seval,hk,hz1,gM hp,hw,zas hp,hz2,hz3,hz6];exact q)));simp only[↓bO,go_sem,seval,hk,hz1,gM hp,hw,zas hp,hz2,hz3,hz6];(try simp only[go_sem,seval]);rw[hpt];(try simp only[bLp,bRp]);exact clz6
     simp only[go_sem];(have hT5:¬T.k=5:=by (have h9:=hc45;simp at h9;exact h9));(iterate 3 (refine chS 1 ?_ (by intro _ q;simp only[↓bO,go_sem,seval,hk,hz1,gM hp,hw,zas hp,hz2,hz3,hz6];exact q)));simp only[↓bO,go_sem,seval,hk,hz1,gM hp,hw,zas hp,hz2,hz3,hz6];apply z;apply zO rfl <;> intro hb49
     ·
      (have hpt:ptT T s p=bLp++p.tx++bRp:=by (first | exact hpt | (unfold ptT;rw[if_pos ⟨hp4,.inr (by have h9:=hb49;simp at h9;exact h9)⟩])));apply zN;(iterate 3 (refine chS 1 ?_ (by intro _ q;simp only[↓bO,go_sem,seval,hk,hz1,gM hp,hw,zas hp,hz2,hz3,hz6];exact q)));simp only[↓bO,go_sem,seval,hk,hz1,gM hp,hw,zas hp,hz2,hz3,hz6];(try simp only[go_sem,seval]);rw[hpt];(try simp only[bLp,bRp]);exact clz6
     (have hpt:ptT T s p=p.tx:=by (first | exact hpt | (unfold ptT;rw[if_neg fun h=>h.2.elim hT5 (by have h9:=hb49;simp at h9;exact h9)])));apply zS;(try simp only[go_sem]);(try simp only[go_sem,seval]);rw[hpt];(try simp only[bLp,bRp]);exact clz6
    simp only[go_sem];(have hpt:ptT T s p=p.tx:=by (unfold ptT;rw[if_neg fun h=>(show ¬p.k=4 by (have h9:=hc41;simp at h9;exact h9)) h.1]));(iterate 7 (refine chS 1 ?_ (by intro _ q;simp only[↓bO,go_sem,seval,hk,hz1,gM hp,hw,zas hp,hz2,hz3,hz6];exact q)));simp only[↓bO,go_sem,seval,hk,hz1,gM hp,hw,zas hp,hz2,hz3,hz6];apply z;refine zO (b:=false) (by first | exact rfl | exact congrArg (fun b=>AV.v (.bool b)) hb49) (fun h=>(by cases h)) (fun _=>?_);apply zS;(try simp only[go_sem]);(try simp only[go_sem,seval]);rw[hpt];(try simp only[bLp,bRp]);exact clz6
   simp only[go_sem,seval];refine zaC (mB 68 122) ([(4,.v (.string (preT T s)))]) ([]) ?_ ?_
   ·
    refine sqR fun _ z=>?_;refine chS 1 ?_ (by intro _ q;simp only[↓bO,go_sem,seval,hk,hz1,gM hp,hw,zas hp,hz2,hz3,hz6];exact q);simp only[↓bO,go_sem,seval,hk,hz1,gM hp,hw,zas hp,hz2,hz3,hz6];apply z;apply zO rfl <;> intro hb54
    ·
     apply zN;(iterate 3 (refine chS 1 ?_ (by intro _ q;simp only[↓bO,go_sem,seval,hk,hz1,gM hp,hw,zas hp,hz2,hz3,hz6];exact q)));simp only[↓bO,go_sem,seval,hk,hz1,gM hp,hw,zas hp,hz2,hz3,hz6];(try simp only[go_sem,seval]);unfold preT;(first | rw[if_pos (show 0<s by (have h9:=hb54;simp at h9;omega))] | rw[if_neg (show ¬0<s by (have h9:=hb54;simp at h9;omega))]);exact clz6
    apply zS;(try simp only[go_sem]);(try simp only[go_sem,seval]);unfold preT;(first | rw[if_pos (show 0<s by (have h9:=hb54;simp at h9;omega))] | rw[if_neg (show ¬0<s by (have h9:=hb54;simp at h9;omega))]);exact clz6
   simp only[go_sem,seval];apply zN;(iterate 3 (refine chS 1 ?_ (by intro _ q;simp only[↓bO,go_sem,seval,hk,hz1,gM hp,hw,zas hp,hz2,hz3,hz6];exact q)));simp only[↓bO,go_sem,seval,hk,hz1,gM hp,hw,zas hp,hz2,hz3,hz6];apply w;apply zN;(iterate 2 (refine chS 1 ?_ (by intro _ q;simp only[↓bO,go_sem,seval,hk,hz1,gM hp,hw,zas hp,hz2,hz3,hz6];exact q)));simp only[↓bO,go_sem,seval,hk,hz1,gM hp,hw,zas hp,hz2,hz3,hz6];refine ⟨(s+1),tz1,by omega,?_⟩;simp only[go_sem,seval,hk,hz1,gM hp,hw,zas hp,hz2,hz3,hz6];(first | (refine Weak.drops 1 1 rfl rfl tz5 tz5 ?_ ?_ ?_) | (refine Weak.drops 0 1 rfl rfl tz5 tz5 ?_ ?_ ?_));(· simp only[go_sem,Le.refl,Le.any,za,Int.cast_ofNat_Int,zm]);(· simp only[UndL,UndOs,Ob.Und,and_true,true_and,and_self,Und.v,Und.any,Und.ptr,Und.map,Nat.reduceLT,zy,Und.tys,Und.tyAgg,Und.oslTys,Und.oslTys1,Und.clo0,Und.ty]);simp only[UndL,UndOs,Ob.Und,and_true,true_and,and_self,Und.v,Und.any,Und.ptr,Und.map,Nat.reduceLT,zy,Und.tys,Und.tyAgg,Und.oslTys,Und.oslTys1,Und.clo0,Und.ty]
  (have hk:s=T.ps.length:=by (have h9:=hb25;simp at h9;omega));apply zae;simp only[zaf,z8,zY,bA,Nat.reduceEqDiff,↓reduceIte];apply u;refine zM fun _ u=>?_;refine sqR fun _ w=>?_;(iterate 2 (refine chS 1 ?_ (by intro _ q;simp only[↓bO,go_sem,seval,hz4,hz5];exact q)));simp only[↓bO,go_sem,seval,hz4,hz5];apply w;apply zO rfl <;> intro hb63
  ·
   refine sqR fun _ w=>?_;(iterate 3 (refine chS 1 ?_ (by intro _ q;simp only[↓bO,go_sem,seval,hz4,hz5];exact q)));simp only[↓bO,go_sem,seval,hz4,hz5];apply w;apply zP;(try simp only[go_sem]);refine Le.of_eq (congrArg (fun s=>AV.v (.string s)) ?_);subst hk;exact hte.1 (by simpa using hb63)
  apply zS;apply u;refine sqR fun _ u=>?_;refine chS 1 ?_ (by intro _ q;simp only[↓bO,go_sem,seval,hz4,hz5];exact q);simp only[↓bO,go_sem,seval,hz4,hz5];apply u;apply zP;(try simp only[go_sem]);refine Le.of_eq (congrArg (fun s=>AV.v (.string s)) ?_);subst hk;exact hte.2 (by simpa using hb63)
end Go.Proofs.YtkokfdmggdhfmaaGreatDoor
namespace Go.Proofs.YtkokfdmggdhfmaaGreatDoor
open Go Go.Shelf
def Tryz.lays103_ren:Go.Shelf.Ren:=⟨fun | 103=>183 | 210=>204 | 206=>191 | n=>n,fun | 9=>9 | 4=>4 | 24=>223 | 3=>3 | n=>n,fun | n=>n⟩
theorem Tryz.lays103:Go.Proofs.Lays.n103 Tryz.prog Tryz.lays103_ren:={
 mixed:=by kernel_rfl
 f103:=Tryz.func183.trans (congrArg some tz0)
 f206:=Tryz.func191.trans (congrArg some tz0)
 f210:=Tryz.func204.trans (congrArg some tz0)
 t3:=Tryz.underlying3
 a3:=Tryz.isAgg3
 z3:=Tryz.sizeOf3
 v3:=Tryz.zeroValue3
 t4:=Tryz.underlying4
 a4:=Tryz.isAgg4
 z4:=Tryz.sizeOf4
 v4:=Tryz.zeroValue4
 t9:=Tryz.underlying9
 a9:=Tryz.isAgg9
 z9:=Tryz.sizeOf9
 v9:=Tryz.zeroValue9
 t24:=Tryz.underlying223
 a24:=Tryz.isAgg223
 z24:=Tryz.sizeOf223
 v24:=Tryz.zeroValue223}
open Go.RowKit in
theorem Tryz.strings_CutPrefix (s p:ByteArray) (w:World) :
  Calls Tryz.prog 183 #[.string s,.string p] w fun e w'=>e=.returned (.tuple #[.string ⟨(Lib.trimPrefix s.data.toList p.data.toList).toArray⟩,.bool (Lib.hasPrefix s.data.toList p.data.toList)])/\w'=w:=Any.strings_CutPrefix Tryz.lays103 s p w
end Go.Proofs.YtkokfdmggdhfmaaGreatDoor
namespace Go.Proofs.YtkokfdmggdhfmaaGreatDoor
open Go Go.RowKit
attribute [local irreducible] aops zaE
def zdk (s p:ByteArray):ByteArray:=⟨(Lib.trimPrefix s.data.toList p.data.toList).toArray⟩
def zch (s p:ByteArray):Bool:=Lib.hasPrefix s.data.toList p.data.toList
theorem zfY (s p:ByteArray):APure Tryz.prog 183 [.v (.string s),.v (.string p)] (.tup [.v (.string (zdk s p)),.v (.bool (zch s p))]):=by
 refine APure.ofCalls ⟨_,Tryz.func183,by kernel_rfl,by kernel_rfl⟩ (.cons (.v _) (.cons (.v _) .nil)) (.tup (.cons (.v _) (.cons (.v _) .nil))) fun E A w vs hgl hA hr=>?_;obtain ⟨u,v,rfl,h1,h2⟩:=hr.two;(cases h1;cases h2);refine (Tryz.strings_CutPrefix s p w).mono ?_;rintro e w' ⟨rfl,rfl⟩;refine ⟨_,rfl,Below.refl _ _,.tup rfl fun i c u hc hu=>?_⟩
 match i,hc,hu with
 | 0,hc,hu=>cases hc;cases hu;exact .v _
 | 1,hc,hu=>cases hc;cases hu;exact .v _
theorem ziN (n:Int) (h:¬(0<=n/\n<1073741824)):APure Tryz.prog 53 [.v (.int .i64 n)] (.v (.string ByteArray.empty)):=by
  refine APure.mkL (.cons (.v _) .nil) (.v _) ?_;refine aIn Tryz.func53 fun hm=>?_;simp only[Tryz.ntmps53,Tryz.results53,go_sem,seval];refine sqD ?_;refine zM fun _ y=>?_;refine sqR fun _ u=>?_;refine chS 1 ?_;refine zL 1 fun _ q=>?_;simp only[↓bO,go_sem,seval];refine APure.call (zet n) ?_;apply q;clear q;simp only[↓bO,go_sem,seval];apply u;apply zO rfl <;> intro hb6
  ·
   refine sqD ?_;apply zP;(try simp only[go_sem]);exact Le.of_eq rfl
  exact absurd hb6 tz7
def pC (s:ByteArray) (b:Bool):List AV:=[.v (.string s),.v (.bool b)]
def PCalls4 (f:Nat) (args:List AV) (s:ByteArray) (b:Bool) (R:AV) (s':ByteArray) (b':Bool):Prop :=
 ACalls Tryz.prog f args [(0,.cells 141 (pC s b))] 1 fun r os n=>(r=R/\os=[(0,.cells 141 (pC s' b'))])/\n=1
theorem PCalls4.at {f:Nat} {args args':List AV} {s s':ByteArray} {b b':Bool} {R:AV} (h:PCalls4 f args s b R s' b') {k:Nat} {os':Os} {nx':Nat} (hargs:RenL (zbm [k] nx') args args') (hR:Data R)
  (hk:zaa os' k=some (.cells 141 (pC s b))) (lk:k<nx') {Q':AV->Os->Nat->Prop} (hq:Q' R (zat os' k (.cells 141 (pC s' b'))) nx'):ACalls Tryz.prog f args' os' nx' Q':=by
 (have ren:∀s b,RenOs (zbm [k] nx') 0 [.cells 141 (pC s b)] [.cells 141 (pC s b)]:=fun s b=>⟨.cells ⟨.v _,.v _,trivial⟩,trivial⟩);refine ACalls.at (args:=args) (obs:=[.cells 141 (pC s b)]) (obs1:=[.cells 141 (pC s' b')]) (obs':=[.cells 141 (pC s b)]) (obs1':=[.cells 141 (pC s' b')]) [k] ?_ rfl rfl tz4 (by simpa using lk) hargs (.data hR) (ren s b) ⟨hk,trivial⟩ (ren s' b') hq;exact h.mono fun r os n ⟨⟨h1,h2⟩,h3⟩=>⟨h1,h2,h3⟩
theorem pUnd {n:Nat} (h:1<=n) (s:ByteArray) (b:Bool):UndOs n [(0,.cells 141 (pC s b))]:=⟨by omega,⟨.v _ _,.v _ _,trivial⟩,trivial⟩
theorem zft (s t:ByteArray) (b:Bool):PCalls4 138 [.ptr 0 0,.v (.string t)] (s) (b) (.v (.bool (zch s t))) (if zch s t=true then zdk s t else s) (b):=by
  refine ACalls.clean (C:=fun r os'=>r=_/\os'=_) ?_;refine aIn Tryz.func138 fun hm=>?_;simp only[Tryz.ntmps138,Tryz.results138,go_sem,seval];refine sqR fun _ u=>?_;simp only[↓bO,go_sem,seval,pC];apply u;refine sqR fun _ u=>?_;(iterate 5 (refine chS 1 ?_ (by intro _ q;simp only[↓bO,go_sem,seval,pC];exact q)));refine zL 1 fun _ y=>?_;simp only[↓bO,go_sem,seval,pC];refine APure.call (zfY s t) ?_;(iterate 4 (apply y;clear y;refine zL 1 fun _ y=>?_;simp only[↓bO,go_sem,seval,pC]));apply y;clear y;simp only[↓bO,go_sem,seval,pC];apply u;refine zM fun _ u=>?_;refine sqR fun _ w=>?_;simp only[↓bO,go_sem,seval,pC];apply w;apply zO rfl <;> intro hb16
  ·
   have h6:zch s t=true:=hb16;apply zN;(iterate 4 (refine chS 1 ?_ (by intro _ q;simp only[↓bO,go_sem,seval,pC];exact q)));simp only[↓bO,go_sem,seval,pC];apply u;refine sqR fun _ u=>?_;refine chS 1 ?_ (by intro _ q;simp only[↓bO,go_sem,seval,pC];exact q);simp only[↓bO,go_sem,seval,pC];apply u;apply zP;(try simp only[go_sem]);rw[h6,if_pos rfl];refine ⟨_,_,⟨rfl,rfl⟩,.v _ _,pUnd tz1 _ _,?_,?_,by omega⟩;(· exact Le.refl _);first | exact ⟨0,rfl,rfl⟩ | exact ⟨1,rfl,rfl⟩ | exact ⟨2,rfl,rfl⟩ | exact ⟨3,rfl,rfl⟩
  have h6:zch s t=false:=hb16;apply zS;apply u;refine sqR fun _ u=>?_;refine chS 1 ?_ (by intro _ q;simp only[↓bO,go_sem,seval,pC];exact q);simp only[↓bO,go_sem,seval,pC];apply u;apply zP;(try simp only[go_sem]);rw[h6,if_neg tz4];refine ⟨_,_,⟨rfl,rfl⟩,.v _ _,pUnd tz1 _ _,?_,?_,by omega⟩;(· exact Le.refl _);first | exact ⟨0,rfl,rfl⟩ | exact ⟨1,rfl,rfl⟩ | exact ⟨2,rfl,rfl⟩ | exact ⟨3,rfl,rfl⟩
def skF (s:ByteArray):Nat->Nat->Nat
 | 0,i=>i
 | f+1,i=>if i<s.size then (if blI (bt s i) then skF s f (i+1) else if bt s i=35 then skF s f (i+zdg s i (fun c=>c != 10)) else i) else i
theorem zjp {s:ByteArray} {f i:Nat} (h:¬i<s.size):skF s f i=i:=by cases f <;> simp[skF,h]
theorem skF_at {s:ByteArray} {f i:Nat} (hb:blI (bt s i)=false) (hc:¬bt s i=35):skF s f i=i:=by cases f <;> simp[skF,hb,hc]
theorem zfU {s:ByteArray} {f i:Nat} (hi:i<s.size) (hb:blI (bt s i)=true):skF s (f+1) i=skF s f (i+1):=by rw[skF,if_pos hi,if_pos hb]
theorem zi1 {s:ByteArray} {f i:Nat} (hi:i<s.size) (hb:blI (bt s i)=false) (hc:bt s i=35):skF s (f+1) i=skF s f (i+zdg s i (fun c=>c != 10)):=by rw[skF,if_pos hi,if_neg (by simp[hb]),if_pos hc]
theorem zi9 {s:ByteArray} {i:Nat} (hi:i<s.size) (hc:bt s i=35):0<zdg s i (fun c=>c != 10)/\i+zdg s i (fun c=>c != 10)<=s.size:=⟨zkk (p:=fun c=>c != 10) hi (by rw[hc];decide),zg3 s i (fun c=>c != 10) tz1⟩
theorem ze4 {s:ByteArray}:∀(f g i:Nat),s.size-i<f->s.size-i<g->skF s f i=skF s g i
 | 0,_,_,h,_=>by omega
 | _,0,_,_,h=>by omega
 | f+1,g+1,i,hf,hg=>by
  by_cases hi:i<s.size
  ·by_cases hb:blI (bt s i)=true
   (·rw[zfU hi hb,zfU hi hb];exact ze4 f g (i+1) tz1 tz1);have hb:blI (bt s i)=false:=by simpa using hb
   by_cases hc:bt s i=35
   ·have:=zi9 hi hc
    rw[zi1 hi hb hc,zi1 hi hb hc];exact ze4 f g _ tz1 tz1
   rw[skF_at hb hc,skF_at hb hc]
  rw[zjp hi,zjp hi]
def skA (s:ByteArray) (i:Nat):Nat:=skF s (s.size-i+1) i
theorem skA_end {s:ByteArray} {i:Nat} (h:¬i<s.size):skA s i=i:=zjp h
theorem skA_at {s:ByteArray} {i:Nat} (hb:blI (bt s i)=false) (hc:¬bt s i=35):skA s i=i:=skF_at hb hc
theorem skA_blank {s:ByteArray} {i:Nat} (hi:i<s.size) (hb:blI (bt s i)=true):skA s (i+1)=skA s i:=by
 unfold skA;rw[zfU hi hb];exact ze4 _ _ _ tz1 tz1
theorem skA_rem {s:ByteArray} {i:Nat} (hi:i<s.size) (hb:blI (bt s i)=false) (hc:bt s i=35):skA s (i+zdg s i (fun c=>c != 10))=skA s i:=by
 have:=zi9 hi hc;unfold skA;rw[zi1 hi hb hc];exact ze4 _ _ _ tz1 tz1
theorem skA_ind {s:ByteArray} {C:Nat->Prop} (hb:∀i,i<s.size->blI (bt s i)=true->C (i+1)->C i) (hr:∀i,i<s.size->blI (bt s i)=false->bt s i=35->C (i+zdg s i (fun c=>c != 10))->C i)
  (he:∀i,¬i<s.size->C i) (ha:∀i,i<s.size->blI (bt s i)=false->¬bt s i=35->C i):∀i,C i:=by
 have key:∀m i,s.size-i<=m->C i:=by
  intro m
  induction m with
  | zero=>intro i h;exact he i tz1
  | succ m ih =>
   intro i h
   by_cases hi:i<s.size
   ·by_cases h1:blI (bt s i)=true
    (·exact hb i hi h1 (ih _ tz1));have h1:blI (bt s i)=false:=by simpa using h1
    by_cases h2:bt s i=35
    ·have:=zi9 hi h2
     exact hr i hi h1 h2 (ih _ tz1)
    exact ha i hi h1 h2
   exact he i hi
 intro i;exact key _ i (zw _)
def Wk (s:ByteArray) (RES:List Tok×Int×Int) (i:Nat) (out:List Tok):Prop:=∃f,WS.ok s RES ⟨f,i,out⟩
theorem Wk.skip {s:ByteArray} {RES:List Tok×Int×Int}:∀i out,Wk s RES i out->Wk s RES (skA s i) out:=skA_ind (s:=s) (C:=fun i=>∀out,Wk s RES i out->Wk s RES (skA s i) out)
 (fun i hi h1 h out hw=>by obtain ⟨f,hw⟩:=hw;rw[<- skA_blank hi h1];exact h out ⟨_,hw.blank hi h1⟩) (fun i hi h1 h2 h out hw=>by obtain ⟨f,hw⟩:=hw;rw[<- skA_rem hi h1 h2];exact h out ⟨_,hw.rem hi h1 h2 rfl⟩)
 (fun i hi out hw=>by rw[skA_end hi];exact hw) (fun i hi h1 h2 out hw=>by rw[skA_at h1 h2];exact hw)
theorem Wk.bnd {s:ByteArray} {RES:List Tok×Int×Int} {i:Nat} {out:List Tok} (h:Wk s RES i out):i<=s.size/\out.length<=i:=by
 obtain ⟨f,h⟩:=h;exact h.2.2
def dv (s:ByteArray):Nat->Int
 | 0=>0
 | k+1=>10 * dv s k+(bt s (2+k)-48)
def dgOk (s:ByteArray) (k:Nat):Bool:=dgI (bt s (2+k))&&!(k==0&&bt s 2==48)
theorem dgOk_dg {s:ByteArray} {k:Nat} (h:dgOk s k=true):48<=bt s (2+k)/\bt s (2+k)<=57:=by
 unfold dgOk dgI at h;simp only[zl,ze] at h;exact h.1
theorem dg_good {s:ByteArray} {k:Nat} (h1:¬bt s (2+k)<48) (h2:¬bt s (2+k) > 57) (h3:k=0->¬bt s (2+k)=48):dgOk s k=true:=by
 unfold dgOk dgI;have e1:decide (48<=bt s (2+k)/\bt s (2+k)<=57)=true:=decide_eq_true ⟨by omega,by omega⟩;rw[e1]
 cases k with
 | zero=>have:=h3 rfl;simpa using this
 | succ k=>simp
abbrev nuP (s:ByteArray):Prop:=2<=s.size/\s.size<=12/\bt s 0=39/\97<=bt s 1/\bt s 1<=122
def nuR (s:ByteArray):Int :=
 if nuP s/\((List.range (s.size-2)).all fun j=>dgOk s j)=true then
  (if 26 * dv s (s.size-2)+bt s 1-97<1073741824 then 26 * dv s (s.size-2)+bt s 1-97 else -1)
 else -1
theorem nu_yes {s:ByteArray} (hp:nuP s) (h:∀j,j<s.size-2->dgOk s j=true):nuR s=if 26 * dv s (s.size-2)+bt s 1-97<1073741824 then 26 * dv s (s.size-2)+bt s 1-97 else -1:=by
 unfold nuR;rw[if_pos ⟨hp,zB.2 fun j hj=>h j (List.mem_range.1 hj)⟩]
end Go.Proofs.YtkokfdmggdhfmaaGreatDoor
namespace Go.Proofs.YtkokfdmggdhfmaaGreatDoor
open Go Go.RowKit
open Go.Lib (decDigits decFrom digitVal)
theorem digVal {d:Nat} (h:d<10):digitVal (UInt8.ofNat (48+d))=some d:=by
 (have e:(UInt8.ofNat (48+d)).toNat=48+d:=by simp;omega);unfold digitVal;rw[e,if_pos ⟨by omega,by omega⟩];congr 1;omega
theorem zeJ {l:List UInt8} {a n d:Nat} {c:UInt8} (h:decFrom a l=some n) (hc:digitVal c=some d):decFrom a (l++[c])=some (n * 10+d):=by
 have h1:=Lib.decFrom_take (l++[c]) l.length a n c d (by rw[List.take_left'];exact h;rfl) tz4 hc
 rwa [show l.length+1=(l++[c]).length by simp,zp] at h1
theorem zde {n:Nat} (h:¬n<10):decDigits n=decDigits (n / 10)++[UInt8.ofNat (48+n % 10)]:=by rw[decDigits,dif_neg h]
theorem dec_val:∀n:Nat,decFrom 0 (decDigits n)=some n:=by
 intro n
 induction n using Nat.strongRecOn with
 | _ n ih =>
  by_cases h:n<10
  ·rw[Lib.decDigits_one h]
   simp only[decFrom,digVal h];simp
  rw[zde h,zeJ (ih (n / 10) tz1) (digVal tz1)];congr 1;omega
theorem zgT (n:Nat):decDigits n≠[]:=by
 by_cases h:n<10
 (·rw[Lib.decDigits_one h];simp);rw[zde h];simp
theorem zjT:∀(k n:Nat),n<10 ^ (k+1)->(decDigits n).length<=k+1
 | 0,n,h=>by rw[Lib.decDigits_one (by simpa using h)];simp
 | k+1,n,h=>by
  by_cases h9:n<10
  (·rw[Lib.decDigits_one h9];simp);rw[zde h9];have:=zjT k (n / 10) (by rw[Nat.pow_succ] at h;omega);simp only[zj,zJ,zz];omega
theorem dec_back:∀(k:Nat) (l:List UInt8),l.length=k->l≠[]->(∀c∈l,48<=c.toNat/\c.toNat<=57)->l.head?≠some 48->∃v,decFrom 0 l=some v/\decDigits v=l/\1<=v:=by
 intro k
 induction k with
 | zero=>intro l h h1;exact absurd (List.eq_nil_of_length_eq_zero h) h1
 | succ k ih =>
  intro l hl h1 hd hh;obtain ⟨l',c,rfl⟩:∃l' c,l=l'++[c]:=⟨l.dropLast,l.getLast h1,(List.dropLast_concat_getLast h1).symm⟩;have hc:=hd c tz4;have hlt:c.toNat-48<10:=by omega
  have ec:UInt8.ofNat (48+(c.toNat-48))=c:=by
   apply UInt8.toNat_inj.1;simp;omega
  have hcv:=digVal hlt;rw[ec] at hcv
  by_cases h0:l'=[]
  ·subst h0
   refine ⟨c.toNat-48,?_,?_,?_⟩;(·simp only[List.nil_append,decFrom,hcv];simp);(·rw[Lib.decDigits_one hlt,ec];rfl);rcases Nat.eq_zero_or_pos (c.toNat-48) with h | h
   ·exfalso;apply hh
    simp only[List.nil_append,List.head?_cons];(congr 1;apply UInt8.toNat_inj.1);show c.toNat=48;omega
   exact h
  obtain ⟨v,g1,g2,g3⟩:=ih l' (by simpa using hl) h0 (fun x hx=>hd x (by simp[hx])) (by
   cases l' with
   | nil=>exact absurd rfl h0
   | cons a r=>simpa using hh)
  refine ⟨v * 10+(c.toNat-48),zeJ g1 hcv,?_,by omega⟩;rw[zde tz1,show (v * 10+(c.toNat-48)) / 10=v by omega,show (v * 10+(c.toNat-48)) % 10=c.toNat-48 by omega,g2,ec]
theorem zeV:∀n:Nat,∀c∈decDigits n,48<=c.toNat/\c.toNat<=57:=by
 intro n
 induction n using Nat.strongRecOn with
 | _ n ih =>
  intro c hc
  have key:∀d:Nat,d<10->48<=(UInt8.ofNat (48+d)).toNat/\(UInt8.ofNat (48+d)).toNat<=57:=fun d hd=>by
   (have e:(UInt8.ofNat (48+d)).toNat=48+d:=by simp;omega);omega
  by_cases h:n<10
  ·rw[Lib.decDigits_one h] at hc
   obtain rfl:=List.mem_singleton.1 hc;exact key n h
  rw[zde h] at hc;(rcases List.mem_append.1 hc with hc | hc);(·exact ih (n / 10) tz1 c hc);obtain rfl:=List.mem_singleton.1 hc;exact key (n % 10) tz1
theorem dec_head:∀n:Nat,1<=n->(decDigits n).head?≠some 48:=by
 intro n
 induction n using Nat.strongRecOn with
 | _ n ih =>
  intro h1
  by_cases h:n<10
  ·rw[Lib.decDigits_one h]
   intro h9;(have h9:UInt8.ofNat (48+n)=48:=by simpa using h9);have h8:=congrArg UInt8.toNat h9;(have e:(UInt8.ofNat (48+n)).toNat=48+n:=by simp;omega);rw[e] at h8;have:(48:UInt8).toNat=48:=rfl;omega
  rw[zde h];have:=ih (n / 10) tz1 tz1
  cases hd:decDigits (n / 10) with
  | nil=>exact absurd hd (zgT _)
  | cons a r=>rw[hd] at this;simpa using this
theorem atoi_dec {n:Nat} (h:n<100000000):Lib.atoiAll (decDigits n)=.ok (n:Int):=by
  have hl:=zjT 8 n (Nat.lt_trans h (by decide))
  rw[Lib.atoiAll_short _ tz1];have hv:=dec_val n
  cases hd:decDigits n with
  | nil=>exact absurd hd (zgT n)
  | cons c r =>
    have hc:=zeV n c (by rw[hd];simp);(have h1:¬c=45:=fun e=>by rw[e] at hc;exact absurd hc.1 tz3);(have h2:¬c=43:=fun e=>by rw[e] at hc;exact absurd hc.1 tz3);rw[hd] at hv;simp only[Lib.atoi,beq_iff_eq,h1,h2,if_false,Lib.decNat,List.isEmpty_cons,zr,hv,Option.map_some,Lib.NumEnd.ofOption]
theorem bl_itB (n:Nat):bl (itB (n:Int))=decDigits n:=by
 (show (Lib.itoa (n:Int)).toArray.toList=_);rw[Lib.itoa_nonneg]
theorem zd4 {n:Nat} (h:n<26):bl (nmB (n:Int))=[39,UInt8.ofNat (97+n)]:=by
 rw[nmB_one h];have h1:=zhC ⟨n % 26,by omega⟩;have h2:=enc26 ⟨n % 26,by omega⟩;(simp only at h1 h2);rw[h1,h2,show n % 26=n by omega];rfl
theorem zdV {n:Nat} (h:¬n<26):bl (nmB (n:Int))=39::UInt8.ofNat (97+n % 26)::decDigits (n / 26):=by
 rw[zj7 h];have h1:=zhC ⟨n % 26,by omega⟩;have h2:=enc26 ⟨n % 26,by omega⟩;(simp only at h1 h2);rw[h1,h2,zaq,bl_itB];rfl
theorem zcF {a b:ByteArray} (h:bl a=bl b):a=b:=ByteArray.ext (Array.ext' h)
theorem zeR {s:ByteArray} {i:Nat} {c:UInt8} (h:(bl s)[i]?=some c):bt s i=c.toNat:=by
 (have hi:i<s.size:=by rw[<- zbz];exact (zd.1 h).1);have h1:=zg5 hi;unfold bt;rw[show s.data.toList=bl s from rfl,h] at h1;rw[<- Option.some.inj h1]
theorem two_bytes {s:ByteArray} (h:2<=s.size):∃a c ds,bl s=a::c::ds:=by
 have hl:=zbz s
 match hb:bl s with
 | []=>rw[hb] at hl;simp at hl;omega
 | [_]=>rw[hb] at hl;simp at hl;omega
 | a::c::ds=>exact ⟨a,c,ds,rfl⟩
section
variable {s:ByteArray} {a c:UInt8} {ds:List UInt8}
theorem dg_iff (h:bl s=a::c::ds):(∀j,j<s.size-2->dgOk s j=true)↔(∀x∈ds,48<=x.toNat/\x.toNat<=57)/\ds.head?≠some 48:=by
 (have hsz:s.size=2+ds.length:=by rw[<- zbz,h];simp;omega);(have hat:∀j x,ds[j]?=some x->bt s (2+j)=x.toNat:=fun j x hx=>zeR (by rw[h,Nat.add_comm];simpa using hx));constructor
 ·intro hj
  constructor
  ·intro x hx
   obtain ⟨j,hjl,rfl⟩:=List.mem_iff_getElem.1 hx;have h1:=dgOk_dg (hj j tz1);rw[hat j _ (zb hjl)] at h1;omega
  intro hh
  cases ds with
  | nil=>cases hh
  | cons x r =>
   (have hh:x=48:=by simpa using hh);subst hh;have h1:=hj 0 (by simp at hsz;omega);have h2:=hat 0 48 rfl;have e:((48:UInt8).toNat:Int)=48:=rfl;rw[e] at h2;unfold dgOk at h1;have h3:bt s 2=48:=h2;rw[h3] at h1;simp at h1
 rintro ⟨h1,h2⟩ j hj;(have hjl:j<ds.length:=by omega);have h3:=hat j _ (zb hjl);have h4:=h1 _ (List.getElem_mem hjl);(refine dg_good tz1 tz1 fun hj0 h5=>h2 ?_);subst hj0;rw[List.head?_eq_getElem?,zb hjl];(congr 1);apply UInt8.toNat_inj.1;have e:(48:UInt8).toNat=48:=rfl;omega
theorem dv_dec (h:bl s=a::c::ds) (hd:∀x∈ds,48<=x.toNat/\x.toNat<=57):∀k,k<=ds.length->∃v:Nat,decFrom 0 (ds.take k)=some v/\dv s k=v
 | 0,_=>⟨0,rfl,rfl⟩
 | k+1,hk=>by
  obtain ⟨v,h1,h2⟩:=dv_dec h hd k tz1;have h3:=hd _ (List.getElem_mem (show k<ds.length by omega));(have h4:digitVal ds[k]=some (ds[k].toNat-48):=by unfold digitVal;rw[if_pos h3]);refine ⟨v * 10+(ds[k].toNat-48),Lib.decFrom_take ds k 0 v _ _ h1 (zb tz1) h4,?_⟩;have h5:bt s (2+k)=ds[k].toNat:=zeR (by rw[h,Nat.add_comm];simp);rw[dv,h2,h5];omega
end
theorem nuR_nm {n:Nat} (hn:n<1073741824):nuR (nmB (n:Int))=n:=by
 have h39:((39:UInt8).toNat:Int)=39:=rfl;have hc:∀m:Nat,m<26->((UInt8.ofNat (97+m)).toNat:Int)=97+m:=fun m hm=>by simp;omega
 by_cases h:n<26
 ·have hb:=zd4 h
  (have hsz:(nmB (n:Int)).size=2:=by rw[<- zbz,hb];rfl);have b0:=zeR (s:=nmB (n:Int)) (i:=0) (c:=39) (by rw[hb];rfl);have b1:=zeR (s:=nmB (n:Int)) (i:=1) (c:=UInt8.ofNat (97+n)) (by rw[hb];rfl);rw[h39] at b0;rw[hc n h] at b1;rw[nu_yes ⟨by omega,by omega,b0,by omega,by omega⟩ (fun j hj=>by omega),hsz,b1,show dv (nmB (n:Int)) (2-2)=0 from rfl,if_pos tz1];omega
 have hb:=zdV h
 have hq:n / 26<100000000:=by omega
 have hl:=zjT 8 (n / 26) (Nat.lt_trans hq (by decide))
 have hp:=zgT (n / 26);(have hsz:(nmB (n:Int)).size=2+(decDigits (n / 26)).length:=by rw[<- zbz,hb];simp;omega);have b0:=zeR (s:=nmB (n:Int)) (i:=0) (c:=39) (by rw[hb];rfl);have b1:=zeR (s:=nmB (n:Int)) (i:=1) (c:=UInt8.ofNat (97+n % 26)) (by rw[hb];rfl);rw[h39] at b0;rw[hc _ tz1] at b1;have hg:=(dg_iff hb).2 ⟨zeV _,dec_head _ tz1⟩;obtain ⟨v,h1,h2⟩:=dv_dec hb (zeV _) _ (zw _);rw[zp,dec_val] at h1;obtain rfl:=Option.some.inj h1;(have e:(nmB (n:Int)).size-2=(decDigits (n / 26)).length:=by omega);rw[nu_yes ⟨by omega,by omega,b0,by omega,by omega⟩ hg,e,h2,b1,if_pos tz1];omega
theorem nm_nuR {s:ByteArray} (h:0<=nuR s):nuR s<1073741824/\nmB (nuR s)=s:=by
 by_cases hp:nuP s/\((List.range (s.size-2)).all fun j=>dgOk s j)=true
 ·have hg:∀j,j<s.size-2->dgOk s j=true:=fun j hj=>zB.1 hp.2 j (List.mem_range.2 hj)
  have hy:=nu_yes hp.1 hg;obtain ⟨p1,p2,p3,p4,p5⟩:=hp.1;obtain ⟨a,c,ds,hb⟩:=two_bytes p1;have b0:=zeR (s:=s) (i:=0) (c:=a) (by rw[hb];rfl);have b1:=zeR (s:=s) (i:=1) (c:=c) (by rw[hb];rfl);(have ha:a=39:=by apply UInt8.toNat_inj.1;show a.toNat=39;omega);(have hsz:s.size=2+ds.length:=by rw[<- zbz,hb];simp;omega);have hd:=(dg_iff hb).1 hg;obtain ⟨v,h1,h2⟩:=dv_dec hb hd.1 _ (zw _);rw[zp] at h1;rw[show s.size-2=ds.length by omega,h2] at hy;split at hy
  ·rename_i hlt
   (have hn:nuR s=((26 * v+(c.toNat-97):Nat):Int):=by rw[hy];omega);refine ⟨by rw[hy];omega,?_⟩;rw[hn];(have ec:∀m,m=c.toNat-97->UInt8.ofNat (97+m)=c:=fun m hm=>by apply UInt8.toNat_inj.1;simp;omega);apply zcF
   cases hds:ds with
   | nil =>
    rw[hds] at h1;obtain rfl:0=v:=by simpa [decFrom] using h1
    rw[zd4 tz1,hb,hds,ha,ec _ tz1]
   | cons x r =>
    obtain ⟨v2,g1,g2,g3⟩:=dec_back _ ds rfl (by rw[hds];simp) hd.1 hd.2;obtain rfl:v=v2:=Option.some.inj (h1.symm.trans g1);rw[zdV tz1,show (26 * v+(c.toNat-97)) / 26=v by omega,show (26 * v+(c.toNat-97)) % 26=c.toNat-97 by omega,g2,hb,ha,ec _ rfl]
  rw[hy] at h;omega
 unfold nuR at h;rw[if_neg hp] at h;omega
end Go.Proofs.YtkokfdmggdhfmaaGreatDoor
namespace Go.Proofs.YtkokfdmggdhfmaaGreatDoor
open Go Go.RowKit
abbrev PwR:=Ty×ByteArray×Bool
def zeb (c:Int):Bool:=decide (c=39\/(97<=c/\c<=122)\/(48<=c/\c<=57))
def zbS (s:ByteArray):Int:=if 0<=nuR s then nuR s else 0
def zci (s:ByteArray):PwR:=(.mk 1 (zbS (s.extract 0 (zdg s 0 zeb))) [],s.extract (zdg s 0 zeb) s.size,!decide (0<=nuR (s.extract 0 (zdg s 0 zeb))))
def zcl (W:ByteArray->PwR):Nat->List Ty->ByteArray->Bool->List Ty×ByteArray×Bool
 | 0,acc,s,b=>(acc,s,b)
 | n+1,acc,s,b=>if b=false/\zch s bSt=true then zcl W n (acc++[(W (zdk s bSt)).1]) (W (zdk s bSt)).2.1 (W (zdk s bSt)).2.2 else (acc,s,b)
def zhA (l:List Ty):Ty:=match l with
 | [t]=>t
 | l=>.mk 5 0 l
def zfI (r:List Ty×ByteArray×Bool):PwR:=(zhA r.1,if r.2.2=false/\zch r.2.1 bRp=true then zdk r.2.1 bRp else r.2.1,!decide (r.2.2=false/\zch r.2.1 bRp=true))
def zbI (W:ByteArray->PwR) (s:ByteArray):PwR:=zfI (zcl W (s.size+1) [(W s).1] (W s).2.1 (W s).2.2)
def zaZ (W:ByteArray->PwR) (s:ByteArray):PwR :=
 if zch s zkw=true then (.mk 2 0 [],zdk s zkw,false) else if zch s zdy=true then (.mk 3 0 [],zdk s zdy,false)
 else if zch s bLp=true then zbI W (zdk s bLp) else zci s
def zb9 (W:ByteArray->PwR) (r:PwR):PwR:=if r.2.2=false/\zch r.2.1 bAr=true then (.mk 4 0 [r.1,(W (zdk r.2.1 bAr)).1],(W (zdk r.2.1 bAr)).2) else r
def pwF:Nat->ByteArray->PwR
 | 0,s=>(.mk 0 0 [],s,true)
 | f+1,s=>zb9 (pwF f) (zaZ (pwF f) s)
theorem bl_cutP (s p:ByteArray):bl (zdk s p)=if zch s p=true then (bl s).drop p.size else bl s:=by
 (show (Lib.trimPrefix (bl s) (bl p))=_);unfold Lib.trimPrefix zch;rw[<- zbz]
theorem zeY {s p:ByteArray}:zch s p=true↔∃r,s=p++r:=by
 unfold zch Lib.hasPrefix;rw[List.isPrefixOf_iff_prefix];constructor
 ·rintro ⟨r,hr⟩
  refine ⟨⟨r.toArray⟩,zcF ?_⟩;rw[zaq];exact hr.symm
 rintro ⟨r,rfl⟩;exact ⟨bl r,(zaq p r).symm⟩
theorem zb2 (p r:ByteArray):zch (p++r) p=true:=zeY.2 ⟨r,rfl⟩
theorem zcE (p r:ByteArray):zdk (p++r) p=r:=by
 apply zcF;rw[bl_cutP,if_pos (zb2 p r),zaq,<- zbz,List.drop_left'];rfl
theorem za8 {s p:ByteArray} (h:zch s p=true):(zdk s p).size+p.size=s.size:=by
 obtain ⟨r,rfl⟩:=zeY.1 h;rw[zcE,ByteArray.size_append];omega
theorem zcc {s p:ByteArray} (hp:bl p≠[]) (h:(bl s).head?≠(bl p).head?):zch s p=false:=by
 rw[Bool.eq_false_iff];intro h9;obtain ⟨r,rfl⟩:=zeY.1 h9;apply h;rw[zaq]
 cases hb:bl p with
 | nil=>exact absurd hb hp
 | cons a l=>rfl
def PwB (s:ByteArray) (r:PwR):Prop:=r.1.cnt+2 * r.2.1.size<=2 * s.size+1
theorem PwB.le {s:ByteArray} {r:PwR} (h:PwB s r):r.2.1.size<=s.size:=by
 have:=zhc r.1;unfold PwB at h;omega
theorem zgQ (s:ByteArray) {a b:Nat} (h:a<=b) (h2:b<=s.size):(s.extract a b).size=b-a:=by
 rw[ByteArray.size_extract];omega
theorem zlg (s:ByteArray):PwB s (zci s):=by
 have h:=zg3 s 0 zeb tz1;unfold PwB zci;rw[zdM,zgQ s tz1 (zw _)];simp only[Ty.cntL];omega
theorem cntL_snoc (l:List Ty) (t:Ty):Ty.cntL (l++[t])=Ty.cntL l+t.cnt:=by
 induction l with
 | nil=>simp[Ty.cntL]
 | cons x l ih=>simp only[zC,Ty.cntL,ih];omega
theorem ze1:bSt.size=3:=rfl
theorem zgW:bAr.size=4:=rfl
theorem zeZ:bLp.size=1:=rfl
theorem zky:bRp.size=1:=rfl
section
variable {W:ByteArray->PwR}
theorem zga {N:Nat} (hW:∀x,PwB x (W x)):∀(n:Nat) (acc:List Ty) (s:ByteArray) (b:Bool),Ty.cntL acc+2 * s.size<=N ->
  Ty.cntL (zcl W n acc s b).1+2 * (zcl W n acc s b).2.1.size<=N
 | 0,acc,s,b,h=>h
 | n+1,acc,s,b,h=>by
  rw[zcl];split
  ·rename_i hc
   refine zga hW n _ _ _ ?_;have h1:=hW (zdk s bSt);have h2:=za8 hc.2;unfold PwB at h1;rw[cntL_snoc];rw[ze1] at h2;omega
  exact h
theorem pwOne_cnt (l:List Ty):(zhA l).cnt<=1+Ty.cntL l:=by
 unfold zhA;split;(·simp[Ty.cntL]);rw[zdM];exact zw _
theorem pwEnd_bnd {N:Nat} {r:List Ty×ByteArray×Bool} (h:Ty.cntL r.1+2 * r.2.1.size<=N):(zfI r).1.cnt+2 * (zfI r).2.1.size<=N+1:=by
 have h1:=pwOne_cnt r.1;unfold zfI;dsimp only;split
 ·rename_i hc
  have h2:=za8 hc.2;omega
 omega
theorem zi0 (hW:∀x,PwB x (W x)) (s:ByteArray):(zbI W s).1.cnt+2 * (zbI W s).2.1.size<=2 * s.size+2:=by
 have h1:=hW s;unfold PwB at h1;exact pwEnd_bnd (zga hW _ _ _ _ (by simp only[Ty.cntL];omega))
theorem zgA (hW:∀x,PwB x (W x)) (s:ByteArray):PwB s (zaZ W s):=by
 unfold zaZ;split
 ·rename_i h
  have:=za8 h;unfold PwB;rw[zdM];simp only[Ty.cntL];omega
 split
 ·rename_i h
  have:=za8 h;unfold PwB;rw[zdM];simp only[Ty.cntL];omega
 split
 ·rename_i h
  have h1:=za8 h;have h2:=zi0 hW (zdk s bLp);rw[zeZ] at h1;unfold PwB;omega
 exact zlg s
theorem zle (hW:∀x,PwB x (W x)) {s:ByteArray} {r:PwR} (h:PwB s r):PwB s (zb9 W r):=by
 unfold zb9;split
 ·rename_i hc
  have h1:=za8 hc.2;have h2:=hW (zdk r.2.1 bAr);rw[zgW] at h1;unfold PwB at h h2 ⊢;rw[zdM];simp only[Ty.cntL];omega
 exact h
end
theorem zdF:∀(f:Nat) (s:ByteArray),PwB s (pwF f s)
 | 0,s=>by unfold PwB pwF;rw[zdM];simp only[Ty.cntL];omega
 | f+1,s=>by rw[pwF];exact zle (zdF f) (zgA (zdF f) s)
def OkH (r:ByteArray):Prop:=(bl r).head?=none\/(bl r).head?=some 41\/(bl r).head?=some 32
theorem pw_in {c:UInt8} (h:c=39\/(97<=c.toNat/\c.toNat<=122)\/(48<=c.toNat/\c.toNat<=57)):zeb c.toNat=true:=by
 unfold zeb;rw[ze];(rcases h with rfl | h | h);(·exact .inl rfl);(·exact .inr (.inl tz1));exact .inr (.inr tz1)
theorem zkB {n:Nat} (hn:n<1073741824):∀c∈bl (nmB (n:Int)),zeb c.toNat=true:=by
 (have h1:∀m,m<26->zeb (UInt8.ofNat (97+m)).toNat=true:=fun m hm=>pw_in (.inr (.inl tz7)));intro c hc
 by_cases h:n<26
 ·rw[zd4 h] at hc
  simp only[zH,List.not_mem_nil,or_false] at hc;(rcases hc with rfl | rfl);(·rfl);exact h1 n h
 rw[zdV h] at hc;simp only[zH] at hc;(rcases hc with rfl | rfl | hc);(·rfl);(·exact h1 _ tz1);exact pw_in (.inr (.inr (zeV _ c hc)))
theorem nm_head (n:Nat) (hn:n<1073741824):(bl (nmB (n:Int))).head?=some 39:=by
 by_cases h:n<26
 (·rw[zd4 h];rfl);rw[zdV h];rfl
theorem pw_run {x r:ByteArray} (hx:∀c∈bl x,zeb c.toNat=true) (hr:OkH r):zdg (x++r) 0 zeb=x.size:=by
 unfold zdg;(show (((bl (x++r)).drop 0).takeWhile fun b=>zeb b.toNat).length=x.size);rw[List.drop_zero,zaq,List.takeWhile_append_of_pos hx,zj,zbz]
 have h:(bl r).takeWhile (fun b=>zeb b.toNat)=[]:=by
  cases hb:bl r with
  | nil=>rfl
  | cons c l =>
   unfold OkH at hr;rw[hb] at hr
   have h2:zeb c.toNat=false:=by
    (rcases hr with h | h | h);·cases h
    ·obtain rfl:c=41:=by simpa using h
     rfl
    (obtain rfl:c=32:=by simpa using h);rfl
   rw[List.takeWhile_cons,if_neg (by simp[h2])]
 rw[h];rfl
theorem ex_left (x r:ByteArray):(x++r).extract 0 x.size=x:=by
 apply zcF;have h:=ex_at (s:=x++r) (P:=[]) (X:=bl x) (S:=bl r) (by rw[zaq];rfl);simp only[zz,zD,zbz] at h;rw[h]
theorem ex_right (x r:ByteArray):(x++r).extract x.size (x++r).size=r:=by
 apply zcF;have h:=ex_at (s:=x++r) (P:=bl x) (X:=bl r) (S:=[]) (by rw[zaq];simp);simp only[zbz] at h;rw[ByteArray.size_append,h]
theorem pwName_nm {n:Nat} (hn:n<1073741824) {r:ByteArray} (hr:OkH r):zci (nmB (n:Int)++r)=(.mk 1 n [],r,false):=by
 unfold zci;rw[pw_run (zkB hn) hr,ex_left,ex_right];unfold zbS;rw[nuR_nm hn,if_pos tz1,decide_eq_true (by omega:(0:Int)<=(n:Int))];rfl
def jt:List Ty->ByteArray
 | []=>ByteArray.empty
 | p::ps=>bSt++(p.btx++jt ps)
theorem ziB:bl ByteArray.empty=[]:=rfl
theorem jt_bl:∀ps:List Ty,bl (jt ps)=Lib.joinTail (bl bSt) ((ps.map Ty.btx).map bl)
 | []=>rfl
 | p::ps=>by rw[jt,zaq,zaq,jt_bl ps,zo,zo,zg2]
theorem zi5 (p:Ty) (ps:List Ty):zbV ((p::ps).map Ty.btx) bSt=p.btx++jt ps:=by
 apply zcF;rw[ziW,zaq,jt_bl]
theorem zcy (a b c:ByteArray):a++b++c=a++(b++c):=by
 apply zcF;simp only[zaq,List.append_assoc]
theorem okH_jt (ps:List Ty) (r:ByteArray):OkH (jt ps++(bRp++r)):=by
 unfold OkH
 cases ps with
 | nil=>right;left;rw[zaq,zaq];rfl
 | cons p ps=>right;right;rw[jt,zaq,zaq];rfl
theorem zfJ {a r:ByteArray} {c:UInt8} (h:(bl a).head?=some c):(bl (a++r)).head?=some c:=by
 rw[zaq]
 cases hb:bl a with
 | nil=>rw[hb] at h;cases h
 | cons x l=>rw[hb] at h;exact h
theorem noAr_jt (ps:List Ty) (r:ByteArray):zch (jt ps++(bRp++r)) bAr=false:=by
 cases ps with
 | nil =>
  refine zcc tz3 ?_;rw[jt,zaq,zaq,ziB];show some (41:UInt8)≠some 32
  decide
 | cons p ps =>
  rw[Bool.eq_false_iff];intro h;obtain ⟨x,hx⟩:=zeY.1 h;have h1:=congrArg bl hx;simp only[jt,zcy,zaq] at h1;have e1:bl bSt=[32,42,32]:=rfl;have e2:bl bAr=[32,45,62,32]:=rfl;rw[e1,e2] at h1;simp at h1
section
variable {f:Nat}
def PwA (T:Ty):Prop:=∀(f:Nat) (r:ByteArray),T.btx.size<=f->OkH r->zaZ (pwF f) (T.btx++r)=(T,r,false)
def PwT (T:Ty):Prop:=∀(f:Nat) (r:ByteArray),T.tx.size<f->OkH r->zch r bAr=false->pwF f (T.tx++r)=(T,r,false)
theorem tail_no {W:ByteArray->PwR} {T:Ty} {r:ByteArray} (h:zch r bAr=false):zb9 W (T,r,false)=(T,r,false):=by
 unfold zb9;rw[if_neg fun h9=>by rw[h] at h9;cases h9.2]
theorem PwA.whole {T:Ty} (h:PwA T) {f:Nat} {r:ByteArray} (hf:T.btx.size<f) (hr:OkH r) (hn:zch r bAr=false):pwF f (T.btx++r)=(T,r,false):=by
 obtain ⟨g,rfl⟩:∃g,f=g+1:=⟨f-1,by omega⟩;rw[pwF,h g r tz1 hr,tail_no hn]
theorem rest_jt {f:Nat} {r:ByteArray}:∀(ps:List Ty) (acc:List Ty) (n:Nat),(∀p∈ps,PwA p)->(∀p∈ps,p.btx.size<f)->ps.length<n->zcl (pwF f) n acc (jt ps++(bRp++r)) false=(acc++ps,bRp++r,false)
 | [],acc,n,_,_,hn=>by
  obtain ⟨m,rfl⟩:∃m,n=m+1:=⟨n-1,by omega⟩
  have h:zch (jt []++(bRp++r)) bSt=false:=by
   refine zcc tz3 ?_;rw[jt,zaq,zaq,ziB];(show some (41:UInt8)≠some 32);decide
  rw[zcl,if_neg fun h9=>(by rw[h] at h9;cases h9.2),List.append_nil];have e9:jt []++(bRp++r)=bRp++r:=by apply zcF;rw[jt,zaq,ziB];rfl
  rw[e9]
 | p::ps,acc,n,h1,h2,hn=>by
  obtain ⟨m,rfl⟩:∃m,n=m+1:=⟨n-1,by omega⟩;(have e:jt (p::ps)++(bRp++r)=bSt++(p.btx++(jt ps++(bRp++r))):=by rw[jt];simp only[zcy]);have h3:=(h1 p tz4).whole (f:=f) (r:=jt ps++(bRp++r)) (h2 p tz4) (okH_jt ps r) (noAr_jt ps r);rw[e,zcl,if_pos ⟨rfl,zb2 _ _⟩,zcE,h3];rw[rest_jt ps _ m (fun q hq=>h1 q (by simp[hq])) (fun q hq=>h2 q (by simp[hq])) (by simpa using hn),List.append_assoc];rfl
theorem head_lp (W:ByteArray->PwR) (s:ByteArray):zaZ W (bLp++s)=zbI W s:=by
 have h0:(bl (bLp++s)).head?=some 40:=zfJ rfl;unfold zaZ;rw[if_neg (by rw[zcc tz3 (by rw[h0];decide)];simp),if_neg (by rw[zcc tz3 (by rw[h0];decide)];simp),if_pos (zb2 _ _),zcE]
theorem end_rp (l:List Ty) (r:ByteArray):zfI (l,bRp++r,false)=(zhA l,r,false):=by
 unfold zfI;dsimp only;rw[if_pos ⟨rfl,zb2 _ _⟩,zcE,decide_eq_true ⟨rfl,zb2 _ _⟩];rfl
theorem okH_rp (r:ByteArray):OkH (bRp++r):=.inr (.inl (zfJ rfl))
theorem noAr_rp (r:ByteArray):zch (bRp++r) bAr=false:=zcc tz3 (by rw[zfJ (c:=41) rfl];decide)
theorem noSt_rp (r:ByteArray):zch (bRp++r) bSt=false:=zcc tz3 (by rw[zfJ (c:=41) rfl];decide)
theorem PwT.brack {T:Ty} (h:PwT T) {f:Nat} {r:ByteArray} (hf:T.tx.size<f):zaZ (pwF f) (bLp++T.tx++bRp++r)=(T,r,false):=by
 (have e:bLp++T.tx++bRp++r=bLp++(T.tx++(bRp++r)):=by simp only[zcy]);rw[e,head_lp];unfold zbI;rw[h f (bRp++r) hf (okH_rp r) (noAr_rp r)];dsimp only;rw[zcl,if_neg fun h9=>(by rw[noSt_rp] at h9;cases h9.2),end_rp];rfl
theorem zhz {ps:List Ty} {p:Ty} (h:p∈ps):p.btx.size<=(zbV (ps.map Ty.btx) bSt).size:=by
 have key:∀(qs:List Ty),p∈qs->p.btx.size<=(jt qs).size:=by
  intro qs
  induction qs with
  | nil=>intro h;cases h
  | cons q qs ih =>
   intro h;rw[jt,ByteArray.size_append,ByteArray.size_append];(rcases zH.1 h with rfl | h);(·omega);have:=ih h;omega
 cases ps with
 | nil=>cases h
 | cons q qs =>
  rw[zi5,ByteArray.size_append];(rcases zH.1 h with rfl | h);(·omega);have:=key qs h;omega
theorem jt_len:∀ps:List Ty,ps.length<=(jt ps).size
 | []=>by simp
 | p::ps=>by
  have:=jt_len ps;rw[jt,ByteArray.size_append,ByteArray.size_append,ze1];simp only[zJ];omega
theorem zgu (T:Ty):T=.mk T.k T.n T.ps:=by cases T;rfl
theorem pw_all:∀T:Ty,T.right=true->PwA T/\PwT T:=by
 refine Ty.ind fun T ih=>?_;intro hr;have hok:=zcu hr;have hp:=right_part hr
 have fromA:¬T.k=4->PwA T->PwA T/\PwT T:=fun h4 hA=>⟨hA,fun f r hf hrr hn=>by
  have hb:=zh0 h4;have:=hA.whole (f:=f) (r:=r) (by rw[hb];exact hf) hrr hn
  rwa [hb] at this⟩
 by_cases h1:T.k=1
 ·refine fromA tz1 fun f r hf hrr=>?_
  have hv:=right_var hr h1;(have e0:T.tx=nmB T.n:=by rw[T.tx_eq,if_pos h1]);(have e1:((T.n.toNat:Nat):Int)=T.n:=by omega);have hps:T.ps=[]:=List.eq_nil_of_length_eq_zero tz1;have hd:(bl (nmB T.n++r)).head?=some 39:=zfJ (by rw[<- e1];exact nm_head _ tz1);rw[zh0 tz1,e0];unfold zaZ;rw[if_neg (by rw[zcc tz3 (by rw[hd];decide)];simp),if_neg (by rw[zcc tz3 (by rw[hd];decide)];simp),if_neg (by rw[zcc tz3 (by rw[hd];decide)];simp)];have:=pwName_nm (n:=T.n.toNat) tz1 hrr;rw[e1] at this;rw[this,<- h1,<- hps,<- zgu]
 by_cases h2:T.k=2
 ·refine fromA tz1 fun f r hf hrr=>?_
  (have e0:T.tx=zkw:=by rw[T.tx_eq,if_neg h1,if_pos h2];rfl);(have e2:T=.mk 2 0 []:=by rw[zgu T,h2,show T.n=0 by omega,List.eq_nil_of_length_eq_zero (show T.ps.length=0 by omega)]);rw[zh0 tz1,e0];unfold zaZ;rw[if_pos (zb2 _ _),zcE,<- e2]
 by_cases h3:T.k=3
 ·refine fromA tz1 fun f r hf hrr=>?_
  (have e0:T.tx=zdy:=by rw[T.tx_eq,if_neg h1,if_neg h2,if_pos h3];rfl);(have e2:T=.mk 3 0 []:=by rw[zgu T,h3,show T.n=0 by omega,List.eq_nil_of_length_eq_zero (show T.ps.length=0 by omega)]);have hd:(bl (zdy++r)).head?=some 98:=zfJ rfl;rw[zh0 tz1,e0];unfold zaZ;rw[if_neg (by rw[zcc tz3 (by rw[hd];decide)];simp),if_pos (zb2 _ _),zcE,<- e2]
 by_cases h4:T.k=4
 ·obtain ⟨a,b,hps⟩:=zck hr h4
  have ha:=ih a (by rw[hps];simp) (hp a (by rw[hps];simp));have hb:=ih b (by rw[hps];simp) (hp b (by rw[hps];simp));(have e2:T=.mk 4 0 [a,b]:=by rw[zgu T,h4,show T.n=0 by omega,hps]);have e0:T.tx=a.btx++bAr++b.tx:=by rw[e2];rfl
  have hT:PwT T:=fun f r hf hrr hn=>by
   obtain ⟨g,rfl⟩:∃g,f=g+1:=⟨f-1,by omega⟩;(have e3:T.tx++r=a.btx++(bAr++(b.tx++r)):=by rw[e0];simp only[zcy]);rw[e0,ByteArray.size_append,ByteArray.size_append,zgW] at hf;rw[e3,pwF,ha.1 g _ tz1 (.inr (.inr (zfJ rfl)))];unfold zb9;dsimp only;rw[if_pos ⟨rfl,zb2 _ _⟩,zcE,hb.2 g r tz1 hrr hn,<- e2]
  refine ⟨fun f r hf hrr=>?_,hT⟩;(have e4:T.btx=bLp++T.tx++bRp:=by unfold Ty.btx brB;rw[if_pos (by simpa using h4)]);rw[e4] at hf ⊢;rw[ByteArray.size_append,ByteArray.size_append,zeZ,zky] at hf;exact hT.brack tz1
 (have h5:T.k=5:=by omega);refine fromA h4 fun f r hf hrr=>?_;have e0:T.tx=bLp++zbV (T.ps.map Ty.btx) bSt++bRp:=by rw[T.tx_eq,if_neg h1,if_neg h2,if_neg h3,if_neg h4]
 have e2:T=.mk 5 0 T.ps:=by
  have:=zgu T;rw[h5,show T.n=0 by omega] at this;exact this
 rw[zh0 h4,e0] at hf ⊢;rw[ByteArray.size_append,ByteArray.size_append,zeZ,zky] at hf;have hm:∀p∈T.ps,p.btx.size<f:=fun p hq=>by have:=zhz hq;omega
 obtain ⟨p,q,ps,hps⟩:∃p q ps,T.ps=p::q::ps:=by
  match hq:T.ps with
  | []=>rw[hq,zz] at hok;omega
  | [_]=>rw[hq,List.length_singleton] at hok;omega
  | p::q::ps=>exact ⟨p,q,ps,rfl⟩
 (have hA:∀x∈T.ps,PwA x:=fun x hx=>(ih x hx (hp x hx)).1);(have e3:bLp++zbV (T.ps.map Ty.btx) bSt++bRp++r=bLp++(p.btx++(jt (q::ps)++(bRp++r))):=by rw[hps,zi5];simp only[zcy]);rw[e3,head_lp];unfold zbI;have h6:=(hA p (by rw[hps];simp)).whole (f:=f) (r:=jt (q::ps)++(bRp++r)) (hm p (by rw[hps];simp)) (okH_jt _ _) (noAr_jt _ _);have h7:=jt_len (q::ps);rw[h6];dsimp only;rw[rest_jt (q::ps) [p] _ (fun x hx=>hA x (by rw[hps];exact List.mem_cons_of_mem _ hx)) (fun x hx=>hm x (by rw[hps];exact List.mem_cons_of_mem _ hx)) (by simp only[ByteArray.size_append];omega),end_rp];(show (Ty.mk 5 0 ([p]++q::ps),r,false)=_);rw[List.singleton_append,<- hps,<- e2]
theorem pw_tx {T:Ty} (h:T.right=true):pwF (T.tx.size+1) T.tx=(T,ByteArray.empty,false):=by
 have h1:=(pw_all T h).2 (T.tx.size+1) ByteArray.empty tz1 (.inl rfl) tz3;have e:T.tx++ByteArray.empty=T.tx:=by apply zcF;rw[zaq,ziB,List.append_nil]
 rwa [e] at h1
end
end Go.Proofs.YtkokfdmggdhfmaaGreatDoor
namespace Go.Proofs.YtkokfdmggdhfmaaGreatDoor
open Go Go.Shelf
def Tryz.laysC172_ren:Go.Shelf.Ren:=⟨fun | 172=>93 | 244=>136 | 245=>137 | 247=>178 | 279=>179 | 280=>180 | 281=>181 | 282=>182 | 287=>201 | 316=>202 | 171=>100 | 205=>203 | 321=>218 | 322=>219 | 243=>144 | 246=>184 | 283=>205 | 284=>206 | 285=>207 | 286=>208 | 129=>221 | 317=>220 | 318=>222 | 319=>223 | 320=>224 | 337=>230 | 338=>231 | n=>n,fun | 9=>9 | 3=>3 | 75=>91 | 76=>92 | 4=>4 | 5=>5 | 167=>217 | 37=>46 | 0=>0 | 85=>218 | 2=>2 | 168=>220 | 53=>238 | 175=>239 | 46=>205 | 210=>243 | 127=>144 | 145=>256 | 143=>254 | 21=>21 | 171=>245 | 173=>248 | 212=>258 | 51=>176 | 20=>20 | 213=>259 | 232=>269 | 233=>270 | 80=>95 | n=>n,fun | 15=>3 | 16=>4 | 17=>5 | 18=>6 | 19=>7 | n=>n⟩
theorem Tryz.laysC172:Go.Proofs.LaysC.n172 Tryz.prog Tryz.laysC172_ren:={
 mixed:=by kernel_rfl
 f129:=Tryz.func221.trans (congrArg some tz0)
 f171:=Tryz.func100.trans (congrArg some tz0)
 f172:=Tryz.func93.trans (congrArg some tz0)
 f205:=Tryz.func203.trans (congrArg some tz0)
 f243:=Tryz.func144.trans (congrArg some tz0)
 f244:=Tryz.func136.trans (congrArg some tz0)
 f245:=Tryz.func137.trans (congrArg some tz0)
 f246:=Tryz.func184.trans (congrArg some tz0)
 f247:=Tryz.func178.trans (congrArg some tz0)
 f279:=Tryz.func179.trans (congrArg some tz0)
 f280:=Tryz.func180.trans (congrArg some tz0)
 f281:=Tryz.func181.trans (congrArg some tz0)
 f282:=Tryz.func182.trans (congrArg some tz0)
 f283:=Tryz.func205.trans (congrArg some tz0)
 f284:=Tryz.func206.trans (congrArg some tz0)
 f285:=Tryz.func207.trans (congrArg some tz0)
 f286:=Tryz.func208.trans (congrArg some tz0)
 f287:=Tryz.func201.trans (congrArg some tz0)
 f316:=Tryz.func202.trans (congrArg some tz0)
 f317:=Tryz.func220.trans (congrArg some tz0)
 f318:=Tryz.func222.trans (congrArg some tz0)
 f319:=Tryz.func223.trans (congrArg some tz0)
 f320:=Tryz.func224.trans (congrArg some tz0)
 f321:=Tryz.func218.trans (congrArg some tz0)
 f322:=Tryz.func219.trans (congrArg some tz0)
 f337:=Tryz.func230.trans (congrArg some tz0)
 f338:=Tryz.func231.trans (congrArg some tz0)
 t0:=Tryz.underlying0
 a0:=Tryz.isAgg0
 z0:=Tryz.sizeOf0
 v0:=Tryz.zeroValue0
 t2:=Tryz.underlying2
 a2:=Tryz.isAgg2
 z2:=Tryz.sizeOf2
 v2:=Tryz.zeroValue2
 t3:=Tryz.underlying3
 a3:=Tryz.isAgg3
 z3:=Tryz.sizeOf3
 v3:=Tryz.zeroValue3
 t4:=Tryz.underlying4
 a4:=Tryz.isAgg4
 z4:=Tryz.sizeOf4
 v4:=Tryz.zeroValue4
 t5:=Tryz.underlying5
 a5:=Tryz.isAgg5
 z5:=Tryz.sizeOf5
 v5:=Tryz.zeroValue5
 t9:=Tryz.underlying9
 a9:=Tryz.isAgg9
 z9:=Tryz.sizeOf9
 v9:=Tryz.zeroValue9
 t20:=Tryz.underlying20
 a20:=Tryz.isAgg20
 z20:=Tryz.sizeOf20
 v20:=Tryz.zeroValue20
 t21:=Tryz.underlying21
 a21:=Tryz.isAgg21
 z21:=Tryz.sizeOf21
 v21:=Tryz.zeroValue21
 t37:=Tryz.underlying46
 a37:=Tryz.isAgg46
 z37:=Tryz.sizeOf46
 v37:=Tryz.zeroValue46
 t46:=Tryz.underlying205
 a46:=Tryz.isAgg205
 z46:=Tryz.sizeOf205
 v46:=Tryz.zeroValue205
 t51:=Tryz.underlying176
 a51:=Tryz.isAgg176
 z51:=Tryz.sizeOf176
 v51:=Tryz.zeroValue176
 t53:=Tryz.underlying238
 a53:=Tryz.isAgg238
 z53:=Tryz.sizeOf238
 v53:=Tryz.zeroValue238
 t75:=Tryz.underlying91
 a75:=Tryz.isAgg91
 z75:=Tryz.sizeOf91
 v75:=Tryz.zeroValue91
 t76:=Tryz.underlying92
 a76:=Tryz.isAgg92
 z76:=Tryz.sizeOf92
 v76:=Tryz.zeroValue92
 t85:=Tryz.underlying218
 a85:=Tryz.isAgg218
 z85:=Tryz.sizeOf218
 v85:=Tryz.zeroValue218
 t127:=Tryz.underlying144
 a127:=Tryz.isAgg144
 z127:=Tryz.sizeOf144
 v127:=Tryz.zeroValue144
 t143:=Tryz.underlying254
 a143:=Tryz.isAgg254
 z143:=Tryz.sizeOf254
 v143:=Tryz.zeroValue254
 t145:=Tryz.underlying256
 a145:=Tryz.isAgg256
 z145:=Tryz.sizeOf256
 v145:=Tryz.zeroValue256
 t167:=Tryz.underlying217
 a167:=Tryz.isAgg217
 z167:=Tryz.sizeOf217
 v167:=Tryz.zeroValue217
 t168:=Tryz.underlying220
 a168:=Tryz.isAgg220
 z168:=Tryz.sizeOf220
 v168:=Tryz.zeroValue220
 t171:=Tryz.underlying245
 a171:=Tryz.isAgg245
 z171:=Tryz.sizeOf245
 v171:=Tryz.zeroValue245
 t173:=Tryz.underlying248
 a173:=Tryz.isAgg248
 z173:=Tryz.sizeOf248
 v173:=Tryz.zeroValue248
 t175:=Tryz.underlying239
 a175:=Tryz.isAgg239
 z175:=Tryz.sizeOf239
 v175:=Tryz.zeroValue239
 t210:=Tryz.underlying243
 a210:=Tryz.isAgg243
 z210:=Tryz.sizeOf243
 v210:=Tryz.zeroValue243
 t212:=Tryz.underlying258
 a212:=Tryz.isAgg258
 z212:=Tryz.sizeOf258
 v212:=Tryz.zeroValue258
 t213:=Tryz.underlying259
 a213:=Tryz.isAgg259
 z213:=Tryz.sizeOf259
 t232:=Tryz.underlying269
 a232:=Tryz.isAgg269
 z232:=Tryz.sizeOf269
 v232:=Tryz.zeroValue269
 t233:=Tryz.underlying270
 a233:=Tryz.isAgg270
 z233:=Tryz.sizeOf270
 v233:=Tryz.zeroValue270
 g15:=by kernel_rfl
 g16:=by kernel_rfl
 g17:=by kernel_rfl
 g18:=by kernel_rfl
 g19:=by kernel_rfl
 t80:=Tryz.underlying95
 a80:=Tryz.isAgg95
 z80:=Tryz.sizeOf95
 v80:=Tryz.zeroValue95
 i0:=by kernel_rfl
 i2:=by kernel_rfl
 i3:=by kernel_rfl
 i4:=by kernel_rfl
 i5:=by kernel_rfl
 i9:=by kernel_rfl
 i20:=by kernel_rfl
 i21:=by kernel_rfl
 i37:=by kernel_rfl
 i46:=by kernel_rfl
 i51:=by kernel_rfl
 i53:=by kernel_rfl
 i75:=by kernel_rfl
 i76:=by kernel_rfl
 i80:=by kernel_rfl
 i85:=by kernel_rfl
 i127:=by kernel_rfl
 i143:=by kernel_rfl
 i145:=by kernel_rfl
 i167:=by kernel_rfl
 i168:=by kernel_rfl
 i171:=by kernel_rfl
 i173:=by kernel_rfl
 i175:=by kernel_rfl
 i210:=by kernel_rfl
 i212:=by kernel_rfl
 i232:=by kernel_rfl
 i233:=by kernel_rfl
 m15:=by kernel_rfl
 m16:=by kernel_rfl
 m17:=by kernel_rfl
 m18:=by kernel_rfl
 m19:=by kernel_rfl
 c0:=by kernel_rfl
 c2:=by kernel_rfl
 c3:=by kernel_rfl
 c4:=by kernel_rfl
 c5:=by kernel_rfl
 c9:=by kernel_rfl
 c20:=by kernel_rfl
 c21:=by kernel_rfl
 c37:=by kernel_rfl
 c46:=by kernel_rfl
 c51:=by kernel_rfl
 c53:=by kernel_rfl
 c75:=by kernel_rfl
 c76:=by kernel_rfl
 c80:=by kernel_rfl
 c85:=by kernel_rfl
 c127:=by kernel_rfl
 c143:=by kernel_rfl
 c145:=by kernel_rfl
 c167:=by kernel_rfl
 c168:=by kernel_rfl
 c171:=by kernel_rfl
 c173:=by kernel_rfl
 c175:=by kernel_rfl
 c210:=by kernel_rfl
 c212:=by kernel_rfl
 c213:=by kernel_rfl
 c232:=by kernel_rfl
 c233:=by kernel_rfl}
open Go.RowKit in
theorem Tryz.strconv_Atoi_ok (s:ByteArray) (hmax:s.size<=9223372036854775806) (v:Int) (h:Lib.atoiAll s.data.toList=.ok v) (w:World) :
  Calls Tryz.prog 93 #[.string s] w fun e w'=>e=.returned (.tuple #[.int .i64 v,.nilIface])/\(w'=w\/∃t,w'=Lib.bytesWorld w 5 t):=Any.strconv_Atoi_ok Tryz.laysC172 s hmax v h w
open Go.RowKit in
theorem Tryz.strconv_Atoi_syntax_var (s:ByteArray) (hlim:s.size<=281474976710656) (h:Lib.atoiAll s.data.toList=.«syntax») (tp:TypeId) (p:Value) (w:World) (hvar:w.var? Tryz.prog "strconv.ErrSyntax"=some #[.iface tp p]) :
  Calls Tryz.prog 93 #[.string s] w fun e w'=>∃N,e=.returned (.tuple #[.int .i64 0,.iface 220 (.pointer (some ⟨N,0,none⟩))])/\w.heap.size<=N/\w'.heap[N]?=some (.cells #[.string ⟨#[65,116,111,105]⟩,.string s,.iface tp p] 243 (0,0))/\Below w.heap.size w w':=Any.strconv_Atoi_syntax_var Tryz.laysC172 s hlim h tp p w hvar
open Go.RowKit in
theorem Tryz.strconv_Atoi_range_var (s:ByteArray) (hlim:s.size<=281474976710656) (h:Lib.atoiAll s.data.toList=.range) (tp:TypeId) (p:Value) (w:World) (hvar:w.var? Tryz.prog "strconv.ErrRange"=some #[.iface tp p]) :
  Calls Tryz.prog 93 #[.string s] w fun e w'=>∃N,e=.returned (.tuple #[.int .i64 (Lib.atoiSat s.data.toList),.iface 220 (.pointer (some ⟨N,0,none⟩))])/\w.heap.size<=N/\w'.heap[N]?=some (.cells #[.string ⟨#[65,116,111,105]⟩,.string s,.iface tp p] 243 (0,0))/\Below w.heap.size w w':=Any.strconv_Atoi_range_var Tryz.laysC172 s hlim h tp p w hvar
end Go.Proofs.YtkokfdmggdhfmaaGreatDoor
namespace Go.Proofs.YtkokfdmggdhfmaaGreatDoor
open Go Go.RowKit
attribute [local irreducible] aops zaE
theorem ACalls.ofCallsE {P:Program} {f:Nat} {args:List AV} {S:AV->Prop} (hb:zg6 P f)
  (h:∀(E:Env) (A:Nat->Nat->Prop) (w:World) (vs:Array Value),Gl A w->(∀b o,A b o->b<w.heap.size)->RpL E A w args vs->Calls P f vs w fun e w'=>∃x v,S x/\e=.returned v/\Below w.heap.size w w'/\Rp E A w' x v)
  {os:Os} {nx:Nat} {Q:AV->Os->Nat->Prop} (hq:∀x,S x->Q x os nx):ACalls P f args os nx Q:=by
 refine ⟨hb,fun A0 E w vs hos hnx hr=>(h E (AvX A0 E os) w vs hos.gl (fun b o ha=>hos.lt ha) hr).mono ?_⟩;rintro e w' ⟨x,v,hs,rfl,hbl,hrv⟩;exact ⟨x,v,os,nx,E,rfl,hq x hs,hrv,hos.keep hbl,hnx,.refl E,.of_below hbl,fun b o ha=>.inl ha⟩
theorem rp_two {E:Env} {A:Nat->Nat->Prop} {w:World} (a b:Value):Rp E A w (.tup [.v a,.v b]) (.tuple #[a,b]):=by
 refine .tup rfl fun i c u hc hu=>?_
 match i,hc,hu with
 | 0,hc,hu=>cases hc;cases hu;exact .v _
 | 1,hc,hu=>cases hc;cases hu;exact .v _
theorem ziF (s:ByteArray) (hs:s.size<=1048576) (v:Int) (h:Lib.atoiAll (bl s)=.ok v):APure Tryz.prog 93 [.v (.string s)] (.tup [.v (.int .i64 v),.v .nilIface]):=by
 refine APure.ofCalls ⟨_,Tryz.func93,by kernel_rfl,by kernel_rfl⟩ (.cons (.v _) .nil) (.tup (.cons (.v _) (.cons (.v _) .nil))) fun E A w vs hgl hA hr=>?_;obtain ⟨u,rfl,h1⟩:=hr.one;(cases h1);refine (Tryz.strconv_Atoi_ok s tz1 v h w).mono ?_;rintro e w' ⟨rfl,hw⟩;refine ⟨_,rfl,?_,.tup rfl fun i c u hc hu=>?_⟩
 ·rcases hw with rfl | ⟨t,rfl⟩
  (·exact Below.refl _ _);exact Lib.bytesWorld_below w _ _
 match i,hc,hu with
 | 0,hc,hu=>cases hc;cases hu;exact .v _
 | 1,hc,hu=>cases hc;cases hu;exact .v _
theorem Atoi_no (s:ByteArray) (hs:s.size<=1048576) (h:∀v,Lib.atoiAll (bl s)≠.ok v) {os:Os} {nx:Nat} {Q:AV->Os->Nat->Prop} (hq:∀(v:Int) (t:TypeId) (p:Value),Q (.tup [.v (.int .i64 v),.v (.iface t p)]) os nx) :
  ACalls Tryz.prog 93 [.v (.string s)] os nx Q:=by
 refine ACalls.ofCallsE (S:=fun x=>∃(v:Int) (t:TypeId) (p:Value),x=.tup [.v (.int .i64 v),.v (.iface t p)]) ⟨_,Tryz.func93,by kernel_rfl,by kernel_rfl⟩ (fun E A w vs hgl hA hr=>?_) ?_
 ·obtain ⟨u,rfl,h1⟩:=hr.one
  (cases h1);obtain ⟨ts,ps,hvs⟩:=hgl.err ge_mem3 (name:="strconv.ErrSyntax") (P:=Tryz.prog) tz0;obtain ⟨tr,pr,hvr⟩:=hgl.err ge_mem4 (name:="strconv.ErrRange") (P:=Tryz.prog) tz0
  cases hc:Lib.atoiAll (bl s) with
  | ok v=>exact absurd hc (h v)
  | «syntax» =>
   refine (Tryz.strconv_Atoi_syntax_var s tz1 hc ts ps w hvs).mono ?_;rintro e w' ⟨N,rfl,_,_,hb⟩
   exact ⟨_,_,⟨_,_,_,rfl⟩,rfl,hb,rp_two _ _⟩
  | range =>
   refine (Tryz.strconv_Atoi_range_var s tz1 hc tr pr w hvr).mono ?_;rintro e w' ⟨N,rfl,_,_,hb⟩;exact ⟨_,_,⟨_,_,_,rfl⟩,rfl,hb,rp_two _ _⟩
 rintro x ⟨v,t,p,rfl⟩;exact hq v t p
def nmA (n:Int):ByteArray:=if 0<=n/\n<1073741824 then nmB n else ByteArray.empty
theorem zep (n:Int):APure Tryz.prog 53 [.v (.int .i64 n)] (.v (.string (nmA n))):=by
 unfold nmA
 by_cases h:0<=n/\n<1073741824
 (·rw[if_pos h];exact zfg n h.1 h.2);rw[if_neg h];exact ziN n h
theorem zaT {s:ByteArray} (h:0<=nuR s):nuR s<1073741824/\2<=s.size/\bt s 0=39/\97<=bt s 1/\bt s 1<=122/\bt s 1=97+nuR s % 26/\(s.size<=2->nuR s<26)/\(2<s.size->26<=nuR s/\Lib.atoiAll (bl (s.extract 2 s.size))=.ok (nuR s / 26)):=by
 obtain ⟨h1,h2⟩:=nm_nuR h;obtain ⟨n,hn⟩:∃n:Nat,nuR s=n:=⟨(nuR s).toNat,by omega⟩;rw[hn] at h1 h2 ⊢;have h39:((39:UInt8).toNat:Int)=39:=rfl;(have hc:∀m:Nat,m<26->((UInt8.ofNat (97+m)).toNat:Int)=97+m:=fun m hm=>by simp;omega);have hn2:n<1073741824:=by omega
 by_cases h9:n<26
 ·have hb:=zd4 h9
  rw[h2] at hb;(have hsz:s.size=2:=by rw[<- zbz,hb];rfl);have b0:=zeR (s:=s) (i:=0) (c:=39) (by rw[hb];rfl);have b1:=zeR (s:=s) (i:=1) (c:=UInt8.ofNat (97+n)) (by rw[hb];rfl);rw[h39] at b0;rw[hc n h9] at b1;exact ⟨h1,by omega,b0,by omega,by omega,by omega,fun _=>by omega,fun _=>by omega⟩
 have hb:=zdV h9;rw[h2] at hb;have hp:=zgT (n / 26);(have hsz:s.size=2+(Lib.decDigits (n / 26)).length:=by rw[<- zbz,hb];simp;omega);have hpl:0<(Lib.decDigits (n / 26)).length:=List.length_pos_iff.2 hp;have b0:=zeR (s:=s) (i:=0) (c:=39) (by rw[hb];rfl);have b1:=zeR (s:=s) (i:=1) (c:=UInt8.ofNat (97+n % 26)) (by rw[hb];rfl);rw[h39] at b0;rw[hc _ tz1] at b1;refine ⟨h1,by omega,b0,by omega,by omega,by omega,fun _=>by omega,fun _=>⟨by omega,?_⟩⟩;have h5:=ex_at (s:=s) (P:=[39,UInt8.ofNat (97+n % 26)]) (X:=Lib.decDigits (n / 26)) (S:=[]) (by rw[hb];simp);simp only[zJ,zz] at h5;rw[show 0+1+1+(Lib.decDigits (n / 26)).length=s.size by omega,show 0+1+1=2 from rfl] at h5;rw[h5];(show Lib.atoiAll (Lib.decDigits (n / 26))=_);rw[atoi_dec tz1];congr 1
theorem zb3 {s:ByteArray} (h:nuR s<0):Le (.tup [.v (.int .i64 0),.v (.bool false)]) (.tup [.v (.int .i64 (zbS s)),.v (.bool (decide (0<=nuR s)))]):=by
 unfold zbS;rw[if_neg tz1,decide_eq_false tz1];exact .refl _
theorem pw_num {s:ByteArray} {n:Int} (h:nuR s=n) (h0:0<=n):Le (.tup [.v (.int .i64 n),.v (.bool true)]) (.tup [.v (.int .i64 (zbS s)),.v (.bool (decide (0<=nuR s)))]):=by
 unfold zbS;rw[if_pos tz1,decide_eq_true tz1,h];exact .refl _
theorem zjn {s:ByteArray} {n:Int} (h:eqS (nmA n) s=true) (hs:2<=s.size):nuR s=n/\0<=n:=by
 have h1:=zcJ.1 h;unfold nmA at h1;split at h1
 ·rename_i hn
  have h2:=nuR_nm (n:=n.toNat) tz1;rw[show ((n.toNat:Nat):Int)=n by omega,h1] at h2;exact ⟨h2,hn.1⟩
 rw[<- h1] at hs;have:ByteArray.empty.size=0:=rfl;omega
theorem zfl {s:ByteArray} {n:Int} (h:eqS (nmA n) s=false) (hn:0<=nuR s->nuR s=n):nuR s<0:=by
 (rcases Int.lt_or_le (nuR s) 0 with h1 | h1);(·exact h1);have h2:=nm_nuR h1;have h3:eqS (nmA n) s=true:=zcJ.2 (by unfold nmA;rw[<- hn h1,if_pos ⟨h1,h2.1⟩];exact h2.2);rw[h] at h3;cases h3
theorem zfe {a b:ByteArray} (h:(!eqS a b)=true):eqS a b=false:=by simpa only [Bool.not_eq_true'] using h
theorem zfq {a b:ByteArray} (h:(!eqS a b)=false):eqS a b=true:=by simpa only [Bool.not_eq_false'] using h
theorem zcL {s:ByteArray} (h:0<=nuR s->False):nuR s<0:=by
 (rcases Int.lt_or_le (nuR s) 0 with h1 | h1);(·exact h1);exact (h h1).elim
theorem pw_idx (c:Fin 256):decide (0<=Lib.indexByte ([39,97,98,99,100,101,102,103,104,105,106,107,108,109,110,111,112,113,114,115,116,117,118,119,120,121,122,48,49,50,51,52,53,54,55,56,57]:List UInt8) (Int.toNat (c.val:Int)).toUInt8)=zeb (c.val:Int):=by revert c;decide
theorem pw_idx2 (s:ByteArray) (i:Nat):decide (0<=Lib.indexByte ([39,97,98,99,100,101,102,103,104,105,106,107,108,109,110,111,112,113,114,115,116,117,118,119,120,121,122,48,49,50,51,52,53,54,55,56,57]:List UInt8) (Int.toNat (bt s i)).toUInt8)=zeb (bt s i):=by
 have h:=zc1 s i;have h2:=pw_idx ⟨(bt s i).toNat,by omega⟩;(have e:(((bt s i).toNat:Nat):Int)=bt s i:=by omega);simp only[e] at h2;exact h2
theorem Number_ok (s:ByteArray) (hs:s.size<=1048576) (v:Int) (hv:Lib.atoiAll (bl (s.extract 2 s.size))=.ok v):APure Tryz.prog 42 [.v (.string s)] (.tup [.v (.int .i64 (zbS s)),.v (.bool (decide (0<=nuR s)))]):=by
  refine APure.mkL (.cons (.v _) .nil) (.tup (.cons (.v _) (.cons (.v _) .nil))) ?_;refine aIn Tryz.func42 fun hm=>?_;simp only[Tryz.ntmps42,Tryz.results42,go_sem,seval];have hb0:=zc1 s 0;have hb1:=zc1 s 1;have hc0:((((s[0]?).getD 0).toNat:Nat):Int)=bt s 0:=rfl;have hc1:((((s[1]?).getD 0).toNat:Nat):Int)=bt s 1:=rfl;have hvb:=Lib.atoiAll_bounds hv;refine sqR fun _ u=>?_;refine chS 1 ?_ (by intro _ q;simp only[↓bO,go_sem,seval,hc0,hc1];exact q);simp only[↓bO,go_sem,seval,hc0,hc1];apply u;refine zM fun _ u=>?_;refine sqR fun _ w=>?_;(iterate 4 (refine chS 1 ?_ (by intro _ q;simp only[↓bO,go_sem,seval,hc0,hc1];exact q)));refine zX 10 rfl (fun hc10=>?_) (fun hc10=>?_)
  ·
   simp only[go_sem];(have hneg:nuR s<0:=zcL fun h=>by (have g:=zaT h;have h9:=hc10;simp at h9;omega));(iterate 13 (refine chS 1 ?_ (by intro _ q;simp only[↓bO,go_sem,seval,hc0,hc1];exact q)));simp only[↓bO,go_sem,seval,hc0,hc1];apply w;refine zO (b:=true) (by first | exact rfl | exact congrArg (fun b=>AV.v (.bool b)) hb24) (fun _=>?_) (fun h=>(by cases h));refine sqR fun _ w=>?_;refine chS 1 ?_ (by intro _ q;simp only[↓bO,go_sem,seval,hc0,hc1];exact q);simp only[↓bO,go_sem,seval,hc0,hc1];apply w;apply zP;(try simp only[go_sem]);exact zb3 hneg
  simp only[go_sem];(have h2:2<=s.size:=by (have h9:=hc10;simp at h9;omega));have hl0:((0:Int)<(s.size:Int))=True:=eq_true tz1;have hl1:((1:Int)<(s.size:Int))=True:=eq_true tz1;(iterate 5 (refine chS 1 ?_ (by intro _ q;simp only[↓bO,go_sem,seval,hc0,hc1,hl0,hl1];exact q)));refine zX 15 rfl (fun hc15=>?_) (fun hc15=>?_)
  ·
   simp only[go_sem];(have hneg:nuR s<0:=zcL fun h=>by (have g:=zaT h;have h9:=hc15;simp at h9;omega));(iterate 8 (refine chS 1 ?_ (by intro _ q;simp only[↓bO,go_sem,seval,hc0,hc1,hl0,hl1];exact q)));simp only[↓bO,go_sem,seval,hc0,hc1,hl0,hl1];apply w;refine zO (b:=true) (by first | exact rfl | exact congrArg (fun b=>AV.v (.bool b)) hb24) (fun _=>?_) (fun h=>(by cases h));refine sqR fun _ w=>?_;refine chS 1 ?_ (by intro _ q;simp only[↓bO,go_sem,seval,hc0,hc1,hl0,hl1];exact q);simp only[↓bO,go_sem,seval,hc0,hc1,hl0,hl1];apply w;apply zP;(try simp only[go_sem]);exact zb3 hneg
  (iterate 5 (refine chS 1 ?_ (by intro _ q;simp only[↓bO,go_sem,seval,hc0,hc1,hl0,hl1];exact q)));refine zX 20 rfl (fun hc20=>?_) (fun hc20=>?_)
  ·
   simp only[go_sem];(have hneg:nuR s<0:=zcL fun h=>by (have g:=zaT h;have h9:=hc20;simp at h9;omega));(iterate 3 (refine chS 1 ?_ (by intro _ q;simp only[↓bO,go_sem,seval,hc0,hc1,hl0,hl1];exact q)));simp only[↓bO,go_sem,seval,hc0,hc1,hl0,hl1];apply w;refine zO (b:=true) (by first | exact rfl | exact congrArg (fun b=>AV.v (.bool b)) hb24) (fun _=>?_) (fun h=>(by cases h));refine sqR fun _ w=>?_;refine chS 1 ?_ (by intro _ q;simp only[↓bO,go_sem,seval,hc0,hc1,hl0,hl1];exact q);simp only[↓bO,go_sem,seval,hc0,hc1,hl0,hl1];apply w;apply zP;(try simp only[go_sem]);exact zb3 hneg
  simp only[go_sem];(have h97:97<=bt s 1:=by (have h9:=hc20;simp at h9;omega));(iterate 3 (refine chS 1 ?_ (by intro _ q;simp only[↓bO,go_sem,seval,hc0,hc1,hl0,hl1];exact q)));simp only[↓bO,go_sem,seval,hc0,hc1,hl0,hl1];apply w;apply zO rfl <;> intro hb24
  ·
   (have hneg:nuR s<0:=zcL fun h=>by (have g:=zaT h;have h9:=hb24;simp at h9;omega));refine sqR fun _ w=>?_;refine chS 1 ?_ (by intro _ q;simp only[↓bO,go_sem,seval,hc0,hc1,hl0,hl1];exact q);simp only[↓bO,go_sem,seval,hc0,hc1,hl0,hl1];apply w;apply zP;(try simp only[go_sem]);exact zb3 hneg
  (have h122:bt s 1<=122:=by (have h9:=hb24;simp at h9;omega));(have hwu:IntKind.u8.wrap (bt s 1-97)=bt s 1-97:=by (unfold IntKind.wrap;simp[IntKind.bits,IntKind.signed];omega));(have hwc:IntKind.i64.wrap (bt s 1-97)=bt s 1-97:=by (rw[zac tz1 tz1]));apply zS;apply u;refine sqR fun _ u=>?_;simp only[↓bO,go_sem,seval,hc0,hc1,hl0,hl1,hwu,hwc];apply u;refine zM fun _ u=>?_;refine sqR fun _ w=>?_;(iterate 2 (refine chS 1 ?_ (by intro _ q;simp only[↓bO,go_sem,seval,hc0,hc1,hl0,hl1,hwu,hwc];exact q)));simp only[↓bO,go_sem,seval,hc0,hc1,hl0,hl1,hwu,hwc];apply w;apply zO rfl <;> intro hb27
  ·
   (have h3:2<s.size:=by (have h9:=hb27;simp at h9;omega));have hl2:((2:Int)<=(s.size:Int))=True:=eq_true tz1;refine sqR fun _ w=>?_;(iterate 2 (refine chS 1 ?_ (by intro _ q;simp only[↓bO,go_sem,seval,hc0,hc1,hl0,hl1,hwu,hwc,hl2];exact q)));refine zL 1 fun _ y=>?_;simp only[↓bO,go_sem,seval,hc0,hc1,hl0,hl1,hwu,hwc,hl2];refine APure.call (ziF (s.extract 2 s.size) (by (have:=zgQ s (a:=2) (b:=s.size) tz1 tz1);omega) v hv) ?_;(iterate 4 (apply y;clear y;refine zL 1 fun _ y=>?_;simp only[↓bO,go_sem,seval,hc0,hc1,hl0,hl1,hwu,hwc,hl2]));apply y;clear y;simp only[↓bO,go_sem,seval,hc0,hc1,hl0,hl1,hwu,hwc,hl2];apply w;refine zM fun _ w=>?_;refine sqR fun _ z=>?_;refine chS 1 ?_ (by intro _ q;simp only[↓bO,go_sem,seval,hc0,hc1,hl0,hl1,hwu,hwc,hl2];exact q);refine chS 1 ?_ (by intro _ q;simp only[↓bO,go_sem,seval,isCn,↓if91,hc0,hc1,hl0,hl1,hwu,hwc,hl2];exact q);refine chS 1 ?_ (by intro _ q;simp only[↓bO,go_sem,seval,hc0,hc1,hl0,hl1,hwu,hwc,hl2];exact q);simp only[go_sem];refine zX 36 rfl (fun hc36=>?_) (fun hc36=>?_)
   ·
    simp only[go_sem];exact absurd hc36 tz4
   (iterate 4 (refine chS 1 ?_ (by intro _ q;simp only[↓bO,go_sem,seval,hc0,hc1,hl0,hl1,hwu,hwc,hl2];exact q)));refine zX 40 rfl (fun hc40=>?_) (fun hc40=>?_)
   ·
    simp only[go_sem];(have hneg:nuR s<0:=zcL fun h=>by (have g:=(zaT h).2.2.2.2.2.2.2 h3;have e:=g.2;rw[hv] at e;injection e with e;have h9:=hc40;simp at h9;omega));(iterate 2 (refine chS 1 ?_ (by intro _ q;simp only[↓bO,go_sem,seval,hc0,hc1,hl0,hl1,hwu,hwc,hl2];exact q)));simp only[↓bO,go_sem,seval,hc0,hc1,hl0,hl1,hwu,hwc,hl2];apply z;refine zO (b:=true) (by first | exact rfl | exact congrArg (fun b=>AV.v (.bool b)) hb43) (fun _=>?_) (fun h=>(by cases h));refine sqR fun _ z=>?_;refine chS 1 ?_ (by intro _ q;simp only[↓bO,go_sem,seval,hc0,hc1,hl0,hl1,hwu,hwc,hl2];exact q);simp only[↓bO,go_sem,seval,hc0,hc1,hl0,hl1,hwu,hwc,hl2];apply z;apply zP;(try simp only[go_sem]);exact zb3 hneg
   simp only[go_sem];(have hv1:1<=v:=by (have h9:=hc40;simp at h9;omega));(iterate 2 (refine chS 1 ?_ (by intro _ q;simp only[↓bO,go_sem,seval,hc0,hc1,hl0,hl1,hwu,hwc,hl2];exact q)));simp only[↓bO,go_sem,seval,hc0,hc1,hl0,hl1,hwu,hwc,hl2];apply z;apply zO rfl <;> intro hb43
   ·
    (have hneg:nuR s<0:=by (first | exact hneg | exact zcL fun h=>by (have g:=(zaT h).2.2.2.2.2.2.2 h3;have g1:=(zaT h).1;have e:=g.2;rw[hv] at e;injection e with e;have h9:=hb43;simp at h9;omega)));refine sqR fun _ z=>?_;refine chS 1 ?_ (by intro _ q;simp only[↓bO,go_sem,seval,hc0,hc1,hl0,hl1,hwu,hwc,hl2];exact q);simp only[↓bO,go_sem,seval,hc0,hc1,hl0,hl1,hwu,hwc,hl2];apply z;apply zP;(try simp only[go_sem]);exact zb3 hneg
   (have hv2:v<1073741824:=by (have h9:=hb43;simp at h9;omega));(have hwa:IntKind.i64.wrap (26 * v)=26 * v:=by (rw[zac tz1 tz1]));(have hwb:IntKind.i64.wrap (26 * v+(bt s 1-97))=26 * v+(bt s 1-97):=by (rw[zac tz1 tz1]));apply zS;apply w;apply zN;(iterate 2 (refine chS 1 ?_ (by intro _ q;simp only[↓bO,go_sem,seval,hc0,hc1,hl0,hl1,hwu,hwc,hl2,hwa,hwb];exact q)));simp only[↓bO,go_sem,seval,hc0,hc1,hl0,hl1,hwu,hwc,hl2,hwa,hwb];apply u;refine sqR fun _ u=>?_;(iterate 6 (refine chS 1 ?_ (by intro _ q;simp only[↓bO,go_sem,seval,hc0,hc1,hl0,hl1,hwu,hwc,hl2,hwa,hwb];exact q)));simp only[↓bO,go_sem,seval,hc0,hc1,hl0,hl1,hwu,hwc,hl2,hwa,hwb];apply u;refine zM fun _ u=>?_;refine sqR fun _ w=>?_;refine chS 1 ?_ (by intro _ q;simp only[↓bO,go_sem,seval,hc0,hc1,hl0,hl1,hwu,hwc,hl2,hwa,hwb];exact q);refine zL 1 fun _ y=>?_;simp only[↓bO,go_sem,seval,hc0,hc1,hl0,hl1,hwu,hwc,hl2,hwa,hwb];refine APure.call (zep _) ?_;apply y;clear y;refine chS 1 ?_ (by intro _ q;simp only[↓bO,go_sem,seval,hc0,hc1,hl0,hl1,hwu,hwc,hl2,hwa,hwb];exact q);simp only[↓bO,go_sem,seval,hc0,hc1,hl0,hl1,hwu,hwc,hl2,hwa,hwb];apply w;apply zO rfl <;> intro hb55
   ·
    have hneg:nuR s<0:=zfl (zfe hb55) (fun h=>by (have g:=zaT h;first | (have g1:=g.2.2.2.2.2.2.2 h3;have e:=g1.2;rw[hv] at e;injection e with e;omega) | omega));refine sqR fun _ w=>?_;refine chS 1 ?_ (by intro _ q;simp only[↓bO,go_sem,seval,hc0,hc1,hl0,hl1,hwu,hwc,hl2,hwa,hwb];exact q);simp only[↓bO,go_sem,seval,hc0,hc1,hl0,hl1,hwu,hwc,hl2,hwa,hwb];apply w;apply zP;(try simp only[go_sem]);exact zb3 hneg
   have hnm:=hb55;apply zS;apply u;refine sqR fun _ u=>?_;(iterate 2 (refine chS 1 ?_ (by intro _ q;simp only[↓bO,go_sem,seval,hc0,hc1,hl0,hl1,hwu,hwc,hl2,hwa,hwb];exact q)));simp only[↓bO,go_sem,seval,hc0,hc1,hl0,hl1,hwu,hwc,hl2,hwa,hwb];apply u;apply zP;(try simp only[go_sem]);have hnn:=zjn (zfq hnm) tz1;exact pw_num hnn.1 hnn.2
  (have h3:¬2<s.size:=by (have h9:=hb27;simp at h9;omega));(have hwz:IntKind.i64.wrap (0+(bt s 1-97))=bt s 1-97:=by (rw[zac tz1 tz1];omega));apply zS;apply u;refine sqR fun _ u=>?_;(iterate 6 (refine chS 1 ?_ (by intro _ q;simp only[↓bO,go_sem,seval,hc0,hc1,hl0,hl1,hwu,hwc,hwz];exact q)));simp only[↓bO,go_sem,seval,hc0,hc1,hl0,hl1,hwu,hwc,hwz];apply u;refine zM fun _ u=>?_;refine sqR fun _ w=>?_;refine chS 1 ?_ (by intro _ q;simp only[↓bO,go_sem,seval,hc0,hc1,hl0,hl1,hwu,hwc,hwz];exact q);refine zL 1 fun _ y=>?_;simp only[↓bO,go_sem,seval,hc0,hc1,hl0,hl1,hwu,hwc,hwz];refine APure.call (zep _) ?_;apply y;clear y;refine chS 1 ?_ (by intro _ q;simp only[↓bO,go_sem,seval,hc0,hc1,hl0,hl1,hwu,hwc,hwz];exact q);simp only[↓bO,go_sem,seval,hc0,hc1,hl0,hl1,hwu,hwc,hwz];apply w;apply zO rfl <;> intro hb55
  ·
   have hneg:nuR s<0:=zfl (zfe hb55) (fun h=>by (have g:=zaT h;first | (have g1:=g.2.2.2.2.2.2.2 h3;have e:=g1.2;rw[hv] at e;injection e with e;omega) | omega));refine sqR fun _ w=>?_;refine chS 1 ?_ (by intro _ q;simp only[↓bO,go_sem,seval,hc0,hc1,hl0,hl1,hwu,hwc,hwz];exact q);simp only[↓bO,go_sem,seval,hc0,hc1,hl0,hl1,hwu,hwc,hwz];apply w;apply zP;(try simp only[go_sem]);exact zb3 hneg
  have hnm:=hb55;apply zS;apply u;refine sqR fun _ u=>?_;(iterate 2 (refine chS 1 ?_ (by intro _ q;simp only[↓bO,go_sem,seval,hc0,hc1,hl0,hl1,hwu,hwc,hwz];exact q)));simp only[↓bO,go_sem,seval,hc0,hc1,hl0,hl1,hwu,hwc,hwz];apply u;apply zP;(try simp only[go_sem]);have hnn:=zjn (zfq hnm) tz1;exact pw_num hnn.1 hnn.2
theorem zih (s:ByteArray) (hs:s.size<=1048576) (hv:∀v,Lib.atoiAll (bl (s.extract 2 s.size))≠.ok v):APure Tryz.prog 42 [.v (.string s)] (.tup [.v (.int .i64 (zbS s)),.v (.bool (decide (0<=nuR s)))]):=by
  refine APure.mkL (.cons (.v _) .nil) (.tup (.cons (.v _) (.cons (.v _) .nil))) ?_;refine aIn Tryz.func42 fun hm=>?_;simp only[Tryz.ntmps42,Tryz.results42,go_sem,seval];have hb0:=zc1 s 0;have hb1:=zc1 s 1;have hc0:((((s[0]?).getD 0).toNat:Nat):Int)=bt s 0:=rfl;have hc1:((((s[1]?).getD 0).toNat:Nat):Int)=bt s 1:=rfl;refine sqR fun _ u=>?_;refine chS 1 ?_ (by intro _ q;simp only[↓bO,go_sem,seval,hc0,hc1];exact q);simp only[↓bO,go_sem,seval,hc0,hc1];apply u;refine zM fun _ u=>?_;refine sqR fun _ w=>?_;(iterate 4 (refine chS 1 ?_ (by intro _ q;simp only[↓bO,go_sem,seval,hc0,hc1];exact q)));refine zX 10 rfl (fun hc10=>?_) (fun hc10=>?_)
  ·
   simp only[go_sem];(have hneg:nuR s<0:=zcL fun h=>by (have g:=zaT h;have h9:=hc10;simp at h9;omega));(iterate 13 (refine chS 1 ?_ (by intro _ q;simp only[↓bO,go_sem,seval,hc0,hc1];exact q)));simp only[↓bO,go_sem,seval,hc0,hc1];apply w;refine zO (b:=true) (by first | exact rfl | exact congrArg (fun b=>AV.v (.bool b)) hb24) (fun _=>?_) (fun h=>(by cases h));refine sqR fun _ w=>?_;refine chS 1 ?_ (by intro _ q;simp only[↓bO,go_sem,seval,hc0,hc1];exact q);simp only[↓bO,go_sem,seval,hc0,hc1];apply w;apply zP;(try simp only[go_sem]);exact zb3 hneg
  simp only[go_sem];(have h2:2<=s.size:=by (have h9:=hc10;simp at h9;omega));have hl0:((0:Int)<(s.size:Int))=True:=eq_true tz1;have hl1:((1:Int)<(s.size:Int))=True:=eq_true tz1;(iterate 5 (refine chS 1 ?_ (by intro _ q;simp only[↓bO,go_sem,seval,hc0,hc1,hl0,hl1];exact q)));refine zX 15 rfl (fun hc15=>?_) (fun hc15=>?_)
  ·
   simp only[go_sem];(have hneg:nuR s<0:=zcL fun h=>by (have g:=zaT h;have h9:=hc15;simp at h9;omega));(iterate 8 (refine chS 1 ?_ (by intro _ q;simp only[↓bO,go_sem,seval,hc0,hc1,hl0,hl1];exact q)));simp only[↓bO,go_sem,seval,hc0,hc1,hl0,hl1];apply w;refine zO (b:=true) (by first | exact rfl | exact congrArg (fun b=>AV.v (.bool b)) hb24) (fun _=>?_) (fun h=>(by cases h));refine sqR fun _ w=>?_;refine chS 1 ?_ (by intro _ q;simp only[↓bO,go_sem,seval,hc0,hc1,hl0,hl1];exact q);simp only[↓bO,go_sem,seval,hc0,hc1,hl0,hl1];apply w;apply zP;(try simp only[go_sem]);exact zb3 hneg
  (iterate 5 (refine chS 1 ?_ (by intro _ q;simp only[↓bO,go_sem,seval,hc0,hc1,hl0,hl1];exact q)));refine zX 20 rfl (fun hc20=>?_) (fun hc20=>?_)
  ·
   simp only[go_sem];(have hneg:nuR s<0:=zcL fun h=>by (have g:=zaT h;have h9:=hc20;simp at h9;omega));(iterate 3 (refine chS 1 ?_ (by intro _ q;simp only[↓bO,go_sem,seval,hc0,hc1,hl0,hl1];exact q)));simp only[↓bO,go_sem,seval,hc0,hc1,hl0,hl1];apply w;refine zO (b:=true) (by first | exact rfl | exact congrArg (fun b=>AV.v (.bool b)) hb24) (fun _=>?_) (fun h=>(by cases h));refine sqR fun _ w=>?_;refine chS 1 ?_ (by intro _ q;simp only[↓bO,go_sem,seval,hc0,hc1,hl0,hl1];exact q);simp only[↓bO,go_sem,seval,hc0,hc1,hl0,hl1];apply w;apply zP;(try simp only[go_sem]);exact zb3 hneg
  simp only[go_sem];(have h97:97<=bt s 1:=by (have h9:=hc20;simp at h9;omega));(iterate 3 (refine chS 1 ?_ (by intro _ q;simp only[↓bO,go_sem,seval,hc0,hc1,hl0,hl1];exact q)));simp only[↓bO,go_sem,seval,hc0,hc1,hl0,hl1];apply w;apply zO rfl <;> intro hb24
  ·
   (have hneg:nuR s<0:=zcL fun h=>by (have g:=zaT h;have h9:=hb24;simp at h9;omega));refine sqR fun _ w=>?_;refine chS 1 ?_ (by intro _ q;simp only[↓bO,go_sem,seval,hc0,hc1,hl0,hl1];exact q);simp only[↓bO,go_sem,seval,hc0,hc1,hl0,hl1];apply w;apply zP;(try simp only[go_sem]);exact zb3 hneg
  (have h122:bt s 1<=122:=by (have h9:=hb24;simp at h9;omega));(have hwu:IntKind.u8.wrap (bt s 1-97)=bt s 1-97:=by (unfold IntKind.wrap;simp[IntKind.bits,IntKind.signed];omega));(have hwc:IntKind.i64.wrap (bt s 1-97)=bt s 1-97:=by (rw[zac tz1 tz1]));apply zS;apply u;refine sqR fun _ u=>?_;simp only[↓bO,go_sem,seval,hc0,hc1,hl0,hl1,hwu,hwc];apply u;refine zM fun _ u=>?_;refine sqR fun _ w=>?_;(iterate 2 (refine chS 1 ?_ (by intro _ q;simp only[↓bO,go_sem,seval,hc0,hc1,hl0,hl1,hwu,hwc];exact q)));simp only[↓bO,go_sem,seval,hc0,hc1,hl0,hl1,hwu,hwc];apply w;apply zO rfl <;> intro hb27
  ·
   (have h3:2<s.size:=by (have h9:=hb27;simp at h9;omega));have hl2:((2:Int)<=(s.size:Int))=True:=eq_true tz1;refine sqR fun _ w=>?_;(iterate 2 (refine chS 1 ?_ (by intro _ q;simp only[↓bO,go_sem,seval,hc0,hc1,hl0,hl1,hwu,hwc,hl2];exact q)));refine zL 1 fun _ y=>?_;simp only[↓bO,go_sem,seval,hc0,hc1,hl0,hl1,hwu,hwc,hl2];refine Atoi_no (s.extract 2 s.size) (by (have:=zgQ s (a:=2) (b:=s.size) tz1 tz1);omega) hv fun v tv pv=>?_;(iterate 4 (apply y;clear y;refine zL 1 fun _ y=>?_;simp only[↓bO,go_sem,seval,hc0,hc1,hl0,hl1,hwu,hwc,hl2]));apply y;clear y;simp only[↓bO,go_sem,seval,hc0,hc1,hl0,hl1,hwu,hwc,hl2];apply w;refine zM fun _ w=>?_;refine sqR fun _ z=>?_;refine chS 1 ?_ (by intro _ q;simp only[↓bO,go_sem,seval,hc0,hc1,hl0,hl1,hwu,hwc,hl2];exact q);refine chS 1 ?_ (by intro _ q;simp only[↓bO,go_sem,seval,isCn,↓if91,hc0,hc1,hl0,hl1,hwu,hwc,hl2];exact q);refine chS 1 ?_ (by intro _ q;simp only[↓bO,go_sem,seval,hc0,hc1,hl0,hl1,hwu,hwc,hl2];exact q);simp only[go_sem];refine zX 36 rfl (fun hc36=>?_) (fun hc36=>?_)
   ·
    simp only[go_sem];(have hneg:nuR s<0:=zcL fun h=>hv _ ((zaT h).2.2.2.2.2.2.2 h3).2);(iterate 6 (refine chS 1 ?_ (by intro _ q;simp only[↓bO,go_sem,seval,hc0,hc1,hl0,hl1,hwu,hwc,hl2];exact q)));simp only[↓bO,go_sem,seval,hc0,hc1,hl0,hl1,hwu,hwc,hl2];apply z;refine zO (b:=true) (by first | exact rfl | exact congrArg (fun b=>AV.v (.bool b)) hb43) (fun _=>?_) (fun h=>(by cases h));refine sqR fun _ z=>?_;refine chS 1 ?_ (by intro _ q;simp only[↓bO,go_sem,seval,hc0,hc1,hl0,hl1,hwu,hwc,hl2];exact q);simp only[↓bO,go_sem,seval,hc0,hc1,hl0,hl1,hwu,hwc,hl2];apply z;apply zP;(try simp only[go_sem]);exact zb3 hneg
   simp only[go_sem];exact absurd hc36 tz4
  (have h3:¬2<s.size:=by (have h9:=hb27;simp at h9;omega));(have hwz:IntKind.i64.wrap (0+(bt s 1-97))=bt s 1-97:=by (rw[zac tz1 tz1];omega));apply zS;apply u;refine sqR fun _ u=>?_;(iterate 6 (refine chS 1 ?_ (by intro _ q;simp only[↓bO,go_sem,seval,hc0,hc1,hl0,hl1,hwu,hwc,hwz];exact q)));simp only[↓bO,go_sem,seval,hc0,hc1,hl0,hl1,hwu,hwc,hwz];apply u;refine zM fun _ u=>?_;refine sqR fun _ w=>?_;refine chS 1 ?_ (by intro _ q;simp only[↓bO,go_sem,seval,hc0,hc1,hl0,hl1,hwu,hwc,hwz];exact q);refine zL 1 fun _ y=>?_;simp only[↓bO,go_sem,seval,hc0,hc1,hl0,hl1,hwu,hwc,hwz];refine APure.call (zep _) ?_;apply y;clear y;refine chS 1 ?_ (by intro _ q;simp only[↓bO,go_sem,seval,hc0,hc1,hl0,hl1,hwu,hwc,hwz];exact q);simp only[↓bO,go_sem,seval,hc0,hc1,hl0,hl1,hwu,hwc,hwz];apply w;apply zO rfl <;> intro hb55
  ·
   have hneg:nuR s<0:=zfl (zfe hb55) (fun h=>by (have g:=zaT h;first | (have g1:=g.2.2.2.2.2.2.2 h3;have e:=g1.2;rw[hv] at e;injection e with e;omega) | omega));refine sqR fun _ w=>?_;refine chS 1 ?_ (by intro _ q;simp only[↓bO,go_sem,seval,hc0,hc1,hl0,hl1,hwu,hwc,hwz];exact q);simp only[↓bO,go_sem,seval,hc0,hc1,hl0,hl1,hwu,hwc,hwz];apply w;apply zP;(try simp only[go_sem]);exact zb3 hneg
  have hnm:=hb55;apply zS;apply u;refine sqR fun _ u=>?_;(iterate 2 (refine chS 1 ?_ (by intro _ q;simp only[↓bO,go_sem,seval,hc0,hc1,hl0,hl1,hwu,hwc,hwz];exact q)));simp only[↓bO,go_sem,seval,hc0,hc1,hl0,hl1,hwu,hwc,hwz];apply u;apply zP;(try simp only[go_sem]);have hnn:=zjn (zfq hnm) tz1;exact pw_num hnn.1 hnn.2
theorem zdC (s:ByteArray) (hs:s.size<=1048576):APure Tryz.prog 42 [.v (.string s)] (.tup [.v (.int .i64 (zbS s)),.v (.bool (decide (0<=nuR s)))]):=by
 cases hc:Lib.atoiAll (bl (s.extract 2 s.size)) with
 | ok v=>exact Number_ok s hs v hc
 | «syntax»=>exact zih s hs fun v h=>by rw[hc] at h;cases h
 | range=>exact zih s hs fun v h=>by rw[hc] at h;cases h
theorem name_c (s:ByteArray) (hs:s.size<=1048576):PCalls4 140 [.ptr 0 0] (s) (false) (.agg (zci s).1.cells) ((zci s).2.1) ((zci s).2.2):=by
  refine ACalls.clean (C:=fun r os'=>r=_/\os'=_) ?_;refine aIn Tryz.func140 fun hm=>?_;simp only[Tryz.ntmps140,Tryz.results140,go_sem,seval];(iterate 2 (refine zM fun _ u=>?_;apply zN;simp only[↓bO,go_sem,seval,pC];apply u));refine zM fun _ u=>?_;apply zU;refine zad (σ:=Nat) (mB 57 13) (fun k=>k<=s.size/\∀j,j<k->zeb (bt s j)=true) (fun k=>[(3,.v (.int .i64 ((k:Nat):Int)))]) (fun k=>[]) (fun k=>s.size-k) 0 (⟨by omega,fun j hj=>by omega⟩) ?_ (fun k hk=>?_)
  ·
   (try simp only[go_sem,seval]);exact za5
  simp only[go_sem,seval];have hck:((((s[k]?).getD 0).toNat:Nat):Int)=bt s k:=rfl;have hbk:=zc1 s k;(have hw1:IntKind.i64.wrap ((k:Int)+1)=((k+1:Nat):Int):=by (rw[zac tz1 tz1];omega));have hki:((k:Int)<=(s.size:Int))=True:=eq_true tz1;have hix:=pw_idx2 s k;have hexs:=zgQ s (a:=0) (b:=k) tz1 tz1;refine zM fun _ w=>?_;refine sqR fun _ z=>?_;(iterate 8 (refine chS 1 ?_ (by intro _ q;simp only[↓bO,go_sem,seval,pC,hck,hw1,hki];exact q)));refine zX 13 rfl (fun hc13=>?_) (fun hc13=>?_)
  ·
   simp only[go_sem];(have hlt:k<s.size:=by (have h9:=hc13;simp at h9;omega));(iterate 6 (refine chS 1 ?_ (by intro _ q;simp only[↓bO,go_sem,seval,pC,hck,hw1,hki,hlt];exact q)));refine zL 1 fun _ y=>?_;simp only[↓bO,go_sem,seval,pC,hck,hw1,hki,hlt];refine APure.call (zf2 ⟨#[39,97,98,99,100,101,102,103,104,105,106,107,108,109,110,111,112,113,114,115,116,117,118,119,120,121,122,48,49,50,51,52,53,54,55,56,57]⟩ (bt s k)) ?_;apply y;clear y;refine chS 1 ?_ (by intro _ q;simp only[↓bO,go_sem,seval,pC,hck,hw1,hki,hlt];exact q);simp only[↓bO,go_sem,seval,pC,hck,hw1,hki,hlt];apply z;apply zO rfl <;> intro hb22
   ·
    (have hin:zeb (bt s k)=true:=by (rw[<- hix];simpa using hb22));apply zS;apply w;apply zU;apply zN;(iterate 2 (refine chS 1 ?_ (by intro _ q;simp only[↓bO,go_sem,seval,pC,hck,hw1,hki,hlt];exact q)));simp only[↓bO,go_sem,seval,pC,hck,hw1,hki,hlt];refine ⟨(k+1),⟨by omega,fun j hj=>(by rcases zI j k with h3 | h3 <;> first | exact hk.2 j h3 | (obtain rfl:j=k:=tz1;exact hin))⟩,tz1,?_⟩;(try simp only[go_sem,seval,hck,hw1,hki,hlt]);exact za5
   have hrun:zdg s 0 zeb=k:=runN_eq tz1 (fun i hi=>by (rw[zD];exact hk.2 i hi)) (fun hlt2=>by (rw[zD] at hlt2 ⊢;(rw[hck,<- hix];simpa using hb22)));apply zae;simp only[zaf,z8,zY,bA,Nat.reduceEqDiff,↓reduceIte];apply u;refine sqR fun _ u=>?_;(iterate 6 (refine chS 1 ?_ (by intro _ q;simp only[↓bO,go_sem,seval,pC,hlt,hki];exact q)));refine zL 1 fun _ y=>?_;simp only[↓bO,go_sem,seval,pC,hlt,hki];refine APure.call (zdC (s.extract 0 k) tz1) ?_;(iterate 4 (apply y;clear y;refine zL 1 fun _ y=>?_;simp only[↓bO,go_sem,seval,pC,hlt,hki]));apply y;clear y;simp only[↓bO,go_sem,seval,pC,hlt,hki];apply u;refine sqR fun _ u=>?_;(iterate 6 (refine chS 1 ?_ (by intro _ q;simp only[↓bO,go_sem,seval,pC,hlt,hki];exact q)));refine zX 40 rfl (fun hc40=>?_) (fun hc40=>?_)
   ·
    simp only[go_sem];exact absurd hc40 tz4
   (iterate 5 (refine chS 1 ?_ (by intro _ q;simp only[↓bO,go_sem,seval,pC,hlt,hki];exact q)));simp only[↓bO,go_sem,seval,pC,hlt,hki];apply u;refine sqR fun _ u=>?_;(iterate 9 (refine chS 1 ?_ (by intro _ q;simp only[↓bO,go_sem,seval,pC,hlt,hki];exact q)));simp only[↓bO,go_sem,seval,pC,hlt,hki];apply u;refine sqR fun _ u=>?_;refine chS 1 ?_ (by intro _ q;simp only[↓bO,go_sem,seval,pC,hlt,hki];exact q);refine zL 1 fun _ y=>?_;simp only[↓bO,go_sem,seval,pC,hlt,hki];refine APure.call (zby (zbS (s.extract 0 k))) ?_;apply y;clear y;simp only[↓bO,go_sem,seval,pC,hlt,hki];apply u;apply zP;(try simp only[zaf,z8,zY,zbH,zbc,zau,bS,bA,zav,zaa,za4,bL,Nat.reduceAdd,Nat.reduceLeDiff,Nat.reduceEqDiff,↓reduceIte,zcI,tyX,pC,hlt,hki]);(have hpw:zci s=(.mk 1 (zbS (s.extract 0 k)) [],s.extract k s.size,!decide (0<=nuR (s.extract 0 k))):=by (unfold zci;rw[hrun]));rw[hpw];refine ⟨_,_,⟨rfl,rfl⟩,.data (Ty.dataAgg _),pUnd tz1 _ _,?_,?_,by omega⟩;(· exact Le.refl _);first | exact ⟨0,rfl,rfl⟩ | exact ⟨1,rfl,rfl⟩ | exact ⟨2,rfl,rfl⟩ | exact ⟨3,rfl,rfl⟩
  simp only[go_sem];(have hge:¬k<s.size:=by (have h9:=hc13;simp at h9;omega));have hrun:zdg s 0 zeb=k:=runN_eq tz1 (fun i hi=>by (rw[zD];exact hk.2 i hi)) (fun hlt2=>by (rw[zD] at hlt2 ⊢;omega));(iterate 8 (refine chS 1 ?_ (by intro _ q;simp only[↓bO,go_sem,seval,pC,hki];exact q)));simp only[↓bO,go_sem,seval,pC,hki];apply z;refine zO (b:=false) (by first | exact rfl | exact congrArg (fun b=>AV.v (.bool b)) hb22) (fun h=>(by cases h)) (fun _=>?_);apply zae;simp only[zaf,z8,zY,bA,Nat.reduceEqDiff,↓reduceIte];apply u;refine sqR fun _ u=>?_;(iterate 6 (refine chS 1 ?_ (by intro _ q;simp only[↓bO,go_sem,seval,pC,hki];exact q)));refine zL 1 fun _ y=>?_;simp only[↓bO,go_sem,seval,pC,hki];refine APure.call (zdC (s.extract 0 k) tz1) ?_;(iterate 4 (apply y;clear y;refine zL 1 fun _ y=>?_;simp only[↓bO,go_sem,seval,pC,hki]));apply y;clear y;simp only[↓bO,go_sem,seval,pC,hki];apply u;refine sqR fun _ u=>?_;(iterate 6 (refine chS 1 ?_ (by intro _ q;simp only[↓bO,go_sem,seval,pC,hki];exact q)));refine zX 40 rfl (fun hc40=>?_) (fun hc40=>?_)
  ·
   simp only[go_sem];exact absurd hc40 tz4
  (iterate 5 (refine chS 1 ?_ (by intro _ q;simp only[↓bO,go_sem,seval,pC,hki];exact q)));simp only[↓bO,go_sem,seval,pC,hki];apply u;refine sqR fun _ u=>?_;(iterate 9 (refine chS 1 ?_ (by intro _ q;simp only[↓bO,go_sem,seval,pC,hki];exact q)));simp only[↓bO,go_sem,seval,pC,hki];apply u;refine sqR fun _ u=>?_;refine chS 1 ?_ (by intro _ q;simp only[↓bO,go_sem,seval,pC,hki];exact q);refine zL 1 fun _ y=>?_;simp only[↓bO,go_sem,seval,pC,hki];refine APure.call (zby (zbS (s.extract 0 k))) ?_;apply y;clear y;simp only[↓bO,go_sem,seval,pC,hki];apply u;apply zP;(try simp only[zaf,z8,zY,zbH,zbc,zau,bS,bA,zav,zaa,za4,bL,Nat.reduceAdd,Nat.reduceLeDiff,Nat.reduceEqDiff,↓reduceIte,zcI,tyX,pC,hki]);(have hpw:zci s=(.mk 1 (zbS (s.extract 0 k)) [],s.extract k s.size,!decide (0<=nuR (s.extract 0 k))):=by (unfold zci;rw[hrun]));rw[hpw];refine ⟨_,_,⟨rfl,rfl⟩,.data (Ty.dataAgg _),pUnd tz1 _ _,?_,?_,by omega⟩;(· exact Le.refl _);first | exact ⟨0,rfl,rfl⟩ | exact ⟨1,rfl,rfl⟩ | exact ⟨2,rfl,rfl⟩ | exact ⟨3,rfl,rfl⟩
def PwOk (f:Nat):Prop:=∀s:ByteArray,s.size<f->s.size<=1048576->PCalls4 94 [.ptr 0 0] s false (.agg (pwF f s).1.cells) (pwF f s).2.1 (pwF f s).2.2
structure PwS where
 n:Nat
 acc:List Ty
 s:ByteArray
 b:Bool
def PwS.ok (f:Nat) (s0:ByteArray) (w:PwS):Prop:=zcl (pwF f) w.n w.acc w.s w.b=zcl (pwF f) (s0.size+1) [(pwF f s0).1] (pwF f s0).2.1 (pwF f s0).2.2/\w.s.size<w.n/\w.acc.length+w.s.size<=s0.size+1
theorem PwS.start (f:Nat) (s0:ByteArray):PwS.ok f s0 ⟨s0.size+1,[(pwF f s0).1],(pwF f s0).2.1,(pwF f s0).2.2⟩:=by
 have:=(zdF f s0).le;exact ⟨rfl,by simp only;omega,by simp only[zJ,zz];omega⟩
theorem PwS.ok.next {f:Nat} {s0:ByteArray} {w:PwS} (h:w.ok f s0) (hb:w.b=false) (hs:zch w.s bSt=true):PwS.ok f s0 ⟨w.n-1,w.acc++[(pwF f (zdk w.s bSt)).1],(pwF f (zdk w.s bSt)).2.1,(pwF f (zdk w.s bSt)).2.2⟩:=by
 obtain ⟨h1,h2,h3⟩:=h;obtain ⟨m,hm⟩:∃m,w.n=m+1:=⟨w.n-1,by omega⟩;have g1:=za8 hs;have g2:=(zdF f (zdk w.s bSt)).le;rw[ze1] at g1;rw[hm,zcl,if_pos ⟨hb,hs⟩] at h1;refine ⟨by simp only[hm,Nat.add_sub_cancel];exact h1,by simp only;omega,by simp only[zj,zJ,zz];omega⟩
theorem PwS.ok.stop {f:Nat} {s0:ByteArray} {w:PwS} (h:w.ok f s0) (hn:w.b=true\/zch w.s bSt=false):zbI (pwF f) s0=zfI (w.acc,w.s,w.b):=by
 obtain ⟨h1,h2,h3⟩:=h;obtain ⟨m,hm⟩:∃m,w.n=m+1:=⟨w.n-1,by omega⟩;rw[hm,zcl,if_neg (by rintro ⟨g1,g2⟩;rcases hn with h | h <;> simp_all)] at h1;unfold zbI;rw[<- h1]
theorem ziq (l:List Ty) (s:ByteArray):zfI (l,s,true)=(zhA l,s,true):=by
 unfold zfI;simp
theorem zkE (l:List Ty) (s:ByteArray):zfI (l,s,false)=(zhA l,if zch s bRp=true then zdk s bRp else s,!zch s bRp):=by
 unfold zfI;cases h:zch s bRp <;> simp
theorem ziK (t:Ty):zhA [t]=t:=rfl
theorem zgj {l:List Ty} (h:¬l.length=1):zhA l=.mk 5 0 l:=by
 match l,h with
 | [],_=>rfl
 | [_],h=>exact absurd rfl h
 | _::_::_,_=>rfl
theorem zkh {l:List Ty} (h:l.length=1):∃t,l=[t]:=by
 match l,h with
 | [t],_=>exact ⟨t,rfl⟩
theorem zT_le:Le (.agg [.v (.int .i64 0),.v (.int .i64 0),.v (.slice none 0 0)]) (.agg (Ty.mk 0 0 []).cells):=by
 rw[Ty.cells_eq];exact Le.agg ⟨.refl _,.refl _,Le.slNil 3,trivial⟩
theorem Ty.pcells (k n:Int) (ps:List Ty):(Ty.mk k n ps).cells=[.v (.int .i64 k),.v (.int .i64 n),.sl 3 (ps.map Ty.cells)]:=Ty.cells_eq _
theorem inner_c (f:Nat) (ih:∀g,g<=f->PwOk g) (s:ByteArray) (hf:s.size<f) (hs:s.size<=1048576):PCalls4 139 [.ptr 0 0] s false (.agg (zbI (pwF f) s).1.cells) (zbI (pwF f) s).2.1 (zbI (pwF f) s).2.2:=by
  refine ACalls.clean (C:=fun r os'=>r=_/\os'=_) ?_;refine aIn Tryz.func139 fun hm=>?_;simp only[Tryz.ntmps139,Tryz.results139,go_sem,seval];refine sqR fun _ u=>?_;simp only[↓bO,go_sem,seval,pC];apply u;refine zM fun _ u=>?_;refine zdN 2 [_] [_] rfl fun _ y=>?_;refine chS 1 ?_ (by intro _ q;simp only[↓bO,go_sem,seval,pC];exact q);simp only[↓bO,go_sem,seval,pC];refine PCalls4.at (k:=0) (ih f (zw f) s hf hs) ?_ (Ty.dataAgg _) rfl tz2 ?_;(· exact ⟨.ptr rfl,trivial⟩);simp only[zat,Nat.reduceEqDiff,↓reduceIte];apply y;clear y;refine MidAt_lit ei24 tz3 rfl tz3 (by intro p hp;simp at hp;subst hp;exact ⟨rfl,Ty.cells_len _⟩) ?_;simp only[zat,bS,bA,tyX,pC,zi];simp only[↓bO,go_sem,seval,pC];apply u;refine zM fun _ u=>?_;apply zU;refine zad (σ:=PwS) (mB 41 13) (fun w=>w.ok f s) (fun w=>[(3,.osl 2 3 (w.acc.map Ty.cells))]) (fun w=>[(2,.tok 26 3 w.acc.length),(0,.cells 141 (pC w.s w.b))]) (fun w=>w.n) ⟨s.size+1,[(pwF f s).1],(pwF f s).2.1,(pwF f s).2.2⟩ (PwS.start f s) ?_ (fun w hw=>?_)
  ·
   (try simp only[go_sem,seval,bL]);exact za5
  simp only[go_sem,seval];have hwl:=hw.2.2;(have hb1:(w.acc.length+1) * 40<=140737488355328:=by omega);(have hb2:w.acc.length+1<=maxLen:=by (simp only[maxLen];omega));refine zM fun _ z=>?_;refine sqR fun _ x=>?_;(iterate 6 (refine chS 1 ?_ (by intro _ q;simp only[↓bO,go_sem,seval,pC,hb1,hb2,zf,zj];exact q)));refine zX 12 rfl (fun hc12=>?_) (fun hc12=>?_)
  ·
   simp only[go_sem];(have hb0:w.b=false:=by simpa using hc12);simp only[hb0];refine chS 1 ?_ (by intro _ q;simp only[↓bO,go_sem,seval,pC,hb1,hb2,zf,zj];exact q);refine zL 1 fun _ y=>?_;simp only[↓bO,go_sem,seval,pC,hb1,hb2,zf,zj];refine PCalls4.at (k:=0) (zft w.s bSt false) ?_ (.v _) rfl tz2 ?_;(· exact ⟨.ptr rfl,.v _,trivial⟩);simp only[zat,Nat.reduceEqDiff,↓reduceIte];apply y;clear y;simp only[↓bO,go_sem,seval,pC,hb1,hb2,zf,zj];apply x;apply zO rfl <;> intro hb15
   ·
    have hS:zch w.s bSt=true:=hb15;simp only[hS,if_true];apply zS;apply z;apply zU;apply zN;(iterate 2 (refine chS 1 ?_ (by intro _ q;simp only[↓bO,go_sem,seval,pC,hb1,hb2,zf,zj];exact q)));refine zL 1 fun _ y=>?_;simp only[↓bO,go_sem,seval,pC,hb1,hb2,zf,zj];have hcs:=za8 hS;rw[ze1] at hcs;refine PCalls4.at (k:=0) (ih f (zw f) (zdk w.s bSt) (by have:=hw.2.2;omega) (by have:=hw.2.2;omega)) ?_ (Ty.dataAgg _) rfl tz2 ?_;(· exact ⟨.ptr rfl,trivial⟩);simp only[zat,Nat.reduceEqDiff,↓reduceIte];apply y;clear y;refine chS 1 ?_ (by intro _ q;simp only[↓bO,go_sem,seval,↓zbu,↓zbw,↓zbA,↓zbC,↓zbt,↓zbE,↓zbB,↓zbG,↓zbv,↓zaP,↓zaQ,↓zaR,pC,hb1,hb2,zf,zj];exact q);refine chS 1 ?_ (by intro _ q;simp only[↓bO,go_sem,seval,pC,hb1,hb2,zf,zj];exact q);simp only[↓bO,go_sem,seval,pC,hb1,hb2,zf,zj];refine ⟨⟨w.n-1,w.acc++[(pwF f (zdk w.s bSt)).1],(pwF f (zdk w.s bSt)).2.1,(pwF f (zdk w.s bSt)).2.2⟩,hw.next hb0 hS,(by have:=hw.2.1;simp only;omega),?_⟩;(try simp only[go_sem,seval,hb1,hb2,zf,bL,zj]);exact za5
   have hst:=hw.stop (.inr (show zch w.s bSt=false from hb15));have hS:zch w.s bSt=false:=hb15;simp only[hS,zr,if_false];apply zae;simp only[zaf,z8,zY,bA,Nat.reduceEqDiff,↓reduceIte];apply u;refine sqR fun _ u=>?_;(iterate 6 (refine chS 1 ?_ (by intro _ q;simp only[↓bO,go_sem,seval,pC];exact q)));refine zX 26 rfl (fun hc26=>?_) (fun hc26=>?_)
   ·
    simp only[go_sem];(have hB:w.b=true:=by (first | exact hb0 | simpa using hc26));(iterate 6 (refine chS 1 ?_ (by intro _ q;simp only[↓bO,go_sem,seval,pC];exact q)));simp only[↓bO,go_sem,seval,pC];apply u;refine zM fun _ u=>?_;refine sqR fun _ z=>?_;(iterate 2 (refine chS 1 ?_ (by intro _ q;simp only[↓bO,go_sem,seval,pC];exact q)));simp only[↓bO,go_sem,seval,pC];apply z;apply zO rfl <;> intro hb35
    ·
     obtain ⟨t1,hone⟩:=zkh (l:=w.acc) (by have h9:=hb35;simp at h9;omega);simp only[hone,zo,zE];refine sqR fun _ z=>?_;(iterate 3 (refine chS 1 ?_ (by intro _ q;simp only[↓bO,go_sem,seval,pC];exact q)));simp only[↓bO,go_sem,seval,pC];apply z;apply zP;(try simp only[zaf,z8,zY,zbH,zbc,zau,bS,bA,zav,zaa,za4,bL,Nat.reduceAdd,Nat.reduceLeDiff,Nat.reduceEqDiff,↓reduceIte,zcI,tyX,pC,zi]);exact absurd (hb0.symm.trans hB) tz4
    (have hln:¬w.acc.length=1:=by (have h9:=hb35;simp at h9;omega));apply zS;apply u;refine sqR fun _ u=>?_;(iterate 2 (refine chS 1 ?_ (by intro _ q;simp only[↓bO,go_sem,seval,pC];exact q)));simp only[↓bO,go_sem,seval,pC];apply u;apply zP;(try simp only[zaf,z8,zY,zbH,zbc,zau,bS,bA,zav,zaa,za4,bL,Nat.reduceAdd,Nat.reduceLeDiff,Nat.reduceEqDiff,↓reduceIte,zcI,tyX,pC,zi]);exact absurd (hb0.symm.trans hB) tz4
   simp only[go_sem];(have hB:w.b=false:=by (first | exact hb0 | simpa using hc26));(try simp only[hB]);refine chS 1 ?_ (by intro _ q;simp only[↓bO,go_sem,seval,pC];exact q);refine zL 1 fun _ y=>?_;simp only[↓bO,go_sem,seval,pC];refine PCalls4.at (k:=0) (zft w.s bRp false) ?_ (.v _) rfl tz2 ?_;(· exact ⟨.ptr rfl,.v _,trivial⟩);simp only[zat,Nat.reduceEqDiff,↓reduceIte];(iterate 4 (apply y;clear y;refine zL 1 fun _ y=>?_;simp only[↓bO,go_sem,seval,pC]));apply y;clear y;simp only[↓bO,go_sem,seval,pC];apply u;refine zM fun _ u=>?_;refine sqR fun _ z=>?_;(iterate 2 (refine chS 1 ?_ (by intro _ q;simp only[↓bO,go_sem,seval,pC];exact q)));simp only[↓bO,go_sem,seval,pC];apply z;apply zO rfl <;> intro hb35
   ·
    obtain ⟨t1,hone⟩:=zkh (l:=w.acc) (by have h9:=hb35;simp at h9;omega);simp only[hone,zo,zE];refine sqR fun _ z=>?_;(iterate 3 (refine chS 1 ?_ (by intro _ q;simp only[↓bO,go_sem,seval,pC];exact q)));simp only[↓bO,go_sem,seval,pC];apply z;apply zP;(try simp only[zaf,z8,zY,zbH,zbc,zau,bS,bA,zav,zaa,za4,bL,Nat.reduceAdd,Nat.reduceLeDiff,Nat.reduceEqDiff,↓reduceIte,zcI,tyX,pC,zi]);rw[hst,hB,zkE];refine ⟨_,_,⟨rfl,rfl⟩,.data (Ty.dataAgg _),pUnd tz1 _ _,?_,?_,by omega⟩;(· simp only[hone,ziK];exact Le.refl _);first | exact ⟨2,rfl,rfl⟩ | (simp only[hB];exact ⟨2,rfl,rfl⟩)
   (have hln:¬w.acc.length=1:=by (have h9:=hb35;simp at h9;omega));apply zS;apply u;refine sqR fun _ u=>?_;(iterate 2 (refine chS 1 ?_ (by intro _ q;simp only[↓bO,go_sem,seval,pC];exact q)));simp only[↓bO,go_sem,seval,pC];apply u;apply zP;(try simp only[zaf,z8,zY,zbH,zbc,zau,bS,bA,zav,zaa,za4,bL,Nat.reduceAdd,Nat.reduceLeDiff,Nat.reduceEqDiff,↓reduceIte,zcI,tyX,pC,zi]);rw[hst,hB,zkE];refine ⟨_,_,⟨rfl,rfl⟩,.data (Ty.dataAgg _),pUnd tz1 _ _,?_,?_,by omega⟩;(· simp only[zgj hln];rw[Ty.cells_eq];exact Le.agg ⟨.refl _,.refl _,Le.osl _ _ _,trivial⟩);first | exact ⟨2,rfl,rfl⟩ | (simp only[hB];exact ⟨2,rfl,rfl⟩)
  simp only[go_sem];(have hb0:w.b=true:=by simpa using hc12);have hst:=hw.stop (.inl hb0);(iterate 2 (refine chS 1 ?_ (by intro _ q;simp only[↓bO,go_sem,seval,pC];exact q)));simp only[↓bO,go_sem,seval,pC];apply x;refine zO (b:=false) (by first | exact rfl | exact congrArg (fun b=>AV.v (.bool b)) hb15) (fun h=>(by cases h)) (fun _=>?_);apply zae;simp only[zaf,z8,zY,bA,Nat.reduceEqDiff,↓reduceIte];apply u;refine sqR fun _ u=>?_;(iterate 6 (refine chS 1 ?_ (by intro _ q;simp only[↓bO,go_sem,seval,pC];exact q)));refine zX 26 rfl (fun hc26=>?_) (fun hc26=>?_)
  ·
   simp only[go_sem];(have hB:w.b=true:=by (first | exact hb0 | simpa using hc26));(iterate 6 (refine chS 1 ?_ (by intro _ q;simp only[↓bO,go_sem,seval,pC];exact q)));simp only[↓bO,go_sem,seval,pC];apply u;refine zM fun _ u=>?_;refine sqR fun _ z=>?_;(iterate 2 (refine chS 1 ?_ (by intro _ q;simp only[↓bO,go_sem,seval,pC];exact q)));simp only[↓bO,go_sem,seval,pC];apply z;apply zO rfl <;> intro hb35
   ·
    obtain ⟨t1,hone⟩:=zkh (l:=w.acc) (by have h9:=hb35;simp at h9;omega);simp only[hone,zo,zE];refine sqR fun _ z=>?_;(iterate 3 (refine chS 1 ?_ (by intro _ q;simp only[↓bO,go_sem,seval,pC];exact q)));simp only[↓bO,go_sem,seval,pC];apply z;apply zP;(try simp only[zaf,z8,zY,zbH,zbc,zau,bS,bA,zav,zaa,za4,bL,Nat.reduceAdd,Nat.reduceLeDiff,Nat.reduceEqDiff,↓reduceIte,zcI,tyX,pC,zi]);rw[hst,hB,ziq];refine ⟨_,_,⟨rfl,rfl⟩,.data (Ty.dataAgg _),pUnd tz1 _ _,?_,?_,by omega⟩;(· simp only[hone,ziK];exact Le.refl _);first | exact ⟨2,rfl,rfl⟩ | (simp only[hB];exact ⟨2,rfl,rfl⟩)
   (have hln:¬w.acc.length=1:=by (have h9:=hb35;simp at h9;omega));apply zS;apply u;refine sqR fun _ u=>?_;(iterate 2 (refine chS 1 ?_ (by intro _ q;simp only[↓bO,go_sem,seval,pC];exact q)));simp only[↓bO,go_sem,seval,pC];apply u;apply zP;(try simp only[zaf,z8,zY,zbH,zbc,zau,bS,bA,zav,zaa,za4,bL,Nat.reduceAdd,Nat.reduceLeDiff,Nat.reduceEqDiff,↓reduceIte,zcI,tyX,pC,zi]);rw[hst,hB,ziq];refine ⟨_,_,⟨rfl,rfl⟩,.data (Ty.dataAgg _),pUnd tz1 _ _,?_,?_,by omega⟩;(· simp only[zgj hln];rw[Ty.cells_eq];exact Le.agg ⟨.refl _,.refl _,Le.osl _ _ _,trivial⟩);first | exact ⟨2,rfl,rfl⟩ | (simp only[hB];exact ⟨2,rfl,rfl⟩)
  simp only[go_sem];(have hB:w.b=false:=by (first | exact hb0 | simpa using hc26));(try simp only[hB]);refine chS 1 ?_ (by intro _ q;simp only[↓bO,go_sem,seval,pC];exact q);refine zL 1 fun _ y=>?_;simp only[↓bO,go_sem,seval,pC];refine PCalls4.at (k:=0) (zft w.s bRp false) ?_ (.v _) rfl tz2 ?_;(· exact ⟨.ptr rfl,.v _,trivial⟩);simp only[zat,Nat.reduceEqDiff,↓reduceIte];(iterate 4 (apply y;clear y;refine zL 1 fun _ y=>?_;simp only[↓bO,go_sem,seval,pC]));apply y;clear y;simp only[↓bO,go_sem,seval,pC];apply u;refine zM fun _ u=>?_;refine sqR fun _ z=>?_;(iterate 2 (refine chS 1 ?_ (by intro _ q;simp only[↓bO,go_sem,seval,pC];exact q)));simp only[↓bO,go_sem,seval,pC];apply z;apply zO rfl <;> intro hb35
  ·
   obtain ⟨t1,hone⟩:=zkh (l:=w.acc) (by have h9:=hb35;simp at h9;omega);simp only[hone,zo,zE];refine sqR fun _ z=>?_;(iterate 3 (refine chS 1 ?_ (by intro _ q;simp only[↓bO,go_sem,seval,pC];exact q)));simp only[↓bO,go_sem,seval,pC];apply z;apply zP;(try simp only[zaf,z8,zY,zbH,zbc,zau,bS,bA,zav,zaa,za4,bL,Nat.reduceAdd,Nat.reduceLeDiff,Nat.reduceEqDiff,↓reduceIte,zcI,tyX,pC,zi]);exact absurd (hb0.symm.trans hB) tz4
  (have hln:¬w.acc.length=1:=by (have h9:=hb35;simp at h9;omega));apply zS;apply u;refine sqR fun _ u=>?_;(iterate 2 (refine chS 1 ?_ (by intro _ q;simp only[↓bO,go_sem,seval,pC];exact q)));simp only[↓bO,go_sem,seval,pC];apply u;apply zP;(try simp only[zaf,z8,zY,zbH,zbc,zau,bS,bA,zav,zaa,za4,bL,Nat.reduceAdd,Nat.reduceLeDiff,Nat.reduceEqDiff,↓reduceIte,zcI,tyX,pC,zi]);exact absurd (hb0.symm.trans hB) tz4
theorem pwhole_s (f:Nat) (ih:∀g,g<=f->PwOk g) (s:ByteArray) (hf:s.size<f+1) (hs:s.size<=1048576):PCalls4 94 [.ptr 0 0] s false (.agg (pwF (f+1) s).1.cells) (pwF (f+1) s).2.1 (pwF (f+1) s).2.2:=by
  refine ACalls.clean (C:=fun r os'=>r=_/\os'=_) ?_;refine aIn Tryz.func94 fun hm=>?_;simp only[Tryz.ntmps94,Tryz.results94,go_sem,seval];refine sqR fun _ u=>?_;simp only[↓bO,go_sem,seval,pC];apply u;refine sqR fun _ u=>?_;(iterate 2 (refine chS 1 ?_ (by intro _ q;simp only[↓bO,go_sem,seval,pC];exact q)));simp only[↓bO,go_sem,seval,pC];apply u;refine AWp_joinE (σ:=PwR) (mB 41 13) (fun j=>[]) (fun j=>[(2,.cells 26 j.1.cells),(0,.cells 141 (pC j.2.1 j.2.2))]) (fun j=>s.size<=1048576/\zaZ (pwF f) s=j) ?_ (fun j hj=>?_)
  ·
   apply zU;refine zap (Weak.recell (id:=2) (t:=26) [.v (.int .i64 0),.v (.int .i64 0),.sl 3 []] rfl ⟨.refl _,.refl _,Le.slNil 3,trivial⟩) ?_;simp only[zat,Nat.reduceEqDiff,↓reduceIte];refine sqR fun _ u=>?_;(iterate 4 (refine chS 1 ?_ (by intro _ q;simp only[↓bO,go_sem,seval,pC];exact q)));simp only[↓bO,go_sem,seval,pC];apply u;apply zO rfl <;> intro hb7
   ·
    exact absurd hb7 tz4
   refine sqR fun _ u=>?_;refine chS 1 ?_ (by intro _ q;simp only[↓bO,go_sem,seval,pC];exact q);refine zL 1 fun _ y=>?_;simp only[↓bO,go_sem,seval,pC];refine PCalls4.at (k:=0) (zft s zkw false) ?_ (.v _) rfl tz2 ?_;(· exact ⟨.ptr rfl,.v _,trivial⟩);simp only[zat,Nat.reduceEqDiff,↓reduceIte];apply y;clear y;simp only[↓bO,go_sem,seval,pC];apply u;apply zO rfl <;> intro hb13
   ·
    have hA:zch s zkw=true:=hb13;simp only[hA,if_true];(have hbs:zaZ (pwF f) s=(.mk 2 0 [],zdk s zkw,false):=by (unfold zaZ;rw[if_pos hA]));apply zN;refine chS 1 ?_ (by intro _ q;simp only[↓bO,go_sem,seval,pC];exact q);simp only[↓bO,go_sem,seval,pC];(try simp only[go_sem,seval]);refine ⟨(zaZ (pwF f) s),⟨hs,rfl⟩,?_⟩;rw[hbs];(try simp only[Ty.pcells,zE]);exact clz2
   have hA:zch s zkw=false:=hb13;simp only[hA,zr,if_false];refine sqR fun _ u=>?_;refine chS 1 ?_ (by intro _ q;simp only[↓bO,go_sem,seval,pC];exact q);refine zL 1 fun _ y=>?_;simp only[↓bO,go_sem,seval,pC];refine PCalls4.at (k:=0) (zft s zdy false) ?_ (.v _) rfl tz2 ?_;(· exact ⟨.ptr rfl,.v _,trivial⟩);simp only[zat,Nat.reduceEqDiff,↓reduceIte];apply y;clear y;simp only[↓bO,go_sem,seval,pC];apply u;apply zO rfl <;> intro hb17
   ·
    have hB:zch s zdy=true:=hb17;simp only[hB,if_true];(have hbs:zaZ (pwF f) s=(.mk 3 0 [],zdk s zdy,false):=by (unfold zaZ;rw[if_neg (by simp[hA]),if_pos hB]));apply zN;refine chS 1 ?_ (by intro _ q;simp only[↓bO,go_sem,seval,pC];exact q);simp only[↓bO,go_sem,seval,pC];(try simp only[go_sem,seval]);refine ⟨(zaZ (pwF f) s),⟨hs,rfl⟩,?_⟩;rw[hbs];(try simp only[Ty.pcells,zE]);exact clz2
   have hB:zch s zdy=false:=hb17;simp only[hB,zr,if_false];refine sqR fun _ u=>?_;refine chS 1 ?_ (by intro _ q;simp only[↓bO,go_sem,seval,pC];exact q);refine zL 1 fun _ y=>?_;simp only[↓bO,go_sem,seval,pC];refine PCalls4.at (k:=0) (zft s bLp false) ?_ (.v _) rfl tz2 ?_;(· exact ⟨.ptr rfl,.v _,trivial⟩);simp only[zat,Nat.reduceEqDiff,↓reduceIte];apply y;clear y;simp only[↓bO,go_sem,seval,pC];apply u;apply zO rfl <;> intro hb21
   ·
    have hC:zch s bLp=true:=hb21;simp only[hC,if_true];(have hbs:zaZ (pwF f) s=zbI (pwF f) (zdk s bLp):=by (unfold zaZ;rw[if_neg (by simp[hA]),if_neg (by simp[hB]),if_pos hC]));have hcs:=za8 hC;rw[zeZ] at hcs;apply zN;refine chS 1 ?_ (by intro _ q;simp only[↓bO,go_sem,seval,pC];exact q);refine zL 1 fun _ y=>?_;simp only[↓bO,go_sem,seval,pC];refine PCalls4.at (k:=0) (inner_c f ih (zdk s bLp) tz1 tz1) ?_ (Ty.dataAgg _) rfl tz2 ?_;(· exact ⟨.ptr rfl,trivial⟩);simp only[zat,Nat.reduceEqDiff,↓reduceIte];apply y;clear y;simp only[↓bO,go_sem,seval,pC];(try simp only[go_sem,seval]);refine ⟨(zaZ (pwF f) s),⟨hs,rfl⟩,?_⟩;rw[hbs];(try simp only[Ty.pcells,zE]);exact clz2
   have hC:zch s bLp=false:=hb21;simp only[hC,zr,if_false];(have hbs:zaZ (pwF f) s=zci s:=by (unfold zaZ;rw[if_neg (by simp[hA]),if_neg (by simp[hB]),if_neg (by simp[hC])]));apply zN;refine chS 1 ?_ (by intro _ q;simp only[↓bO,go_sem,seval,pC];exact q);refine zL 1 fun _ y=>?_;simp only[↓bO,go_sem,seval,pC];refine PCalls4.at (k:=0) (name_c s hs) ?_ (Ty.dataAgg _) rfl tz2 ?_;(· exact ⟨.ptr rfl,trivial⟩);simp only[zat,Nat.reduceEqDiff,↓reduceIte];apply y;clear y;simp only[↓bO,go_sem,seval,pC];(try simp only[go_sem,seval]);refine ⟨(zaZ (pwF f) s),⟨hs,rfl⟩,?_⟩;rw[hbs];(try simp only[Ty.pcells,zE]);exact clz2
  simp only[go_sem,seval];have hj:=hj.2;(have hjm:j.2.1.size<=s.size:=by (rw[<- hj];exact (zgA (zdF f) s).le));refine zM fun _ u=>?_;refine sqR fun _ w=>?_;(iterate 6 (refine chS 1 ?_ (by intro _ q;simp only[↓bO,go_sem,seval,pC];exact q)));refine zX 31 rfl (fun hc31=>?_) (fun hc31=>?_)
  ·
   simp only[go_sem];(have hj0:j.2.2=false:=by simpa using hc31);simp only[hj0];refine chS 1 ?_ (by intro _ q;simp only[↓bO,go_sem,seval,pC];exact q);refine zL 1 fun _ y=>?_;simp only[↓bO,go_sem,seval,pC];refine PCalls4.at (k:=0) (zft j.2.1 bAr false) ?_ (.v _) rfl tz2 ?_;(· exact ⟨.ptr rfl,.v _,trivial⟩);simp only[zat,Nat.reduceEqDiff,↓reduceIte];apply y;clear y;simp only[↓bO,go_sem,seval,pC];apply w;apply zO rfl <;> intro hb34
   ·
    have hD:zch j.2.1 bAr=true:=hb34;simp only[hD,if_true];have hcd:=za8 hD;rw[zgW] at hcd;refine zdc [] 6 rfl mixed (trivial) rfl ?_;dsimp only;refine tkK 1 rfl fun _ y=>?_;simp only[↓bO,go_sem,seval,pC];apply y;clear y;refine al2 (i:=0) (j:=2) ?_ ?_
    ·
     refine opT fun _ y=>?_;simp only[↓bO,go_sem,seval,pC];refine y _ ⟨trivial,?_⟩;clear y;refine al1 (i:=2) ?_;refine opT fun _ y=>?_;simp only[↓bO,go_sem,seval,pC];refine PCalls4.at (k:=0) (ih f (zw f) (zdk j.2.1 bAr) tz1 tz1) ?_ (Ty.dataAgg _) rfl tz2 ?_;(· exact ⟨.ptr rfl,trivial⟩);simp only[zat,Nat.reduceEqDiff,↓reduceIte];(try simp only[go_sem]);refine y _ ⟨trivial,?_⟩;clear y;refine al1 (i:=3) ?_;refine opT fun _ y=>?_;simp only[↓bO,go_sem,seval,↓zjW,↓ziR,↓ziQ,↓zjN,↓zjS,↓ziX,↓zjR,↓zjr,↓zi3,↓zfi,↓zfj,↓zfr,pC];refine y _ ⟨trivial,?_⟩;clear y;refine al1 (i:=4) ?_;refine opT fun _ y=>?_;simp only[↓bO,go_sem,seval,pC];refine y _ ⟨trivial,?_⟩;clear y;refine al1 (i:=5) ?_;refine opT fun _ y=>?_;simp only[↓bO,go_sem,seval,pC];refine y _ ⟨trivial,?_⟩;clear y;refine dnA ?_;apply u;refine sqR fun _ u=>?_;refine chS 1 ?_ (by intro _ q;simp only[↓bO,go_sem,seval,pC];exact q);simp only[↓bO,go_sem,seval,pC];apply u;apply zP;(try simp only[zaf,z8,zY,zbH,zbc,zau,bS,bA,zav,zaa,za4,bL,Nat.reduceAdd,Nat.reduceLeDiff,Nat.reduceEqDiff,↓reduceIte,zcI,tyX,pC,zi]);(have hF:pwF (f+1) s=zb9 (pwF f) j:=by rw[pwF,hj]);rw[hF];rw[zb9,if_pos ⟨hj0,hD⟩];refine ⟨_,_,⟨rfl,rfl⟩,.data (Ty.dataAgg _),pUnd tz1 _ _,?_,?_,by omega⟩;(· first | exact Le.refl _ | (simp only[Ty.pcells,zo,zE];exact Le.refl _));first | exact ⟨2,rfl,rfl⟩ | (simp only[hj0];exact ⟨2,rfl,rfl⟩)
    refine opT fun _ y=>?_;simp only[↓bO,go_sem,seval,pC];refine PCalls4.at (k:=0) (ih f (zw f) (zdk j.2.1 bAr) tz1 tz1) ?_ (Ty.dataAgg _) rfl tz2 ?_;(· exact ⟨.ptr rfl,trivial⟩);simp only[zat,Nat.reduceEqDiff,↓reduceIte];(try simp only[go_sem]);refine y _ ⟨trivial,?_⟩;clear y;refine al1 (i:=0) ?_;refine opT fun _ y=>?_;simp only[↓bO,go_sem,seval,pC];refine y _ ⟨trivial,?_⟩;clear y;refine al1 (i:=3) ?_;refine opT fun _ y=>?_;simp only[↓bO,go_sem,seval,↓zjW,↓ziR,↓ziQ,↓zjN,↓zjS,↓ziX,↓zjR,↓zjr,↓zi3,↓zfi,↓zfj,↓zfr,pC];refine y _ ⟨trivial,?_⟩;clear y;refine al1 (i:=4) ?_;refine opT fun _ y=>?_;simp only[↓bO,go_sem,seval,pC];refine y _ ⟨trivial,?_⟩;clear y;refine al1 (i:=5) ?_;refine opT fun _ y=>?_;simp only[↓bO,go_sem,seval,pC];refine y _ ⟨trivial,?_⟩;clear y;refine dnA ?_;apply u;refine sqR fun _ u=>?_;refine chS 1 ?_ (by intro _ q;simp only[↓bO,go_sem,seval,pC];exact q);simp only[↓bO,go_sem,seval,pC];apply u;apply zP;(try simp only[zaf,z8,zY,zbH,zbc,zau,bS,bA,zav,zaa,za4,bL,Nat.reduceAdd,Nat.reduceLeDiff,Nat.reduceEqDiff,↓reduceIte,zcI,tyX,pC,zi]);(have hF:pwF (f+1) s=zb9 (pwF f) j:=by rw[pwF,hj]);rw[hF];rw[zb9,if_pos ⟨hj0,hD⟩];refine ⟨_,_,⟨rfl,rfl⟩,.data (Ty.dataAgg _),pUnd tz1 _ _,?_,?_,by omega⟩;(· first | exact Le.refl _ | (simp only[Ty.pcells,zo,zE];exact Le.refl _));first | exact ⟨2,rfl,rfl⟩ | (simp only[hj0];exact ⟨2,rfl,rfl⟩)
   have hD:zch j.2.1 bAr=false:=hb34;simp only[hD,zr,if_false];apply zS;apply u;refine sqR fun _ u=>?_;refine chS 1 ?_ (by intro _ q;simp only[↓bO,go_sem,seval,pC];exact q);simp only[↓bO,go_sem,seval,pC];apply u;apply zP;(try simp only[zaf,z8,zY,zbH,zbc,zau,bS,bA,zav,zaa,za4,bL,Nat.reduceAdd,Nat.reduceLeDiff,Nat.reduceEqDiff,↓reduceIte,zcI,tyX,pC,zi]);(have hF:pwF (f+1) s=zb9 (pwF f) j:=by rw[pwF,hj]);rw[hF];rw[zb9,if_neg fun h=>by rw[hD] at h;cases h.2];(try simp only[hj0]);refine ⟨_,_,⟨rfl,rfl⟩,.data (Ty.dataAgg _),pUnd tz1 _ _,?_,?_,by omega⟩;(· first | exact Le.refl _ | (simp only[Ty.pcells,zo,zE];exact Le.refl _));first | exact ⟨2,rfl,rfl⟩ | (simp only[hj0];exact ⟨2,rfl,rfl⟩)
  simp only[go_sem];(have hj0:j.2.2=true:=by simpa using hc31);(iterate 2 (refine chS 1 ?_ (by intro _ q;simp only[↓bO,go_sem,seval,pC];exact q)));simp only[↓bO,go_sem,seval,pC];apply w;refine zO (b:=false) (by first | exact rfl | exact congrArg (fun b=>AV.v (.bool b)) hb34) (fun h=>(by cases h)) (fun _=>?_);apply zS;apply u;refine sqR fun _ u=>?_;refine chS 1 ?_ (by intro _ q;simp only[↓bO,go_sem,seval,pC];exact q);simp only[↓bO,go_sem,seval,pC];apply u;apply zP;(try simp only[zaf,z8,zY,zbH,zbc,zau,bS,bA,zav,zaa,za4,bL,Nat.reduceAdd,Nat.reduceLeDiff,Nat.reduceEqDiff,↓reduceIte,zcI,tyX,pC,zi]);(have hF:pwF (f+1) s=zb9 (pwF f) j:=by rw[pwF,hj]);rw[hF];rw[zb9,if_neg fun h=>by rw[hj0] at h;cases h.1];refine ⟨_,_,⟨rfl,rfl⟩,.data (Ty.dataAgg _),pUnd tz1 _ _,?_,?_,by omega⟩;(· first | exact Le.refl _ | (simp only[Ty.pcells,zo,zE];exact Le.refl _));first | exact ⟨2,rfl,rfl⟩ | (simp only[hj0];exact ⟨2,rfl,rfl⟩)
theorem pwhole_c:∀f,PwOk f:=by
 intro f
 induction f using Nat.strongRecOn with
 | _ f ih =>
  intro s hf hs
  match f,ih,hf with
  | 0,_,hf=>omega
  | f+1,ih,hf=>exact pwhole_s f (fun g hg=>ih g tz1) s hf hs
def zbJ (s:ByteArray):Ty×Int:=if (pwF (s.size+1) s).2.2=false/\(pwF (s.size+1) s).2.1=ByteArray.empty/\(pwF (s.size+1) s).1.ptx=s then ((pwF (s.size+1) s).1,0) else (.mk 0 0 [],3)
theorem eqS_no {a b:ByteArray} (h:eqS a b=false):a≠b:=fun e=>by rw[zcJ.2 e] at h;cases h
theorem zc2 {s:ByteArray} (h:¬((pwF (s.size+1) s).2.2=false/\(pwF (s.size+1) s).2.1=ByteArray.empty/\(pwF (s.size+1) s).1.ptx=s)):zbJ s=(.mk 0 0 [],3):=if_neg h
theorem zdz {s:ByteArray} (h:(pwF (s.size+1) s).2.2=false/\(pwF (s.size+1) s).2.1=ByteArray.empty/\(pwF (s.size+1) s).1.ptx=s):zbJ s=((pwF (s.size+1) s).1,0):=if_pos h
theorem zkm {e:Int}:Le (.tup [.agg [.v (.int .i64 0),.v (.int .i64 0),.v (.slice none 0 0)],.v (.int .i64 e)]) (.tup [.agg (Ty.mk 0 0 []).cells,.v (.int .i64 e)]):=Le.tup ⟨zT_le,.refl _,trivial⟩
theorem zjH (s:ByteArray) (hs:s.size<=524287):APure Tryz.prog 43 [.v (.string s)] (.tup [.agg (zbJ s).1.cells,.v (.int .i64 (zbJ s).2)]):=by
  refine APure.mkL (.cons (.v _) .nil) (.tup (.cons (Ty.dataAgg _) (.cons (.v _) .nil))) ?_;refine aIn Tryz.func43 fun hm=>?_;simp only[Tryz.ntmps43,Tryz.results43,go_sem,seval];have hcb:(pwF (s.size+1) s).1.cnt+2 * (pwF (s.size+1) s).2.1.size<=2 * s.size+1:=zdF (s.size+1) s;refine sqR fun _ u=>?_;refine chS 1 ?_ (by intro _ q;simp only[↓bO,go_sem,seval,pC];exact q);simp only[↓bO,go_sem,seval,pC];apply u;refine sqR fun _ u=>?_;(iterate 3 (refine chS 1 ?_ (by intro _ q;simp only[↓bO,go_sem,seval,pC];exact q)));simp only[↓bO,go_sem,seval,pC];apply u;refine sqR fun _ u=>?_;refine chS 1 ?_ (by intro _ q;simp only[↓bO,go_sem,seval,pC];exact q);refine zL 1 fun _ y=>?_;simp only[↓bO,go_sem,seval,pC];refine PCalls4.at (k:=1) (pwhole_c (s.size+1) s tz1 tz1) ?_ (Ty.dataAgg _) rfl tz2 ?_;(· exact ⟨.ptr rfl,trivial⟩);simp only[zat,Nat.reduceEqDiff,↓reduceIte];apply y;clear y;refine chS 1 ?_ (by intro _ q;simp only[↓bO,go_sem,seval,pC];exact q);simp only[↓bO,go_sem,seval,pC];apply u;refine zM fun _ u=>?_;refine sqR fun _ w=>?_;(iterate 5 (refine chS 1 ?_ (by intro _ q;simp only[↓bO,go_sem,seval,pC];exact q)));refine zX 15 rfl (fun hc15=>?_) (fun hc15=>?_)
  ·
   simp only[go_sem];(have hno:(pwF (s.size+1) s).2.2=true:=by simpa using hc15);have hP:=zc2 (s:=s) (fun h=>by rw[hno] at h;cases h.1);(iterate 11 (refine chS 1 ?_ (by intro _ q;simp only[↓bO,go_sem,seval,pC];exact q)));simp only[↓bO,go_sem,seval,pC];apply w;refine zO (b:=true) (by first | exact rfl | exact congrArg (fun b=>AV.v (.bool b)) hb27) (fun _=>?_) (fun h=>(by cases h));refine sqR fun _ w=>?_;(iterate 2 (refine chS 1 ?_ (by intro _ q;simp only[↓bO,go_sem,seval,pC];exact q)));simp only[↓bO,go_sem,seval,pC];apply w;apply zP;(try simp only[zaf,z8,zY,zbH,zbc,zau,bS,bA,zav,zaa,za4,bL,Nat.reduceAdd,Nat.reduceLeDiff,Nat.reduceEqDiff,↓reduceIte,zcI,tyX,pC,zi]);rw[hP];first | exact zkm | exact Le.refl _
  simp only[go_sem];(have hg:(pwF (s.size+1) s).2.2=false:=by simpa using hc15);(iterate 7 (refine chS 1 ?_ (by intro _ q;simp only[↓bO,go_sem,seval,pC];exact q)));refine zX 22 rfl (fun hc22=>?_) (fun hc22=>?_)
  ·
   simp only[go_sem];(have hP:zbJ s=(.mk 0 0 [],3):=by (first | exact hP | exact zc2 (s:=s) (fun h=>eqS_no (a:=(pwF (s.size+1) s).2.1) (b:=ByteArray.empty) (zfe hc22) h.2.1)));(iterate 4 (refine chS 1 ?_ (by intro _ q;simp only[↓bO,go_sem,seval,pC];exact q)));simp only[↓bO,go_sem,seval,pC];apply w;refine zO (b:=true) (by first | exact rfl | exact congrArg (fun b=>AV.v (.bool b)) hb27) (fun _=>?_) (fun h=>(by cases h));refine sqR fun _ w=>?_;(iterate 2 (refine chS 1 ?_ (by intro _ q;simp only[↓bO,go_sem,seval,pC];exact q)));simp only[↓bO,go_sem,seval,pC];apply w;apply zP;(try simp only[zaf,z8,zY,zbH,zbc,zau,bS,bA,zav,zaa,za4,bL,Nat.reduceAdd,Nat.reduceLeDiff,Nat.reduceEqDiff,↓reduceIte,zcI,tyX,pC,zi]);rw[hP];first | exact zkm | exact Le.refl _
  simp only[go_sem];have he:(pwF (s.size+1) s).2.1=ByteArray.empty:=zcJ.1 (zfq hc22);refine chS 1 ?_ (by intro _ q;simp only[↓bO,go_sem,seval,pC];exact q);refine zL 1 fun _ y=>?_;simp only[↓bO,go_sem,seval,pC];refine APure.call (zfu (pwF (s.size+1) s).1 tz1) ?_;(iterate 2 (apply y;clear y;refine zL 1 fun _ y=>?_;simp only[↓bO,go_sem,seval,pC]));apply y;clear y;simp only[↓bO,go_sem,seval,pC];apply w;apply zO rfl <;> intro hb27
  ·
   (have hP:zbJ s=(.mk 0 0 [],3):=by (first | exact hP | exact zc2 (s:=s) (fun h=>eqS_no (a:=(pwF (s.size+1) s).1.ptx) (b:=s) (zfe hb27) h.2.2)));refine sqR fun _ w=>?_;(iterate 2 (refine chS 1 ?_ (by intro _ q;simp only[↓bO,go_sem,seval,pC];exact q)));simp only[↓bO,go_sem,seval,pC];apply w;apply zP;(try simp only[zaf,z8,zY,zbH,zbc,zau,bS,bA,zav,zaa,za4,bL,Nat.reduceAdd,Nat.reduceLeDiff,Nat.reduceEqDiff,↓reduceIte,zcI,tyX,pC,zi]);rw[hP];first | exact zkm | exact Le.refl _
  have hp:(pwF (s.size+1) s).1.ptx=s:=zcJ.1 (zfq hb27);have hP:=zdz ⟨hg,he,hp⟩;apply zS;apply u;refine sqR fun _ u=>?_;(iterate 2 (refine chS 1 ?_ (by intro _ q;simp only[↓bO,go_sem,seval,pC];exact q)));simp only[↓bO,go_sem,seval,pC];apply u;apply zP;(try simp only[zaf,z8,zY,zbH,zbc,zau,bS,bA,zav,zaa,za4,bL,Nat.reduceAdd,Nat.reduceLeDiff,Nat.reduceEqDiff,↓reduceIte,zcI,tyX,pC,zi]);rw[hP];first | exact zkm | exact Le.refl _
def opI (c op:Int):Int:=if c=40 then op+1 else if c=41 then op-1 else op
def cutB (s g:ByteArray) (all:Bool) (i:Nat) (op:Int) (out:List ByteArray):Bool:=decide (op=0/\i+g.size<=s.size)&&(eqS (s.extract i (i+g.size)) g&&(all||decide (out.length=0)))
def spF (s g:ByteArray) (all:Bool):Nat->Nat->Int->Nat->List ByteArray->List ByteArray
 | 0,_,_,a,out=>out++[s.extract a s.size]
 | f+1,i,op,a,out =>
  if i<s.size then
   if cutB s g all i (opI (bt s i) op) out then spF s g all f (i+g.size) (opI (bt s i) op) (i+g.size) (out++[s.extract a i])
   else spF s g all f (i+1) (opI (bt s i) op) a out
  else out++[s.extract a s.size]
def spA (s g:ByteArray) (all:Bool):List ByteArray:=spF s g all (s.size+1) 0 0 0 []
structure SpS where
 f:Nat
 i:Nat
 op:Int
 a:Nat
 out:List ByteArray
def SpS.ok (s g:ByteArray) (all:Bool) (w:SpS):Prop:=spF s g all w.f w.i w.op w.a w.out=spA s g all/\s.size-w.i<w.f/\w.i<=s.size/\w.a<=w.i/\w.out.length<=w.i/\-(w.i:Int)<=w.op/\w.op<=w.i
section
variable {s g:ByteArray} {all:Bool} {w:SpS}
end
end Go.Proofs.YtkokfdmggdhfmaaGreatDoor
namespace Go.Proofs.YtkokfdmggdhfmaaGreatDoor
open Go Go.RowKit
def trAll (W:ByteArray->Ty×Bool):List ByteArray->List Ty->Ty×Bool
 | [],acc=>(.mk 5 0 acc,true)
 | x::l,acc=>if (W x).2=true then trAll W l (acc++[(W x).1]) else (.mk 0 0 [],false)
def trBr (W:ByteArray->Ty×Bool) (s:ByteArray):Ty×Bool :=
 if s.size<2\/¬bt s 0=40\/¬bt s (s.size-1)=41 then (.mk 0 0 [],false)
 else match spA (s.extract 1 (s.size-1)) bSt true with
  | [a]=>W a
  | l=>trAll W l []
def trStep (W:ByteArray->Ty×Bool) (s:ByteArray):Ty×Bool :=
 if s=zkw then (.mk 2 0 [],true) else if s=zdy then (.mk 3 0 [],true)
 else if 0<=nuR s then (.mk 1 (nuR s) [],true)
 else match spA s bAr false with
  | [a,b]=>(.mk 4 0 [(W a).1,(W b).1],(W a).2&&(W b).2)
  | _=>trBr W s
def trF:Nat->ByteArray->Ty×Bool
 | 0,_=>(.mk 0 0 [],false)
 | f+1,s=>trStep (trF f) s
def dpL:Int->List UInt8->Int
 | op,[]=>op
 | op,c::l=>dpL (opI c.toNat op) l
def noS:Int->List UInt8->Prop
 | _,[]=>True
 | op,c::l=>¬(opI c.toNat op=0/\c=32)/\noS (opI c.toNat op) l
structure Bal (x:ByteArray):Prop where
 dp:∀op,dpL op (bl x)=op
 up:∀op,1<=op->noS op (bl x)
theorem int_in:∀c∈bl zkw,zeb c.toNat=true:=by decide
theorem bool_in:∀c∈bl zdy,zeb c.toNat=true:=by decide
section
variable {s g:ByteArray} {all:Bool}
def Sst (s g:ByteArray) (all:Bool) (i:Nat) (op:Int) (a:Nat) (out:List ByteArray) (i':Nat) (op':Int) (a':Nat) (out':List ByteArray):Prop :=
 ∀f,s.size-i<f->∃f',s.size-i'<f'/\spF s g all f i op a out=spF s g all f' i' op' a' out'
end
end Go.Proofs.YtkokfdmggdhfmaaGreatDoor
namespace Go.Proofs.YtkokfdmggdhfmaaGreatDoor
open Go Go.RowKit
attribute [local irreducible] aops zaE
structure TrS where
 l:List ByteArray
 acc:List Ty
def TrS.ok (f:Nat) (l:List ByteArray) (k:Nat) (w:TrS):Prop:=w.l=l.drop k/\k<=l.length/\w.acc.length=k/\trAll (trF f) w.l w.acc=trAll (trF f) l []
end Go.Proofs.YtkokfdmggdhfmaaGreatDoor
namespace Go.Proofs.YtkokfdmggdhfmaaGreatDoor
open Go Go.RowKit
theorem addV_mapI {ρ:Int->Int} {l:List Int} {n:Int} (h:∀x∈l,ρ x=ρ n->x=n):zbZ (l.map ρ) (ρ n)=(zbZ l n).map ρ:=by
 unfold zbZ
 by_cases hn:(l.any fun x=>x==n)=true
 ·have h2:((l.map ρ).any fun x=>x==ρ n)=true:=by
   obtain ⟨x,hx,e⟩:=List.any_eq_true.1 hn;exact List.any_eq_true.2 ⟨ρ x,List.mem_map_of_mem hx,by rw[beq_iff_eq] at e ⊢;rw[e]⟩
  rw[if_pos h2,if_pos hn]
 have h2:¬((l.map ρ).any fun x=>x==ρ n)=true:=fun h9=>hn (by
  obtain ⟨y,hy,e⟩:=List.any_eq_true.1 h9;obtain ⟨x,hx,rfl⟩:=zA.1 hy
  exact List.any_eq_true.2 ⟨x,hx,by rw[beq_iff_eq] at e ⊢;exact h x hx e⟩)
 rw[if_neg h2,if_neg hn,zf];rfl
theorem rvarsL_mk (ps:List Ty) (l:List Int):(Ty.mk 0 0 ps).rvars l=Ty.rvarsL ps l:=by rw[Ty.rvars_eq,if_neg (show ¬(Ty.mk 0 0 ps).k=1 from (by decide:¬(0:Int)=1))];rfl
theorem zda {ps:List Ty} {l:List Int} {x:Int} (h:x∈l):x∈Ty.rvarsL ps l:=by rw[<- rvarsL_mk,Ty.mem_rvars];exact .inl h
theorem rv_ren {ρ:Int->Int}:∀(T:Ty),T.right=true->∀l:List Int,(∀x∈T.rvars l,∀y∈T.rvars l,ρ x=ρ y->x=y)->(T.subF fun v=>vTy (ρ v)).rvars (l.map ρ)=(T.rvars l).map ρ:=by
 refine Ty.ind fun T ih=>?_;intro hr l hi;have hok:=zcu hr;have hp:=right_part hr
 by_cases h1:T.k=1
 ·have hps:T.ps=[]:=List.eq_nil_of_length_eq_zero tz1
  rw[Ty.subF_var h1];rw[Ty.rvars_eq T l,if_pos h1,hps] at hi ⊢;rw[Ty.rvars_eq (vTy (ρ T.n)) (l.map ρ)];(show Ty.rvarsL [] (zbZ (l.map ρ) (ρ T.n))=_);simp only[Ty.rvarsL] at hi ⊢;exact addV_mapI fun x hx e=>hi x (zc6.2 (.inl hx)) T.n (zc6.2 (.inr rfl)) e
 rw[Ty.subF_more h1];rw[Ty.rvars_eq T l,if_neg h1] at hi ⊢;rw[Ty.rvars_eq (Ty.mk T.k T.n (T.ps.map (Ty.subF fun v=>vTy (ρ v)))) (l.map ρ),if_neg (show ¬(Ty.mk T.k T.n (T.ps.map (Ty.subF fun v=>vTy (ρ v)))).k=1 from h1)];show Ty.rvarsL (T.ps.map (Ty.subF fun v=>vTy (ρ v))) (l.map ρ)=_
 have key:∀ps:List Ty,(∀p∈ps,p∈T.ps)->∀l:List Int,(∀x∈Ty.rvarsL ps l,∀y∈Ty.rvarsL ps l,ρ x=ρ y->x=y)->Ty.rvarsL (ps.map (Ty.subF fun v=>vTy (ρ v))) (l.map ρ)=(Ty.rvarsL ps l).map ρ:=by
  intro ps
  induction ps with
  | nil=>intro _ l _;rw[zE,Ty.rvarsL,Ty.rvarsL]
  | cons p ps ihp =>
   intro hm l hi;rw[Ty.rvarsL] at hi;rw[zo,Ty.rvarsL,Ty.rvarsL,ih p (hm p tz4) (hp p (hm p tz4)) l fun x hx y hy e=>hi x (zda hx) y (zda hy) e];exact ihp (fun q hq=>hm q (by simp[hq])) _ hi
 exact key T.ps (fun p h=>h) l hi
def zeM (vs names:List Int) (v:Int):Int:=match vs,names with
 | x::vs,n::names=>if x=v then n else zeM vs names v
 | _,_=>v
theorem zbs:∀{vs names:List Int} {v:Int},v∉vs->zeM vs names v=v
 | [],_,v,_=>by unfold zeM;rfl
 | x::vs,[],v,_=>by unfold zeM;rfl
 | x::vs,n::names,v,h=>by
  rw[zeM,if_neg (fun e=>h (by simp[e]))];exact zbs fun h9=>h (by simp[h9])
theorem zcD:∀{vs names:List Int},vs.Nodup->vs.length=names.length->vs.map (zeM vs names)=names
 | [],[],_,_=>rfl
 | x::vs,n::names,hn,hl=>by
  have h1:=List.nodup_cons.1 hn;have ih:=zcD h1.2 (show vs.length=names.length by simpa using hl);rw[zo,zeM,if_pos rfl]
  have e:vs.map (zeM (x::vs) (n::names))=vs.map (zeM vs names):=List.map_congr_left fun v hv=>by
   rw[zeM,if_neg fun e=>h1.1 (by rw[e];exact hv)]
  rw[e,ih]
theorem zfN {vs names:List Int} (hn:vs.Nodup) (hl:vs.length=names.length) (v:Int):bfun (zbh vs names) v=vTy (zeM vs names v):=by
 have hv:=callB_v hl
 by_cases hm:v∈vs
 ·obtain ⟨i,hi⟩:=List.mem_iff_getElem?.1 hm
  have hil:=(zd.1 hi).1;have hni:names[i]?=some (names[i]'tz1):=zb tz1;have h1:=bfun_in (o:=zbh vs names) (b:=⟨v,vTy (names[i]'tz1)⟩) (by rw[hv];exact hn) (zA.2 ⟨(v,_),zg (List.getElem?_zip_eq_some.2 ⟨hi,hni⟩),rfl⟩);have h2:=congrArg (fun l=>l[i]?) (zcD hn hl);simp only[zx,hi,Option.map_some] at h2;rw[hni] at h2;rw[h1,Option.some.inj h2]
 rw[zj3 (by rw[hv];exact hm),zbs hm]
theorem zeW {vs names:List Int} (hn:vs.Nodup) (hl:vs.length=names.length) {v:Int} (h:v∈vs):zeM vs names v∈names:=by
 have:=List.mem_map_of_mem (f:=zeM vs names) h
 rwa [zcD hn hl] at this
theorem renM_inj {vs names:List Int} (hn:vs.Nodup) (hl:vs.length=names.length) (hnn:names.Nodup) {x y:Int} (hx:x∈vs) (hy:y∈vs) (e:zeM vs names x=zeM vs names y):x=y:=by
 obtain ⟨i,hi⟩:=List.mem_iff_getElem?.1 hx;obtain ⟨j,hj⟩:=List.mem_iff_getElem?.1 hy;have h1:=congrArg (fun l=>l[i]?) (zcD hn hl);have h2:=congrArg (fun l=>l[j]?) (zcD hn hl);simp only[zx,hi,hj,Option.map_some] at h1 h2;have hil:=(zd.1 h1.symm).1;have hjl:=(zd.1 h2.symm).1;have g1:=(zd.1 h1.symm).2;have g2:=(zd.1 h2.symm).2;(have h3:names[i]'hil=names[j]'hjl:=by rw[g1,g2,e]);have hij:=(List.getElem_inj hnn).1 h3;subst hij;rw[hi] at hj;exact Option.some.inj hj
theorem ziE {free:List Int} {k:Nat} {v:Int} (h:v∈zaX free k):0<=v/\v<((k+free.length:Nat):Int):=by
 have h1:=List.mem_of_mem_take h;unfold zaN at h1;obtain ⟨i,hi,rfl⟩:=zA.1 (List.mem_filter.1 h1).1;have:=List.mem_range.1 hi;omega
theorem subF_right {σ:Int->Ty}:∀T:Ty,T.right=true->(∀v,T.occ v->(σ v).right=true)->(T.subF σ).right=true:=by
 refine Ty.ind fun T ih=>?_;intro hr hs;have hok:=zcu hr;have hp:=right_part hr
 by_cases h1:T.k=1
 ·rw[Ty.subF_var h1]
  exact hs T.n (by unfold Ty.occ;rw[Ty.rvars_eq,if_pos h1];exact zda (zc6.2 (.inr rfl)))
 rw[Ty.subF_more h1,Ty.right_eq,zl,zB];constructor
 ·have h2:=hr
  rw[Ty.right_eq,zl] at h2;have h3:=h2.1;unfold okN at h3 ⊢;simp only[Ty.k,Ty.n,Ty.ps,zi] at h3 ⊢;exact h3
 intro q hq;obtain ⟨p,hpm,rfl⟩:=zA.1 hq;(refine ih p hpm (hp p hpm) fun v hv=>hs v ?_);unfold Ty.occ;rw[Ty.rvars_eq,if_neg h1]
 have key:∀ps:List Ty,p∈ps->∀l:List Int,v∈Ty.rvarsL ps l:=by
  intro ps
  induction ps with
  | nil=>intro h;cases h
  | cons q ps ihq =>
   intro h l;rw[Ty.rvarsL];(rcases zH.1 h with rfl | h);(·exact zda ((Ty.mem_rvars v p l).2 (.inr hv)));exact ihq h _
 exact key T.ps hpm []
theorem zge {v:Int} (h0:0<=v) (h1:v<1073741824):(vTy v).right=true:=by
 unfold vTy;rw[Ty.right_eq];simp only[Ty.k,Ty.n,Ty.ps,zz,List.all_nil,Bool.and_true];unfold okN;simp;omega
theorem zhQ:∀T:Ty,T.right=true->∀v,T.occ v->0<=v/\v<1073741824:=by
 refine Ty.ind fun T ih=>?_;intro hr v hv;have hp:=right_part hr;unfold Ty.occ at hv;rw[Ty.rvars_eq] at hv
 have key:∀ps:List Ty,(∀p∈ps,p∈T.ps)->∀l:List Int,(∀x∈l,0<=x/\x<1073741824)->v∈Ty.rvarsL ps l->0<=v/\v<1073741824:=by
  intro ps
  induction ps with
  | nil=>intro _ l hl h;rw[Ty.rvarsL] at h;exact hl v h
  | cons p ps ihp =>
   intro hm l hl h;rw[Ty.rvarsL] at h;refine ihp (fun q hq=>hm q (by simp[hq])) _ (fun x hx=>?_) h;(rcases (Ty.mem_rvars x p l).1 hx with h9 | h9);(·exact hl x h9);exact ih p (hm p tz4) (hp p (hm p tz4)) x h9
 refine key T.ps (fun p h=>h) _ (fun x hx=>?_) hv;split at hx
 ·rename_i h1
  (rcases zc6.1 hx with h | h);(·cases h);rw[h];exact right_var hr h1
 cases hx
section
variable {s:Sch}
theorem Sch.vs_known (h:s.ok=true) {v:Int} (hv:v∈s.vs):0<=v/\v<1073741824:=zhQ s.t (Sch.ok_iff.1 h).1 v (Sch.vs_occ h hv)
theorem zdZ (h:s.ok=true) (hc:s.t.cnt<=1048576):(z1 s).ok=true/\(z1 s).free=s.free/\(z1 s).vs.length=s.vs.length:=by
 have hr:=(Sch.ok_iff.1 h).1;have hnd:=Sch.vs_nodup h;have hfl:=s.free_len
 have hvl:s.vs.length<=s.t.cnt:=by
  rw[(Sch.ok_iff.1 h).2];exact Nat.le_trans (List.length_filter_le _ _) s.all_len
 have hl:=(zbO s.free s.vs.length).symm;(generalize hN:zaX s.free s.vs.length=N at hl);(have hNn:N.Nodup:=by rw[<- hN];exact zh2 _ _);have hNo:∀{v:Int},v∈N->v∉s.free:=fun hv=>zkJ (by rw[hN];exact hv)
 have hNk:∀{v:Int},v∈N->0<=v/\v<1073741824:=fun hv=>by
  rw[<- hN] at hv;have:=ziE hv;omega
 have hcan:z1 s=⟨N,s.t.subF fun v=>vTy (zeM s.vs N v)⟩:=by
  unfold z1;rw[if_pos h,hN,Ty.sub_subF _ _ hr];(congr 1);exact Ty.subF_congr _ fun v _=>zfN hnd hl v
 have hinj:∀x∈s.all,∀y∈s.all,zeM s.vs N x=zeM s.vs N y->x=y:=fun x hx y hy e=>by
  by_cases hxv:x∈s.vs
  ·by_cases hyv:y∈s.vs
   (·exact renM_inj hnd hl hNn hxv hyv e);rw[zbs hyv] at e;exact absurd ((Sch.mem_free y).2 ⟨hy,hyv⟩) (hNo (by rw[<- e];exact zeW hnd hl hxv))
  by_cases hyv:y∈s.vs
  ·rw[zbs hxv] at e
   exact absurd ((Sch.mem_free x).2 ⟨hx,hxv⟩) (hNo (by rw[e];exact zeW hnd hl hyv))
  rwa [zbs hxv,zbs hyv] at e
 have hall:(z1 s).all=s.all.map (zeM s.vs N):=by
  rw[hcan];exact rv_ren s.t hr [] hinj
 have hmem:∀x∈s.all,zeM s.vs N x∈N↔x∈s.vs:=fun x hx=>by
  constructor
  ·intro hm
   by_cases hxv:x∈s.vs
   (·exact hxv);rw[zbs hxv] at hm;exact absurd ((Sch.mem_free x).2 ⟨hx,hxv⟩) (hNo hm)
  exact fun hxv=>zeW hnd hl hxv
 (have hvs:(z1 s).vs=N:=by rw[hcan]);refine ⟨Sch.ok_iff.2 ⟨?_,?_⟩,?_,by rw[hvs];exact hl.symm⟩
 ·rw[hcan]
  refine subF_right s.t hr fun v hv=>?_
  by_cases hxv:v∈s.vs
  ·have:=hNk (zeW hnd hl hxv)
   exact zge this.1 this.2
  rw[zbs hxv];have:=zhQ s.t hr v hv;exact zge this.1 this.2
 ·rw[hall,hvs,List.filter_map]
  have e1:s.all.filter ((fun v=>decide (v∈N)) ∘ zeM s.vs N)=s.all.filter fun v=>decide (v∈s.vs):=by
   refine List.filter_congr fun v hv=>?_;simp only[Function.comp,decide_eq_decide];exact hmem v hv
  rw[e1,<- (Sch.ok_iff.1 h).2,zcD hnd hl]
 unfold Sch.free zei;rw[hall,hvs,List.filter_map]
 have e1:s.all.filter ((fun v=>!decide (v∈N)) ∘ zeM s.vs N)=s.all.filter fun v=>!decide (v∈s.vs):=by
  refine List.filter_congr fun v hv=>?_;simp only[Function.comp];(congr 1);rw[decide_eq_decide];exact hmem v hv
 rw[e1]
 have e2:∀l:List Int,(∀v∈l,v∉s.vs)->l.map (zeM s.vs N)=l:=fun l hl2=>by
  (have:l.map (zeM s.vs N)=l.map id:=List.map_congr_left fun v hv=>zbs (hl2 v hv));rw[this,List.map_id]
 exact e2 _ fun v hv=>by have:=(List.mem_filter.1 hv).2;simpa using this
theorem zgd (h:s.ok=true) (hc:s.t.cnt<=1048576):z1 (z1 s)=z1 s:=by
 obtain ⟨h1,h2,h3⟩:=zdZ h hc;(have hv:(z1 s).vs=zaX s.free s.vs.length:=by unfold z1;rw[if_pos h]);have hr:=(Sch.ok_iff.1 h1).1
 have e:z1 (z1 s)=⟨(z1 s).vs,(z1 s).t.sub (zbh (z1 s).vs (z1 s).vs)⟩:=by
  rw[z1,if_pos h1,h2,h3,<- hv]
 rw[e,Ty.sub_subF _ _ hr,Ty.subF_fixed _ hr fun v _=>?_];rw[zfN (Sch.vs_nodup h1) rfl];congr 1
 by_cases hm:v∈(z1 s).vs
 ·obtain ⟨i,hi⟩:=List.mem_iff_getElem?.1 hm
  have g:=congrArg (fun l=>l[i]?) (zcD (Sch.vs_nodup h1) (rfl:(z1 s).vs.length=(z1 s).vs.length));simp only[zx,hi,Option.map_some] at g;exact Option.some.inj g
 exact zbs hm
end
end Go.Proofs.YtkokfdmggdhfmaaGreatDoor
