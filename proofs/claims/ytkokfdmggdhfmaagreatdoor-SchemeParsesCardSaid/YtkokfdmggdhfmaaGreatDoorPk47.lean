/- packed, part 47 of 49. Conditions: none. -/
import Derived.Test.YtkokfdmggdhfmaaGreatDoorPk46
import Derived.Lib.ItoaLen
import Derived.Lib.AppendIntMem
import Derived.Shelf.LaysM
import Derived.Shelf.LaysC
import Derived.Shelf.Strconv.Itoa3
import Derived.Test.YtkokfdmggdhfmaaGreatDoorProg
import Derived.Shelf.Small.Wraps
import Derived.Lib.AtoiTie
import Derived.Shelf.Strconv.ErrVarAll
import Derived.Shelf.Strconv.AtoiAll
import Derived.Lib.AtoiErrMem
set_option linter.unusedVariables false
set_option linter.unusedSimpArgs false
set_option maxRecDepth 100000
set_option maxHeartbeats 4000000
set_option linter.unnecessarySimpa false
namespace Go.Proofs.YtkokfdmggdhfmaaGreatDoor
open Go Go.RowKit
attribute [local irreducible] aops zaK
def rC (l:List Tok) (m i e:Int):List AV:=[.sl 4 (l.map Tok.cells),.v (.int .i64 i),.v (.int .i64 m),.v (.int .i64 e)]
def RCalls (f:Nat) (args:List AV) (l:List Tok) (m i e:Int) (R:AV) (j d:Int):Prop :=
 ACalls Tryz.prog f args [(0,.cells 275 (rC l m i e))] 1 fun r os n=>(r=R/\os=[(0,.cells 275 (rC l m j d))])/\n=1
theorem Ty.sameL_refl:∀ps:List Ty,(∀p∈ps,p.same p=true)->Ty.sameL ps ps=true:=fun ps h=>by
 induction ps with
 | nil=>rfl
 | cons p ps ih=>rw[Ty.sameL,h p tz4,ih fun q hq=>h q (by simp[hq])];rfl
theorem Ty.same_refl:∀t:Ty,t.same t=true:=by
 refine Ty.ind fun t ih=>?_
 cases t with
 | mk k n ps=>rw[Ty.same,Ty.sameL_refl ps ih];simp
end Go.Proofs.YtkokfdmggdhfmaaGreatDoor
namespace Go.Proofs.YtkokfdmggdhfmaaGreatDoor
open Go Go.RowKit
def itB (n:Int):ByteArray:=⟨(Lib.itoa n).toArray⟩
theorem zfi (n:Int) (h0:0<=n) (h1:n<=9223372036854775807):(itB n).size<=21:=by
 have:=Lib.itoa_length_le n tz1 h1;(show (Lib.itoa n).toArray.size<=21);simpa using this
def nmH (n:Int):ByteArray:=(⟨#[39]⟩:ByteArray)++Utf8.encode (97+n % 26)
def nmB (n:Int):ByteArray:=if 26<=n then nmH n++itB (n / 26) else nmH n
theorem enc26 (k:Fin 26):Utf8.encode (97+(k.val:Int))=⟨#[UInt8.ofNat (97+k.val)]⟩:=by revert k;decide
theorem enc_mod (n:Int):∃b:UInt8,Utf8.encode (97+n % 26)=⟨#[b]⟩/\97<=b.toNat/\b.toNat<=122:=by
 have h0:0<=n % 26:=Int.emod_nonneg _ tz3;have h1:n % 26<26:=Int.emod_lt_of_pos _ tz3;have h:=enc26 ⟨(n % 26).toNat,by omega⟩;(have e:(((n % 26).toNat:Nat):Int)=n % 26:=by omega);simp only[e] at h;refine ⟨_,h,?_,?_⟩;(·simp;omega);simp;omega
theorem zdr (n:Int):(nmH n).size=2:=by
 obtain ⟨b,h,_⟩:=enc_mod n;unfold nmH;rw[h,ByteArray.size_append];rfl
theorem zcP {n:Int} (h0:0<=n) (h1:n<1073741824):(nmB n).size<=23:=by
 unfold nmB;split
 ·have:=zfi (n / 26) tz1 tz1
  rw[ByteArray.size_append,zdr];omega
 rw[zdr];omega
def bLp:ByteArray:=⟨#[40]⟩
def bRp:ByteArray:=⟨#[41]⟩
def bAr:ByteArray:=⟨#[32,45,62,32]⟩
def bSt:ByteArray:=⟨#[32,42,32]⟩
def brB (b:Bool) (s:ByteArray):ByteArray:=if b then bLp++s++bRp else s
theorem zk0 (b:Bool) (s:ByteArray):(brB b s).size<=s.size+2:=by
 unfold brB;split;(·rw[ByteArray.size_append,ByteArray.size_append];show 1+s.size+1<=_;omega);omega
mutual
/-- a right type's text -/
def Ty.tx:Ty->ByteArray
 | .mk k n ps =>
  if k=1 then nmB n else if k=2 then ⟨#[105,110,116]⟩ else if k=3 then ⟨#[98,111,111,108]⟩
  else if k=4 then (match Ty.txP ps with
   | (ka,a)::(_,b)::_=>brB (ka==4) a++bAr++b
   | _=>ByteArray.empty)
  else bLp++zbv ((Ty.txP ps).map fun p=>brB (p.1==4) p.2) bSt++bRp
def Ty.txP:List Ty->List (Int×ByteArray)
 | []=>[]
 | p::ps=>(p.k,Ty.tx p)::Ty.txP ps
end
theorem Ty.txP_eq:∀ps,Ty.txP ps=ps.map fun p=>(p.k,p.tx)
 | []=>rfl
 | p::ps=>by rw[Ty.txP,Ty.txP_eq ps];rfl
def Ty.btx (p:Ty):ByteArray:=brB (p.k==4) p.tx
theorem Ty.tx_eq (t:Ty):t.tx=if t.k=1 then nmB t.n else if t.k=2 then ⟨#[105,110,116]⟩ else if t.k=3 then ⟨#[98,111,111,108]⟩
  else if t.k=4 then (match t.ps with
   | a::b::_=>a.btx++bAr++b.tx
   | _=>ByteArray.empty)
  else bLp++zbv (t.ps.map Ty.btx) bSt++bRp:=by
 cases t with
 | mk k n ps =>
  have e:(match ps.map (fun p=>(p.k,p.tx)) with
    | (ka,a)::(_,b)::_=>brB (ka==4) a++bAr++b
    | _=>ByteArray.empty)=(match ps with
    | a::b::_=>a.btx++bAr++b.tx
    | _=>ByteArray.empty):=by
   cases ps with
   | nil=>rfl
   | cons a ps =>
    cases ps with
    | nil=>rfl
    | cons b ps=>rfl
  rw[Ty.tx,Ty.txP_eq,e,List.map_map];rfl
def sumS (l:List ByteArray):Nat:=(l.map ByteArray.size).sum
theorem zlT (x y:List UInt8) (l:List (List UInt8)) (sep:List UInt8):Lib.join (x::y::l) sep=x++sep++Lib.join (y::l) sep:=by
 simp[Lib.join,List.intercalate,List.intersperse]
theorem zkO (sep:List UInt8):∀l:List (List UInt8),(Lib.join l sep).length<=(l.map List.length).sum+sep.length * l.length
 | []=>by simp[Lib.join,List.intercalate,List.intersperse]
 | [x]=>by simp[Lib.join,List.intercalate,List.intersperse]
 | x::y::l=>by
  have:=zkO sep (y::l);rw[zlT];simp only[zd,zk,List.sum_cons,zx] at this ⊢;rw[Nat.mul_add sep.length (l.length+1),Nat.mul_one];omega
theorem zgT (l:List ByteArray) (sep:ByteArray):(zbv l sep).size<=sumS l+sep.size * l.length:=by
 have h:=zkO sep.data.toList (l.map (·.data.toList));have e1:(zbv l sep).size=(Lib.join (l.map (·.data.toList)) sep.data.toList).length:=rfl
 have e2:((l.map (·.data.toList)).map List.length).sum=sumS l:=by
  unfold sumS;rw[List.map_map];congr 1
 have e3:sep.data.toList.length=sep.size:=Array.length_toList;rw[e1];rw[e2,e3,zi] at h;exact h
def bt (s:ByteArray) (i:Nat):Int:=(((s[i]?).getD 0).toNat:Int)
theorem za8 (s:ByteArray) (i:Nat):0<=bt s i/\bt s i<256:=by
 unfold bt;have:=((s[i]?).getD 0).toNat_lt;omega
def isSg (c:Int):Bool:=c==40||c==41||c==44||c==58||c==61||c==42
def nxF (s:ByteArray) (i:Nat):Int×Nat×Int :=
 if smI (bt s i) then
  if kwB (s.extract i (i+zdz s i inI)) then (3,zdz s i inI,0) else if 20<zdz s i inI then (0,0,2) else (1,zdz s i inI,0)
 else if dgI (bt s i) then
  if (1<zdz s i dgI/\bt s i=48)\/(i+zdz s i dgI<s.size/\inI (bt s (i+zdz s i dgI))=true) then (0,0,3)
  else if 9<zdz s i dgI then (0,0,2) else (2,zdz s i dgI,0)
 else if isSg (bt s i) then (4,1,0)
 else if bt s i=45/\i+1<s.size/\bt s (i+1)=62 then (4,2,0)
 else (0,0,3)
def tkOf (s:ByteArray) (i:Nat):Tok:=⟨(nxF s i).1,s.extract i (i+(nxF s i).2.1),i,((i+(nxF s i).2.1:Nat):Int)⟩
def tkEnd (s:ByteArray):Tok:=⟨0,ByteArray.empty,s.size,s.size⟩
def wdF (s:ByteArray):Nat->Nat->List Tok->List Tok×Int×Int
 | 0,i,out=>([],i,3)
 | f+1,i,out =>
  if i<s.size then
   if blI (bt s i) then wdF s f (i+1) out
   else if bt s i=35 then wdF s f (i+zdz s i (fun c=>c != 10)) out
   else if (nxF s i).2.2=0 then wdF s f (i+(nxF s i).2.1) (out++[tkOf s i])
   else ([],i,(nxF s i).2.2)
  else (out++[tkEnd s],0,0)
def wdA (s:ByteArray):List Tok×Int×Int:=wdF s (s.size+1) 0 []
theorem zkH {s:ByteArray} {i:Nat} {p:Int->Bool} (hi:i<s.size) (h:p (bt s i)=true):0<zdz s i p:=by
 have h1:=zha s i p tz1;rcases Nat.eq_zero_or_pos (zdz s i p) with h0 | h0
 ·exfalso
  unfold zdz at h0;have hl:s.data.toList.length=s.size:=Array.length_toList
  have hd:s.data.toList.drop i=((s[i]?).getD 0)::s.data.toList.drop (i+1):=by
   (have h2:i<s.data.toList.length:=by omega);rw[List.drop_eq_getElem_cons h2];(congr 1);have:=zfw hi;rw[zb h2] at this;exact Option.some.inj this
  rw[hd,List.takeWhile_cons,if_pos (by exact h)] at h0;simp at h0
 exact h0
section
variable {s:ByteArray} {i n:Nat}
end
structure WS where
 f:Nat
 i:Nat
 out:List Tok
def WS.ok (s:ByteArray) (RES:List Tok×Int×Int) (w:WS):Prop:=wdF s w.f w.i w.out=RES/\s.size-w.i<w.f/\w.i<=s.size/\w.out.length<=w.i
section
variable {s:ByteArray} {RES:List Tok×Int×Int} {w:WS}
theorem WS.ok.stop (h:w.ok s RES) (hi:¬w.i<s.size):RES=(w.out++[tkEnd s],0,0):=by
 obtain ⟨h1,h2,_,_⟩:=h;obtain ⟨g,hg⟩:∃g,w.f=g+1:=⟨w.f-1,by omega⟩;rw[hg,wdF,if_neg hi] at h1;exact h1.symm
theorem WS.ok.blank (h:w.ok s RES) (hi:w.i<s.size) (hb:blI (bt s w.i)=true):WS.ok s RES ⟨w.f-1,w.i+1,w.out⟩:=by
 obtain ⟨h1,h2,h3,h4⟩:=h;obtain ⟨g,hg⟩:∃g,w.f=g+1:=⟨w.f-1,by omega⟩;rw[hg,wdF,if_pos hi,if_pos hb] at h1;exact ⟨by simp only[hg,Nat.add_sub_cancel];exact h1,by simp only;omega,by simp only;omega,by simp only;omega⟩
theorem WS.ok.rem (h:w.ok s RES) (hi:w.i<s.size) (hb:blI (bt s w.i)=false) (hc:bt s w.i=35) {n:Nat} (hn:zdz s w.i (fun c=>c != 10)=n):WS.ok s RES ⟨w.f-1,w.i+n,w.out⟩:=by
 obtain ⟨h1,h2,h3,h4⟩:=h;obtain ⟨g,hg⟩:∃g,w.f=g+1:=⟨w.f-1,by omega⟩;rw[hg,wdF,if_pos hi,if_neg (by simp[hb]),if_pos hc,hn] at h1;have hp:0<zdz s w.i (fun c=>c != 10):=zkH (p:=fun c=>c != 10) hi (by rw[hc];decide);have hl:w.i+zdz s w.i (fun c=>c != 10)<=s.size:=zha s w.i (fun c=>c != 10) tz1;rw[hn] at hp hl;exact ⟨by simp only[hg,Nat.add_sub_cancel];exact h1,by simp only;omega,by simp only;omega,by simp only;omega⟩
end
inductive Ty.Gd:Ty->Prop where
 | int:Ty.Gd (.mk 2 0 [])
 | bool:Ty.Gd (.mk 3 0 [])
 | fn {a b:Ty} (ha:a.Gd) (hb:b.Gd):Ty.Gd (.mk 4 0 [a,b])
 | tup {ps:List Ty} (h2:2<=ps.length) (h8:ps.length<=8) (h:∀p∈ps,p.Gd):Ty.Gd (.mk 5 0 ps)
abbrev Vw:=Int×ByteArray
def vw (t:Tok):Vw:=(t.k,t.s)
theorem zd1 {t:Ty} (h:¬t.k=4):t.btx=t.tx:=by
 unfold Ty.btx brB;rw[if_neg (by simpa using h)]
theorem zbq (k n:Int) (ps:List Ty):(Ty.mk k n ps).cnt=1+Ty.cntL ps:=by have:=(Ty.mk k n ps).cnt_eq;simpa [Ty.ps] using this
theorem zhj (t:Ty):1<=t.cnt:=by rw[t.cnt_eq];omega
theorem zk9 (t:Ty):t.btx.size<=t.tx.size+2:=zk0 _ _
end Go.Proofs.YtkokfdmggdhfmaaGreatDoor
namespace Go.Proofs.YtkokfdmggdhfmaaGreatDoor
open Go Go.RowKit
attribute [local irreducible] aops zaK
theorem zgf {p:Ty}:∀{qs:List Ty},p∈qs->p.cnt<=Ty.cntL qs
 | r::qs,hp=>by
  rw[Ty.cntL];(rcases zK.1 hp with rfl | hp);(·omega);have:=zgf hp;omega
theorem zcu {ps:List Ty} {s:Nat} {p:Ty} (hp:ps[s]?=some p):((ps.take (s+1)).map Ty.btx).map zaf=((ps.take s).map Ty.btx).map zaf++[[.v (.string (brB (p.k==4) p.tx))]]:=by
 rw[List.take_add_one,hp];simp[zaf,Ty.btx]
theorem zhH {n id:Nat} {l:List ByteArray} (h:id<n):Und n (.osl id 1 (l.map zaf)):=.osl h (.data (zdY l))
theorem zjb {n id:Nat} {l:List ByteArray} {b:ByteArray} (h:id<n):Und n (.osl id 1 (l.map zaf++[[.v (.string b)]])):=by
 have h1:=zhH (l:=l++[b]) h;rw[zc] at h1;exact h1
theorem zeQ (b:Bool) (s:ByteArray) (hs:s.size<=1099511627776):APure Tryz.prog 146 [.v (.bool b),.v (.string s)] (.v (.string (brB b s))):=by
  refine APure.mkL (.cons (.v _) (.cons (.v _) .nil)) (.v _) ?_;refine aIn Tryz.func146 fun hm=>?_;simp only[Tryz.ntmps146,Tryz.results146,go_sem,seval];have hz3:((((#[40]:Array UInt8).size+s.size:Nat):Int)<=IntKind.i64.max)=True:=eq_true (by ( show ((1+s.size:Nat):Int)<=9223372036854775807);omega);have hz2:((((#[40]:Array UInt8).size+s.size+(#[41]:Array UInt8).size:Nat):Int)<=IntKind.i64.max)=True:=eq_true (by ( show ((1+s.size+1:Nat):Int)<=9223372036854775807);omega);refine sqR fun _ y=>?_;simp only[↓bO,go_sem,seval,hz3,hz2];apply y;refine zO fun _ y=>?_;refine sqR fun _ u=>?_;simp only[↓bO,go_sem,seval,hz3,hz2];apply u;apply zP rfl <;> intro hb5
  ·
   refine sqR fun _ u=>?_;(iterate 3 (refine chS 1 ?_ (by intro _ q;simp only[↓bO,go_sem,seval,hz3,hz2];exact q)));simp only[↓bO,go_sem,seval,hz3,hz2];apply u;apply zR;(try simp only[go_sem]);refine Le.of_eq (congrArg (fun s=>AV.v (.string s)) ?_);simp_all [brB,bLp,bRp]
  apply zS;apply y;refine sqR fun _ y=>?_;refine chS 1 ?_ (by intro _ q;simp only[↓bO,go_sem,seval,hz3,hz2];exact q);simp only[↓bO,go_sem,seval,hz3,hz2];apply y;apply zR;(try simp only[go_sem]);refine Le.of_eq (congrArg (fun s=>AV.v (.string s)) ?_);simp_all [brB,bLp,bRp]
end Go.Proofs.YtkokfdmggdhfmaaGreatDoor
namespace Go.Proofs.YtkokfdmggdhfmaaGreatDoor
open Go Go.Shelf
def Tryz.laysM171_ren:Go.Shelf.Ren:=⟨fun | 171=>100 | 243=>144 | 246=>184 | 283=>205 | 284=>206 | 285=>207 | 286=>208 | 129=>221 | 317=>220 | 318=>222 | 319=>223 | 320=>224 | 337=>230 | 338=>231 | n=>n,fun | 3=>3 | 9=>9 | 2=>2 | 4=>4 | 171=>245 | 0=>0 | 53=>238 | 37=>46 | 5=>5 | 173=>248 | 212=>258 | 51=>176 | 20=>20 | 213=>259 | 46=>205 | 232=>269 | 233=>270 | n=>n,fun | 17=>5 | 18=>6 | 19=>7 | n=>n⟩
theorem Tryz.laysM171:Go.Proofs.LaysM.n171 Tryz.prog Tryz.laysM171_ren:={
 mixed:=by kernel_rfl
 f129:=Tryz.func221.trans (congrArg some tz0)
 f171:=Tryz.func100.trans (congrArg some tz0)
 f243:=Tryz.func144.trans (congrArg some tz0)
 f246:=Tryz.func184.trans (congrArg some tz0)
 f283:=Tryz.func205.trans (congrArg some tz0)
 f284:=Tryz.func206.trans (congrArg some tz0)
 f285:=Tryz.func207.trans (congrArg some tz0)
 f286:=Tryz.func208.trans (congrArg some tz0)
 f317:=Tryz.func220.trans (congrArg some tz0)
 f318:=Tryz.func222.trans (congrArg some tz0)
 f319:=Tryz.func223.trans (congrArg some tz0)
 f320:=Tryz.func224.trans (congrArg some tz0)
 f337:=Tryz.func230.trans (congrArg some tz0)
 f338:=Tryz.func231.trans (congrArg some tz0)
 t0:=Tryz.underlying0
 a0:=Tryz.isAgg0
 z0:=Tryz.sizeOf0
 v0:=Tryz.zeroValue0
 t2:=Tryz.underlying2
 a2:=Tryz.isAgg2
 z2:=Tryz.sizeOf2
 v2:=Tryz.zeroValue2
 t3:=Tryz.underlying3
 a3:=Tryz.isAgg3
 z3:=Tryz.sizeOf3
 v3:=Tryz.zeroValue3
 t4:=Tryz.underlying4
 a4:=Tryz.isAgg4
 z4:=Tryz.sizeOf4
 v4:=Tryz.zeroValue4
 t5:=Tryz.underlying5
 a5:=Tryz.isAgg5
 z5:=Tryz.sizeOf5
 v5:=Tryz.zeroValue5
 t9:=Tryz.underlying9
 a9:=Tryz.isAgg9
 z9:=Tryz.sizeOf9
 v9:=Tryz.zeroValue9
 t20:=Tryz.underlying20
 a20:=Tryz.isAgg20
 z20:=Tryz.sizeOf20
 v20:=Tryz.zeroValue20
 t37:=Tryz.underlying46
 a37:=Tryz.isAgg46
 z37:=Tryz.sizeOf46
 v37:=Tryz.zeroValue46
 t46:=Tryz.underlying205
 a46:=Tryz.isAgg205
 z46:=Tryz.sizeOf205
 v46:=Tryz.zeroValue205
 t51:=Tryz.underlying176
 a51:=Tryz.isAgg176
 z51:=Tryz.sizeOf176
 v51:=Tryz.zeroValue176
 t53:=Tryz.underlying238
 a53:=Tryz.isAgg238
 z53:=Tryz.sizeOf238
 v53:=Tryz.zeroValue238
 t171:=Tryz.underlying245
 a171:=Tryz.isAgg245
 z171:=Tryz.sizeOf245
 v171:=Tryz.zeroValue245
 t173:=Tryz.underlying248
 a173:=Tryz.isAgg248
 z173:=Tryz.sizeOf248
 v173:=Tryz.zeroValue248
 t212:=Tryz.underlying258
 a212:=Tryz.isAgg258
 z212:=Tryz.sizeOf258
 v212:=Tryz.zeroValue258
 t213:=Tryz.underlying259
 a213:=Tryz.isAgg259
 z213:=Tryz.sizeOf259
 t232:=Tryz.underlying269
 a232:=Tryz.isAgg269
 z232:=Tryz.sizeOf269
 v232:=Tryz.zeroValue269
 t233:=Tryz.underlying270
 a233:=Tryz.isAgg270
 z233:=Tryz.sizeOf270
 v233:=Tryz.zeroValue270
 g17:=by kernel_rfl
 g18:=by kernel_rfl
 g19:=by kernel_rfl
 i0:=by kernel_rfl
 i2:=by kernel_rfl
 i3:=by kernel_rfl
 i4:=by kernel_rfl
 i5:=by kernel_rfl
 i9:=by kernel_rfl
 i20:=by kernel_rfl
 i37:=by kernel_rfl
 i46:=by kernel_rfl
 i51:=by kernel_rfl
 i53:=by kernel_rfl
 i171:=by kernel_rfl
 i173:=by kernel_rfl
 i212:=by kernel_rfl
 i232:=by kernel_rfl
 i233:=by kernel_rfl
 m17:=by kernel_rfl
 m18:=by kernel_rfl
 m19:=by kernel_rfl}
open Go.RowKit Go.Sort Go.Lib in
theorem Tryz.strconv_Itoa (n:Int) (h0:-9223372036854775808<=n) (h1:n<=9223372036854775807) (w:World) (htab:Lib.TabIs Tryz.prog w "internal/strconv.uint64pow10" .u64 Lib.pow10Tab) :
  Calls Tryz.prog 100 #[.int .i64 n] w fun e w'=>e=.returned (.string ⟨(Lib.itoa n).toArray⟩)/\∃k os,w'=grow (w.drewN k) os:=Any.strconv_Itoa Tryz.laysM171 n h0 h1 w htab
end Go.Proofs.YtkokfdmggdhfmaaGreatDoor
namespace Go.Proofs.YtkokfdmggdhfmaaGreatDoor
open Go Go.RowKit
attribute [local irreducible] aops zaK
theorem Itoa_pure (n:Int) (h0:-9223372036854775808<=n) (h1:n<=9223372036854775807):APure Tryz.prog 100 [.v (.int .i64 n)] (.v (.string (itB n))):=by
 refine APure.ofCalls ⟨_,Tryz.func100,by kernel_rfl,by kernel_rfl⟩ (.cons (.v _) .nil) (.v _) fun E A w vs hgl hA hr=>?_;obtain ⟨u,rfl,h9⟩:=hr.one;(cases h9);refine (Tryz.strconv_Itoa n h0 h1 w (hgl.tab gl_mem5 tz0 tz0)).mono ?_;rintro e w' ⟨rfl,k,os,rfl⟩;exact ⟨_,rfl,Lib.below_grow _ w (zy _) k os,.v _⟩
theorem zfV (n:Int) (h0:0<=n) (h1:n<1073741824):APure Tryz.prog 53 [.v (.int .i64 n)] (.v (.string (nmB n))):=by
  refine APure.mkL (.cons (.v _) .nil) (.v _) ?_;refine aIn Tryz.func53 fun hm=>?_;simp only[Tryz.ntmps53,Tryz.results53,go_sem,seval];have hm1:n.tmod 26=n % 26:=Int.tmod_eq_emod_of_nonneg h0;have hd1:n.tdiv 26=n / 26:=Int.tdiv_eq_ediv_of_nonneg h0;have hw1:IntKind.i64.wrap (97+n % 26)=97+n % 26:=z8 tz1 tz1;have hw4:IntKind.i64.wrap (n % 26)=n % 26:=z8 tz1 tz1;(have hw2:IntKind.i32.wrap (97+n % 26)=97+n % 26:=by (unfold IntKind.wrap;simp[IntKind.bits,IntKind.signed];omega));have hw3:IntKind.i64.wrap (n / 26)=n / 26:=z8 tz1 tz1;have hns:nmH n=(⟨#[39]⟩:ByteArray)++(Utf8.encode (97+n % 26)):=rfl;have hnz:=zdr n;(have hnz2:1+(Utf8.encode (97+n % 26)).size=2:=by (rw[hns,ByteArray.size_append] at hnz;exact hnz));have hit:=zfi (n / 26) tz1 tz1;have hz1:((((#[39]:Array UInt8).size+(Utf8.encode (97+n % 26)).size:Nat):Int)<=IntKind.i64.max)=True:=eq_true (by ( show ((1+(Utf8.encode (97+n % 26)).size:Nat):Int)<=9223372036854775807);omega);have hz2:((((#[39]:Array UInt8).size+(Utf8.encode (97+n % 26)).size+(itB (n / 26)).size:Nat):Int)<=IntKind.i64.max)=True:=eq_true (by ( show ((1+(Utf8.encode (97+n % 26)).size+(itB (n / 26)).size:Nat):Int)<=9223372036854775807);omega);refine sqR fun _ u=>?_;simp only[↓bO,go_sem,seval,hm1,hd1,hw1,hw2,hw3,hw4,hz1,hz2];apply u;refine zO fun _ u=>?_;refine sqR fun _ w=>?_;refine chS 1 ?_ (by intro _ q;simp only[↓bO,go_sem,seval,hm1,hd1,hw1,hw2,hw3,hw4,hz1,hz2];exact q);refine zN 1 fun _ y=>?_;simp only[↓bO,go_sem,seval,hm1,hd1,hw1,hw2,hw3,hw4,hz1,hz2];refine APure.call (zer n) ?_;apply y;clear y;simp only[↓bO,go_sem,seval,hm1,hd1,hw1,hw2,hw3,hw4,hz1,hz2];apply w;apply zP rfl <;> intro hb6
  ·
   exact absurd hb6 tz7
  apply zS;apply u;refine sqR fun _ u=>?_;(iterate 6 (refine chS 1 ?_ (by intro _ q;simp only[↓bO,go_sem,seval,hm1,hd1,hw1,hw2,hw3,hw4,hz1,hz2];exact q)));simp only[↓bO,go_sem,seval,hm1,hd1,hw1,hw2,hw3,hw4,hz1,hz2];apply u;refine zaG (mB 21 8) ([(3,.v (.string (nmB n)))]) ([]) ?_ ?_
  ·
   refine sqR fun _ u=>?_;refine chS 1 ?_ (by intro _ q;simp only[↓bO,go_sem,seval,hm1,hd1,hw1,hw2,hw3,hw4,hz1,hz2];exact q);simp only[↓bO,go_sem,seval,hm1,hd1,hw1,hw2,hw3,hw4,hz1,hz2];apply u;apply zP rfl <;> intro hb14
   ·
    apply zQ;(iterate 3 (refine chS 1 ?_ (by intro _ q;simp only[↓bO,go_sem,seval,hm1,hd1,hw1,hw2,hw3,hw4,hz1,hz2];exact q)));refine zN 1 fun _ y=>?_;simp only[↓bO,go_sem,seval,hm1,hd1,hw1,hw2,hw3,hw4,hz1,hz2];refine APure.call (Itoa_pure (n / 26) tz1 tz1) ?_;apply y;clear y;refine chS 1 ?_ (by intro _ q;simp only[↓bO,go_sem,seval,hm1,hd1,hw1,hw2,hw3,hw4,hz1,hz2];exact q);simp only[↓bO,go_sem,seval,hm1,hd1,hw1,hw2,hw3,hw4,hz1,hz2];(try simp only[go_sem,seval]);(have hnb:nmB n=if 26<=n then nmH n++itB (n / 26) else nmH n:=rfl);rw[hns] at hnb;(first | rw[hnb,if_pos (by simpa using hb14)] | rw[hnb,if_neg (by simpa using hb14)]);exact clz2
   apply zS;(try simp only[go_sem]);(try simp only[go_sem,seval]);(have hnb:nmB n=if 26<=n then nmH n++itB (n / 26) else nmH n:=rfl);rw[hns] at hnb;(first | rw[hnb,if_pos (by simpa using hb14)] | rw[hnb,if_neg (by simpa using hb14)]);exact clz2
  simp only[go_sem,seval];refine sqR fun _ u=>?_;refine chS 1 ?_ (by intro _ q;simp only[↓bO,go_sem,seval,hm1,hd1,hw1,hw2,hw3,hw4,hz1,hz2];exact q);simp only[↓bO,go_sem,seval,hm1,hd1,hw1,hw2,hw3,hw4,hz1,hz2];apply u;apply zR;exact Le.refl _
theorem right_part {t:Ty} (h:t.right=true):∀p∈t.ps,p.right=true:=by
 rw[Ty.right_eq,zl,zF] at h;exact h.2
theorem zbW {t:Ty} (h:t.right=true):(t.k=1/\0<=t.n/\t.n<1073741824/\t.ps.length=0)\/(t.n=0/\(((t.k=2\/t.k=3)/\t.ps.length=0)\/(t.k=4/\t.ps.length=2)\/(t.k=5/\2<=t.ps.length/\t.ps.length<=8))):=by
 rw[Ty.right_eq,zl] at h;have h1:=h.1;simp only[okN,zg] at h1;exact h1
theorem right_var {t:Ty} (h:t.right=true) (hk:t.k=1):0<=t.n/\t.n<1073741824:=by
 have:=zbW h;omega
theorem zbh {t:Ty} (h:t.right=true) (hk:t.k=4):∃a b,t.ps=[a,b]:=by
 have h1:=zbW h;have h2:t.ps.length=2:=by omega
 match hp:t.ps,h2 with
 | [a,b],_=>exact ⟨a,b,rfl⟩
theorem tx_sumR:∀qs:List Ty,(∀p∈qs,p.tx.size+5<=30 * p.cnt)->sumS (qs.map Ty.btx)+3 * qs.length<=30 * Ty.cntL qs:=by
 intro qs
 induction qs with
 | nil=>intro _;simp[Ty.cntL,sumS]
 | cons q qs ihq =>
  intro hq;have h4:=hq q tz4;(have h5:=ihq fun p hp=>hq p (by simp[hp]));have h6:=zk9 q;simp only[sumS,zk,List.sum_cons,Ty.cntL,zx] at h5 ⊢;omega
theorem right_tx0:∀t:Ty,t.right=true->t.tx.size+5<=30 * t.cnt:=by
 refine Ty.ind fun t ih=>?_;intro hr;have hc:=t.cnt_eq;have hp:=right_part hr;rw[t.tx_eq];split
 ·rename_i hk
  have hv:=right_var hr hk;have:=zcP hv.1 hv.2;omega
 split;(·show 3+5<=_;omega);split;(·show 4+5<=_;omega);split
 ·rename_i hk
  obtain ⟨a,b,hps⟩:=zbh hr hk;have ha:=ih a (by rw[hps];simp) (hp a (by rw[hps];simp));have hb:=ih b (by rw[hps];simp) (hp b (by rw[hps];simp));have h6:=zk9 a;rw[hps] at hc ⊢;simp only[Ty.cntL] at hc;(show (a.btx++bAr++b.tx).size+5<=_);rw[ByteArray.size_append,ByteArray.size_append];have e:bAr.size=4:=rfl;omega
 have h1:=zgT (t.ps.map Ty.btx) bSt;(have h4:=tx_sumR t.ps fun p hq=>ih p hq (hp p hq));have e1:bLp.size=1:=rfl;have e2:bRp.size=1:=rfl;have e3:bSt.size=3:=rfl;rw[e3,zi] at h1;rw[ByteArray.size_append,ByteArray.size_append];omega
theorem zco {t:Ty} (h:t.right=true):t.tx.size+5<=30 * t.cnt:=right_tx0 t h
theorem tx_joinR {ps:List Ty} (h:∀p∈ps,p.right=true):(zbv (ps.map Ty.btx) bSt).size<=30 * Ty.cntL ps:=by
 have h1:=zgT (ps.map Ty.btx) bSt;(have h4:=tx_sumR ps fun p hp=>zco (h p hp));have e3:bSt.size=3:=rfl;rw[e3,zi] at h1;omega
def Ty.ptx (t:Ty):ByteArray:=if t.right=true then t.tx else ByteArray.empty
theorem zhO {t:Ty} (h:t.right=true):t.ptx=t.tx:=if_pos h
theorem ptx_no {t:Ty} (h:t.right=false):t.ptx=ByteArray.empty:=if_neg (by simp[h])
theorem zlJ:∀(T:Ty) (hr:T.right=true) (hc:T.cnt<=1048576),APure Tryz.prog 102 [.agg T.cells] (.v (.string T.tx)):=by
  refine Ty.ind fun T ih=>?_;intro hr hc;refine APure.mkL (.cons T.dataAgg .nil) (.v _) ?_;refine aIn Tryz.func102 fun hm=>?_;simp only[Tryz.ntmps102,Tryz.results102,go_sem,seval];have hcn:=T.cnt_eq;have hcl:=Ty.cntL_len T.ps;simp only[Ty.cells_eq T,zt,zD];have hgp0:=right_part hr;have hjs:=tx_joinR hgp0;have hz1:((((#[40]:Array UInt8).size+(zbv (T.ps.map Ty.btx) bSt).size:Nat):Int)<=IntKind.i64.max)=True:=eq_true (by ( show ((1+(zbv (T.ps.map Ty.btx) bSt).size:Nat):Int)<=9223372036854775807);omega);have hz2:((((#[40]:Array UInt8).size+(zbv (T.ps.map Ty.btx) bSt).size+(#[41]:Array UInt8).size:Nat):Int)<=IntKind.i64.max)=True:=eq_true (by ( show ((1+(zbv (T.ps.map Ty.btx) bSt).size+1:Nat):Int)<=9223372036854775807);omega);refine sqR fun _ u=>?_;simp only[↓bO,go_sem,seval,hz1,hz2];apply u;refine zO fun _ u=>?_;refine sqR fun _ w=>?_;simp only[↓bO,go_sem,seval,hz1,hz2];apply w;apply zV;refine sqR fun _ w=>?_;simp only[↓bO,go_sem,seval,hz1,hz2];apply w;apply zP rfl <;> intro hb8
  ·
   (have hk1:T.k=1:=by simpa using hb8);have hvn:=right_var hr hk1;refine sqR fun _ w=>?_;refine chS 2 ?_ (by intro _ q;simp only[↓bO,go_sem,seval,hz1,hz2];exact q);refine zN 1 fun _ y=>?_;simp only[↓bO,go_sem,seval,hz1,hz2];refine APure.call (zfV T.n hvn.1 hvn.2) ?_;apply y;clear y;simp only[↓bO,go_sem,seval,hz1,hz2];apply w;apply zR;(try simp only[go_sem]);refine Le.of_eq (congrArg (fun s=>AV.v (.string s)) ?_);rw[T.tx_eq];rw[if_pos hk1]
  (have hk1:¬T.k=1:=by simpa using hb8);refine sqR fun _ w=>?_;simp only[↓bO,go_sem,seval,hz1,hz2];apply w;apply zP rfl <;> intro hb13
  ·
   (have hk2:T.k=2:=by simpa using hb13);refine sqR fun _ w=>?_;simp only[↓bO,go_sem,seval,hz1,hz2];apply w;apply zR;(try simp only[go_sem]);refine Le.of_eq (congrArg (fun s=>AV.v (.string s)) ?_);rw[T.tx_eq];rw[if_neg hk1,if_pos hk2]
  (have hk2:¬T.k=2:=by simpa using hb13);refine sqR fun _ w=>?_;simp only[↓bO,go_sem,seval,hz1,hz2];apply w;apply zP rfl <;> intro hb15
  ·
   (have hk3:T.k=3:=by simpa using hb15);refine sqR fun _ w=>?_;simp only[↓bO,go_sem,seval,hz1,hz2];apply w;apply zR;(try simp only[go_sem]);refine Le.of_eq (congrArg (fun s=>AV.v (.string s)) ?_);rw[T.tx_eq];rw[if_neg hk1,if_neg hk2,if_pos hk3]
  (have hk3:¬T.k=3:=by simpa using hb15);refine sqR fun _ w=>?_;simp only[↓bO,go_sem,seval,hz1,hz2];apply w;apply zP rfl <;> intro hb17
  ·
   (have hk4:T.k=4:=by simpa using hb17);obtain ⟨a,b,hps⟩:=zbh hr hk4;have hga:a.right=true:=hgp0 a (by rw[hps];simp);have hgb:b.right=true:=hgp0 b (by rw[hps];simp);(have hab:T.cnt=1+(a.cnt+b.cnt):=by (rw[hcn,hps];simp[Ty.cntL]));have hsa:=zco hga;have hsb:=zco hgb;have hsa2:=zk0 (a.k==4) a.tx;have hz3:((((brB (a.k==4) a.tx).size+(#[32,45,62,32]:Array UInt8).size:Nat):Int)<=IntKind.i64.max)=True:=eq_true (by ( show (((brB (a.k==4) a.tx).size+4:Nat):Int)<=9223372036854775807);omega);have hz4:((((brB (a.k==4) a.tx).size+(#[32,45,62,32]:Array UInt8).size+b.tx.size:Nat):Int)<=IntKind.i64.max)=True:=eq_true (by ( show (((brB (a.k==4) a.tx).size+4+b.tx.size:Nat):Int)<=9223372036854775807);omega);refine zO fun _ w=>?_;refine zaM 19 mixed tz0 fun J0 j0=>?_;(iterate 3 (simp only[go_sem];refine zac 3 fun _ y=>?_;simp only[↓zaK,↓dOp,↓bO,go_sem,seval,hz1,hz2,hps,hz3,hz4];apply y;clear y));simp only[go_sem];refine zac 1 fun _ y=>?_;simp only[↓zaK,↓dOp,↓bO,go_sem,seval,hz1,hz2,hps,hz3,hz4];apply y;clear y;refine zac 1 fun _ y=>?_;simp only[↓zaK,↓dOp,↓bO,go_sem,seval,hz1,hz2,hps,hz3,hz4];refine ⟨_,ih a (by rw[hps];simp) hga tz1,?_⟩;apply y;clear y;refine zac 1 fun _ y=>?_;simp only[↓zaK,↓dOp,↓bO,go_sem,seval,hz1,hz2,hps,hz3,hz4];refine ⟨_,zeQ (a.k==4) a.tx tz1,?_⟩;apply y;clear y;refine zac 3 fun _ y=>?_;simp only[↓zaK,↓dOp,↓bO,go_sem,seval,hz1,hz2,hps,hz3,hz4];apply y;clear y;refine zac 2 fun _ y=>?_;simp only[↓zaK,↓dOp,↓bO,go_sem,seval,hz1,hz2,hps,hz3,hz4];apply y;clear y;refine zac 1 fun _ y=>?_;simp only[↓zaK,↓dOp,↓bO,go_sem,seval,hz1,hz2,hps,hz3,hz4];refine ⟨_,ih b (by rw[hps];simp) hgb tz1,?_⟩;apply y;clear y;simp only[↓zaK,↓dOp,↓bO,go_sem,seval,hz1,hz2,hps,hz3,hz4];refine j0 _ ?_;clear j0 J0;simp only[go_sem];simp only[↓bO,go_sem,seval,hz1,hz2,hps,hz3,hz4];apply w;apply zR;(try simp only[go_sem]);refine Le.of_eq (congrArg (fun s=>AV.v (.string s)) ?_);rw[T.tx_eq];rw[if_neg hk1,if_neg hk2,if_neg hk3,if_pos hk4,hps];rfl
  (have hk4:¬T.k=4:=by simpa using hb17);apply zS;apply u;refine sqR fun _ u=>?_;simp only[↓bO,go_sem,seval,hz1,hz2];apply u;refine zO fun _ u=>?_;refine sqR fun _ w=>?_;refine chS 3 ?_ (by intro _ q;simp only[↓bO,go_sem,seval,hz1,hz2];exact q);simp only[↓bO,go_sem,seval,hz1,hz2];apply w;apply zV;refine zar (Weak.tokSlot 3 9 1 rfl) ?_;simp only[go_sem];refine zae (σ:=Nat) (mB 59 3848290697224) (fun s=>s<=T.ps.length) (fun s=>[(3,.osl 1 1 (((T.ps.take s).map Ty.btx).map zaf)),(41,.v (.int .i64 (s:Int)))]) (fun s=>[(1,.tok 9 1 s)]) (fun s=>T.ps.length-s) 0 tz1 ?_ (fun s hs=>?_)
  ·
   simp only[go_sem,seval,bL];exact zaP
  simp only[go_sem,seval];refine sqR fun _ w=>?_;simp only[↓bO,go_sem,seval,hz1,hz2];apply w;refine zO fun _ w=>?_;apply zP rfl <;> intro hb42
  ·
   (have hk:s<T.ps.length:=by simpa using hb42);obtain ⟨p,hp⟩:∃p,T.ps[s]?=some p:=⟨_,zb hk⟩;have hgp:=hgp0 p (zh hp);have hpc:=zgf (zh hp);have hsp:=zco hgp;have hw:IntKind.i64.wrap ((s:Int)+1)=(s:Int)+1:=z8 tz1 tz1;(have hln:(((T.ps.take s).map Ty.btx).map zaf).length=s:=by simp;omega);(have hb1:(s+1) * 16<=140737488355328:=by omega);(have hb2:s+1<=maxLen:=by simp only[maxLen];omega);apply zS;apply w;refine zO fun _ w=>?_;apply zV;refine sqR fun _ z=>?_;refine chS 3 ?_ (by intro _ q;simp only[↓bO,go_sem,seval,hz1,hz2,hk,gM hp,za,hw,hln,hb1,hb2,zcu hp];exact q);simp only[↓bO,go_sem,seval,hz1,hz2,hk,gM hp,za,hw,hln,hb1,hb2,zcu hp];apply z;refine zaM 8 mixed tz0 fun J0 j0=>?_;simp only[go_sem];refine zac 3 fun _ y=>?_;simp only[↓zaK,↓dOp,↓bO,go_sem,seval,hz1,hz2,hk,gM hp,za,hw,hln,hb1,hb2,zcu hp];apply y;clear y;refine zac 2 fun _ y=>?_;simp only[↓zaK,↓dOp,↓bO,go_sem,seval,hz1,hz2,hk,gM hp,za,hw,hln,hb1,hb2,zcu hp];apply y;clear y;refine zac 1 fun _ y=>?_;simp only[↓zaK,↓dOp,↓bO,go_sem,seval,hz1,hz2,hk,gM hp,za,hw,hln,hb1,hb2,zcu hp];refine ⟨_,ih p (zh hp) hgp tz1,?_⟩;apply y;clear y;refine zac 1 fun _ y=>?_;simp only[↓zaK,↓dOp,↓bO,go_sem,seval,hz1,hz2,hk,gM hp,za,hw,hln,hb1,hb2,zcu hp];refine ⟨_,zeQ (p.k==4) p.tx tz1,?_⟩;apply y;clear y;simp only[↓zaK,↓dOp,↓bO,go_sem,seval,↓zaV,↓za1,↓zaR,↓zaZ,↓zaS,↓zaY,↓za0,↓zaX,↓zaU,↓zax,↓zav,↓zaw,hz1,hz2,hk,gM hp,za,hw,hln,hb1,hb2,zcu hp];refine j0 _ ?_;clear j0 J0;simp only[go_sem];simp only[↓bO,go_sem,seval,hz1,hz2,hk,gM hp,za,hw,hln,hb1,hb2,zcu hp];apply w;apply zQ;simp only[↓bO,go_sem,seval,hz1,hz2,hk,gM hp,za,hw,hln,hb1,hb2,zcu hp];refine ⟨(s+1),tz1,by omega,?_⟩;simp only[go_sem,seval,hk,gM hp,za,zm,hw,hln,hb1,hb2,zcu hp];(first | (refine Weak.drops 1 2 rfl rfl tz5 tz5 ?_ ?_ ?_) | (refine Weak.drops 0 2 rfl rfl tz5 tz5 ?_ ?_ ?_));(· simp only[go_sem,Le.refl,Le.any,za,Int.cast_ofNat_Int,zm]);(· simp only[UndL,UndOs,Ob.Und,and_true,true_and,and_self,Und.v,Und.any,Und.ptr,Und.map,Nat.reduceLT,zC,Und.tys,Und.tyAgg,Und.oslTys,Und.oslTys1,Und.clo0,Und.ty,zhH,zjb,Und.tys,Nat.reduceLT]);simp only[UndL,UndOs,Ob.Und,and_true,true_and,and_self,Und.v,Und.any,Und.ptr,Und.map,Nat.reduceLT,zC,Und.tys,Und.tyAgg,Und.oslTys,Und.oslTys1,Und.clo0,Und.ty,zhH,zjb,Und.tys,Nat.reduceLT]
  (have hk:s=T.ps.length:=by simp at hb42;omega);apply zah;simp only[zag,z6,zY,bA,Nat.reduceEqDiff,↓reduceIte];apply u;refine sqR fun _ u=>?_;refine chS 1 ?_ (by intro _ q;simp only[↓bO,go_sem,seval,hz1,hz2];exact q);refine zN 1 fun _ y=>?_;simp only[↓bO,go_sem,seval,hz1,hz2];refine ACalls.args (args':=[.sl 1 ((T.ps.map Ty.btx).map zaf),.v (.string bSt)]) ⟨by rw[hk,zw];exact Le.oslL,.refl _,trivial⟩ ?_;refine APure.call (Join_pure (T.ps.map Ty.btx) bSt (by rw[zi];omega) tz1) ?_;apply y;clear y;simp only[↓bO,go_sem,seval,hz1,hz2];apply u;apply zR;(try simp only[go_sem]);refine Le.of_eq (congrArg (fun s=>AV.v (.string s)) ?_);rw[T.tx_eq];rw[if_neg hk1,if_neg hk2,if_neg hk3,if_neg hk4];rfl
theorem zfC (T:Ty) (hc:T.cnt<=1048576):APure Tryz.prog 56 [.agg T.cells] (.v (.string T.ptx)):=by
  refine APure.mkL (.cons T.dataAgg .nil) (.v _) ?_;refine aIn Tryz.func56 fun hm=>?_;simp only[Tryz.ntmps56,Tryz.results56,go_sem,seval];simp only[Ty.cells_eq T,zt,zD];refine sqD ?_;refine zO fun _ y=>?_;refine sqR fun _ u=>?_;refine chS 1 ?_;refine zN 1 fun _ q=>?_;simp only[↓bO,go_sem,seval];refine APure.call (by have h9:=zcK T;rw[Ty.cells_eq T] at h9;exact h9) ?_;apply q;clear q;simp only[↓bO,go_sem,seval];apply u;apply zP rfl <;> intro hb5
  ·
   (have hr:T.right=false:=by simpa using hb5);refine sqD ?_;apply zR;(try simp only[go_sem]);rw[ptx_no hr];exact Le.refl _
  (have hr:T.right=true:=by simpa using hb5);apply zS;apply y;refine sqR fun _ y=>?_;refine chS 1 ?_;refine zN 1 fun _ q=>?_;simp only[↓bO,go_sem,seval];refine APure.call (by have h9:=zlJ T hr hc;rw[Ty.cells_eq T] at h9;exact h9) ?_;apply q;clear q;simp only[↓bO,go_sem,seval];apply y;apply zR;(try simp only[go_sem]);rw[zhO hr];exact Le.refl _
def d10:ByteArray:=⟨#[48,49,50,51,52,53,54,55,56,57]⟩
def d26:ByteArray:=⟨#[97,98,99,100,101,102,103,104,105,106,107,108,109,110,111,112,113,114,115,116,117,118,119,120,121,122]⟩
theorem d10_at (k:Fin 10):d10.extract k.val (k.val+1)=⟨#[UInt8.ofNat (48+k.val)]⟩:=by revert k;decide
theorem ziY (k:Fin 26):d26.extract k.val (k.val+1)=Utf8.encode (97+(k.val:Int)):=by revert k;decide
theorem d10_ex {n:Nat} (h:n<10):d10.extract n (n+1)=⟨#[UInt8.ofNat (48+n)]⟩:=d10_at ⟨n,h⟩
theorem itB_one {n:Nat} (h:n<10):itB (n:Int)=d10.extract n (n+1):=by
 rw[d10_ex h];unfold itB;rw[Lib.itoa_nonneg,Lib.decDigits_one h]
theorem itB_more {n:Nat} (h:¬n<10):itB (n:Int)=itB ((n / 10:Nat):Int)++d10.extract (n % 10) (n % 10+1):=by
 rw[d10_ex tz1];unfold itB;rw[Lib.itoa_nonneg,Lib.itoa_nonneg,Lib.decDigits,dif_neg h];apply ByteArray.ext;simp[ByteArray.data_append]
theorem zh7 (n:Nat) (hn:n<1099511627776) (ih:¬n<10->APure Tryz.prog 97 [.v (.int .i64 (n / 10:Nat))] (.v (.string (itB (n / 10:Nat))))):APure Tryz.prog 97 [.v (.int .i64 n)] (.v (.string (itB n))):=by
  refine APure.mkL (.cons (.v _) .nil) (.v _) ?_;refine aIn Tryz.func97 fun hm=>?_;simp only[Tryz.ntmps97,Tryz.results97,go_sem,seval];(have ht:((n:Int)).tdiv 10=((n / 10:Nat):Int):=by (rw[Int.tdiv_eq_ediv_of_nonneg tz1];omega));(have hm2:((n:Int)).tmod 10=((n % 10:Nat):Int):=by (rw[Int.tmod_eq_emod_of_nonneg tz1];omega));(have hw1:IntKind.i64.wrap ((n:Int)+1)=((n+1:Nat):Int):=by (rw[z8 tz1 tz1];omega));(have hw2:IntKind.i64.wrap (((n % 10:Nat):Int))=((n % 10:Nat):Int):=by (rw[z8 tz1 tz1]));(have hw3:IntKind.i64.wrap (((n % 10:Nat):Int)+1)=((n % 10+1:Nat):Int):=by (rw[z8 tz1 tz1];omega));(have hw4:IntKind.i64.wrap (((n / 10:Nat):Int))=((n / 10:Nat):Int):=by (rw[z8 tz1 tz1]));have h1:((n:Int)<=((n+1:Nat):Int))=True:=eq_true tz1;have h2:(((n % 10:Nat):Int)<=((n % 10+1:Nat):Int))=True:=eq_true tz1;have h3:(((n % 10+1:Nat):Int)<=(((#[48,49,50,51,52,53,54,55,56,57]:Array UInt8).size:Nat):Int))=True:=eq_true (by (show ((n % 10+1:Nat):Int)<=10);omega);have hz:=zfi ((n / 10:Nat):Int) tz1 tz1;(have hz2:((⟨(#[48,49,50,51,52,53,54,55,56,57]:Array UInt8)⟩:ByteArray).extract (n % 10) ((n % 10)+1)).size=1:=by (show (d10.extract (n % 10) (n % 10+1)).size=1;rw[d10_ex tz1];rfl));have hz3:(((itB ((n / 10:Nat):Int)).size+((⟨(#[48,49,50,51,52,53,54,55,56,57]:Array UInt8)⟩:ByteArray).extract (n % 10) ((n % 10)+1)).size:Nat):Int)<=IntKind.i64.max↔True:=iff_true_intro (by rw[hz2];show (((itB ((n / 10:Nat):Int)).size+1:Nat):Int)<=9223372036854775807;omega);(iterate 2 (refine zO fun _ u=>?_;apply zQ;simp only[↓bO,go_sem,seval,ht,hm2,hw1,hw2,hw3,hw4,h1,h2,h3,hz3];apply u));refine zO fun _ u=>?_;refine sqR fun _ w=>?_;refine chS 1 ?_ (by intro _ q;simp only[↓bO,go_sem,seval,ht,hm2,hw1,hw2,hw3,hw4,h1,h2,h3,hz3];exact q);simp only[↓bO,go_sem,seval,ht,hm2,hw1,hw2,hw3,hw4,h1,h2,h3,hz3];apply w;apply zP rfl <;> intro hb5
  ·
   (have hlt:n<10:=by (have h9:=hb5;simp at h9;omega));have h4:(((n+1:Nat):Int)<=(((#[48,49,50,51,52,53,54,55,56,57]:Array UInt8).size:Nat):Int))=True:=eq_true (by (show ((n+1:Nat):Int)<=10);omega);refine sqR fun _ w=>?_;(iterate 5 (refine chS 1 ?_ (by intro _ q;simp only[↓bO,go_sem,seval,ht,hm2,hw1,hw2,hw3,hw4,h1,h2,h3,hz3,h4];exact q)));simp only[↓bO,go_sem,seval,ht,hm2,hw1,hw2,hw3,hw4,h1,h2,h3,hz3,h4];apply w;apply zR;(try simp only[go_sem]);refine Le.of_eq (congrArg (fun s=>AV.v (.string s)) ?_);rw[itB_one hlt];rfl
  (have hge:¬n<10:=by (have h9:=hb5;simp at h9;omega));apply zS;apply u;refine zO fun _ u=>?_;refine zaM 11 mixed tz0 fun J0 j0=>?_;(iterate 2 (simp only[go_sem];refine zac 1 fun _ y=>?_;simp only[↓zaK,↓dOp,↓bO,go_sem,seval,ht,hm2,hw1,hw2,hw3,hw4,h1,h2,h3,hz3];apply y;clear y));simp only[go_sem];refine zac 1 fun _ y=>?_;simp only[↓zaK,↓dOp,↓bO,go_sem,seval,ht,hm2,hw1,hw2,hw3,hw4,h1,h2,h3,hz3];refine ⟨_,ih hge,?_⟩;(iterate 7 (apply y;clear y;refine zac 1 fun _ y=>?_;simp only[↓zaK,↓dOp,↓bO,go_sem,seval,ht,hm2,hw1,hw2,hw3,hw4,h1,h2,h3,hz3]));apply y;clear y;simp only[↓zaK,↓dOp,↓bO,go_sem,seval,ht,hm2,hw1,hw2,hw3,hw4,h1,h2,h3,hz3];refine j0 _ ?_;clear j0 J0;simp only[go_sem];simp only[↓bO,go_sem,seval,ht,hm2,hw1,hw2,hw3,hw4,h1,h2,h3,hz3];apply u;apply zR;(try simp only[go_sem]);refine Le.of_eq (congrArg (fun s=>AV.v (.string s)) ?_);rw[itB_more hge];rfl
theorem zki (n:Nat) (hn:n<1099511627776):APure Tryz.prog 97 [.v (.int .i64 n)] (.v (.string (itB n))):=by
 revert hn
 induction n using Nat.strongRecOn with
 | _ n ih=>intro hn;exact zh7 n hn fun h=>ih (n / 10) tz1 tz1
theorem nmB_one {n:Nat} (h:n<26):nmB (n:Int)=(⟨#[39]⟩:ByteArray)++d26.extract (n % 26) (n % 26+1):=by
 have h1:=ziY ⟨n % 26,by omega⟩;(have e:(((n % 26:Nat)):Int)=(n:Int) % 26:=by omega);unfold nmB nmH;rw[if_neg tz1,h1];simp only[e]
theorem zkN {n:Nat} (h:¬n<26):nmB (n:Int)=(⟨#[39]⟩:ByteArray)++d26.extract (n % 26) (n % 26+1)++itB ((n / 26:Nat):Int):=by
 have h1:=ziY ⟨n % 26,by omega⟩;(have e:(((n % 26:Nat)):Int)=(n:Int) % 26:=by omega);(have e2:(((n / 26:Nat)):Int)=(n:Int) / 26:=by omega);unfold nmB nmH;rw[if_pos tz1,h1];simp only[e,e2]
theorem d26_size (n:Nat):(d26.extract (n % 26) (n % 26+1)).size=1:=by
 have h1:=ziY ⟨n % 26,by omega⟩;have h2:=zdr (n:Int);(have e:(((n % 26:Nat)):Int)=(n:Int) % 26:=by omega);simp only[e] at h1;unfold nmH at h2;rw[ByteArray.size_append,<- h1] at h2;have h3:(⟨#[39]⟩:ByteArray).size=1:=rfl;omega
theorem zeq (n:Nat) (hn:n<1073741824):APure Tryz.prog 48 [.v (.int .i64 n)] (.v (.string (nmB n))):=by
  refine APure.mkL (.cons (.v _) .nil) (.v _) ?_;refine aIn Tryz.func48 fun hm=>?_;simp only[Tryz.ntmps48,Tryz.results48,go_sem,seval];(have ht:((n:Int)).tdiv 26=((n / 26:Nat):Int):=by (rw[Int.tdiv_eq_ediv_of_nonneg tz1];omega));(have hm2:((n:Int)).tmod 26=((n % 26:Nat):Int):=by (rw[Int.tmod_eq_emod_of_nonneg tz1];omega));(have hw2:IntKind.i64.wrap (((n % 26:Nat):Int))=((n % 26:Nat):Int):=by (rw[z8 tz1 tz1]));(have hw3:IntKind.i64.wrap (((n % 26:Nat):Int)+1)=((n % 26+1:Nat):Int):=by (rw[z8 tz1 tz1];omega));(have hw4:IntKind.i64.wrap (((n / 26:Nat):Int))=((n / 26:Nat):Int):=by (rw[z8 tz1 tz1]));have h2:(((n % 26:Nat):Int)<=((n % 26+1:Nat):Int))=True:=eq_true tz1;have h3:(((n % 26+1:Nat):Int)<=(((#[97,98,99,100,101,102,103,104,105,106,107,108,109,110,111,112,113,114,115,116,117,118,119,120,121,122]:Array UInt8).size:Nat):Int))=True:=eq_true (by (show ((n % 26+1:Nat):Int)<=26);omega);have hz:=zfi ((n / 26:Nat):Int) tz1 tz1;have hz2:((⟨(#[97,98,99,100,101,102,103,104,105,106,107,108,109,110,111,112,113,114,115,116,117,118,119,120,121,122]:Array UInt8)⟩:ByteArray).extract (n % 26) (n % 26+1)).size=1:=d26_size n;have hz3:((((#[39]:Array UInt8).size+((⟨(#[97,98,99,100,101,102,103,104,105,106,107,108,109,110,111,112,113,114,115,116,117,118,119,120,121,122]:Array UInt8)⟩:ByteArray).extract (n % 26) (n % 26+1)).size:Nat):Int)<=IntKind.i64.max)=True:=eq_true (by rw[hz2];show ((1+1:Nat):Int)<=9223372036854775807;omega);have hz4:((((#[39]:Array UInt8).size+((⟨(#[97,98,99,100,101,102,103,104,105,106,107,108,109,110,111,112,113,114,115,116,117,118,119,120,121,122]:Array UInt8)⟩:ByteArray).extract (n % 26) (n % 26+1)).size+(itB ((n / 26:Nat):Int)).size:Nat):Int)<=IntKind.i64.max)=True:=eq_true (by rw[hz2];show ((1+1+(itB ((n / 26:Nat):Int)).size:Nat):Int)<=9223372036854775807;omega);(iterate 2 (refine zO fun _ u=>?_;apply zQ;simp only[↓bO,go_sem,seval,ht,hm2,hw2,hw3,hw4,h2,h3,hz3,hz4];apply u));refine zO fun _ u=>?_;refine sqR fun _ w=>?_;(iterate 3 (refine chS 1 ?_ (by intro _ q;simp only[↓bO,go_sem,seval,ht,hm2,hw2,hw3,hw4,h2,h3,hz3,hz4];exact q)));refine zW 7 rfl (fun hc7=>?_) (fun hc7=>?_)
  ·
   simp only[go_sem];exact absurd hc7 tz4
  (iterate 2 (refine chS 1 ?_ (by intro _ q;simp only[↓bO,go_sem,seval,ht,hm2,hw2,hw3,hw4,h2,h3,hz3,hz4];exact q)));simp only[↓bO,go_sem,seval,ht,hm2,hw2,hw3,hw4,h2,h3,hz3,hz4];apply w;apply zP rfl <;> intro hb10
  ·
   exact absurd hb10 tz7
  apply zS;apply u;refine sqR fun _ u=>?_;(iterate 8 (refine chS 1 ?_ (by intro _ q;simp only[↓bO,go_sem,seval,ht,hm2,hw2,hw3,hw4,h2,h3,hz3,hz4];exact q)));simp only[↓bO,go_sem,seval,ht,hm2,hw2,hw3,hw4,h2,h3,hz3,hz4];apply u;refine zO fun _ u=>?_;refine sqR fun _ w=>?_;refine chS 1 ?_ (by intro _ q;simp only[↓bO,go_sem,seval,ht,hm2,hw2,hw3,hw4,h2,h3,hz3,hz4];exact q);simp only[↓bO,go_sem,seval,ht,hm2,hw2,hw3,hw4,h2,h3,hz3,hz4];apply w;apply zP rfl <;> intro hb20
  ·
   (have hlt:n<26:=by (have h9:=hb20;simp at h9;omega));refine sqR fun _ w=>?_;refine chS 1 ?_ (by intro _ q;simp only[↓bO,go_sem,seval,ht,hm2,hw2,hw3,hw4,h2,h3,hz3,hz4];exact q);simp only[↓bO,go_sem,seval,ht,hm2,hw2,hw3,hw4,h2,h3,hz3,hz4];apply w;apply zR;(try simp only[go_sem]);refine Le.of_eq (congrArg (fun s=>AV.v (.string s)) ?_);rw[nmB_one hlt];rfl
  (have hge:¬n<26:=by (have h9:=hb20;simp at h9;omega));apply zS;apply u;refine sqR fun _ u=>?_;(iterate 3 (refine chS 1 ?_ (by intro _ q;simp only[↓bO,go_sem,seval,ht,hm2,hw2,hw3,hw4,h2,h3,hz3,hz4];exact q)));refine zN 1 fun _ y=>?_;simp only[↓bO,go_sem,seval,ht,hm2,hw2,hw3,hw4,h2,h3,hz3,hz4];refine APure.call (zki (n / 26) tz1) ?_;apply y;clear y;refine chS 1 ?_ (by intro _ q;simp only[↓bO,go_sem,seval,ht,hm2,hw2,hw3,hw4,h2,h3,hz3,hz4];exact q);simp only[↓bO,go_sem,seval,ht,hm2,hw2,hw3,hw4,h2,h3,hz3,hz4];apply u;apply zR;(try simp only[go_sem]);refine Le.of_eq (congrArg (fun s=>AV.v (.string s)) ?_);rw[zkN hge];rfl
end Go.Proofs.YtkokfdmggdhfmaaGreatDoor
namespace Go.Proofs.YtkokfdmggdhfmaaGreatDoor
open Go Go.RowKit
abbrev bl (s:ByteArray):List UInt8:=s.data.toList
theorem zan (s:ByteArray):(bl s).length=s.size:=Array.length_toList
theorem zaj (a b:ByteArray):bl (a++b)=bl a++bl b:=by simp[bl,ByteArray.data_append]
theorem zjU {s:ByteArray} {P S:List UInt8} {c:UInt8} (h:bl s=P++c::S):P.length<s.size/\bt s P.length=c.toNat:=by
 (have hl:P.length<s.size:=by rw[<- zan,h];simp);refine ⟨hl,?_⟩;have h1:=zfw hl;(have h2:(bl s)[P.length]?=some c:=by rw[h];simp);unfold bt;rw[show s.data.toList=bl s from rfl,h2] at h1;rw[<- Option.some.inj h1]
theorem zix {s:ByteArray} {P X S:List UInt8} (h:bl s=P++(X++S)):s.extract P.length (P.length+X.length)=⟨X.toArray⟩:=by
 have h1:bl (s.extract P.length (P.length+X.length))=X:=by
  simp only[bl,ByteArray.data_extract,Array.toList_extract,List.extract_eq_take_drop];rw[show s.data.toList=bl s from rfl,h];simp
 have h2:(s.extract P.length (P.length+X.length)).data=X.toArray:=Array.ext' h1;exact congrArg ByteArray.mk h2
def Wst (s:ByteArray) (i j:Nat) (ts:List Vw):Prop:=∀(f:Nat) (out:List Tok),s.size-i<f->∃f' out',s.size-j<f'/\out'.map vw=out.map vw++ts/\wdF s f i out=wdF s f' j out'
variable {s:ByteArray}
theorem zho (sep x:List UInt8) (r:List (List UInt8)):Lib.joinTail sep (x::r)=sep++(x++Lib.joinTail sep r):=by simp[Lib.joinTail]
theorem zjw (p:Ty) (qs:List Ty):bl (zbv ((p::qs).map Ty.btx) bSt)=bl p.btx++Lib.joinTail (bl bSt) ((qs.map Ty.btx).map bl):=by
 (show Lib.join ((((p::qs).map Ty.btx)).map (·.data.toList)) bSt.data.toList=_);rw[zk,zk,Lib.join_cons]
end Go.Proofs.YtkokfdmggdhfmaaGreatDoor
namespace Go.Proofs.YtkokfdmggdhfmaaGreatDoor
open Go Go.RowKit
attribute [local irreducible] aops zaK
def sepT (T:Ty):ByteArray:=if T.k=5 then bSt else bAr
def ptT (T:Ty) (i:Nat) (p:Ty):ByteArray:=if p.k=4/\(T.k=5\/i=0) then bLp++p.tx++bRp else p.tx
def zet (T:Ty):Nat->ByteArray
 | 0=>ByteArray.empty
 | s+1=>match T.ps[s]? with
  | some p=>(if 0<s then zet T s++sepT T else zet T s)++ptT T s p
  | none=>zet T s
theorem zcI {T:Ty} {s:Nat} {p:Ty} (hp:T.ps[s]?=some p):zet T (s+1)=(if 0<s then zet T s++sepT T else zet T s)++ptT T s p:=by rw[zet,hp]
theorem zfB (T:Ty):(sepT T).size<=4:=by unfold sepT;split <;> decide
theorem zkC (T:Ty) (i:Nat) (p:Ty):(ptT T i p).size<=p.tx.size+2:=by
 unfold ptT;split
 ·rw[ByteArray.size_append,ByteArray.size_append]
  have e1:bLp.size=1:=rfl;have e2:bRp.size=1:=rfl;omega
 omega
theorem ziq {T:Ty} (hr:T.right=true):∀s,s<=T.ps.length->(zet T s).size<=40 * Ty.cntL (T.ps.take s)
 | 0,_=>by simp[zet,Ty.cntL]
 | s+1,h=>by
  obtain ⟨p,hp⟩:∃p,T.ps[s]?=some p:=⟨_,zb tz1⟩;have h1:=ziq hr s tz1;have h2:=zkC T s p;have h3:=zco (right_part hr p (zh hp));have h4:=zfB T;have h5:=Ty.cntL_take hp;have h6:=zhj p;rw[zcI hp,ByteArray.size_append];split;(·rw[ByteArray.size_append];omega);omega
theorem zjC (x:ByteArray):ByteArray.empty++x=x:=by apply ByteArray.ext;simp[ByteArray.data_append]
theorem accT_four {T a b:Ty} (hk:T.k=4) (hps:T.ps=[a,b]):zet T 2=T.tx:=by
 (have h5:¬T.k=5:=by omega);(have h1:T.ps[0]?=some a:=by rw[hps];rfl);have h2:T.ps[1]?=some b:=by rw[hps];rfl
 have etx:T.tx=a.btx++bAr++b.tx:=by
  rw[T.tx_eq,if_neg tz1,if_neg tz1,if_neg tz1,if_pos hk,hps]
 rw[zcI h2,zcI h1,etx];simp only[zet,Nat.lt_irrefl,if_false,zjC,Nat.zero_lt_one,if_true];unfold sepT ptT Ty.btx brB;rw[if_neg h5,if_neg (show ¬(b.k=4/\(T.k=5\/1=0)) by omega)]
 by_cases ha:a.k=4
 (·rw[if_pos ⟨ha,.inr rfl⟩,if_pos (by simpa using ha)]);rw[if_neg fun h=>ha h.1,if_neg (by simpa using ha)]
theorem zh9 {T:Ty} (hk:T.k=5):∀s,s<T.ps.length->zet T (s+1)=zbv ((T.ps.take (s+1)).map Ty.btx) bSt
 | 0,h=>by
  obtain ⟨p,hp⟩:∃p,T.ps[0]?=some p:=⟨_,zb tz1⟩
  have e:T.ps.take 1=[p]:=by
   cases hps:T.ps with
   | nil=>rw[hps] at hp;cases hp
   | cons q qs=>rw[hps] at hp;cases hp;rfl
  rw[zcI hp,e]
  have h1:ptT T 0 p=p.btx:=by
   unfold ptT Ty.btx brB
   by_cases ha:p.k=4
   (·rw[if_pos ⟨ha,.inr rfl⟩,if_pos (by simpa using ha)]);rw[if_neg fun h=>ha h.1,if_neg (by simpa using ha)]
  rw[h1];simp only[zet,Nat.lt_irrefl,if_false,zjC,zk,zq];apply ByteArray.ext;show _=(Lib.join [p.btx.data.toList] bSt.data.toList).toArray
  rw[Lib.join_one]
 | s+1,h=>by
  obtain ⟨p,hp⟩:∃p,T.ps[s+1]?=some p:=⟨_,zb tz1⟩;have ih:=zh9 hk s tz1
  obtain ⟨q,qs,hq⟩:∃q qs,T.ps=q::qs:=by
   cases hps:T.ps with
   | nil=>rw[hps] at h;simp at h
   | cons q qs=>exact ⟨q,qs,rfl⟩
  (have hp2:qs[s]?=some p:=by rw[hq] at hp;simpa using hp);rw[zcI hp,ih]
  have h1:ptT T (s+1) p=p.btx:=by
   unfold ptT Ty.btx brB
   by_cases ha:p.k=4
   (·rw[if_pos ⟨ha,.inl hk⟩,if_pos (by simpa using ha)]);rw[if_neg fun h=>ha h.1,if_neg (by simpa using ha)]
  rw[h1,if_pos tz1];unfold sepT;rw[if_pos hk,hq];simp only[List.take_succ_cons];apply ByteArray.ext;apply Array.ext';have j1:=zjw q (qs.take s);have j2:=zjw q (qs.take (s+1));simp only[ByteArray.data_append,Array.toList_append];have e1:(zbv (List.map Ty.btx (q::List.take s qs)) bSt).data.toList=bl (zbv (List.map Ty.btx (q::List.take s qs)) bSt):=rfl;have e2:(zbv (List.map Ty.btx (q::List.take (s+1) qs)) bSt).data.toList=bl (zbv (List.map Ty.btx (q::List.take (s+1) qs)) bSt):=rfl;rw[e1,e2,j1,j2,List.take_add_one,hp2];simp[Lib.joinTail,bl]
theorem accT0 (T:Ty):zet T 0=⟨#[]⟩:=rfl
def preT (T:Ty) (s:Nat):ByteArray:=if 0<s then zet T s++sepT T else zet T s
theorem zay {T:Ty} {s:Nat} {p:Ty} (hp:T.ps[s]?=some p):zet T (s+1)=preT T s++ptT T s p:=zcI hp
theorem zeU:∀(ps:List Ty) (s:Nat),Ty.cntL (ps.take s)<=Ty.cntL ps
 | [],s=>by simp[Ty.cntL]
 | p::ps,0=>by simp[Ty.cntL]
 | p::ps,s+1=>by
  have:=zeU ps s;simp only[List.take_succ_cons,Ty.cntL];omega
theorem preT_size (T:Ty) (s:Nat):(preT T s).size<=(zet T s).size+4:=by
 have:=zfB T;unfold preT;split;(·rw[ByteArray.size_append];omega);omega
theorem text_end {T:Ty} (hr:T.right=true) (hk1:¬T.k=1) (hk2:¬T.k=2) (hk3:¬T.k=3):(T.k=5->bLp++zet T T.ps.length++bRp=T.tx)/\(¬T.k=5->zet T T.ps.length=T.tx):=by
 have hok:=zbW hr;constructor
 ·intro hk
  (have h2:2<=T.ps.length:=by omega);have h3:=zh9 hk (T.ps.length-1) tz1;rw[show T.ps.length-1+1=T.ps.length by omega,zw] at h3;rw[h3,T.tx_eq,if_neg hk1,if_neg hk2,if_neg hk3,if_neg tz1]
 intro hk;(have hk4:T.k=4:=by omega);obtain ⟨a,b,hps⟩:=zbh hr hk4;have h3:=accT_four hk4 hps;rw[hps];exact h3
theorem zlh {p:Prop} (h:p:=by exact Weak.mk (by simp only[go_sem,Le.refl,Le.any,LeL,and_self]) (fun _ _ h=>h) rfl rfl):p:=h
theorem zew:∀(T:Ty) (hr:T.right=true) (hc:T.cnt<=1048576),APure Tryz.prog 66 [.agg T.cells] (.v (.string T.tx)):=by
  refine Ty.ind fun T ih=>?_;intro hr hc;refine APure.mkL (.cons T.dataAgg .nil) (.v _) ?_;refine aIn Tryz.func66 fun hm=>?_;simp only[Tryz.ntmps66,Tryz.results66,go_sem,seval];have hcn:=T.cnt_eq;have hcl:=Ty.cntL_len T.ps;simp only[Ty.cells_eq T,zt,zD];have hgp0:=right_part hr;refine sqR fun _ u=>?_;refine chS 1 ?_;simp only[↓bO,go_sem,seval];apply u;refine zO fun _ u=>?_;refine sqR fun _ w=>?_;refine chS 1 ?_;simp only[↓bO,go_sem,seval];apply w;apply zV;refine sqR fun _ w=>?_;refine chS 1 ?_;simp only[↓bO,go_sem,seval];apply w;apply zP rfl <;> intro hb9
  ·
   (have hk1:T.k=1:=by simpa using hb9);have hvn:=right_var hr hk1;refine sqR fun _ w=>?_;(iterate 2 (refine chS 1 ?_));refine zN 1 fun _ y=>?_;simp only[↓bO,go_sem,seval];refine APure.call (by have h9:=zeq T.n.toNat tz1;rw[show ((T.n.toNat:Nat):Int)=T.n by omega] at h9;exact h9) ?_;apply y;clear y;simp only[↓bO,go_sem,seval];apply w;apply zR;(try simp only[go_sem]);refine Le.of_eq (congrArg (fun s=>AV.v (.string s)) ?_);rw[T.tx_eq,if_pos hk1]
  (have hk1:¬T.k=1:=by simpa using hb9);refine sqR fun _ w=>?_;refine chS 1 ?_;simp only[↓bO,go_sem,seval];apply w;apply zP rfl <;> intro hb14
  ·
   (have hk2:T.k=2:=by simpa using hb14);refine sqD ?_;apply zR;(try simp only[go_sem]);refine Le.of_eq (congrArg (fun s=>AV.v (.string s)) ?_);rw[T.tx_eq,if_neg hk1,if_pos hk2]
  (have hk2:¬T.k=2:=by simpa using hb14);refine sqR fun _ w=>?_;refine chS 1 ?_;simp only[↓bO,go_sem,seval];apply w;apply zP rfl <;> intro hb16
  ·
   (have hk3:T.k=3:=by simpa using hb16);refine sqD ?_;apply zR;(try simp only[go_sem]);refine Le.of_eq (congrArg (fun s=>AV.v (.string s)) ?_);rw[T.tx_eq,if_neg hk1,if_neg hk2,if_pos hk3]
  (have hk3:¬T.k=3:=by simpa using hb16);have hte:=text_end hr hk1 hk2 hk3;apply zS;apply u;refine sqR fun _ u=>?_;refine chS 1 ?_;simp only[↓bO,go_sem,seval];apply u;refine zaG (mB 68 26) ([(3,.v (.string (sepT T)))]) ([]) ?_ ?_
  ·
   refine sqR fun _ u=>?_;(iterate 2 (refine chS 1 ?_));simp only[↓bO,go_sem,seval];apply u;apply zP rfl <;> intro hb20
   ·
    apply zQ;simp only[↓bO,go_sem,seval];(try simp only[go_sem,seval]);unfold sepT;(first | rw[if_pos (show T.k=5 by simpa using hb20)] | rw[if_neg (show ¬T.k=5 by simpa using hb20)]);simp only[bSt,bAr];exact zlh
   apply zS;(try simp only[go_sem]);(try simp only[go_sem,seval]);unfold sepT;(first | rw[if_pos (show T.k=5 by simpa using hb20)] | rw[if_neg (show ¬T.k=5 by simpa using hb20)]);simp only[bSt,bAr];exact zlh
  simp only[go_sem,seval];refine zO fun _ u=>?_;refine sqD ?_;apply zV;refine zae (σ:=Nat) (mB 68 58) (fun s=>s<=T.ps.length) (fun s=>[(4,.v (.string (zet T s))),(5,.v (.int .i64 (s:Int)))]) (fun s=>[]) (fun s=>T.ps.length-s) 0 tz1 ?_ (fun s hs=>?_)
  ·
   (try simp only[go_sem,seval,accT0]);exact zaP
  simp only[go_sem,seval];have has:=ziq hr s hs;have htl:=zeU T.ps s;have hps2:=preT_size T s;have hse:=zfB T;have hz1:((((zet T s).size+(sepT T).size:Nat):Int)<=IntKind.i64.max)=True:=eq_true (by ( show (((zet T s).size+(sepT T).size:Nat):Int)<=9223372036854775807);omega);have hz4:((((#[40]:Array UInt8).size+(zet T s).size:Nat):Int)<=IntKind.i64.max)=True:=eq_true (by ( show ((1+(zet T s).size:Nat):Int)<=9223372036854775807);omega);have hz5:((((#[40]:Array UInt8).size+(zet T s).size+(#[41]:Array UInt8).size:Nat):Int)<=IntKind.i64.max)=True:=eq_true (by ( show ((1+(zet T s).size+1:Nat):Int)<=9223372036854775807);omega);refine zO fun _ w=>?_;refine sqR fun _ z=>?_;(iterate 4 (refine chS 1 ?_));simp only[↓bO,go_sem,seval];apply z;apply zP rfl <;> intro hb25
  ·
   (have hk:s<T.ps.length:=by (have h9:=hb25;simp at h9;omega));obtain ⟨p,hp⟩:∃p,T.ps[s]?=some p:=⟨_,zb hk⟩;have hgp:=hgp0 p (zh hp);have hpc:=zgf (zh hp);have hsp:=zco hgp;have hpz:=zkC T s p;have hw:IntKind.i64.wrap ((s:Int)+1)=(s:Int)+1:=z8 tz1 tz1;have hz2:((((#[40]:Array UInt8).size+p.tx.size:Nat):Int)<=IntKind.i64.max)=True:=eq_true (by ( show ((1+p.tx.size:Nat):Int)<=9223372036854775807);omega);have hz3:((((#[40]:Array UInt8).size+p.tx.size+(#[41]:Array UInt8).size:Nat):Int)<=IntKind.i64.max)=True:=eq_true (by ( show ((1+p.tx.size+1:Nat):Int)<=9223372036854775807);omega);have hz6:((((preT T s).size+(ptT T s p).size:Nat):Int)<=IntKind.i64.max)=True:=eq_true (by ( show (((preT T s).size+(ptT T s p).size:Nat):Int)<=9223372036854775807);omega);apply zS;apply w;refine zO fun _ w=>?_;apply zV;refine sqR fun _ z=>?_;(iterate 5 (refine chS 1 ?_ (by intro _ q;simp only[↓bO,go_sem,seval,hk,hz1,gM hp,hw,zay hp,hz2,hz3,hz6];exact q)));refine zN 1 fun _ y=>?_;simp only[↓bO,go_sem,seval,hk,hz1,gM hp,hw,zay hp,hz2,hz3,hz6];refine APure.call (ih p (zh hp) hgp tz1) ?_;apply y;clear y;simp only[↓bO,go_sem,seval,hk,hz1,gM hp,hw,zay hp,hz2,hz3,hz6];apply z;refine zaG (mB 68 122) ([(6,.v (.string (ptT T s p)))]) ([]) ?_ ?_
   ·
    refine sqR fun _ z=>?_;(iterate 8 (refine chS 1 ?_ (by intro _ q;simp only[↓bO,go_sem,seval,hk,hz1,gM hp,hw,zay hp,hz2,hz3,hz6];exact q)));refine zW 41 rfl (fun hc41=>?_) (fun hc41=>?_)
    ·
     simp only[go_sem];(have hp4:p.k=4:=by (have h9:=hc41;simp at h9;exact h9));(iterate 4 (refine chS 1 ?_ (by intro _ q;simp only[↓bO,go_sem,seval,hk,hz1,gM hp,hw,zay hp,hz2,hz3,hz6];exact q)));refine zW 45 rfl (fun hc45=>?_) (fun hc45=>?_)
     ·
      simp only[go_sem];(have hpt:ptT T s p=bLp++p.tx++bRp:=by (unfold ptT;rw[if_pos ⟨hp4,.inl (by have h9:=hc45;simp at h9;exact h9)⟩]));(iterate 3 (refine chS 1 ?_ (by intro _ q;simp only[↓bO,go_sem,seval,hk,hz1,gM hp,hw,zay hp,hz2,hz3,hz6];exact q)));simp only[↓bO,go_sem,seval,hk,hz1,gM hp,hw,zay hp,hz2,hz3,hz6];apply z;refine zP (b:=true) (by first | exact rfl | exact congrArg (fun b=>AV.v (.bool b)) hb49) (fun _=>?_) (fun h=>(by cases h));apply zQ;(iterate 3 (refine chS 1 ?_ (by intro _ q;simp only[↓bO,go_sem,seval,hk,hz1,gM hp,hw,zay hp,hz2,hz3,hz6];exact q)));simp only[↓bO,go_sem,seval,hk,hz1,gM hp,hw,zay hp,hz2,hz3,hz6];(try simp only[go_sem,seval]);rw[hpt];(try simp only[bLp,bRp]);exact zlh
     simp only[go_sem];(have hT5:¬T.k=5:=by (have h9:=hc45;simp at h9;exact h9));(iterate 3 (refine chS 1 ?_ (by intro _ q;simp only[↓bO,go_sem,seval,hk,hz1,gM hp,hw,zay hp,hz2,hz3,hz6];exact q)));simp only[↓bO,go_sem,seval,hk,hz1,gM hp,hw,zay hp,hz2,hz3,hz6];apply z;apply zP rfl <;> intro hb49
     ·
      (have hpt:ptT T s p=bLp++p.tx++bRp:=by (first | exact hpt | (unfold ptT;rw[if_pos ⟨hp4,.inr (by have h9:=hb49;simp at h9;exact h9)⟩])));apply zQ;(iterate 3 (refine chS 1 ?_ (by intro _ q;simp only[↓bO,go_sem,seval,hk,hz1,gM hp,hw,zay hp,hz2,hz3,hz6];exact q)));simp only[↓bO,go_sem,seval,hk,hz1,gM hp,hw,zay hp,hz2,hz3,hz6];(try simp only[go_sem,seval]);rw[hpt];(try simp only[bLp,bRp]);exact zlh
     (have hpt:ptT T s p=p.tx:=by (first | exact hpt | (unfold ptT;rw[if_neg fun h=>h.2.elim hT5 (by have h9:=hb49;simp at h9;exact h9)])));apply zS;(try simp only[go_sem]);(try simp only[go_sem,seval]);rw[hpt];(try simp only[bLp,bRp]);exact zlh
    simp only[go_sem];(have hpt:ptT T s p=p.tx:=by (unfold ptT;rw[if_neg fun h=>(show ¬p.k=4 by (have h9:=hc41;simp at h9;exact h9)) h.1]));(iterate 7 (refine chS 1 ?_ (by intro _ q;simp only[↓bO,go_sem,seval,hk,hz1,gM hp,hw,zay hp,hz2,hz3,hz6];exact q)));simp only[↓bO,go_sem,seval,hk,hz1,gM hp,hw,zay hp,hz2,hz3,hz6];apply z;refine zP (b:=false) (by first | exact rfl | exact congrArg (fun b=>AV.v (.bool b)) hb49) (fun h=>(by cases h)) (fun _=>?_);apply zS;(try simp only[go_sem]);(try simp only[go_sem,seval]);rw[hpt];(try simp only[bLp,bRp]);exact zlh
   simp only[go_sem,seval];refine zaG (mB 68 122) ([(4,.v (.string (preT T s)))]) ([]) ?_ ?_
   ·
    refine sqR fun _ z=>?_;refine chS 1 ?_ (by intro _ q;simp only[↓bO,go_sem,seval,hk,hz1,gM hp,hw,zay hp,hz2,hz3,hz6];exact q);simp only[↓bO,go_sem,seval,hk,hz1,gM hp,hw,zay hp,hz2,hz3,hz6];apply z;apply zP rfl <;> intro hb54
    ·
     apply zQ;(iterate 3 (refine chS 1 ?_ (by intro _ q;simp only[↓bO,go_sem,seval,hk,hz1,gM hp,hw,zay hp,hz2,hz3,hz6];exact q)));simp only[↓bO,go_sem,seval,hk,hz1,gM hp,hw,zay hp,hz2,hz3,hz6];(try simp only[go_sem,seval]);unfold preT;(first | rw[if_pos (show 0<s by (have h9:=hb54;simp at h9;omega))] | rw[if_neg (show ¬0<s by (have h9:=hb54;simp at h9;omega))]);exact zlh
    apply zS;(try simp only[go_sem]);(try simp only[go_sem,seval]);unfold preT;(first | rw[if_pos (show 0<s by (have h9:=hb54;simp at h9;omega))] | rw[if_neg (show ¬0<s by (have h9:=hb54;simp at h9;omega))]);exact zlh
   simp only[go_sem,seval];apply zQ;(iterate 3 (refine chS 1 ?_ (by intro _ q;simp only[↓bO,go_sem,seval,hk,hz1,gM hp,hw,zay hp,hz2,hz3,hz6];exact q)));simp only[↓bO,go_sem,seval,hk,hz1,gM hp,hw,zay hp,hz2,hz3,hz6];apply w;apply zQ;(iterate 2 (refine chS 1 ?_ (by intro _ q;simp only[↓bO,go_sem,seval,hk,hz1,gM hp,hw,zay hp,hz2,hz3,hz6];exact q)));simp only[↓bO,go_sem,seval,hk,hz1,gM hp,hw,zay hp,hz2,hz3,hz6];refine ⟨(s+1),tz1,by omega,?_⟩;simp only[go_sem,seval,hk,hz1,gM hp,hw,zay hp,hz2,hz3,hz6];(first | (refine Weak.drops 1 1 rfl rfl tz5 tz5 ?_ ?_ ?_) | (refine Weak.drops 0 1 rfl rfl tz5 tz5 ?_ ?_ ?_));(· simp only[go_sem,Le.refl,Le.any,za,Int.cast_ofNat_Int,zm]);(· simp only[UndL,UndOs,Ob.Und,and_true,true_and,and_self,Und.v,Und.any,Und.ptr,Und.map,Nat.reduceLT,zC,Und.tys,Und.tyAgg,Und.oslTys,Und.oslTys1,Und.clo0,Und.ty]);simp only[UndL,UndOs,Ob.Und,and_true,true_and,and_self,Und.v,Und.any,Und.ptr,Und.map,Nat.reduceLT,zC,Und.tys,Und.tyAgg,Und.oslTys,Und.oslTys1,Und.clo0,Und.ty]
  (have hk:s=T.ps.length:=by (have h9:=hb25;simp at h9;omega));apply zah;simp only[zag,z6,zY,bA,Nat.reduceEqDiff,↓reduceIte];apply u;refine zO fun _ u=>?_;refine sqR fun _ w=>?_;(iterate 2 (refine chS 1 ?_ (by intro _ q;simp only[↓bO,go_sem,seval,hz4,hz5];exact q)));simp only[↓bO,go_sem,seval,hz4,hz5];apply w;apply zP rfl <;> intro hb63
  ·
   refine sqR fun _ w=>?_;(iterate 3 (refine chS 1 ?_ (by intro _ q;simp only[↓bO,go_sem,seval,hz4,hz5];exact q)));simp only[↓bO,go_sem,seval,hz4,hz5];apply w;apply zR;(try simp only[go_sem]);refine Le.of_eq (congrArg (fun s=>AV.v (.string s)) ?_);subst hk;exact hte.1 (by simpa using hb63)
  apply zS;apply u;refine sqR fun _ u=>?_;refine chS 1 ?_ (by intro _ q;simp only[↓bO,go_sem,seval,hz4,hz5];exact q);simp only[↓bO,go_sem,seval,hz4,hz5];apply u;apply zR;(try simp only[go_sem]);refine Le.of_eq (congrArg (fun s=>AV.v (.string s)) ?_);subst hk;exact hte.2 (by simpa using hb63)
end Go.Proofs.YtkokfdmggdhfmaaGreatDoor
namespace Go.Proofs.YtkokfdmggdhfmaaGreatDoor
open Go Go.Shelf
def Tryz.lays103_ren:Go.Shelf.Ren:=⟨fun | 103=>183 | 210=>204 | 206=>191 | n=>n,fun | 9=>9 | 4=>4 | 24=>223 | 3=>3 | n=>n,fun | n=>n⟩
theorem Tryz.lays103:Go.Proofs.Lays.n103 Tryz.prog Tryz.lays103_ren:={
 mixed:=by kernel_rfl
 f103:=Tryz.func183.trans (congrArg some tz0)
 f206:=Tryz.func191.trans (congrArg some tz0)
 f210:=Tryz.func204.trans (congrArg some tz0)
 t3:=Tryz.underlying3
 a3:=Tryz.isAgg3
 z3:=Tryz.sizeOf3
 v3:=Tryz.zeroValue3
 t4:=Tryz.underlying4
 a4:=Tryz.isAgg4
 z4:=Tryz.sizeOf4
 v4:=Tryz.zeroValue4
 t9:=Tryz.underlying9
 a9:=Tryz.isAgg9
 z9:=Tryz.sizeOf9
 v9:=Tryz.zeroValue9
 t24:=Tryz.underlying223
 a24:=Tryz.isAgg223
 z24:=Tryz.sizeOf223
 v24:=Tryz.zeroValue223}
open Go.RowKit in
theorem Tryz.strings_CutPrefix (s p:ByteArray) (w:World) :
  Calls Tryz.prog 183 #[.string s,.string p] w fun e w'=>e=.returned (.tuple #[.string ⟨(Lib.trimPrefix s.data.toList p.data.toList).toArray⟩,.bool (Lib.hasPrefix s.data.toList p.data.toList)])/\w'=w:=Any.strings_CutPrefix Tryz.lays103 s p w
end Go.Proofs.YtkokfdmggdhfmaaGreatDoor
namespace Go.Proofs.YtkokfdmggdhfmaaGreatDoor
open Go Go.RowKit
attribute [local irreducible] aops zaK
def zdB (s p:ByteArray):ByteArray:=⟨(Lib.trimPrefix s.data.toList p.data.toList).toArray⟩
def zcv (s p:ByteArray):Bool:=Lib.hasPrefix s.data.toList p.data.toList
theorem zgr (s p:ByteArray):APure Tryz.prog 183 [.v (.string s),.v (.string p)] (.tup [.v (.string (zdB s p)),.v (.bool (zcv s p))]):=by
 refine APure.ofCalls ⟨_,Tryz.func183,by kernel_rfl,by kernel_rfl⟩ (.cons (.v _) (.cons (.v _) .nil)) (.tup (.cons (.v _) (.cons (.v _) .nil))) fun E A w vs hgl hA hr=>?_;obtain ⟨u,v,rfl,h1,h2⟩:=hr.two;(cases h1;cases h2);refine (Tryz.strings_CutPrefix s p w).mono ?_;rintro e w' ⟨rfl,rfl⟩;refine ⟨_,rfl,Below.refl _ _,.tup rfl fun i c u hc hu=>?_⟩
 match i,hc,hu with
 | 0,hc,hu=>cases hc;cases hu;exact .v _
 | 1,hc,hu=>cases hc;cases hu;exact .v _
theorem zi9 (n:Int) (h:¬(0<=n/\n<1073741824)):APure Tryz.prog 53 [.v (.int .i64 n)] (.v (.string ByteArray.empty)):=by
  refine APure.mkL (.cons (.v _) .nil) (.v _) ?_;refine aIn Tryz.func53 fun hm=>?_;simp only[Tryz.ntmps53,Tryz.results53,go_sem,seval];refine sqD ?_;refine zO fun _ y=>?_;refine sqR fun _ u=>?_;refine chS 1 ?_;refine zN 1 fun _ q=>?_;simp only[↓bO,go_sem,seval];refine APure.call (zer n) ?_;apply q;clear q;simp only[↓bO,go_sem,seval];apply u;apply zP rfl <;> intro hb6
  ·
   refine sqD ?_;apply zR;(try simp only[go_sem]);exact Le.of_eq rfl
  exact absurd hb6 tz7
def pC (s:ByteArray) (b:Bool):List AV:=[.v (.string s),.v (.bool b)]
def PCalls4 (f:Nat) (args:List AV) (s:ByteArray) (b:Bool) (R:AV) (s':ByteArray) (b':Bool):Prop :=
 ACalls Tryz.prog f args [(0,.cells 141 (pC s b))] 1 fun r os n=>(r=R/\os=[(0,.cells 141 (pC s' b'))])/\n=1
theorem PCalls4.at {f:Nat} {args args':List AV} {s s':ByteArray} {b b':Bool} {R:AV} (h:PCalls4 f args s b R s' b') {k:Nat} {os':Os} {nx':Nat} (hargs:RenL (zbB [k] nx') args args') (hR:Data R)
  (hk:zad os' k=some (.cells 141 (pC s b))) (lk:k<nx') {Q':AV->Os->Nat->Prop} (hq:Q' R (zaz os' k (.cells 141 (pC s' b'))) nx'):ACalls Tryz.prog f args' os' nx' Q':=by
 (have ren:∀s b,RenOs (zbB [k] nx') 0 [.cells 141 (pC s b)] [.cells 141 (pC s b)]:=fun s b=>⟨.cells ⟨.v _,.v _,trivial⟩,trivial⟩);refine ACalls.at (args:=args) (obs:=[.cells 141 (pC s b)]) (obs1:=[.cells 141 (pC s' b')]) (obs':=[.cells 141 (pC s b)]) (obs1':=[.cells 141 (pC s' b')]) [k] ?_ rfl rfl tz4 (by simpa using lk) hargs (.data hR) (ren s b) ⟨hk,trivial⟩ (ren s' b') hq;exact h.mono fun r os n ⟨⟨h1,h2⟩,h3⟩=>⟨h1,h2,h3⟩
theorem pUnd {n:Nat} (h:1<=n) (s:ByteArray) (b:Bool):UndOs n [(0,.cells 141 (pC s b))]:=⟨by omega,⟨.v _ _,.v _ _,trivial⟩,trivial⟩
theorem zfA (s t:ByteArray) (b:Bool):PCalls4 138 [.ptr 0 0,.v (.string t)] (s) (b) (.v (.bool (zcv s t))) (if zcv s t=true then zdB s t else s) (b):=by
  refine ACalls.clean (C:=fun r os'=>r=_/\os'=_) ?_;refine aIn Tryz.func138 fun hm=>?_;simp only[Tryz.ntmps138,Tryz.results138,go_sem,seval];refine sqR fun _ u=>?_;simp only[↓bO,go_sem,seval,pC];apply u;refine sqR fun _ u=>?_;(iterate 5 (refine chS 1 ?_ (by intro _ q;simp only[↓bO,go_sem,seval,pC];exact q)));refine zN 1 fun _ y=>?_;simp only[↓bO,go_sem,seval,pC];refine APure.call (zgr s t) ?_;(iterate 4 (apply y;clear y;refine zN 1 fun _ y=>?_;simp only[↓bO,go_sem,seval,pC]));apply y;clear y;simp only[↓bO,go_sem,seval,pC];apply u;refine zO fun _ u=>?_;refine sqR fun _ w=>?_;simp only[↓bO,go_sem,seval,pC];apply w;apply zP rfl <;> intro hb16
  ·
   have h6:zcv s t=true:=hb16;apply zQ;(iterate 4 (refine chS 1 ?_ (by intro _ q;simp only[↓bO,go_sem,seval,pC];exact q)));simp only[↓bO,go_sem,seval,pC];apply u;refine sqR fun _ u=>?_;refine chS 1 ?_ (by intro _ q;simp only[↓bO,go_sem,seval,pC];exact q);simp only[↓bO,go_sem,seval,pC];apply u;apply zR;(try simp only[go_sem]);rw[h6,if_pos rfl];refine ⟨_,_,⟨rfl,rfl⟩,.v _ _,pUnd tz1 _ _,?_,?_,by omega⟩;(· exact Le.refl _);first | exact ⟨0,rfl,rfl⟩ | exact ⟨1,rfl,rfl⟩ | exact ⟨2,rfl,rfl⟩ | exact ⟨3,rfl,rfl⟩
  have h6:zcv s t=false:=hb16;apply zS;apply u;refine sqR fun _ u=>?_;refine chS 1 ?_ (by intro _ q;simp only[↓bO,go_sem,seval,pC];exact q);simp only[↓bO,go_sem,seval,pC];apply u;apply zR;(try simp only[go_sem]);rw[h6,if_neg tz4];refine ⟨_,_,⟨rfl,rfl⟩,.v _ _,pUnd tz1 _ _,?_,?_,by omega⟩;(· exact Le.refl _);first | exact ⟨0,rfl,rfl⟩ | exact ⟨1,rfl,rfl⟩ | exact ⟨2,rfl,rfl⟩ | exact ⟨3,rfl,rfl⟩
def skF (s:ByteArray):Nat->Nat->Nat
 | 0,i=>i
 | f+1,i=>if i<s.size then (if blI (bt s i) then skF s f (i+1) else if bt s i=35 then skF s f (i+zdz s i (fun c=>c != 10)) else i) else i
theorem zjx {s:ByteArray} {f i:Nat} (h:¬i<s.size):skF s f i=i:=by cases f <;> simp[skF,h]
theorem skF_at {s:ByteArray} {f i:Nat} (hb:blI (bt s i)=false) (hc:¬bt s i=35):skF s f i=i:=by cases f <;> simp[skF,hb,hc]
theorem zfE {s:ByteArray} {f i:Nat} (hi:i<s.size) (hb:blI (bt s i)=true):skF s (f+1) i=skF s f (i+1):=by rw[skF,if_pos hi,if_pos hb]
theorem zkm {s:ByteArray} {f i:Nat} (hi:i<s.size) (hb:blI (bt s i)=false) (hc:bt s i=35):skF s (f+1) i=skF s f (i+zdz s i (fun c=>c != 10)):=by rw[skF,if_pos hi,if_neg (by simp[hb]),if_pos hc]
theorem zjS {s:ByteArray} {i:Nat} (hi:i<s.size) (hc:bt s i=35):0<zdz s i (fun c=>c != 10)/\i+zdz s i (fun c=>c != 10)<=s.size:=⟨zkH (p:=fun c=>c != 10) hi (by rw[hc];decide),zha s i (fun c=>c != 10) tz1⟩
theorem zfl {s:ByteArray}:∀(f g i:Nat),s.size-i<f->s.size-i<g->skF s f i=skF s g i
 | 0,_,_,h,_=>by omega
 | _,0,_,_,h=>by omega
 | f+1,g+1,i,hf,hg=>by
  by_cases hi:i<s.size
  ·by_cases hb:blI (bt s i)=true
   (·rw[zfE hi hb,zfE hi hb];exact zfl f g (i+1) tz1 tz1);have hb:blI (bt s i)=false:=by simpa using hb
   by_cases hc:bt s i=35
   ·have:=zjS hi hc
    rw[zkm hi hb hc,zkm hi hb hc];exact zfl f g _ tz1 tz1
   rw[skF_at hb hc,skF_at hb hc]
  rw[zjx hi,zjx hi]
def skA (s:ByteArray) (i:Nat):Nat:=skF s (s.size-i+1) i
theorem skA_end {s:ByteArray} {i:Nat} (h:¬i<s.size):skA s i=i:=zjx h
theorem skA_at {s:ByteArray} {i:Nat} (hb:blI (bt s i)=false) (hc:¬bt s i=35):skA s i=i:=skF_at hb hc
theorem skA_blank {s:ByteArray} {i:Nat} (hi:i<s.size) (hb:blI (bt s i)=true):skA s (i+1)=skA s i:=by
 unfold skA;rw[zfE hi hb];exact zfl _ _ _ tz1 tz1
theorem skA_rem {s:ByteArray} {i:Nat} (hi:i<s.size) (hb:blI (bt s i)=false) (hc:bt s i=35):skA s (i+zdz s i (fun c=>c != 10))=skA s i:=by
 have:=zjS hi hc;unfold skA;rw[zkm hi hb hc];exact zfl _ _ _ tz1 tz1
theorem skA_ind {s:ByteArray} {C:Nat->Prop} (hb:∀i,i<s.size->blI (bt s i)=true->C (i+1)->C i) (hr:∀i,i<s.size->blI (bt s i)=false->bt s i=35->C (i+zdz s i (fun c=>c != 10))->C i)
  (he:∀i,¬i<s.size->C i) (ha:∀i,i<s.size->blI (bt s i)=false->¬bt s i=35->C i):∀i,C i:=by
 have key:∀m i,s.size-i<=m->C i:=by
  intro m
  induction m with
  | zero=>intro i h;exact he i tz1
  | succ m ih =>
   intro i h
   by_cases hi:i<s.size
   ·by_cases h1:blI (bt s i)=true
    (·exact hb i hi h1 (ih _ tz1));have h1:blI (bt s i)=false:=by simpa using h1
    by_cases h2:bt s i=35
    ·have:=zjS hi h2
     exact hr i hi h1 h2 (ih _ tz1)
    exact ha i hi h1 h2
   exact he i hi
 intro i;exact key _ i (zy _)
def Wk (s:ByteArray) (RES:List Tok×Int×Int) (i:Nat) (out:List Tok):Prop:=∃f,WS.ok s RES ⟨f,i,out⟩
theorem Wk.skip {s:ByteArray} {RES:List Tok×Int×Int}:∀i out,Wk s RES i out->Wk s RES (skA s i) out:=skA_ind (s:=s) (C:=fun i=>∀out,Wk s RES i out->Wk s RES (skA s i) out)
 (fun i hi h1 h out hw=>by obtain ⟨f,hw⟩:=hw;rw[<- skA_blank hi h1];exact h out ⟨_,hw.blank hi h1⟩) (fun i hi h1 h2 h out hw=>by obtain ⟨f,hw⟩:=hw;rw[<- skA_rem hi h1 h2];exact h out ⟨_,hw.rem hi h1 h2 rfl⟩)
 (fun i hi out hw=>by rw[skA_end hi];exact hw) (fun i hi h1 h2 out hw=>by rw[skA_at h1 h2];exact hw)
theorem Wk.bnd {s:ByteArray} {RES:List Tok×Int×Int} {i:Nat} {out:List Tok} (h:Wk s RES i out):i<=s.size/\out.length<=i:=by
 obtain ⟨f,h⟩:=h;exact h.2.2
def dv (s:ByteArray):Nat->Int
 | 0=>0
 | k+1=>10 * dv s k+(bt s (2+k)-48)
def zhw (s:ByteArray) (k:Nat):Bool:=dgI (bt s (2+k))&&!(k==0&&bt s 2==48)
theorem dgOk_dg {s:ByteArray} {k:Nat} (h:zhw s k=true):48<=bt s (2+k)/\bt s (2+k)<=57:=by
 unfold zhw dgI at h;simp only[zl,zg] at h;exact h.1
theorem zjG {s:ByteArray} {k:Nat} (h1:¬bt s (2+k)<48) (h2:¬bt s (2+k) > 57) (h3:k=0->¬bt s (2+k)=48):zhw s k=true:=by
 unfold zhw dgI;have e1:decide (48<=bt s (2+k)/\bt s (2+k)<=57)=true:=decide_eq_true ⟨by omega,by omega⟩;rw[e1]
 cases k with
 | zero=>have:=h3 rfl;simpa using this
 | succ k=>simp
theorem dg_bad {s:ByteArray} {k:Nat} (h:bt s (2+k)<48\/bt s (2+k) > 57\/(k=0/\bt s (2+k)=48)):zhw s k=false:=by
 unfold zhw dgI;(rcases h with h | h | ⟨rfl,h⟩);(·rw[show decide (48<=bt s (2+k)/\bt s (2+k)<=57)=false from decide_eq_false fun h9=>by omega];rfl);(·rw[show decide (48<=bt s (2+k)/\bt s (2+k)<=57)=false from decide_eq_false fun h9=>by omega];rfl);have h9:bt s 2=48:=h;simp[h9]
theorem dv_bnd (s:ByteArray):∀k,(∀j,j<k->zhw s j=true)->0<=dv s k/\dv s k<10 ^ k
 | 0,_=>by simp[dv]
 | k+1,h=>by
  (have h1:=dv_bnd s k fun j hj=>h j tz1);have h2:=dgOk_dg (h k tz1);rw[dv,Int.pow_succ];omega
theorem dv_bnd10 {s:ByteArray} {k:Nat} (hk:k<=10) (h:∀j,j<k->zhw s j=true):0<=dv s k/\dv s k<10000000000:=by
 have h1:=dv_bnd s k h;(have h2:(10:Int) ^ k<=10 ^ 10:=by exact_mod_cast Nat.pow_le_pow_right tz3 hk);(have h3:(10:Int) ^ 10=10000000000:=by decide);omega
abbrev nuP (s:ByteArray):Prop:=2<=s.size/\s.size<=12/\bt s 0=39/\97<=bt s 1/\bt s 1<=122
def nuR (s:ByteArray):Int :=
 if nuP s/\((List.range (s.size-2)).all fun j=>zhw s j)=true then
  (if 26 * dv s (s.size-2)+bt s 1-97<1073741824 then 26 * dv s (s.size-2)+bt s 1-97 else -1)
 else -1
theorem nu_no {s:ByteArray} (h:¬nuP s):nuR s=-1:=by unfold nuR;rw[if_neg fun h9=>h h9.1]
theorem nu_bad {s:ByteArray} {k:Nat} (hk:k<s.size-2) (h:zhw s k=false):nuR s=-1:=by
 unfold nuR
 rw[if_neg fun h9=>by
  have h1:=zF.1 h9.2 k (List.mem_range.2 hk)
  rw[h] at h1;cases h1]
theorem ziT {s:ByteArray} (hp:nuP s) (h:∀j,j<s.size-2->zhw s j=true):nuR s=if 26 * dv s (s.size-2)+bt s 1-97<1073741824 then 26 * dv s (s.size-2)+bt s 1-97 else -1:=by
 unfold nuR;rw[if_pos ⟨hp,zF.2 fun j hj=>h j (List.mem_range.1 hj)⟩]
theorem ziU (s:ByteArray) (hs:s.size<=1048576):APure Tryz.prog 141 [.v (.string s)] (.v (.int .i64 (nuR s))):=by
  refine APure.mkL (.cons (.v _) .nil) (.v _) ?_;refine aIn Tryz.func141 fun hm=>?_;simp only[Tryz.ntmps141,Tryz.results141,go_sem,seval];have hb0:=za8 s 0;have hb1:=za8 s 1;have hc0:((((s[0]?).getD 0).toNat:Nat):Int)=bt s 0:=rfl;(have hv1:IntKind.i64.wrap (bt s 1)=bt s 1:=by (rw[z8 tz1 tz1]));have hc1:((((s[1]?).getD 0).toNat:Nat):Int)=bt s 1:=rfl;refine sqR fun _ y=>?_;simp only[↓bO,go_sem,seval,hc0,hc1,hv1];apply y;refine zO fun _ y=>?_;refine sqR fun _ u=>?_;(iterate 4 (refine chS 1 ?_ (by intro _ q;simp only[↓bO,go_sem,seval,hc0,hc1,hv1];exact q)));refine zW 8 rfl (fun hc8=>?_) (fun hc8=>?_)
  ·
   simp only[go_sem];(have hnp:¬nuP s:=by (unfold nuP;rintro ⟨g1,g2,g3,g4,g5⟩;have h9:=hc8;simp at h9;omega));(iterate 18 (refine chS 1 ?_ (by intro _ q;simp only[↓bO,go_sem,seval,hc0,hc1,hv1];exact q)));simp only[↓bO,go_sem,seval,hc0,hc1,hv1];apply u;refine zP (b:=true) (by first | exact rfl | exact congrArg (fun b=>AV.v (.bool b)) hb27) (fun _=>?_) (fun h=>(by cases h));refine sqR fun _ u=>?_;simp only[↓bO,go_sem,seval,hc0,hc1,hv1];apply u;apply zR;(try simp only[go_sem]);refine Le.of_eq (congrArg (fun n=>AV.v (.int .i64 n)) ?_);exact (nu_no hnp).symm
  simp only[go_sem];(have h2:2<=s.size:=by (have h9:=hc8;simp at h9;omega));have hl0:((0:Int)<(s.size:Int))=True:=eq_true tz1;have hl1:((1:Int)<(s.size:Int))=True:=eq_true tz1;(iterate 5 (refine chS 1 ?_ (by intro _ q;simp only[↓bO,go_sem,seval,hc0,hc1,hv1,hl0,hl1];exact q)));refine zW 13 rfl (fun hc13=>?_) (fun hc13=>?_)
  ·
   simp only[go_sem];(have hnp:¬nuP s:=by (unfold nuP;rintro ⟨g1,g2,g3,g4,g5⟩;have h9:=hc13;simp at h9;omega));(iterate 13 (refine chS 1 ?_ (by intro _ q;simp only[↓bO,go_sem,seval,hc0,hc1,hv1,hl0,hl1];exact q)));simp only[↓bO,go_sem,seval,hc0,hc1,hv1,hl0,hl1];apply u;refine zP (b:=true) (by first | exact rfl | exact congrArg (fun b=>AV.v (.bool b)) hb27) (fun _=>?_) (fun h=>(by cases h));refine sqR fun _ u=>?_;simp only[↓bO,go_sem,seval,hc0,hc1,hv1,hl0,hl1];apply u;apply zR;(try simp only[go_sem]);refine Le.of_eq (congrArg (fun n=>AV.v (.int .i64 n)) ?_);exact (nu_no hnp).symm
  simp only[go_sem];(have h12:s.size<=12:=by (have h9:=hc13;simp at h9;omega));(iterate 5 (refine chS 1 ?_ (by intro _ q;simp only[↓bO,go_sem,seval,hc0,hc1,hv1,hl0,hl1];exact q)));refine zW 18 rfl (fun hc18=>?_) (fun hc18=>?_)
  ·
   simp only[go_sem];(have hnp:¬nuP s:=by (unfold nuP;rintro ⟨g1,g2,g3,g4,g5⟩;have h9:=hc18;simp at h9;omega));(iterate 8 (refine chS 1 ?_ (by intro _ q;simp only[↓bO,go_sem,seval,hc0,hc1,hv1,hl0,hl1];exact q)));simp only[↓bO,go_sem,seval,hc0,hc1,hv1,hl0,hl1];apply u;refine zP (b:=true) (by first | exact rfl | exact congrArg (fun b=>AV.v (.bool b)) hb27) (fun _=>?_) (fun h=>(by cases h));refine sqR fun _ u=>?_;simp only[↓bO,go_sem,seval,hc0,hc1,hv1,hl0,hl1];apply u;apply zR;(try simp only[go_sem]);refine Le.of_eq (congrArg (fun n=>AV.v (.int .i64 n)) ?_);exact (nu_no hnp).symm
  simp only[go_sem];(have h39:bt s 0=39:=by (have h9:=hc18;simp at h9;omega));(iterate 5 (refine chS 1 ?_ (by intro _ q;simp only[↓bO,go_sem,seval,hc0,hc1,hv1,hl0,hl1];exact q)));refine zW 23 rfl (fun hc23=>?_) (fun hc23=>?_)
  ·
   simp only[go_sem];(have hnp:¬nuP s:=by (unfold nuP;rintro ⟨g1,g2,g3,g4,g5⟩;have h9:=hc23;simp at h9;omega));(iterate 3 (refine chS 1 ?_ (by intro _ q;simp only[↓bO,go_sem,seval,hc0,hc1,hv1,hl0,hl1];exact q)));simp only[↓bO,go_sem,seval,hc0,hc1,hv1,hl0,hl1];apply u;refine zP (b:=true) (by first | exact rfl | exact congrArg (fun b=>AV.v (.bool b)) hb27) (fun _=>?_) (fun h=>(by cases h));refine sqR fun _ u=>?_;simp only[↓bO,go_sem,seval,hc0,hc1,hv1,hl0,hl1];apply u;apply zR;(try simp only[go_sem]);refine Le.of_eq (congrArg (fun n=>AV.v (.int .i64 n)) ?_);exact (nu_no hnp).symm
  simp only[go_sem];(have h97:97<=bt s 1:=by (have h9:=hc23;simp at h9;omega));(iterate 3 (refine chS 1 ?_ (by intro _ q;simp only[↓bO,go_sem,seval,hc0,hc1,hv1,hl0,hl1];exact q)));simp only[↓bO,go_sem,seval,hc0,hc1,hv1,hl0,hl1];apply u;apply zP rfl <;> intro hb27
  ·
   (have hnp:¬nuP s:=by (unfold nuP;rintro ⟨g1,g2,g3,g4,g5⟩;have h9:=hb27;simp at h9;omega));refine sqR fun _ u=>?_;simp only[↓bO,go_sem,seval,hc0,hc1,hv1,hl0,hl1];apply u;apply zR;(try simp only[go_sem]);refine Le.of_eq (congrArg (fun n=>AV.v (.int .i64 n)) ?_);exact (nu_no hnp).symm
  have hnp:nuP s:=⟨h2,h12,h39,h97,by (have h9:=hb27;simp at h9;omega)⟩;apply zS;apply y;refine sqR fun _ y=>?_;simp only[↓bO,go_sem,seval,hc0,hc1,hv1,hl0,hl1];apply y;refine zO fun _ y=>?_;refine sqR fun _ u=>?_;simp only[↓bO,go_sem,seval,hc0,hc1,hv1,hl0,hl1];apply u;apply zV;refine zae (σ:=Nat) (mB 72 25) (fun k=>2+k<=s.size/\∀j,j<k->zhw s j=true) (fun k=>[(3,.v (.int .i64 (dv s k))),(4,.v (.int .i64 ((2+k:Nat):Int)))]) (fun k=>[]) (fun k=>s.size-(2+k)) 0 (⟨hnp.1,fun j hj=>by omega⟩) ?_ (fun k hk=>?_)
  ·
   (try simp only[go_sem,seval,dv]);exact zaP
  simp only[go_sem,seval];have hkb:=dv_bnd10 (s:=s) (k:=k) (by have:=hnp.2.1;omega) hk.2;have hbk:=za8 s (2+k);have hck:((((s[2+k]?).getD 0).toNat:Nat):Int)=bt s (2+k):=rfl;(have hw1:IntKind.i64.wrap (((2+k:Nat):Int)+1)=((2+(k+1):Nat):Int):=by (rw[z8 tz1 tz1];omega));(have hvk:IntKind.i64.wrap (bt s (2+k))=bt s (2+k):=by (rw[z8 tz1 tz1]));(have hw2:IntKind.i64.wrap (10 * dv s k)=10 * dv s k:=by (rw[z8 tz1 tz1]));(have hw3:IntKind.i64.wrap (10 * dv s k+bt s (2+k))=10 * dv s k+bt s (2+k):=by (rw[z8 tz1 tz1]));(have hw4:IntKind.i64.wrap (10 * dv s k+bt s (2+k)-48)=10 * dv s k+(bt s (2+k)-48):=by (rw[z8 tz1 tz1];omega));refine zO fun _ u=>?_;refine sqR fun _ w=>?_;(iterate 3 (refine chS 1 ?_ (by intro _ q;simp only[↓bO,go_sem,seval,hc0,hc1,hv1,hck,hvk,hw1,hw2,hw3,hw4,dv,hl0,hl1];exact q)));simp only[↓bO,go_sem,seval,hc0,hc1,hv1,hck,hvk,hw1,hw2,hw3,hw4,dv,hl0,hl1];apply w;apply zP rfl <;> intro hb31
  ·
   (have hlt:2+k<s.size:=by (have h9:=hb31;simp at h9;omega));apply zS;apply u;refine zO fun _ u=>?_;apply zV;refine zO fun _ w=>?_;refine sqR fun _ z=>?_;(iterate 5 (refine chS 1 ?_ (by intro _ q;simp only[↓bO,go_sem,seval,hc0,hc1,hv1,hck,hvk,hw1,hw2,hw3,hw4,dv,hl0,hl1,hlt];exact q)));refine zW 38 rfl (fun hc38=>?_) (fun hc38=>?_)
   ·
    simp only[go_sem];have hbad:zhw s k=false:=dg_bad (.inl (by have h9:=hc38;simp at h9;omega));(iterate 14 (refine chS 1 ?_ (by intro _ q;simp only[↓bO,go_sem,seval,hc0,hc1,hv1,hck,hvk,hw1,hw2,hw3,hw4,dv,hl0,hl1,hlt];exact q)));simp only[↓bO,go_sem,seval,hc0,hc1,hv1,hck,hvk,hw1,hw2,hw3,hw4,dv,hl0,hl1,hlt];apply z;refine zP (b:=true) (by first | exact rfl | exact congrArg (fun b=>AV.v (.bool b)) hb53) (fun _=>?_) (fun h=>(by cases h));refine sqR fun _ z=>?_;simp only[↓bO,go_sem,seval,hc0,hc1,hv1,hck,hvk,hw1,hw2,hw3,hw4,dv,hl0,hl1,hlt];apply z;apply zR;(try simp only[go_sem]);refine Le.of_eq (congrArg (fun n=>AV.v (.int .i64 n)) ?_);exact (nu_bad tz1 hbad).symm
   simp only[go_sem];(have h48:¬bt s (2+k)<48:=by (have h9:=hc38;simp at h9;omega));(iterate 6 (refine chS 1 ?_ (by intro _ q;simp only[↓bO,go_sem,seval,hc0,hc1,hv1,hck,hvk,hw1,hw2,hw3,hw4,dv,hl0,hl1,hlt];exact q)));refine zW 44 rfl (fun hc44=>?_) (fun hc44=>?_)
   ·
    simp only[go_sem];have hbad:zhw s k=false:=dg_bad (.inr (.inl (by have h9:=hc44;simp at h9;omega)));(iterate 8 (refine chS 1 ?_ (by intro _ q;simp only[↓bO,go_sem,seval,hc0,hc1,hv1,hck,hvk,hw1,hw2,hw3,hw4,dv,hl0,hl1,hlt];exact q)));simp only[↓bO,go_sem,seval,hc0,hc1,hv1,hck,hvk,hw1,hw2,hw3,hw4,dv,hl0,hl1,hlt];apply z;refine zP (b:=true) (by first | exact rfl | exact congrArg (fun b=>AV.v (.bool b)) hb53) (fun _=>?_) (fun h=>(by cases h));refine sqR fun _ z=>?_;simp only[↓bO,go_sem,seval,hc0,hc1,hv1,hck,hvk,hw1,hw2,hw3,hw4,dv,hl0,hl1,hlt];apply z;apply zR;(try simp only[go_sem]);refine Le.of_eq (congrArg (fun n=>AV.v (.int .i64 n)) ?_);exact (nu_bad tz1 hbad).symm
   simp only[go_sem];(have h57:¬bt s (2+k) > 57:=by (have h9:=hc44;simp at h9;omega));(iterate 3 (refine chS 1 ?_ (by intro _ q;simp only[↓bO,go_sem,seval,hc0,hc1,hv1,hck,hvk,hw1,hw2,hw3,hw4,dv,hl0,hl1,hlt];exact q)));refine zW 47 rfl (fun hc47=>?_) (fun hc47=>?_)
   ·
    simp only[go_sem];(have hk0:k=0:=by (have h9:=hc47;simp at h9;omega));(iterate 5 (refine chS 1 ?_ (by intro _ q;simp only[↓bO,go_sem,seval,hc0,hc1,hv1,hck,hvk,hw1,hw2,hw3,hw4,dv,hl0,hl1,hlt];exact q)));simp only[↓bO,go_sem,seval,hc0,hc1,hv1,hck,hvk,hw1,hw2,hw3,hw4,dv,hl0,hl1,hlt];apply z;apply zP rfl <;> intro hb53
    ·
     have hbad:zhw s k=false:=dg_bad (.inr (.inr ⟨hk0,by have h9:=hb53;simp at h9;omega⟩));refine sqR fun _ z=>?_;simp only[↓bO,go_sem,seval,hc0,hc1,hv1,hck,hvk,hw1,hw2,hw3,hw4,dv,hl0,hl1,hlt];apply z;apply zR;(try simp only[go_sem]);refine Le.of_eq (congrArg (fun n=>AV.v (.int .i64 n)) ?_);exact (nu_bad tz1 hbad).symm
    (have hn48:¬bt s (2+k)=48:=by (have h9:=hb53;simp at h9;omega));apply zS;apply w;apply zQ;(iterate 8 (refine chS 1 ?_ (by intro _ q;simp only[↓bO,go_sem,seval,hc0,hc1,hv1,hck,hvk,hw1,hw2,hw3,hw4,dv,hl0,hl1,hlt];exact q)));simp only[↓bO,go_sem,seval,hc0,hc1,hv1,hck,hvk,hw1,hw2,hw3,hw4,dv,hl0,hl1,hlt];apply u;apply zQ;(iterate 2 (refine chS 1 ?_ (by intro _ q;simp only[↓bO,go_sem,seval,hc0,hc1,hv1,hck,hvk,hw1,hw2,hw3,hw4,dv,hl0,hl1,hlt];exact q)));simp only[↓bO,go_sem,seval,hc0,hc1,hv1,hck,hvk,hw1,hw2,hw3,hw4,dv,hl0,hl1,hlt];refine ⟨(k+1),⟨by omega,fun j hj=>(by rcases zH j k with h3 | h3 <;> first | exact hk.2 j h3 | (obtain rfl:j=k:=tz1;exact zjG h48 h57 (fun _=>hn48)))⟩,by omega,?_⟩;(try simp only[go_sem,seval,hck,hvk,hw1,hw2,hw3,hw4,dv,hl0,hl1,hlt]);exact zaP
   simp only[go_sem];(have hk0:¬k=0:=by (have h9:=hc47;simp at h9;omega));(iterate 5 (refine chS 1 ?_ (by intro _ q;simp only[↓bO,go_sem,seval,hc0,hc1,hv1,hck,hvk,hw1,hw2,hw3,hw4,dv,hl0,hl1,hlt];exact q)));simp only[↓bO,go_sem,seval,hc0,hc1,hv1,hck,hvk,hw1,hw2,hw3,hw4,dv,hl0,hl1,hlt];apply z;refine zP (b:=false) (by first | exact rfl | exact congrArg (fun b=>AV.v (.bool b)) hb53) (fun h=>(by cases h)) (fun _=>?_);apply zS;apply w;apply zQ;(iterate 8 (refine chS 1 ?_ (by intro _ q;simp only[↓bO,go_sem,seval,hc0,hc1,hv1,hck,hvk,hw1,hw2,hw3,hw4,dv,hl0,hl1,hlt];exact q)));simp only[↓bO,go_sem,seval,hc0,hc1,hv1,hck,hvk,hw1,hw2,hw3,hw4,dv,hl0,hl1,hlt];apply u;apply zQ;(iterate 2 (refine chS 1 ?_ (by intro _ q;simp only[↓bO,go_sem,seval,hc0,hc1,hv1,hck,hvk,hw1,hw2,hw3,hw4,dv,hl0,hl1,hlt];exact q)));simp only[↓bO,go_sem,seval,hc0,hc1,hv1,hck,hvk,hw1,hw2,hw3,hw4,dv,hl0,hl1,hlt];refine ⟨(k+1),⟨by omega,fun j hj=>(by rcases zH j k with h3 | h3 <;> first | exact hk.2 j h3 | (obtain rfl:j=k:=tz1;exact zjG h48 h57 (fun h=>absurd h hk0)))⟩,by omega,?_⟩;(try simp only[go_sem,seval,hck,hvk,hw1,hw2,hw3,hw4,dv,hl0,hl1,hlt]);exact zaP
  (have hge:¬2+k<s.size:=by (have h9:=hb31;simp at h9;omega));(have hke:s.size-2=k:=by omega);(have hw5:IntKind.i64.wrap (26 * dv s k)=26 * dv s k:=by (rw[z8 tz1 tz1]));(have hw6:IntKind.i64.wrap (26 * dv s k+bt s 1)=26 * dv s k+bt s 1:=by (rw[z8 tz1 tz1]));(have hw7:IntKind.i64.wrap (26 * dv s k+bt s 1-97)=26 * dv s k+bt s 1-97:=by (rw[z8 tz1 tz1]));apply zah;simp only[zag,z6,zY,bA,Nat.reduceEqDiff,↓reduceIte];apply y;refine sqR fun _ y=>?_;(iterate 7 (refine chS 1 ?_ (by intro _ q;simp only[↓bO,go_sem,seval,hc0,hc1,hv1,hl0,hl1,hw5,hw6,hw7];exact q)));simp only[↓bO,go_sem,seval,hc0,hc1,hv1,hl0,hl1,hw5,hw6,hw7];apply y;refine zO fun _ y=>?_;refine sqR fun _ u=>?_;refine chS 1 ?_ (by intro _ q;simp only[↓bO,go_sem,seval,hc0,hc1,hv1,hl0,hl1,hw5,hw6,hw7];exact q);simp only[↓bO,go_sem,seval,hc0,hc1,hv1,hl0,hl1,hw5,hw6,hw7];apply u;apply zP rfl <;> intro hb70
  ·
   have h70:26 * dv s k+bt s 1-97>=1073741824:=of_decide_eq_true hb70;refine sqR fun _ u=>?_;simp only[↓bO,go_sem,seval,hc0,hc1,hv1,hl0,hl1,hw5,hw6,hw7];apply u;apply zR;(try simp only[go_sem]);refine Le.of_eq (congrArg (fun n=>AV.v (.int .i64 n)) ?_);rw[ziT hnp (fun j hj=>hk.2 j tz1),hke,if_neg tz1]
  have h70:¬26 * dv s k+bt s 1-97>=1073741824:=of_decide_eq_false hb70;apply zS;apply y;refine sqR fun _ y=>?_;refine chS 1 ?_ (by intro _ q;simp only[↓bO,go_sem,seval,hc0,hc1,hv1,hl0,hl1,hw5,hw6,hw7];exact q);simp only[↓bO,go_sem,seval,hc0,hc1,hv1,hl0,hl1,hw5,hw6,hw7];apply y;apply zR;(try simp only[go_sem]);refine Le.of_eq (congrArg (fun n=>AV.v (.int .i64 n)) ?_);rw[ziT hnp (fun j hj=>hk.2 j tz1),hke,if_pos tz1]
end Go.Proofs.YtkokfdmggdhfmaaGreatDoor
namespace Go.Proofs.YtkokfdmggdhfmaaGreatDoor
open Go Go.RowKit
open Go.Lib (decDigits decFrom digitVal)
theorem digVal {d:Nat} (h:d<10):digitVal (UInt8.ofNat (48+d))=some d:=by
 (have e:(UInt8.ofNat (48+d)).toNat=48+d:=by simp;omega);unfold digitVal;rw[e,if_pos ⟨by omega,by omega⟩];congr 1;omega
theorem ze6 {l:List UInt8} {a n d:Nat} {c:UInt8} (h:decFrom a l=some n) (hc:digitVal c=some d):decFrom a (l++[c])=some (n * 10+d):=by
 have h1:=Lib.decFrom_take (l++[c]) l.length a n c d (by rw[List.take_left'];exact h;rfl) tz4 hc
 rwa [show l.length+1=(l++[c]).length by simp,zw] at h1
theorem zdk {n:Nat} (h:¬n<10):decDigits n=decDigits (n / 10)++[UInt8.ofNat (48+n % 10)]:=by rw[decDigits,dif_neg h]
theorem dec_val:∀n:Nat,decFrom 0 (decDigits n)=some n:=by
 intro n
 induction n using Nat.strongRecOn with
 | _ n ih =>
  by_cases h:n<10
  ·rw[Lib.decDigits_one h]
   simp only[decFrom,digVal h];simp
  rw[zdk h,ze6 (ih (n / 10) tz1) (digVal tz1)];congr 1;omega
theorem zhc (n:Nat):decDigits n≠[]:=by
 by_cases h:n<10
 (·rw[Lib.decDigits_one h];simp);rw[zdk h];simp
theorem zjs:∀(k n:Nat),n<10 ^ (k+1)->(decDigits n).length<=k+1
 | 0,n,h=>by rw[Lib.decDigits_one (by simpa using h)];simp
 | k+1,n,h=>by
  by_cases h9:n<10
  (·rw[Lib.decDigits_one h9];simp);rw[zdk h9];have:=zjs k (n / 10) (by rw[Nat.pow_succ] at h;omega);simp only[zd,zx,zu];omega
theorem dec_back:∀(k:Nat) (l:List UInt8),l.length=k->l≠[]->(∀c∈l,48<=c.toNat/\c.toNat<=57)->l.head?≠some 48->∃v,decFrom 0 l=some v/\decDigits v=l/\1<=v:=by
 intro k
 induction k with
 | zero=>intro l h h1;exact absurd (zL h) h1
 | succ k ih =>
  intro l hl h1 hd hh;obtain ⟨l',c,rfl⟩:∃l' c,l=l'++[c]:=⟨l.dropLast,l.getLast h1,(List.dropLast_concat_getLast h1).symm⟩;have hc:=hd c tz4;have hlt:c.toNat-48<10:=by omega
  have ec:UInt8.ofNat (48+(c.toNat-48))=c:=by
   apply UInt8.toNat_inj.1;simp;omega
  have hcv:=digVal hlt;rw[ec] at hcv
  by_cases h0:l'=[]
  ·subst h0
   refine ⟨c.toNat-48,?_,?_,?_⟩;(·simp only[zD,decFrom,hcv];simp);(·rw[Lib.decDigits_one hlt,ec];rfl);rcases Nat.eq_zero_or_pos (c.toNat-48) with h | h
   ·exfalso;apply hh
    simp only[zD,List.head?_cons];(congr 1;apply UInt8.toNat_inj.1);show c.toNat=48;omega
   exact h
  obtain ⟨v,g1,g2,g3⟩:=ih l' (by simpa using hl) h0 (fun x hx=>hd x (by simp[hx])) (by
   cases l' with
   | nil=>exact absurd rfl h0
   | cons a r=>simpa using hh)
  refine ⟨v * 10+(c.toNat-48),ze6 g1 hcv,?_,by omega⟩;rw[zdk tz1,show (v * 10+(c.toNat-48)) / 10=v by omega,show (v * 10+(c.toNat-48)) % 10=c.toNat-48 by omega,g2,ec]
theorem zd6:∀n:Nat,∀c∈decDigits n,48<=c.toNat/\c.toNat<=57:=by
 intro n
 induction n using Nat.strongRecOn with
 | _ n ih =>
  intro c hc
  have key:∀d:Nat,d<10->48<=(UInt8.ofNat (48+d)).toNat/\(UInt8.ofNat (48+d)).toNat<=57:=fun d hd=>by
   (have e:(UInt8.ofNat (48+d)).toNat=48+d:=by simp;omega);omega
  by_cases h:n<10
  ·rw[Lib.decDigits_one h] at hc
   obtain rfl:=List.mem_singleton.1 hc;exact key n h
  rw[zdk h] at hc;(rcases List.mem_append.1 hc with hc | hc);(·exact ih (n / 10) tz1 c hc);obtain rfl:=List.mem_singleton.1 hc;exact key (n % 10) tz1
theorem dec_head:∀n:Nat,1<=n->(decDigits n).head?≠some 48:=by
 intro n
 induction n using Nat.strongRecOn with
 | _ n ih =>
  intro h1
  by_cases h:n<10
  ·rw[Lib.decDigits_one h]
   intro h9;(have h9:UInt8.ofNat (48+n)=48:=by simpa using h9);have h8:=congrArg UInt8.toNat h9;(have e:(UInt8.ofNat (48+n)).toNat=48+n:=by simp;omega);rw[e] at h8;have:(48:UInt8).toNat=48:=rfl;omega
  rw[zdk h];have:=ih (n / 10) tz1 tz1
  cases hd:decDigits (n / 10) with
  | nil=>exact absurd hd (zhc _)
  | cons a r=>rw[hd] at this;simpa using this
theorem atoi_dec {n:Nat} (h:n<100000000):Lib.atoiAll (decDigits n)=.ok (n:Int):=by
  have hl:=zjs 8 n (Nat.lt_trans h (by decide))
  rw[Lib.atoiAll_short _ tz1];have hv:=dec_val n
  cases hd:decDigits n with
  | nil=>exact absurd hd (zhc n)
  | cons c r =>
    have hc:=zd6 n c (by rw[hd];simp);(have h1:¬c=45:=fun e=>by rw[e] at hc;exact absurd hc.1 tz3);(have h2:¬c=43:=fun e=>by rw[e] at hc;exact absurd hc.1 tz3);rw[hd] at hv;simp only[Lib.atoi,beq_iff_eq,h1,h2,if_false,Lib.decNat,List.isEmpty_cons,zA,hv,Option.map_some,Lib.NumEnd.ofOption]
theorem bl_itB (n:Nat):bl (itB (n:Int))=decDigits n:=by
 (show (Lib.itoa (n:Int)).toArray.toList=_);rw[Lib.itoa_nonneg]
theorem zds {n:Nat} (h:n<26):bl (nmB (n:Int))=[39,UInt8.ofNat (97+n)]:=by
 rw[nmB_one h];have h1:=ziY ⟨n % 26,by omega⟩;have h2:=enc26 ⟨n % 26,by omega⟩;(simp only at h1 h2);rw[h1,h2,show n % 26=n by omega];rfl
theorem zdv {n:Nat} (h:¬n<26):bl (nmB (n:Int))=39::UInt8.ofNat (97+n % 26)::decDigits (n / 26):=by
 rw[zkN h];have h1:=ziY ⟨n % 26,by omega⟩;have h2:=enc26 ⟨n % 26,by omega⟩;(simp only at h1 h2);rw[h1,h2,zaj,bl_itB];rfl
theorem zb5 {a b:ByteArray} (h:bl a=bl b):a=b:=ByteArray.ext (Array.ext' h)
theorem zcA {s:ByteArray} {i:Nat} {c:UInt8} (h:(bl s)[i]?=some c):bt s i=c.toNat:=by
 (have hi:i<s.size:=by rw[<- zan];exact (zf.1 h).1);have h1:=zfw hi;unfold bt;rw[show s.data.toList=bl s from rfl,h] at h1;rw[<- Option.some.inj h1]
theorem two_bytes {s:ByteArray} (h:2<=s.size):∃a c ds,bl s=a::c::ds:=by
 have hl:=zan s
 match hb:bl s with
 | []=>rw[hb] at hl;simp at hl;omega
 | [_]=>rw[hb] at hl;simp at hl;omega
 | a::c::ds=>exact ⟨a,c,ds,rfl⟩
section
variable {s:ByteArray} {a c:UInt8} {ds:List UInt8}
theorem dg_iff (h:bl s=a::c::ds):(∀j,j<s.size-2->zhw s j=true)↔(∀x∈ds,48<=x.toNat/\x.toNat<=57)/\ds.head?≠some 48:=by
 (have hsz:s.size=2+ds.length:=by rw[<- zan,h];simp;omega);(have hat:∀j x,ds[j]?=some x->bt s (2+j)=x.toNat:=fun j x hx=>zcA (by rw[h,Nat.add_comm];simpa using hx));constructor
 ·intro hj
  constructor
  ·intro x hx
   obtain ⟨j,hjl,rfl⟩:=List.mem_iff_getElem.1 hx;have h1:=dgOk_dg (hj j tz1);rw[hat j _ (zb hjl)] at h1;omega
  intro hh
  cases ds with
  | nil=>cases hh
  | cons x r =>
   (have hh:x=48:=by simpa using hh);subst hh;have h1:=hj 0 (by simp at hsz;omega);have h2:=hat 0 48 rfl;have e:((48:UInt8).toNat:Int)=48:=rfl;rw[e] at h2;unfold zhw at h1;have h3:bt s 2=48:=h2;rw[h3] at h1;simp at h1
 rintro ⟨h1,h2⟩ j hj;(have hjl:j<ds.length:=by omega);have h3:=hat j _ (zb hjl);have h4:=h1 _ (List.getElem_mem hjl);(refine zjG tz1 tz1 fun hj0 h5=>h2 ?_);subst hj0;rw[List.head?_eq_getElem?,zb hjl];(congr 1);apply UInt8.toNat_inj.1;have e:(48:UInt8).toNat=48:=rfl;omega
theorem dv_dec (h:bl s=a::c::ds) (hd:∀x∈ds,48<=x.toNat/\x.toNat<=57):∀k,k<=ds.length->∃v:Nat,decFrom 0 (ds.take k)=some v/\dv s k=v
 | 0,_=>⟨0,rfl,rfl⟩
 | k+1,hk=>by
  obtain ⟨v,h1,h2⟩:=dv_dec h hd k tz1;have h3:=hd _ (List.getElem_mem (show k<ds.length by omega));(have h4:digitVal ds[k]=some (ds[k].toNat-48):=by unfold digitVal;rw[if_pos h3]);refine ⟨v * 10+(ds[k].toNat-48),Lib.decFrom_take ds k 0 v _ _ h1 (zb tz1) h4,?_⟩;have h5:bt s (2+k)=ds[k].toNat:=zcA (by rw[h,Nat.add_comm];simp);rw[dv,h2,h5];omega
end
theorem zkZ {n:Nat} (hn:n<1073741824):nuR (nmB (n:Int))=n:=by
 have h39:((39:UInt8).toNat:Int)=39:=rfl;have hc:∀m:Nat,m<26->((UInt8.ofNat (97+m)).toNat:Int)=97+m:=fun m hm=>by simp;omega
 by_cases h:n<26
 ·have hb:=zds h
  (have hsz:(nmB (n:Int)).size=2:=by rw[<- zan,hb];rfl);have b0:=zcA (s:=nmB (n:Int)) (i:=0) (c:=39) (by rw[hb];rfl);have b1:=zcA (s:=nmB (n:Int)) (i:=1) (c:=UInt8.ofNat (97+n)) (by rw[hb];rfl);rw[h39] at b0;rw[hc n h] at b1;rw[ziT ⟨by omega,by omega,b0,by omega,by omega⟩ (fun j hj=>by omega),hsz,b1,show dv (nmB (n:Int)) (2-2)=0 from rfl,if_pos tz1];omega
 have hb:=zdv h
 have hq:n / 26<100000000:=by omega
 have hl:=zjs 8 (n / 26) (Nat.lt_trans hq (by decide))
 have hp:=zhc (n / 26);(have hsz:(nmB (n:Int)).size=2+(decDigits (n / 26)).length:=by rw[<- zan,hb];simp;omega);have b0:=zcA (s:=nmB (n:Int)) (i:=0) (c:=39) (by rw[hb];rfl);have b1:=zcA (s:=nmB (n:Int)) (i:=1) (c:=UInt8.ofNat (97+n % 26)) (by rw[hb];rfl);rw[h39] at b0;rw[hc _ tz1] at b1;have hg:=(dg_iff hb).2 ⟨zd6 _,dec_head _ tz1⟩;obtain ⟨v,h1,h2⟩:=dv_dec hb (zd6 _) _ (zy _);rw[zw,dec_val] at h1;obtain rfl:=Option.some.inj h1;(have e:(nmB (n:Int)).size-2=(decDigits (n / 26)).length:=by omega);rw[ziT ⟨by omega,by omega,b0,by omega,by omega⟩ hg,e,h2,b1,if_pos tz1];omega
theorem nm_nuR {s:ByteArray} (h:0<=nuR s):nuR s<1073741824/\nmB (nuR s)=s:=by
 by_cases hp:nuP s/\((List.range (s.size-2)).all fun j=>zhw s j)=true
 ·have hg:∀j,j<s.size-2->zhw s j=true:=fun j hj=>zF.1 hp.2 j (List.mem_range.2 hj)
  have hy:=ziT hp.1 hg;obtain ⟨p1,p2,p3,p4,p5⟩:=hp.1;obtain ⟨a,c,ds,hb⟩:=two_bytes p1;have b0:=zcA (s:=s) (i:=0) (c:=a) (by rw[hb];rfl);have b1:=zcA (s:=s) (i:=1) (c:=c) (by rw[hb];rfl);(have ha:a=39:=by apply UInt8.toNat_inj.1;show a.toNat=39;omega);(have hsz:s.size=2+ds.length:=by rw[<- zan,hb];simp;omega);have hd:=(dg_iff hb).1 hg;obtain ⟨v,h1,h2⟩:=dv_dec hb hd.1 _ (zy _);rw[zw] at h1;rw[show s.size-2=ds.length by omega,h2] at hy;split at hy
  ·rename_i hlt
   (have hn:nuR s=((26 * v+(c.toNat-97):Nat):Int):=by rw[hy];omega);refine ⟨by rw[hy];omega,?_⟩;rw[hn];(have ec:∀m,m=c.toNat-97->UInt8.ofNat (97+m)=c:=fun m hm=>by apply UInt8.toNat_inj.1;simp;omega);apply zb5
   cases hds:ds with
   | nil =>
    rw[hds] at h1;obtain rfl:0=v:=by simpa [decFrom] using h1
    rw[zds tz1,hb,hds,ha,ec _ tz1]
   | cons x r =>
    obtain ⟨v2,g1,g2,g3⟩:=dec_back _ ds rfl (by rw[hds];simp) hd.1 hd.2;obtain rfl:v=v2:=Option.some.inj (h1.symm.trans g1);rw[zdv tz1,show (26 * v+(c.toNat-97)) / 26=v by omega,show (26 * v+(c.toNat-97)) % 26=c.toNat-97 by omega,g2,hb,ha,ec _ rfl]
  rw[hy] at h;omega
 unfold nuR at h;rw[if_neg hp] at h;omega
end Go.Proofs.YtkokfdmggdhfmaaGreatDoor
namespace Go.Proofs.YtkokfdmggdhfmaaGreatDoor
open Go Go.RowKit
abbrev PwR:=Ty×ByteArray×Bool
def zcL (c:Int):Bool:=decide (c=39\/(97<=c/\c<=122)\/(48<=c/\c<=57))
def zbV (s:ByteArray):Int:=if 0<=nuR s then nuR s else 0
def zcE (s:ByteArray):PwR:=(.mk 1 (zbV (s.extract 0 (zdz s 0 zcL))) [],s.extract (zdz s 0 zcL) s.size,!decide (0<=nuR (s.extract 0 (zdz s 0 zcL))))
def zcD (W:ByteArray->PwR):Nat->List Ty->ByteArray->Bool->List Ty×ByteArray×Bool
 | 0,acc,s,b=>(acc,s,b)
 | n+1,acc,s,b=>if b=false/\zcv s bSt=true then zcD W n (acc++[(W (zdB s bSt)).1]) (W (zdB s bSt)).2.1 (W (zdB s bSt)).2.2 else (acc,s,b)
def zi1 (l:List Ty):Ty:=match l with
 | [t]=>t
 | l=>.mk 5 0 l
def zfp (r:List Ty×ByteArray×Bool):PwR:=(zi1 r.1,if r.2.2=false/\zcv r.2.1 bRp=true then zdB r.2.1 bRp else r.2.1,!decide (r.2.2=false/\zcv r.2.1 bRp=true))
def zbQ (W:ByteArray->PwR) (s:ByteArray):PwR:=zfp (zcD W (s.size+1) [(W s).1] (W s).2.1 (W s).2.2)
def zbf (W:ByteArray->PwR) (s:ByteArray):PwR :=
 if zcv s zgi=true then (.mk 2 0 [],zdB s zgi,false) else if zcv s zca=true then (.mk 3 0 [],zdB s zca,false)
 else if zcv s bLp=true then zbQ W (zdB s bLp) else zcE s
def zci (W:ByteArray->PwR) (r:PwR):PwR:=if r.2.2=false/\zcv r.2.1 bAr=true then (.mk 4 0 [r.1,(W (zdB r.2.1 bAr)).1],(W (zdB r.2.1 bAr)).2) else r
def pwF:Nat->ByteArray->PwR
 | 0,s=>(.mk 0 0 [],s,true)
 | f+1,s=>zci (pwF f) (zbf (pwF f) s)
theorem bl_cutP (s p:ByteArray):bl (zdB s p)=if zcv s p=true then (bl s).drop p.size else bl s:=by
 (show (Lib.trimPrefix (bl s) (bl p))=_);unfold Lib.trimPrefix zcv;rw[<- zan]
theorem zfh {s p:ByteArray}:zcv s p=true↔∃r,s=p++r:=by
 unfold zcv Lib.hasPrefix;rw[List.isPrefixOf_iff_prefix];constructor
 ·rintro ⟨r,hr⟩
  refine ⟨⟨r.toArray⟩,zb5 ?_⟩;rw[zaj];exact hr.symm
 rintro ⟨r,rfl⟩;exact ⟨bl r,(zaj p r).symm⟩
theorem zce (p r:ByteArray):zcv (p++r) p=true:=zfh.2 ⟨r,rfl⟩
theorem zcN (p r:ByteArray):zdB (p++r) p=r:=by
 apply zb5;rw[bl_cutP,if_pos (zce p r),zaj,<- zan,List.drop_left'];rfl
theorem zbk {s p:ByteArray} (h:zcv s p=true):(zdB s p).size+p.size=s.size:=by
 obtain ⟨r,rfl⟩:=zfh.1 h;rw[zcN,ByteArray.size_append];omega
theorem zcp {s p:ByteArray} (hp:bl p≠[]) (h:(bl s).head?≠(bl p).head?):zcv s p=false:=by
 rw[Bool.eq_false_iff];intro h9;obtain ⟨r,rfl⟩:=zfh.1 h9;apply h;rw[zaj]
 cases hb:bl p with
 | nil=>exact absurd hb hp
 | cons a l=>rfl
def PwB (s:ByteArray) (r:PwR):Prop:=r.1.cnt+2 * r.2.1.size<=2 * s.size+1
theorem PwB.le {s:ByteArray} {r:PwR} (h:PwB s r):r.2.1.size<=s.size:=by
 have:=zhj r.1;unfold PwB at h;omega
theorem zct (s:ByteArray) {a b:Nat} (h:a<=b) (h2:b<=s.size):(s.extract a b).size=b-a:=by
 rw[ByteArray.size_extract];omega
theorem zl2 (s:ByteArray):PwB s (zcE s):=by
 have h:=zha s 0 zcL tz1;unfold PwB zcE;rw[zbq,zct s tz1 (zy _)];simp only[Ty.cntL];omega
theorem zjm (l:List Ty) (t:Ty):Ty.cntL (l++[t])=Ty.cntL l+t.cnt:=by
 induction l with
 | nil=>simp[Ty.cntL]
 | cons x l ih=>simp only[zt,Ty.cntL,ih];omega
theorem za9:bSt.size=3:=rfl
theorem zck:bAr.size=4:=rfl
theorem zcM:bLp.size=1:=rfl
theorem zeg:bRp.size=1:=rfl
section
variable {W:ByteArray->PwR}
theorem zgH {N:Nat} (hW:∀x,PwB x (W x)):∀(n:Nat) (acc:List Ty) (s:ByteArray) (b:Bool),Ty.cntL acc+2 * s.size<=N ->
  Ty.cntL (zcD W n acc s b).1+2 * (zcD W n acc s b).2.1.size<=N
 | 0,acc,s,b,h=>h
 | n+1,acc,s,b,h=>by
  rw[zcD];split
  ·rename_i hc
   refine zgH hW n _ _ _ ?_;have h1:=hW (zdB s bSt);have h2:=zbk hc.2;unfold PwB at h1;rw[zjm];rw[za9] at h2;omega
  exact h
theorem pwOne_cnt (l:List Ty):(zi1 l).cnt<=1+Ty.cntL l:=by
 unfold zi1;split;(·simp[Ty.cntL]);rw[zbq];exact zy _
theorem pwEnd_bnd {N:Nat} {r:List Ty×ByteArray×Bool} (h:Ty.cntL r.1+2 * r.2.1.size<=N):(zfp r).1.cnt+2 * (zfp r).2.1.size<=N+1:=by
 have h1:=pwOne_cnt r.1;unfold zfp;dsimp only;split
 ·rename_i hc
  have h2:=zbk hc.2;omega
 omega
theorem zjY (hW:∀x,PwB x (W x)) (s:ByteArray):(zbQ W s).1.cnt+2 * (zbQ W s).2.1.size<=2 * s.size+2:=by
 have h1:=hW s;unfold PwB at h1;exact pwEnd_bnd (zgH hW _ _ _ _ (by simp only[Ty.cntL];omega))
theorem zgV (hW:∀x,PwB x (W x)) (s:ByteArray):PwB s (zbf W s):=by
 unfold zbf;split
 ·rename_i h
  have:=zbk h;unfold PwB;rw[zbq];simp only[Ty.cntL];omega
 split
 ·rename_i h
  have:=zbk h;unfold PwB;rw[zbq];simp only[Ty.cntL];omega
 split
 ·rename_i h
  have h1:=zbk h;have h2:=zjY hW (zdB s bLp);rw[zcM] at h1;unfold PwB;omega
 exact zl2 s
theorem zlt (hW:∀x,PwB x (W x)) {s:ByteArray} {r:PwR} (h:PwB s r):PwB s (zci W r):=by
 unfold zci;split
 ·rename_i hc
  have h1:=zbk hc.2;have h2:=hW (zdB r.2.1 bAr);rw[zck] at h1;unfold PwB at h h2 ⊢;rw[zbq];simp only[Ty.cntL];omega
 exact h
end
theorem zdQ:∀(f:Nat) (s:ByteArray),PwB s (pwF f s)
 | 0,s=>by unfold PwB pwF;rw[zbq];simp only[Ty.cntL];omega
 | f+1,s=>by rw[pwF];exact zlt (zdQ f) (zgV (zdQ f) s)
def OkH (r:ByteArray):Prop:=(bl r).head?=none\/(bl r).head?=some 41\/(bl r).head?=some 32
theorem pw_in {c:UInt8} (h:c=39\/(97<=c.toNat/\c.toNat<=122)\/(48<=c.toNat/\c.toNat<=57)):zcL c.toNat=true:=by
 unfold zcL;rw[zg];(rcases h with rfl | h | h);(·exact .inl rfl);(·exact .inr (.inl tz1));exact .inr (.inr tz1)
theorem zff {n:Nat} (hn:n<1073741824):∀c∈bl (nmB (n:Int)),zcL c.toNat=true:=by
 (have h1:∀m,m<26->zcL (UInt8.ofNat (97+m)).toNat=true:=fun m hm=>pw_in (.inr (.inl tz7)));intro c hc
 by_cases h:n<26
 ·rw[zds h] at hc
  simp only[zK,List.not_mem_nil,or_false] at hc;(rcases hc with rfl | rfl);(·rfl);exact h1 n h
 rw[zdv h] at hc;simp only[zK] at hc;(rcases hc with rfl | rfl | hc);(·rfl);(·exact h1 _ tz1);exact pw_in (.inr (.inr (zd6 _ c hc)))
theorem zhT (n:Nat) (hn:n<1073741824):(bl (nmB (n:Int))).head?=some 39:=by
 by_cases h:n<26
 (·rw[zds h];rfl);rw[zdv h];rfl
theorem pw_run {x r:ByteArray} (hx:∀c∈bl x,zcL c.toNat=true) (hr:OkH r):zdz (x++r) 0 zcL=x.size:=by
 unfold zdz;(show (((bl (x++r)).drop 0).takeWhile fun b=>zcL b.toNat).length=x.size);rw[List.drop_zero,zaj,List.takeWhile_append_of_pos hx,zd,zan]
 have h:(bl r).takeWhile (fun b=>zcL b.toNat)=[]:=by
  cases hb:bl r with
  | nil=>rfl
  | cons c l =>
   unfold OkH at hr;rw[hb] at hr
   have h2:zcL c.toNat=false:=by
    (rcases hr with h | h | h);·cases h
    ·obtain rfl:c=41:=by simpa using h
     rfl
    (obtain rfl:c=32:=by simpa using h);rfl
   rw[List.takeWhile_cons,if_neg (by simp[h2])]
 rw[h];rfl
theorem ex_left (x r:ByteArray):(x++r).extract 0 x.size=x:=by
 apply zb5;have h:=zix (s:=x++r) (P:=[]) (X:=bl x) (S:=bl r) (by rw[zaj];rfl);simp only[zu,zz,zan] at h;rw[h]
theorem zfg (x r:ByteArray):(x++r).extract x.size (x++r).size=r:=by
 apply zb5;have h:=zix (s:=x++r) (P:=bl x) (X:=bl r) (S:=[]) (by rw[zaj];simp);simp only[zan] at h;rw[ByteArray.size_append,h]
theorem pwName_nm {n:Nat} (hn:n<1073741824) {r:ByteArray} (hr:OkH r):zcE (nmB (n:Int)++r)=(.mk 1 n [],r,false):=by
 unfold zcE;rw[pw_run (zff hn) hr,ex_left,zfg];unfold zbV;rw[zkZ hn,if_pos tz1,decide_eq_true (by omega:(0:Int)<=(n:Int))];rfl
def jt:List Ty->ByteArray
 | []=>ByteArray.empty
 | p::ps=>bSt++(p.btx++jt ps)
theorem ze0:bl ByteArray.empty=[]:=rfl
theorem jt_bl:∀ps:List Ty,bl (jt ps)=Lib.joinTail (bl bSt) ((ps.map Ty.btx).map bl)
 | []=>rfl
 | p::ps=>by rw[jt,zaj,zaj,jt_bl ps,zk,zk,zho]
theorem zfW (p:Ty) (ps:List Ty):zbv ((p::ps).map Ty.btx) bSt=p.btx++jt ps:=by
 apply zb5;rw[zjw,zaj,jt_bl]
theorem zbs (a b c:ByteArray):a++b++c=a++(b++c):=by
 apply zb5;simp only[zaj,List.append_assoc]
theorem okH_jt (ps:List Ty) (r:ByteArray):OkH (jt ps++(bRp++r)):=by
 unfold OkH
 cases ps with
 | nil=>right;left;rw[zaj,zaj];rfl
 | cons p ps=>right;right;rw[jt,zaj,zaj];rfl
theorem zfZ {a r:ByteArray} {c:UInt8} (h:(bl a).head?=some c):(bl (a++r)).head?=some c:=by
 rw[zaj]
 cases hb:bl a with
 | nil=>rw[hb] at h;cases h
 | cons x l=>rw[hb] at h;exact h
theorem noAr_jt (ps:List Ty) (r:ByteArray):zcv (jt ps++(bRp++r)) bAr=false:=by
 cases ps with
 | nil =>
  refine zcp tz3 ?_;rw[jt,zaj,zaj,ze0];show some (41:UInt8)≠some 32
  decide
 | cons p ps =>
  rw[Bool.eq_false_iff];intro h;obtain ⟨x,hx⟩:=zfh.1 h;have h1:=congrArg bl hx;simp only[jt,zbs,zaj] at h1;have e1:bl bSt=[32,42,32]:=rfl;have e2:bl bAr=[32,45,62,32]:=rfl;rw[e1,e2] at h1;simp at h1
section
variable {f:Nat}
def PwA (T:Ty):Prop:=∀(f:Nat) (r:ByteArray),T.btx.size<=f->OkH r->zbf (pwF f) (T.btx++r)=(T,r,false)
def PwT (T:Ty):Prop:=∀(f:Nat) (r:ByteArray),T.tx.size<f->OkH r->zcv r bAr=false->pwF f (T.tx++r)=(T,r,false)
theorem tail_no {W:ByteArray->PwR} {T:Ty} {r:ByteArray} (h:zcv r bAr=false):zci W (T,r,false)=(T,r,false):=by
 unfold zci;rw[if_neg fun h9=>by rw[h] at h9;cases h9.2]
theorem PwA.whole {T:Ty} (h:PwA T) {f:Nat} {r:ByteArray} (hf:T.btx.size<f) (hr:OkH r) (hn:zcv r bAr=false):pwF f (T.btx++r)=(T,r,false):=by
 obtain ⟨g,rfl⟩:∃g,f=g+1:=⟨f-1,by omega⟩;rw[pwF,h g r tz1 hr,tail_no hn]
theorem rest_jt {f:Nat} {r:ByteArray}:∀(ps:List Ty) (acc:List Ty) (n:Nat),(∀p∈ps,PwA p)->(∀p∈ps,p.btx.size<f)->ps.length<n->zcD (pwF f) n acc (jt ps++(bRp++r)) false=(acc++ps,bRp++r,false)
 | [],acc,n,_,_,hn=>by
  obtain ⟨m,rfl⟩:∃m,n=m+1:=⟨n-1,by omega⟩
  have h:zcv (jt []++(bRp++r)) bSt=false:=by
   refine zcp tz3 ?_;rw[jt,zaj,zaj,ze0];(show some (41:UInt8)≠some 32);decide
  rw[zcD,if_neg fun h9=>(by rw[h] at h9;cases h9.2),List.append_nil];have e9:jt []++(bRp++r)=bRp++r:=by apply zb5;rw[jt,zaj,ze0];rfl
  rw[e9]
 | p::ps,acc,n,h1,h2,hn=>by
  obtain ⟨m,rfl⟩:∃m,n=m+1:=⟨n-1,by omega⟩;(have e:jt (p::ps)++(bRp++r)=bSt++(p.btx++(jt ps++(bRp++r))):=by rw[jt];simp only[zbs]);have h3:=(h1 p tz4).whole (f:=f) (r:=jt ps++(bRp++r)) (h2 p tz4) (okH_jt ps r) (noAr_jt ps r);rw[e,zcD,if_pos ⟨rfl,zce _ _⟩,zcN,h3];rw[rest_jt ps _ m (fun q hq=>h1 q (by simp[hq])) (fun q hq=>h2 q (by simp[hq])) (by simpa using hn),List.append_assoc];rfl
theorem head_lp (W:ByteArray->PwR) (s:ByteArray):zbf W (bLp++s)=zbQ W s:=by
 have h0:(bl (bLp++s)).head?=some 40:=zfZ rfl;unfold zbf;rw[if_neg (by rw[zcp tz3 (by rw[h0];decide)];simp),if_neg (by rw[zcp tz3 (by rw[h0];decide)];simp),if_pos (zce _ _),zcN]
theorem end_rp (l:List Ty) (r:ByteArray):zfp (l,bRp++r,false)=(zi1 l,r,false):=by
 unfold zfp;dsimp only;rw[if_pos ⟨rfl,zce _ _⟩,zcN,decide_eq_true ⟨rfl,zce _ _⟩];rfl
theorem okH_rp (r:ByteArray):OkH (bRp++r):=.inr (.inl (zfZ rfl))
theorem noAr_rp (r:ByteArray):zcv (bRp++r) bAr=false:=zcp tz3 (by rw[zfZ (c:=41) rfl];decide)
theorem noSt_rp (r:ByteArray):zcv (bRp++r) bSt=false:=zcp tz3 (by rw[zfZ (c:=41) rfl];decide)
theorem PwT.brack {T:Ty} (h:PwT T) {f:Nat} {r:ByteArray} (hf:T.tx.size<f):zbf (pwF f) (bLp++T.tx++bRp++r)=(T,r,false):=by
 (have e:bLp++T.tx++bRp++r=bLp++(T.tx++(bRp++r)):=by simp only[zbs]);rw[e,head_lp];unfold zbQ;rw[h f (bRp++r) hf (okH_rp r) (noAr_rp r)];dsimp only;rw[zcD,if_neg fun h9=>(by rw[noSt_rp] at h9;cases h9.2),end_rp];rfl
theorem zeZ {ps:List Ty} {p:Ty} (h:p∈ps):p.btx.size<=(zbv (ps.map Ty.btx) bSt).size:=by
 have key:∀(qs:List Ty),p∈qs->p.btx.size<=(jt qs).size:=by
  intro qs
  induction qs with
  | nil=>intro h;cases h
  | cons q qs ih =>
   intro h;rw[jt,ByteArray.size_append,ByteArray.size_append];(rcases zK.1 h with rfl | h);(·omega);have:=ih h;omega
 cases ps with
 | nil=>cases h
 | cons q qs =>
  rw[zfW,ByteArray.size_append];(rcases zK.1 h with rfl | h);(·omega);have:=key qs h;omega
theorem jt_len:∀ps:List Ty,ps.length<=(jt ps).size
 | []=>by simp
 | p::ps=>by
  have:=jt_len ps;rw[jt,ByteArray.size_append,ByteArray.size_append,za9];simp only[zx];omega
theorem zch (T:Ty):T=.mk T.k T.n T.ps:=by cases T;rfl
theorem pw_all:∀T:Ty,T.right=true->PwA T/\PwT T:=by
 refine Ty.ind fun T ih=>?_;intro hr;have hok:=zbW hr;have hp:=right_part hr
 have fromA:¬T.k=4->PwA T->PwA T/\PwT T:=fun h4 hA=>⟨hA,fun f r hf hrr hn=>by
  have hb:=zd1 h4;have:=hA.whole (f:=f) (r:=r) (by rw[hb];exact hf) hrr hn
  rwa [hb] at this⟩
 by_cases h1:T.k=1
 ·refine fromA tz1 fun f r hf hrr=>?_
  have hv:=right_var hr h1;(have e0:T.tx=nmB T.n:=by rw[T.tx_eq,if_pos h1]);(have e1:((T.n.toNat:Nat):Int)=T.n:=by omega);have hps:T.ps=[]:=zL tz1;have hd:(bl (nmB T.n++r)).head?=some 39:=zfZ (by rw[<- e1];exact zhT _ tz1);rw[zd1 tz1,e0];unfold zbf;rw[if_neg (by rw[zcp tz3 (by rw[hd];decide)];simp),if_neg (by rw[zcp tz3 (by rw[hd];decide)];simp),if_neg (by rw[zcp tz3 (by rw[hd];decide)];simp)];have:=pwName_nm (n:=T.n.toNat) tz1 hrr;rw[e1] at this;rw[this,<- h1,<- hps,<- zch]
 by_cases h2:T.k=2
 ·refine fromA tz1 fun f r hf hrr=>?_
  (have e0:T.tx=zgi:=by rw[T.tx_eq,if_neg h1,if_pos h2];rfl);(have e2:T=.mk 2 0 []:=by rw[zch T,h2,show T.n=0 by omega,zL (show T.ps.length=0 by omega)]);rw[zd1 tz1,e0];unfold zbf;rw[if_pos (zce _ _),zcN,<- e2]
 by_cases h3:T.k=3
 ·refine fromA tz1 fun f r hf hrr=>?_
  (have e0:T.tx=zca:=by rw[T.tx_eq,if_neg h1,if_neg h2,if_pos h3];rfl);(have e2:T=.mk 3 0 []:=by rw[zch T,h3,show T.n=0 by omega,zL (show T.ps.length=0 by omega)]);have hd:(bl (zca++r)).head?=some 98:=zfZ rfl;rw[zd1 tz1,e0];unfold zbf;rw[if_neg (by rw[zcp tz3 (by rw[hd];decide)];simp),if_pos (zce _ _),zcN,<- e2]
 by_cases h4:T.k=4
 ·obtain ⟨a,b,hps⟩:=zbh hr h4
  have ha:=ih a (by rw[hps];simp) (hp a (by rw[hps];simp));have hb:=ih b (by rw[hps];simp) (hp b (by rw[hps];simp));(have e2:T=.mk 4 0 [a,b]:=by rw[zch T,h4,show T.n=0 by omega,hps]);have e0:T.tx=a.btx++bAr++b.tx:=by rw[e2];rfl
  have hT:PwT T:=fun f r hf hrr hn=>by
   obtain ⟨g,rfl⟩:∃g,f=g+1:=⟨f-1,by omega⟩;(have e3:T.tx++r=a.btx++(bAr++(b.tx++r)):=by rw[e0];simp only[zbs]);rw[e0,ByteArray.size_append,ByteArray.size_append,zck] at hf;rw[e3,pwF,ha.1 g _ tz1 (.inr (.inr (zfZ rfl)))];unfold zci;dsimp only;rw[if_pos ⟨rfl,zce _ _⟩,zcN,hb.2 g r tz1 hrr hn,<- e2]
  refine ⟨fun f r hf hrr=>?_,hT⟩;(have e4:T.btx=bLp++T.tx++bRp:=by unfold Ty.btx brB;rw[if_pos (by simpa using h4)]);rw[e4] at hf ⊢;rw[ByteArray.size_append,ByteArray.size_append,zcM,zeg] at hf;exact hT.brack tz1
 (have h5:T.k=5:=by omega);refine fromA h4 fun f r hf hrr=>?_;have e0:T.tx=bLp++zbv (T.ps.map Ty.btx) bSt++bRp:=by rw[T.tx_eq,if_neg h1,if_neg h2,if_neg h3,if_neg h4]
 have e2:T=.mk 5 0 T.ps:=by
  have:=zch T;rw[h5,show T.n=0 by omega] at this;exact this
 rw[zd1 h4,e0] at hf ⊢;rw[ByteArray.size_append,ByteArray.size_append,zcM,zeg] at hf;have hm:∀p∈T.ps,p.btx.size<f:=fun p hq=>by have:=zeZ hq;omega
 obtain ⟨p,q,ps,hps⟩:∃p q ps,T.ps=p::q::ps:=by
  match hq:T.ps with
  | []=>rw[hq,zu] at hok;omega
  | [_]=>rw[hq,List.length_singleton] at hok;omega
  | p::q::ps=>exact ⟨p,q,ps,rfl⟩
 (have hA:∀x∈T.ps,PwA x:=fun x hx=>(ih x hx (hp x hx)).1);(have e3:bLp++zbv (T.ps.map Ty.btx) bSt++bRp++r=bLp++(p.btx++(jt (q::ps)++(bRp++r))):=by rw[hps,zfW];simp only[zbs]);rw[e3,head_lp];unfold zbQ;have h6:=(hA p (by rw[hps];simp)).whole (f:=f) (r:=jt (q::ps)++(bRp++r)) (hm p (by rw[hps];simp)) (okH_jt _ _) (noAr_jt _ _);have h7:=jt_len (q::ps);rw[h6];dsimp only;rw[rest_jt (q::ps) [p] _ (fun x hx=>hA x (by rw[hps];exact List.mem_cons_of_mem _ hx)) (fun x hx=>hm x (by rw[hps];exact List.mem_cons_of_mem _ hx)) (by simp only[ByteArray.size_append];omega),end_rp];(show (Ty.mk 5 0 ([p]++q::ps),r,false)=_);rw[List.singleton_append,<- hps,<- e2]
theorem pw_tx {T:Ty} (h:T.right=true):pwF (T.tx.size+1) T.tx=(T,ByteArray.empty,false):=by
 have h1:=(pw_all T h).2 (T.tx.size+1) ByteArray.empty tz1 (.inl rfl) tz3;have e:T.tx++ByteArray.empty=T.tx:=by apply zb5;rw[zaj,ze0,List.append_nil]
 rwa [e] at h1
end
end Go.Proofs.YtkokfdmggdhfmaaGreatDoor
namespace Go.Proofs.YtkokfdmggdhfmaaGreatDoor
open Go Go.Shelf
def Tryz.laysC172_ren:Go.Shelf.Ren:=⟨fun | 172=>93 | 244=>136 | 245=>137 | 247=>178 | 279=>179 | 280=>180 | 281=>181 | 282=>182 | 287=>201 | 316=>202 | 171=>100 | 205=>203 | 321=>218 | 322=>219 | 243=>144 | 246=>184 | 283=>205 | 284=>206 | 285=>207 | 286=>208 | 129=>221 | 317=>220 | 318=>222 | 319=>223 | 320=>224 | 337=>230 | 338=>231 | n=>n,fun | 9=>9 | 3=>3 | 75=>91 | 76=>92 | 4=>4 | 5=>5 | 167=>217 | 37=>46 | 0=>0 | 85=>218 | 2=>2 | 168=>220 | 53=>238 | 175=>239 | 46=>205 | 210=>243 | 127=>144 | 145=>256 | 143=>254 | 21=>21 | 171=>245 | 173=>248 | 212=>258 | 51=>176 | 20=>20 | 213=>259 | 232=>269 | 233=>270 | 80=>95 | n=>n,fun | 15=>3 | 16=>4 | 17=>5 | 18=>6 | 19=>7 | n=>n⟩
theorem Tryz.laysC172:Go.Proofs.LaysC.n172 Tryz.prog Tryz.laysC172_ren:={
 mixed:=by kernel_rfl
 f129:=Tryz.func221.trans (congrArg some tz0)
 f171:=Tryz.func100.trans (congrArg some tz0)
 f172:=Tryz.func93.trans (congrArg some tz0)
 f205:=Tryz.func203.trans (congrArg some tz0)
 f243:=Tryz.func144.trans (congrArg some tz0)
 f244:=Tryz.func136.trans (congrArg some tz0)
 f245:=Tryz.func137.trans (congrArg some tz0)
 f246:=Tryz.func184.trans (congrArg some tz0)
 f247:=Tryz.func178.trans (congrArg some tz0)
 f279:=Tryz.func179.trans (congrArg some tz0)
 f280:=Tryz.func180.trans (congrArg some tz0)
 f281:=Tryz.func181.trans (congrArg some tz0)
 f282:=Tryz.func182.trans (congrArg some tz0)
 f283:=Tryz.func205.trans (congrArg some tz0)
 f284:=Tryz.func206.trans (congrArg some tz0)
 f285:=Tryz.func207.trans (congrArg some tz0)
 f286:=Tryz.func208.trans (congrArg some tz0)
 f287:=Tryz.func201.trans (congrArg some tz0)
 f316:=Tryz.func202.trans (congrArg some tz0)
 f317:=Tryz.func220.trans (congrArg some tz0)
 f318:=Tryz.func222.trans (congrArg some tz0)
 f319:=Tryz.func223.trans (congrArg some tz0)
 f320:=Tryz.func224.trans (congrArg some tz0)
 f321:=Tryz.func218.trans (congrArg some tz0)
 f322:=Tryz.func219.trans (congrArg some tz0)
 f337:=Tryz.func230.trans (congrArg some tz0)
 f338:=Tryz.func231.trans (congrArg some tz0)
 t0:=Tryz.underlying0
 a0:=Tryz.isAgg0
 z0:=Tryz.sizeOf0
 v0:=Tryz.zeroValue0
 t2:=Tryz.underlying2
 a2:=Tryz.isAgg2
 z2:=Tryz.sizeOf2
 v2:=Tryz.zeroValue2
 t3:=Tryz.underlying3
 a3:=Tryz.isAgg3
 z3:=Tryz.sizeOf3
 v3:=Tryz.zeroValue3
 t4:=Tryz.underlying4
 a4:=Tryz.isAgg4
 z4:=Tryz.sizeOf4
 v4:=Tryz.zeroValue4
 t5:=Tryz.underlying5
 a5:=Tryz.isAgg5
 z5:=Tryz.sizeOf5
 v5:=Tryz.zeroValue5
 t9:=Tryz.underlying9
 a9:=Tryz.isAgg9
 z9:=Tryz.sizeOf9
 v9:=Tryz.zeroValue9
 t20:=Tryz.underlying20
 a20:=Tryz.isAgg20
 z20:=Tryz.sizeOf20
 v20:=Tryz.zeroValue20
 t21:=Tryz.underlying21
 a21:=Tryz.isAgg21
 z21:=Tryz.sizeOf21
 v21:=Tryz.zeroValue21
 t37:=Tryz.underlying46
 a37:=Tryz.isAgg46
 z37:=Tryz.sizeOf46
 v37:=Tryz.zeroValue46
 t46:=Tryz.underlying205
 a46:=Tryz.isAgg205
 z46:=Tryz.sizeOf205
 v46:=Tryz.zeroValue205
 t51:=Tryz.underlying176
 a51:=Tryz.isAgg176
 z51:=Tryz.sizeOf176
 v51:=Tryz.zeroValue176
 t53:=Tryz.underlying238
 a53:=Tryz.isAgg238
 z53:=Tryz.sizeOf238
 v53:=Tryz.zeroValue238
 t75:=Tryz.underlying91
 a75:=Tryz.isAgg91
 z75:=Tryz.sizeOf91
 v75:=Tryz.zeroValue91
 t76:=Tryz.underlying92
 a76:=Tryz.isAgg92
 z76:=Tryz.sizeOf92
 v76:=Tryz.zeroValue92
 t85:=Tryz.underlying218
 a85:=Tryz.isAgg218
 z85:=Tryz.sizeOf218
 v85:=Tryz.zeroValue218
 t127:=Tryz.underlying144
 a127:=Tryz.isAgg144
 z127:=Tryz.sizeOf144
 v127:=Tryz.zeroValue144
 t143:=Tryz.underlying254
 a143:=Tryz.isAgg254
 z143:=Tryz.sizeOf254
 v143:=Tryz.zeroValue254
 t145:=Tryz.underlying256
 a145:=Tryz.isAgg256
 z145:=Tryz.sizeOf256
 v145:=Tryz.zeroValue256
 t167:=Tryz.underlying217
 a167:=Tryz.isAgg217
 z167:=Tryz.sizeOf217
 v167:=Tryz.zeroValue217
 t168:=Tryz.underlying220
 a168:=Tryz.isAgg220
 z168:=Tryz.sizeOf220
 v168:=Tryz.zeroValue220
 t171:=Tryz.underlying245
 a171:=Tryz.isAgg245
 z171:=Tryz.sizeOf245
 v171:=Tryz.zeroValue245
 t173:=Tryz.underlying248
 a173:=Tryz.isAgg248
 z173:=Tryz.sizeOf248
 v173:=Tryz.zeroValue248
 t175:=Tryz.underlying239
 a175:=Tryz.isAgg239
 z175:=Tryz.sizeOf239
 v175:=Tryz.zeroValue239
 t210:=Tryz.underlying243
 a210:=Tryz.isAgg243
 z210:=Tryz.sizeOf243
 v210:=Tryz.zeroValue243
 t212:=Tryz.underlying258
 a212:=Tryz.isAgg258
 z212:=Tryz.sizeOf258
 v212:=Tryz.zeroValue258
 t213:=Tryz.underlying259
 a213:=Tryz.isAgg259
 z213:=Tryz.sizeOf259
 t232:=Tryz.underlying269
 a232:=Tryz.isAgg269
 z232:=Tryz.sizeOf269
 v232:=Tryz.zeroValue269
 t233:=Tryz.underlying270
 a233:=Tryz.isAgg270
 z233:=Tryz.sizeOf270
 v233:=Tryz.zeroValue270
 g15:=by kernel_rfl
 g16:=by kernel_rfl
 g17:=by kernel_rfl
 g18:=by kernel_rfl
 g19:=by kernel_rfl
 t80:=Tryz.underlying95
 a80:=Tryz.isAgg95
 z80:=Tryz.sizeOf95
 v80:=Tryz.zeroValue95
 i0:=by kernel_rfl
 i2:=by kernel_rfl
 i3:=by kernel_rfl
 i4:=by kernel_rfl
 i5:=by kernel_rfl
 i9:=by kernel_rfl
 i20:=by kernel_rfl
 i21:=by kernel_rfl
 i37:=by kernel_rfl
 i46:=by kernel_rfl
 i51:=by kernel_rfl
 i53:=by kernel_rfl
 i75:=by kernel_rfl
 i76:=by kernel_rfl
 i80:=by kernel_rfl
 i85:=by kernel_rfl
 i127:=by kernel_rfl
 i143:=by kernel_rfl
 i145:=by kernel_rfl
 i167:=by kernel_rfl
 i168:=by kernel_rfl
 i171:=by kernel_rfl
 i173:=by kernel_rfl
 i175:=by kernel_rfl
 i210:=by kernel_rfl
 i212:=by kernel_rfl
 i232:=by kernel_rfl
 i233:=by kernel_rfl
 m15:=by kernel_rfl
 m16:=by kernel_rfl
 m17:=by kernel_rfl
 m18:=by kernel_rfl
 m19:=by kernel_rfl
 c0:=by kernel_rfl
 c2:=by kernel_rfl
 c3:=by kernel_rfl
 c4:=by kernel_rfl
 c5:=by kernel_rfl
 c9:=by kernel_rfl
 c20:=by kernel_rfl
 c21:=by kernel_rfl
 c37:=by kernel_rfl
 c46:=by kernel_rfl
 c51:=by kernel_rfl
 c53:=by kernel_rfl
 c75:=by kernel_rfl
 c76:=by kernel_rfl
 c80:=by kernel_rfl
 c85:=by kernel_rfl
 c127:=by kernel_rfl
 c143:=by kernel_rfl
 c145:=by kernel_rfl
 c167:=by kernel_rfl
 c168:=by kernel_rfl
 c171:=by kernel_rfl
 c173:=by kernel_rfl
 c175:=by kernel_rfl
 c210:=by kernel_rfl
 c212:=by kernel_rfl
 c213:=by kernel_rfl
 c232:=by kernel_rfl
 c233:=by kernel_rfl}
open Go.RowKit in
theorem Tryz.strconv_Atoi_ok (s:ByteArray) (hmax:s.size<=9223372036854775806) (v:Int) (h:Lib.atoiAll s.data.toList=.ok v) (w:World) :
  Calls Tryz.prog 93 #[.string s] w fun e w'=>e=.returned (.tuple #[.int .i64 v,.nilIface])/\(w'=w\/∃t,w'=Lib.bytesWorld w 5 t):=Any.strconv_Atoi_ok Tryz.laysC172 s hmax v h w
open Go.RowKit in
theorem Tryz.strconv_Atoi_syntax_var (s:ByteArray) (hlim:s.size<=281474976710656) (h:Lib.atoiAll s.data.toList=.«syntax») (tp:TypeId) (p:Value) (w:World) (hvar:w.var? Tryz.prog "strconv.ErrSyntax"=some #[.iface tp p]) :
  Calls Tryz.prog 93 #[.string s] w fun e w'=>∃N,e=.returned (.tuple #[.int .i64 0,.iface 220 (.pointer (some ⟨N,0,none⟩))])/\w.heap.size<=N/\w'.heap[N]?=some (.cells #[.string ⟨#[65,116,111,105]⟩,.string s,.iface tp p] 243 (0,0))/\Below w.heap.size w w':=Any.strconv_Atoi_syntax_var Tryz.laysC172 s hlim h tp p w hvar
open Go.RowKit in
theorem Tryz.strconv_Atoi_range_var (s:ByteArray) (hlim:s.size<=281474976710656) (h:Lib.atoiAll s.data.toList=.range) (tp:TypeId) (p:Value) (w:World) (hvar:w.var? Tryz.prog "strconv.ErrRange"=some #[.iface tp p]) :
  Calls Tryz.prog 93 #[.string s] w fun e w'=>∃N,e=.returned (.tuple #[.int .i64 (Lib.atoiSat s.data.toList),.iface 220 (.pointer (some ⟨N,0,none⟩))])/\w.heap.size<=N/\w'.heap[N]?=some (.cells #[.string ⟨#[65,116,111,105]⟩,.string s,.iface tp p] 243 (0,0))/\Below w.heap.size w w':=Any.strconv_Atoi_range_var Tryz.laysC172 s hlim h tp p w hvar
end Go.Proofs.YtkokfdmggdhfmaaGreatDoor
namespace Go.Proofs.YtkokfdmggdhfmaaGreatDoor
open Go Go.RowKit
attribute [local irreducible] aops zaK
theorem ACalls.ofCallsE {P:Program} {f:Nat} {args:List AV} {S:AV->Prop} (hb:zg6 P f)
  (h:∀(E:Env) (A:Nat->Nat->Prop) (w:World) (vs:Array Value),Gl A w->(∀b o,A b o->b<w.heap.size)->RpL E A w args vs->Calls P f vs w fun e w'=>∃x v,S x/\e=.returned v/\Below w.heap.size w w'/\Rp E A w' x v)
  {os:Os} {nx:Nat} {Q:AV->Os->Nat->Prop} (hq:∀x,S x->Q x os nx):ACalls P f args os nx Q:=by
 refine ⟨hb,fun A0 E w vs hos hnx hr=>(h E (AvX A0 E os) w vs hos.gl (fun b o ha=>hos.lt ha) hr).mono ?_⟩;rintro e w' ⟨x,v,hs,rfl,hbl,hrv⟩;exact ⟨x,v,os,nx,E,rfl,hq x hs,hrv,hos.keep hbl,hnx,.refl E,.of_below hbl,fun b o ha=>.inl ha⟩
theorem rp_two {E:Env} {A:Nat->Nat->Prop} {w:World} (a b:Value):Rp E A w (.tup [.v a,.v b]) (.tuple #[a,b]):=by
 refine .tup rfl fun i c u hc hu=>?_
 match i,hc,hu with
 | 0,hc,hu=>cases hc;cases hu;exact .v _
 | 1,hc,hu=>cases hc;cases hu;exact .v _
theorem ziH (s:ByteArray) (hs:s.size<=1048576) (v:Int) (h:Lib.atoiAll (bl s)=.ok v):APure Tryz.prog 93 [.v (.string s)] (.tup [.v (.int .i64 v),.v .nilIface]):=by
 refine APure.ofCalls ⟨_,Tryz.func93,by kernel_rfl,by kernel_rfl⟩ (.cons (.v _) .nil) (.tup (.cons (.v _) (.cons (.v _) .nil))) fun E A w vs hgl hA hr=>?_;obtain ⟨u,rfl,h1⟩:=hr.one;(cases h1);refine (Tryz.strconv_Atoi_ok s tz1 v h w).mono ?_;rintro e w' ⟨rfl,hw⟩;refine ⟨_,rfl,?_,.tup rfl fun i c u hc hu=>?_⟩
 ·rcases hw with rfl | ⟨t,rfl⟩
  (·exact Below.refl _ _);exact Lib.bytesWorld_below w _ _
 match i,hc,hu with
 | 0,hc,hu=>cases hc;cases hu;exact .v _
 | 1,hc,hu=>cases hc;cases hu;exact .v _
theorem Atoi_no (s:ByteArray) (hs:s.size<=1048576) (h:∀v,Lib.atoiAll (bl s)≠.ok v) {os:Os} {nx:Nat} {Q:AV->Os->Nat->Prop} (hq:∀(v:Int) (t:TypeId) (p:Value),Q (.tup [.v (.int .i64 v),.v (.iface t p)]) os nx) :
  ACalls Tryz.prog 93 [.v (.string s)] os nx Q:=by
 refine ACalls.ofCallsE (S:=fun x=>∃(v:Int) (t:TypeId) (p:Value),x=.tup [.v (.int .i64 v),.v (.iface t p)]) ⟨_,Tryz.func93,by kernel_rfl,by kernel_rfl⟩ (fun E A w vs hgl hA hr=>?_) ?_
 ·obtain ⟨u,rfl,h1⟩:=hr.one
  (cases h1);obtain ⟨ts,ps,hvs⟩:=hgl.err ge_mem3 (name:="strconv.ErrSyntax") (P:=Tryz.prog) tz0;obtain ⟨tr,pr,hvr⟩:=hgl.err ge_mem4 (name:="strconv.ErrRange") (P:=Tryz.prog) tz0
  cases hc:Lib.atoiAll (bl s) with
  | ok v=>exact absurd hc (h v)
  | «syntax» =>
   refine (Tryz.strconv_Atoi_syntax_var s tz1 hc ts ps w hvs).mono ?_;rintro e w' ⟨N,rfl,_,_,hb⟩
   exact ⟨_,_,⟨_,_,_,rfl⟩,rfl,hb,rp_two _ _⟩
  | range =>
   refine (Tryz.strconv_Atoi_range_var s tz1 hc tr pr w hvr).mono ?_;rintro e w' ⟨N,rfl,_,_,hb⟩;exact ⟨_,_,⟨_,_,_,rfl⟩,rfl,hb,rp_two _ _⟩
 rintro x ⟨v,t,p,rfl⟩;exact hq v t p
def nmA (n:Int):ByteArray:=if 0<=n/\n<1073741824 then nmB n else ByteArray.empty
theorem zeP (n:Int):APure Tryz.prog 53 [.v (.int .i64 n)] (.v (.string (nmA n))):=by
 unfold nmA
 by_cases h:0<=n/\n<1073741824
 (·rw[if_pos h];exact zfV n h.1 h.2);rw[if_neg h];exact zi9 n h
theorem za5 {s:ByteArray} (h:0<=nuR s):nuR s<1073741824/\2<=s.size/\bt s 0=39/\97<=bt s 1/\bt s 1<=122/\bt s 1=97+nuR s % 26/\(s.size<=2->nuR s<26)/\(2<s.size->26<=nuR s/\Lib.atoiAll (bl (s.extract 2 s.size))=.ok (nuR s / 26)):=by
 obtain ⟨h1,h2⟩:=nm_nuR h;obtain ⟨n,hn⟩:∃n:Nat,nuR s=n:=⟨(nuR s).toNat,by omega⟩;rw[hn] at h1 h2 ⊢;have h39:((39:UInt8).toNat:Int)=39:=rfl;(have hc:∀m:Nat,m<26->((UInt8.ofNat (97+m)).toNat:Int)=97+m:=fun m hm=>by simp;omega);have hn2:n<1073741824:=by omega
 by_cases h9:n<26
 ·have hb:=zds h9
  rw[h2] at hb;(have hsz:s.size=2:=by rw[<- zan,hb];rfl);have b0:=zcA (s:=s) (i:=0) (c:=39) (by rw[hb];rfl);have b1:=zcA (s:=s) (i:=1) (c:=UInt8.ofNat (97+n)) (by rw[hb];rfl);rw[h39] at b0;rw[hc n h9] at b1;exact ⟨h1,by omega,b0,by omega,by omega,by omega,fun _=>by omega,fun _=>by omega⟩
 have hb:=zdv h9;rw[h2] at hb;have hp:=zhc (n / 26);(have hsz:s.size=2+(Lib.decDigits (n / 26)).length:=by rw[<- zan,hb];simp;omega);have hpl:0<(Lib.decDigits (n / 26)).length:=List.length_pos_iff.2 hp;have b0:=zcA (s:=s) (i:=0) (c:=39) (by rw[hb];rfl);have b1:=zcA (s:=s) (i:=1) (c:=UInt8.ofNat (97+n % 26)) (by rw[hb];rfl);rw[h39] at b0;rw[hc _ tz1] at b1;refine ⟨h1,by omega,b0,by omega,by omega,by omega,fun _=>by omega,fun _=>⟨by omega,?_⟩⟩;have h5:=zix (s:=s) (P:=[39,UInt8.ofNat (97+n % 26)]) (X:=Lib.decDigits (n / 26)) (S:=[]) (by rw[hb];simp);simp only[zx,zu] at h5;rw[show 0+1+1+(Lib.decDigits (n / 26)).length=s.size by omega,show 0+1+1=2 from rfl] at h5;rw[h5];(show Lib.atoiAll (Lib.decDigits (n / 26))=_);rw[atoi_dec tz1];congr 1
theorem zcl {s:ByteArray} (h:nuR s<0):Le (.tup [.v (.int .i64 0),.v (.bool false)]) (.tup [.v (.int .i64 (zbV s)),.v (.bool (decide (0<=nuR s)))]):=by
 unfold zbV;rw[if_neg tz1,decide_eq_false tz1];exact .refl _
theorem pw_num {s:ByteArray} {n:Int} (h:nuR s=n) (h0:0<=n):Le (.tup [.v (.int .i64 n),.v (.bool true)]) (.tup [.v (.int .i64 (zbV s)),.v (.bool (decide (0<=nuR s)))]):=by
 unfold zbV;rw[if_pos tz1,decide_eq_true tz1,h];exact .refl _
theorem zjM {s:ByteArray} {n:Int} (h:eqS (nmA n) s=true) (hs:2<=s.size):nuR s=n/\0<=n:=by
 have h1:=zbe.1 h;unfold nmA at h1;split at h1
 ·rename_i hn
  have h2:=zkZ (n:=n.toNat) tz1;rw[show ((n.toNat:Nat):Int)=n by omega,h1] at h2;exact ⟨h2,hn.1⟩
 rw[<- h1] at hs;have:ByteArray.empty.size=0:=rfl;omega
theorem zgc {s:ByteArray} {n:Int} (h:eqS (nmA n) s=false) (hn:0<=nuR s->nuR s=n):nuR s<0:=by
 (rcases Int.lt_or_le (nuR s) 0 with h1 | h1);(·exact h1);have h2:=nm_nuR h1;have h3:eqS (nmA n) s=true:=zbe.2 (by unfold nmA;rw[<- hn h1,if_pos ⟨h1,h2.1⟩];exact h2.2);rw[h] at h3;cases h3
theorem zd9 {a b:ByteArray} (h:(!eqS a b)=true):eqS a b=false:=by simpa only [Bool.not_eq_true'] using h
theorem zeb {a b:ByteArray} (h:(!eqS a b)=false):eqS a b=true:=by simpa only [Bool.not_eq_false'] using h
theorem zdh {s:ByteArray} (h:0<=nuR s->False):nuR s<0:=by
 (rcases Int.lt_or_le (nuR s) 0 with h1 | h1);(·exact h1);exact (h h1).elim
theorem pw_idx (c:Fin 256):decide (0<=Lib.indexByte ([39,97,98,99,100,101,102,103,104,105,106,107,108,109,110,111,112,113,114,115,116,117,118,119,120,121,122,48,49,50,51,52,53,54,55,56,57]:List UInt8) (Int.toNat (c.val:Int)).toUInt8)=zcL (c.val:Int):=by revert c;decide
theorem pw_idx2 (s:ByteArray) (i:Nat):decide (0<=Lib.indexByte ([39,97,98,99,100,101,102,103,104,105,106,107,108,109,110,111,112,113,114,115,116,117,118,119,120,121,122,48,49,50,51,52,53,54,55,56,57]:List UInt8) (Int.toNat (bt s i)).toUInt8)=zcL (bt s i):=by
 have h:=za8 s i;have h2:=pw_idx ⟨(bt s i).toNat,by omega⟩;(have e:(((bt s i).toNat:Nat):Int)=bt s i:=by omega);simp only[e] at h2;exact h2
theorem Number_ok (s:ByteArray) (hs:s.size<=1048576) (v:Int) (hv:Lib.atoiAll (bl (s.extract 2 s.size))=.ok v):APure Tryz.prog 42 [.v (.string s)] (.tup [.v (.int .i64 (zbV s)),.v (.bool (decide (0<=nuR s)))]):=by
  refine APure.mkL (.cons (.v _) .nil) (.tup (.cons (.v _) (.cons (.v _) .nil))) ?_;refine aIn Tryz.func42 fun hm=>?_;simp only[Tryz.ntmps42,Tryz.results42,go_sem,seval];have hb0:=za8 s 0;have hb1:=za8 s 1;have hc0:((((s[0]?).getD 0).toNat:Nat):Int)=bt s 0:=rfl;have hc1:((((s[1]?).getD 0).toNat:Nat):Int)=bt s 1:=rfl;have hvb:=Lib.atoiAll_bounds hv;refine sqR fun _ u=>?_;refine chS 1 ?_ (by intro _ q;simp only[↓bO,go_sem,seval,hc0,hc1];exact q);simp only[↓bO,go_sem,seval,hc0,hc1];apply u;refine zO fun _ u=>?_;refine sqR fun _ w=>?_;(iterate 4 (refine chS 1 ?_ (by intro _ q;simp only[↓bO,go_sem,seval,hc0,hc1];exact q)));refine zW 10 rfl (fun hc10=>?_) (fun hc10=>?_)
  ·
   simp only[go_sem];(have hneg:nuR s<0:=zdh fun h=>by (have g:=za5 h;have h9:=hc10;simp at h9;omega));(iterate 13 (refine chS 1 ?_ (by intro _ q;simp only[↓bO,go_sem,seval,hc0,hc1];exact q)));simp only[↓bO,go_sem,seval,hc0,hc1];apply w;refine zP (b:=true) (by first | exact rfl | exact congrArg (fun b=>AV.v (.bool b)) hb24) (fun _=>?_) (fun h=>(by cases h));refine sqR fun _ w=>?_;refine chS 1 ?_ (by intro _ q;simp only[↓bO,go_sem,seval,hc0,hc1];exact q);simp only[↓bO,go_sem,seval,hc0,hc1];apply w;apply zR;(try simp only[go_sem]);exact zcl hneg
  simp only[go_sem];(have h2:2<=s.size:=by (have h9:=hc10;simp at h9;omega));have hl0:((0:Int)<(s.size:Int))=True:=eq_true tz1;have hl1:((1:Int)<(s.size:Int))=True:=eq_true tz1;(iterate 5 (refine chS 1 ?_ (by intro _ q;simp only[↓bO,go_sem,seval,hc0,hc1,hl0,hl1];exact q)));refine zW 15 rfl (fun hc15=>?_) (fun hc15=>?_)
  ·
   simp only[go_sem];(have hneg:nuR s<0:=zdh fun h=>by (have g:=za5 h;have h9:=hc15;simp at h9;omega));(iterate 8 (refine chS 1 ?_ (by intro _ q;simp only[↓bO,go_sem,seval,hc0,hc1,hl0,hl1];exact q)));simp only[↓bO,go_sem,seval,hc0,hc1,hl0,hl1];apply w;refine zP (b:=true) (by first | exact rfl | exact congrArg (fun b=>AV.v (.bool b)) hb24) (fun _=>?_) (fun h=>(by cases h));refine sqR fun _ w=>?_;refine chS 1 ?_ (by intro _ q;simp only[↓bO,go_sem,seval,hc0,hc1,hl0,hl1];exact q);simp only[↓bO,go_sem,seval,hc0,hc1,hl0,hl1];apply w;apply zR;(try simp only[go_sem]);exact zcl hneg
  (iterate 5 (refine chS 1 ?_ (by intro _ q;simp only[↓bO,go_sem,seval,hc0,hc1,hl0,hl1];exact q)));refine zW 20 rfl (fun hc20=>?_) (fun hc20=>?_)
  ·
   simp only[go_sem];(have hneg:nuR s<0:=zdh fun h=>by (have g:=za5 h;have h9:=hc20;simp at h9;omega));(iterate 3 (refine chS 1 ?_ (by intro _ q;simp only[↓bO,go_sem,seval,hc0,hc1,hl0,hl1];exact q)));simp only[↓bO,go_sem,seval,hc0,hc1,hl0,hl1];apply w;refine zP (b:=true) (by first | exact rfl | exact congrArg (fun b=>AV.v (.bool b)) hb24) (fun _=>?_) (fun h=>(by cases h));refine sqR fun _ w=>?_;refine chS 1 ?_ (by intro _ q;simp only[↓bO,go_sem,seval,hc0,hc1,hl0,hl1];exact q);simp only[↓bO,go_sem,seval,hc0,hc1,hl0,hl1];apply w;apply zR;(try simp only[go_sem]);exact zcl hneg
  simp only[go_sem];(have h97:97<=bt s 1:=by (have h9:=hc20;simp at h9;omega));(iterate 3 (refine chS 1 ?_ (by intro _ q;simp only[↓bO,go_sem,seval,hc0,hc1,hl0,hl1];exact q)));simp only[↓bO,go_sem,seval,hc0,hc1,hl0,hl1];apply w;apply zP rfl <;> intro hb24
  ·
   (have hneg:nuR s<0:=zdh fun h=>by (have g:=za5 h;have h9:=hb24;simp at h9;omega));refine sqR fun _ w=>?_;refine chS 1 ?_ (by intro _ q;simp only[↓bO,go_sem,seval,hc0,hc1,hl0,hl1];exact q);simp only[↓bO,go_sem,seval,hc0,hc1,hl0,hl1];apply w;apply zR;(try simp only[go_sem]);exact zcl hneg
  (have h122:bt s 1<=122:=by (have h9:=hb24;simp at h9;omega));(have hwu:IntKind.u8.wrap (bt s 1-97)=bt s 1-97:=by (unfold IntKind.wrap;simp[IntKind.bits,IntKind.signed];omega));(have hwc:IntKind.i64.wrap (bt s 1-97)=bt s 1-97:=by (rw[z8 tz1 tz1]));apply zS;apply u;refine sqR fun _ u=>?_;simp only[↓bO,go_sem,seval,hc0,hc1,hl0,hl1,hwu,hwc];apply u;refine zO fun _ u=>?_;refine sqR fun _ w=>?_;(iterate 2 (refine chS 1 ?_ (by intro _ q;simp only[↓bO,go_sem,seval,hc0,hc1,hl0,hl1,hwu,hwc];exact q)));simp only[↓bO,go_sem,seval,hc0,hc1,hl0,hl1,hwu,hwc];apply w;apply zP rfl <;> intro hb27
  ·
   (have h3:2<s.size:=by (have h9:=hb27;simp at h9;omega));have hl2:((2:Int)<=(s.size:Int))=True:=eq_true tz1;refine sqR fun _ w=>?_;(iterate 2 (refine chS 1 ?_ (by intro _ q;simp only[↓bO,go_sem,seval,hc0,hc1,hl0,hl1,hwu,hwc,hl2];exact q)));refine zN 1 fun _ y=>?_;simp only[↓bO,go_sem,seval,hc0,hc1,hl0,hl1,hwu,hwc,hl2];refine APure.call (ziH (s.extract 2 s.size) (by (have:=zct s (a:=2) (b:=s.size) tz1 tz1);omega) v hv) ?_;(iterate 4 (apply y;clear y;refine zN 1 fun _ y=>?_;simp only[↓bO,go_sem,seval,hc0,hc1,hl0,hl1,hwu,hwc,hl2]));apply y;clear y;simp only[↓bO,go_sem,seval,hc0,hc1,hl0,hl1,hwu,hwc,hl2];apply w;refine zO fun _ w=>?_;refine sqR fun _ z=>?_;refine chS 1 ?_ (by intro _ q;simp only[↓bO,go_sem,seval,hc0,hc1,hl0,hl1,hwu,hwc,hl2];exact q);refine chS 1 ?_ (by intro _ q;simp only[↓bO,go_sem,seval,isCn,↓if91,hc0,hc1,hl0,hl1,hwu,hwc,hl2];exact q);refine chS 1 ?_ (by intro _ q;simp only[↓bO,go_sem,seval,hc0,hc1,hl0,hl1,hwu,hwc,hl2];exact q);simp only[go_sem];refine zW 36 rfl (fun hc36=>?_) (fun hc36=>?_)
   ·
    simp only[go_sem];exact absurd hc36 tz4
   (iterate 4 (refine chS 1 ?_ (by intro _ q;simp only[↓bO,go_sem,seval,hc0,hc1,hl0,hl1,hwu,hwc,hl2];exact q)));refine zW 40 rfl (fun hc40=>?_) (fun hc40=>?_)
   ·
    simp only[go_sem];(have hneg:nuR s<0:=zdh fun h=>by (have g:=(za5 h).2.2.2.2.2.2.2 h3;have e:=g.2;rw[hv] at e;injection e with e;have h9:=hc40;simp at h9;omega));(iterate 2 (refine chS 1 ?_ (by intro _ q;simp only[↓bO,go_sem,seval,hc0,hc1,hl0,hl1,hwu,hwc,hl2];exact q)));simp only[↓bO,go_sem,seval,hc0,hc1,hl0,hl1,hwu,hwc,hl2];apply z;refine zP (b:=true) (by first | exact rfl | exact congrArg (fun b=>AV.v (.bool b)) hb43) (fun _=>?_) (fun h=>(by cases h));refine sqR fun _ z=>?_;refine chS 1 ?_ (by intro _ q;simp only[↓bO,go_sem,seval,hc0,hc1,hl0,hl1,hwu,hwc,hl2];exact q);simp only[↓bO,go_sem,seval,hc0,hc1,hl0,hl1,hwu,hwc,hl2];apply z;apply zR;(try simp only[go_sem]);exact zcl hneg
   simp only[go_sem];(have hv1:1<=v:=by (have h9:=hc40;simp at h9;omega));(iterate 2 (refine chS 1 ?_ (by intro _ q;simp only[↓bO,go_sem,seval,hc0,hc1,hl0,hl1,hwu,hwc,hl2];exact q)));simp only[↓bO,go_sem,seval,hc0,hc1,hl0,hl1,hwu,hwc,hl2];apply z;apply zP rfl <;> intro hb43
   ·
    (have hneg:nuR s<0:=by (first | exact hneg | exact zdh fun h=>by (have g:=(za5 h).2.2.2.2.2.2.2 h3;have g1:=(za5 h).1;have e:=g.2;rw[hv] at e;injection e with e;have h9:=hb43;simp at h9;omega)));refine sqR fun _ z=>?_;refine chS 1 ?_ (by intro _ q;simp only[↓bO,go_sem,seval,hc0,hc1,hl0,hl1,hwu,hwc,hl2];exact q);simp only[↓bO,go_sem,seval,hc0,hc1,hl0,hl1,hwu,hwc,hl2];apply z;apply zR;(try simp only[go_sem]);exact zcl hneg
   (have hv2:v<1073741824:=by (have h9:=hb43;simp at h9;omega));(have hwa:IntKind.i64.wrap (26 * v)=26 * v:=by (rw[z8 tz1 tz1]));(have hwb:IntKind.i64.wrap (26 * v+(bt s 1-97))=26 * v+(bt s 1-97):=by (rw[z8 tz1 tz1]));apply zS;apply w;apply zQ;(iterate 2 (refine chS 1 ?_ (by intro _ q;simp only[↓bO,go_sem,seval,hc0,hc1,hl0,hl1,hwu,hwc,hl2,hwa,hwb];exact q)));simp only[↓bO,go_sem,seval,hc0,hc1,hl0,hl1,hwu,hwc,hl2,hwa,hwb];apply u;refine sqR fun _ u=>?_;(iterate 6 (refine chS 1 ?_ (by intro _ q;simp only[↓bO,go_sem,seval,hc0,hc1,hl0,hl1,hwu,hwc,hl2,hwa,hwb];exact q)));simp only[↓bO,go_sem,seval,hc0,hc1,hl0,hl1,hwu,hwc,hl2,hwa,hwb];apply u;refine zO fun _ u=>?_;refine sqR fun _ w=>?_;refine chS 1 ?_ (by intro _ q;simp only[↓bO,go_sem,seval,hc0,hc1,hl0,hl1,hwu,hwc,hl2,hwa,hwb];exact q);refine zN 1 fun _ y=>?_;simp only[↓bO,go_sem,seval,hc0,hc1,hl0,hl1,hwu,hwc,hl2,hwa,hwb];refine APure.call (zeP _) ?_;apply y;clear y;refine chS 1 ?_ (by intro _ q;simp only[↓bO,go_sem,seval,hc0,hc1,hl0,hl1,hwu,hwc,hl2,hwa,hwb];exact q);simp only[↓bO,go_sem,seval,hc0,hc1,hl0,hl1,hwu,hwc,hl2,hwa,hwb];apply w;apply zP rfl <;> intro hb55
   ·
    have hneg:nuR s<0:=zgc (zd9 hb55) (fun h=>by (have g:=za5 h;first | (have g1:=g.2.2.2.2.2.2.2 h3;have e:=g1.2;rw[hv] at e;injection e with e;omega) | omega));refine sqR fun _ w=>?_;refine chS 1 ?_ (by intro _ q;simp only[↓bO,go_sem,seval,hc0,hc1,hl0,hl1,hwu,hwc,hl2,hwa,hwb];exact q);simp only[↓bO,go_sem,seval,hc0,hc1,hl0,hl1,hwu,hwc,hl2,hwa,hwb];apply w;apply zR;(try simp only[go_sem]);exact zcl hneg
   have hnm:=hb55;apply zS;apply u;refine sqR fun _ u=>?_;(iterate 2 (refine chS 1 ?_ (by intro _ q;simp only[↓bO,go_sem,seval,hc0,hc1,hl0,hl1,hwu,hwc,hl2,hwa,hwb];exact q)));simp only[↓bO,go_sem,seval,hc0,hc1,hl0,hl1,hwu,hwc,hl2,hwa,hwb];apply u;apply zR;(try simp only[go_sem]);have hnn:=zjM (zeb hnm) tz1;exact pw_num hnn.1 hnn.2
  (have h3:¬2<s.size:=by (have h9:=hb27;simp at h9;omega));(have hwz:IntKind.i64.wrap (0+(bt s 1-97))=bt s 1-97:=by (rw[z8 tz1 tz1];omega));apply zS;apply u;refine sqR fun _ u=>?_;(iterate 6 (refine chS 1 ?_ (by intro _ q;simp only[↓bO,go_sem,seval,hc0,hc1,hl0,hl1,hwu,hwc,hwz];exact q)));simp only[↓bO,go_sem,seval,hc0,hc1,hl0,hl1,hwu,hwc,hwz];apply u;refine zO fun _ u=>?_;refine sqR fun _ w=>?_;refine chS 1 ?_ (by intro _ q;simp only[↓bO,go_sem,seval,hc0,hc1,hl0,hl1,hwu,hwc,hwz];exact q);refine zN 1 fun _ y=>?_;simp only[↓bO,go_sem,seval,hc0,hc1,hl0,hl1,hwu,hwc,hwz];refine APure.call (zeP _) ?_;apply y;clear y;refine chS 1 ?_ (by intro _ q;simp only[↓bO,go_sem,seval,hc0,hc1,hl0,hl1,hwu,hwc,hwz];exact q);simp only[↓bO,go_sem,seval,hc0,hc1,hl0,hl1,hwu,hwc,hwz];apply w;apply zP rfl <;> intro hb55
  ·
   have hneg:nuR s<0:=zgc (zd9 hb55) (fun h=>by (have g:=za5 h;first | (have g1:=g.2.2.2.2.2.2.2 h3;have e:=g1.2;rw[hv] at e;injection e with e;omega) | omega));refine sqR fun _ w=>?_;refine chS 1 ?_ (by intro _ q;simp only[↓bO,go_sem,seval,hc0,hc1,hl0,hl1,hwu,hwc,hwz];exact q);simp only[↓bO,go_sem,seval,hc0,hc1,hl0,hl1,hwu,hwc,hwz];apply w;apply zR;(try simp only[go_sem]);exact zcl hneg
  have hnm:=hb55;apply zS;apply u;refine sqR fun _ u=>?_;(iterate 2 (refine chS 1 ?_ (by intro _ q;simp only[↓bO,go_sem,seval,hc0,hc1,hl0,hl1,hwu,hwc,hwz];exact q)));simp only[↓bO,go_sem,seval,hc0,hc1,hl0,hl1,hwu,hwc,hwz];apply u;apply zR;(try simp only[go_sem]);have hnn:=zjM (zeb hnm) tz1;exact pw_num hnn.1 hnn.2
theorem zin (s:ByteArray) (hs:s.size<=1048576) (hv:∀v,Lib.atoiAll (bl (s.extract 2 s.size))≠.ok v):APure Tryz.prog 42 [.v (.string s)] (.tup [.v (.int .i64 (zbV s)),.v (.bool (decide (0<=nuR s)))]):=by
  refine APure.mkL (.cons (.v _) .nil) (.tup (.cons (.v _) (.cons (.v _) .nil))) ?_;refine aIn Tryz.func42 fun hm=>?_;simp only[Tryz.ntmps42,Tryz.results42,go_sem,seval];have hb0:=za8 s 0;have hb1:=za8 s 1;have hc0:((((s[0]?).getD 0).toNat:Nat):Int)=bt s 0:=rfl;have hc1:((((s[1]?).getD 0).toNat:Nat):Int)=bt s 1:=rfl;refine sqR fun _ u=>?_;refine chS 1 ?_ (by intro _ q;simp only[↓bO,go_sem,seval,hc0,hc1];exact q);simp only[↓bO,go_sem,seval,hc0,hc1];apply u;refine zO fun _ u=>?_;refine sqR fun _ w=>?_;(iterate 4 (refine chS 1 ?_ (by intro _ q;simp only[↓bO,go_sem,seval,hc0,hc1];exact q)));refine zW 10 rfl (fun hc10=>?_) (fun hc10=>?_)
  ·
   simp only[go_sem];(have hneg:nuR s<0:=zdh fun h=>by (have g:=za5 h;have h9:=hc10;simp at h9;omega));(iterate 13 (refine chS 1 ?_ (by intro _ q;simp only[↓bO,go_sem,seval,hc0,hc1];exact q)));simp only[↓bO,go_sem,seval,hc0,hc1];apply w;refine zP (b:=true) (by first | exact rfl | exact congrArg (fun b=>AV.v (.bool b)) hb24) (fun _=>?_) (fun h=>(by cases h));refine sqR fun _ w=>?_;refine chS 1 ?_ (by intro _ q;simp only[↓bO,go_sem,seval,hc0,hc1];exact q);simp only[↓bO,go_sem,seval,hc0,hc1];apply w;apply zR;(try simp only[go_sem]);exact zcl hneg
  simp only[go_sem];(have h2:2<=s.size:=by (have h9:=hc10;simp at h9;omega));have hl0:((0:Int)<(s.size:Int))=True:=eq_true tz1;have hl1:((1:Int)<(s.size:Int))=True:=eq_true tz1;(iterate 5 (refine chS 1 ?_ (by intro _ q;simp only[↓bO,go_sem,seval,hc0,hc1,hl0,hl1];exact q)));refine zW 15 rfl (fun hc15=>?_) (fun hc15=>?_)
  ·
   simp only[go_sem];(have hneg:nuR s<0:=zdh fun h=>by (have g:=za5 h;have h9:=hc15;simp at h9;omega));(iterate 8 (refine chS 1 ?_ (by intro _ q;simp only[↓bO,go_sem,seval,hc0,hc1,hl0,hl1];exact q)));simp only[↓bO,go_sem,seval,hc0,hc1,hl0,hl1];apply w;refine zP (b:=true) (by first | exact rfl | exact congrArg (fun b=>AV.v (.bool b)) hb24) (fun _=>?_) (fun h=>(by cases h));refine sqR fun _ w=>?_;refine chS 1 ?_ (by intro _ q;simp only[↓bO,go_sem,seval,hc0,hc1,hl0,hl1];exact q);simp only[↓bO,go_sem,seval,hc0,hc1,hl0,hl1];apply w;apply zR;(try simp only[go_sem]);exact zcl hneg
  (iterate 5 (refine chS 1 ?_ (by intro _ q;simp only[↓bO,go_sem,seval,hc0,hc1,hl0,hl1];exact q)));refine zW 20 rfl (fun hc20=>?_) (fun hc20=>?_)
  ·
   simp only[go_sem];(have hneg:nuR s<0:=zdh fun h=>by (have g:=za5 h;have h9:=hc20;simp at h9;omega));(iterate 3 (refine chS 1 ?_ (by intro _ q;simp only[↓bO,go_sem,seval,hc0,hc1,hl0,hl1];exact q)));simp only[↓bO,go_sem,seval,hc0,hc1,hl0,hl1];apply w;refine zP (b:=true) (by first | exact rfl | exact congrArg (fun b=>AV.v (.bool b)) hb24) (fun _=>?_) (fun h=>(by cases h));refine sqR fun _ w=>?_;refine chS 1 ?_ (by intro _ q;simp only[↓bO,go_sem,seval,hc0,hc1,hl0,hl1];exact q);simp only[↓bO,go_sem,seval,hc0,hc1,hl0,hl1];apply w;apply zR;(try simp only[go_sem]);exact zcl hneg
  simp only[go_sem];(have h97:97<=bt s 1:=by (have h9:=hc20;simp at h9;omega));(iterate 3 (refine chS 1 ?_ (by intro _ q;simp only[↓bO,go_sem,seval,hc0,hc1,hl0,hl1];exact q)));simp only[↓bO,go_sem,seval,hc0,hc1,hl0,hl1];apply w;apply zP rfl <;> intro hb24
  ·
   (have hneg:nuR s<0:=zdh fun h=>by (have g:=za5 h;have h9:=hb24;simp at h9;omega));refine sqR fun _ w=>?_;refine chS 1 ?_ (by intro _ q;simp only[↓bO,go_sem,seval,hc0,hc1,hl0,hl1];exact q);simp only[↓bO,go_sem,seval,hc0,hc1,hl0,hl1];apply w;apply zR;(try simp only[go_sem]);exact zcl hneg
  (have h122:bt s 1<=122:=by (have h9:=hb24;simp at h9;omega));(have hwu:IntKind.u8.wrap (bt s 1-97)=bt s 1-97:=by (unfold IntKind.wrap;simp[IntKind.bits,IntKind.signed];omega));(have hwc:IntKind.i64.wrap (bt s 1-97)=bt s 1-97:=by (rw[z8 tz1 tz1]));apply zS;apply u;refine sqR fun _ u=>?_;simp only[↓bO,go_sem,seval,hc0,hc1,hl0,hl1,hwu,hwc];apply u;refine zO fun _ u=>?_;refine sqR fun _ w=>?_;(iterate 2 (refine chS 1 ?_ (by intro _ q;simp only[↓bO,go_sem,seval,hc0,hc1,hl0,hl1,hwu,hwc];exact q)));simp only[↓bO,go_sem,seval,hc0,hc1,hl0,hl1,hwu,hwc];apply w;apply zP rfl <;> intro hb27
  ·
   (have h3:2<s.size:=by (have h9:=hb27;simp at h9;omega));have hl2:((2:Int)<=(s.size:Int))=True:=eq_true tz1;refine sqR fun _ w=>?_;(iterate 2 (refine chS 1 ?_ (by intro _ q;simp only[↓bO,go_sem,seval,hc0,hc1,hl0,hl1,hwu,hwc,hl2];exact q)));refine zN 1 fun _ y=>?_;simp only[↓bO,go_sem,seval,hc0,hc1,hl0,hl1,hwu,hwc,hl2];refine Atoi_no (s.extract 2 s.size) (by (have:=zct s (a:=2) (b:=s.size) tz1 tz1);omega) hv fun v tv pv=>?_;(iterate 4 (apply y;clear y;refine zN 1 fun _ y=>?_;simp only[↓bO,go_sem,seval,hc0,hc1,hl0,hl1,hwu,hwc,hl2]));apply y;clear y;simp only[↓bO,go_sem,seval,hc0,hc1,hl0,hl1,hwu,hwc,hl2];apply w;refine zO fun _ w=>?_;refine sqR fun _ z=>?_;refine chS 1 ?_ (by intro _ q;simp only[↓bO,go_sem,seval,hc0,hc1,hl0,hl1,hwu,hwc,hl2];exact q);refine chS 1 ?_ (by intro _ q;simp only[↓bO,go_sem,seval,isCn,↓if91,hc0,hc1,hl0,hl1,hwu,hwc,hl2];exact q);refine chS 1 ?_ (by intro _ q;simp only[↓bO,go_sem,seval,hc0,hc1,hl0,hl1,hwu,hwc,hl2];exact q);simp only[go_sem];refine zW 36 rfl (fun hc36=>?_) (fun hc36=>?_)
   ·
    simp only[go_sem];(have hneg:nuR s<0:=zdh fun h=>hv _ ((za5 h).2.2.2.2.2.2.2 h3).2);(iterate 6 (refine chS 1 ?_ (by intro _ q;simp only[↓bO,go_sem,seval,hc0,hc1,hl0,hl1,hwu,hwc,hl2];exact q)));simp only[↓bO,go_sem,seval,hc0,hc1,hl0,hl1,hwu,hwc,hl2];apply z;refine zP (b:=true) (by first | exact rfl | exact congrArg (fun b=>AV.v (.bool b)) hb43) (fun _=>?_) (fun h=>(by cases h));refine sqR fun _ z=>?_;refine chS 1 ?_ (by intro _ q;simp only[↓bO,go_sem,seval,hc0,hc1,hl0,hl1,hwu,hwc,hl2];exact q);simp only[↓bO,go_sem,seval,hc0,hc1,hl0,hl1,hwu,hwc,hl2];apply z;apply zR;(try simp only[go_sem]);exact zcl hneg
   simp only[go_sem];exact absurd hc36 tz4
  (have h3:¬2<s.size:=by (have h9:=hb27;simp at h9;omega));(have hwz:IntKind.i64.wrap (0+(bt s 1-97))=bt s 1-97:=by (rw[z8 tz1 tz1];omega));apply zS;apply u;refine sqR fun _ u=>?_;(iterate 6 (refine chS 1 ?_ (by intro _ q;simp only[↓bO,go_sem,seval,hc0,hc1,hl0,hl1,hwu,hwc,hwz];exact q)));simp only[↓bO,go_sem,seval,hc0,hc1,hl0,hl1,hwu,hwc,hwz];apply u;refine zO fun _ u=>?_;refine sqR fun _ w=>?_;refine chS 1 ?_ (by intro _ q;simp only[↓bO,go_sem,seval,hc0,hc1,hl0,hl1,hwu,hwc,hwz];exact q);refine zN 1 fun _ y=>?_;simp only[↓bO,go_sem,seval,hc0,hc1,hl0,hl1,hwu,hwc,hwz];refine APure.call (zeP _) ?_;apply y;clear y;refine chS 1 ?_ (by intro _ q;simp only[↓bO,go_sem,seval,hc0,hc1,hl0,hl1,hwu,hwc,hwz];exact q);simp only[↓bO,go_sem,seval,hc0,hc1,hl0,hl1,hwu,hwc,hwz];apply w;apply zP rfl <;> intro hb55
  ·
   have hneg:nuR s<0:=zgc (zd9 hb55) (fun h=>by (have g:=za5 h;first | (have g1:=g.2.2.2.2.2.2.2 h3;have e:=g1.2;rw[hv] at e;injection e with e;omega) | omega));refine sqR fun _ w=>?_;refine chS 1 ?_ (by intro _ q;simp only[↓bO,go_sem,seval,hc0,hc1,hl0,hl1,hwu,hwc,hwz];exact q);simp only[↓bO,go_sem,seval,hc0,hc1,hl0,hl1,hwu,hwc,hwz];apply w;apply zR;(try simp only[go_sem]);exact zcl hneg
  have hnm:=hb55;apply zS;apply u;refine sqR fun _ u=>?_;(iterate 2 (refine chS 1 ?_ (by intro _ q;simp only[↓bO,go_sem,seval,hc0,hc1,hl0,hl1,hwu,hwc,hwz];exact q)));simp only[↓bO,go_sem,seval,hc0,hc1,hl0,hl1,hwu,hwc,hwz];apply u;apply zR;(try simp only[go_sem]);have hnn:=zjM (zeb hnm) tz1;exact pw_num hnn.1 hnn.2
theorem zdI (s:ByteArray) (hs:s.size<=1048576):APure Tryz.prog 42 [.v (.string s)] (.tup [.v (.int .i64 (zbV s)),.v (.bool (decide (0<=nuR s)))]):=by
 cases hc:Lib.atoiAll (bl (s.extract 2 s.size)) with
 | ok v=>exact Number_ok s hs v hc
 | «syntax»=>exact zin s hs fun v h=>by rw[hc] at h;cases h
 | range=>exact zin s hs fun v h=>by rw[hc] at h;cases h
theorem name_c (s:ByteArray) (hs:s.size<=1048576):PCalls4 140 [.ptr 0 0] (s) (false) (.agg (zcE s).1.cells) ((zcE s).2.1) ((zcE s).2.2):=by
  refine ACalls.clean (C:=fun r os'=>r=_/\os'=_) ?_;refine aIn Tryz.func140 fun hm=>?_;simp only[Tryz.ntmps140,Tryz.results140,go_sem,seval];(iterate 2 (refine zO fun _ u=>?_;apply zQ;simp only[↓bO,go_sem,seval,pC];apply u));refine zO fun _ u=>?_;apply zV;refine zae (σ:=Nat) (mB 57 13) (fun k=>k<=s.size/\∀j,j<k->zcL (bt s j)=true) (fun k=>[(3,.v (.int .i64 ((k:Nat):Int)))]) (fun k=>[]) (fun k=>s.size-k) 0 (⟨by omega,fun j hj=>by omega⟩) ?_ (fun k hk=>?_)
  ·
   (try simp only[go_sem,seval]);exact zaP
  simp only[go_sem,seval];have hck:((((s[k]?).getD 0).toNat:Nat):Int)=bt s k:=rfl;have hbk:=za8 s k;(have hw1:IntKind.i64.wrap ((k:Int)+1)=((k+1:Nat):Int):=by (rw[z8 tz1 tz1];omega));have hki:((k:Int)<=(s.size:Int))=True:=eq_true tz1;have hix:=pw_idx2 s k;have hexs:=zct s (a:=0) (b:=k) tz1 tz1;refine zO fun _ w=>?_;refine sqR fun _ z=>?_;(iterate 8 (refine chS 1 ?_ (by intro _ q;simp only[↓bO,go_sem,seval,pC,hck,hw1,hki];exact q)));refine zW 13 rfl (fun hc13=>?_) (fun hc13=>?_)
  ·
   simp only[go_sem];(have hlt:k<s.size:=by (have h9:=hc13;simp at h9;omega));(iterate 6 (refine chS 1 ?_ (by intro _ q;simp only[↓bO,go_sem,seval,pC,hck,hw1,hki,hlt];exact q)));refine zN 1 fun _ y=>?_;simp only[↓bO,go_sem,seval,pC,hck,hw1,hki,hlt];refine APure.call (zgq ⟨#[39,97,98,99,100,101,102,103,104,105,106,107,108,109,110,111,112,113,114,115,116,117,118,119,120,121,122,48,49,50,51,52,53,54,55,56,57]⟩ (bt s k)) ?_;apply y;clear y;refine chS 1 ?_ (by intro _ q;simp only[↓bO,go_sem,seval,pC,hck,hw1,hki,hlt];exact q);simp only[↓bO,go_sem,seval,pC,hck,hw1,hki,hlt];apply z;apply zP rfl <;> intro hb22
   ·
    (have hin:zcL (bt s k)=true:=by (rw[<- hix];simpa using hb22));apply zS;apply w;apply zV;apply zQ;(iterate 2 (refine chS 1 ?_ (by intro _ q;simp only[↓bO,go_sem,seval,pC,hck,hw1,hki,hlt];exact q)));simp only[↓bO,go_sem,seval,pC,hck,hw1,hki,hlt];refine ⟨(k+1),⟨by omega,fun j hj=>(by rcases zH j k with h3 | h3 <;> first | exact hk.2 j h3 | (obtain rfl:j=k:=tz1;exact hin))⟩,tz1,?_⟩;(try simp only[go_sem,seval,hck,hw1,hki,hlt]);exact zaP
   have hrun:zdz s 0 zcL=k:=runN_eq tz1 (fun i hi=>by (rw[zz];exact hk.2 i hi)) (fun hlt2=>by (rw[zz] at hlt2 ⊢;(rw[hck,<- hix];simpa using hb22)));apply zah;simp only[zag,z6,zY,bA,Nat.reduceEqDiff,↓reduceIte];apply u;refine sqR fun _ u=>?_;(iterate 6 (refine chS 1 ?_ (by intro _ q;simp only[↓bO,go_sem,seval,pC,hlt,hki];exact q)));refine zN 1 fun _ y=>?_;simp only[↓bO,go_sem,seval,pC,hlt,hki];refine APure.call (zdI (s.extract 0 k) tz1) ?_;(iterate 4 (apply y;clear y;refine zN 1 fun _ y=>?_;simp only[↓bO,go_sem,seval,pC,hlt,hki]));apply y;clear y;simp only[↓bO,go_sem,seval,pC,hlt,hki];apply u;refine sqR fun _ u=>?_;(iterate 6 (refine chS 1 ?_ (by intro _ q;simp only[↓bO,go_sem,seval,pC,hlt,hki];exact q)));refine zW 40 rfl (fun hc40=>?_) (fun hc40=>?_)
   ·
    simp only[go_sem];exact absurd hc40 tz4
   (iterate 5 (refine chS 1 ?_ (by intro _ q;simp only[↓bO,go_sem,seval,pC,hlt,hki];exact q)));simp only[↓bO,go_sem,seval,pC,hlt,hki];apply u;refine sqR fun _ u=>?_;(iterate 9 (refine chS 1 ?_ (by intro _ q;simp only[↓bO,go_sem,seval,pC,hlt,hki];exact q)));simp only[↓bO,go_sem,seval,pC,hlt,hki];apply u;refine sqR fun _ u=>?_;refine chS 1 ?_ (by intro _ q;simp only[↓bO,go_sem,seval,pC,hlt,hki];exact q);refine zN 1 fun _ y=>?_;simp only[↓bO,go_sem,seval,pC,hlt,hki];refine APure.call (zbM (zbV (s.extract 0 k))) ?_;apply y;clear y;simp only[↓bO,go_sem,seval,pC,hlt,hki];apply u;apply zR;(try simp only[zag,z6,zY,zbg,za3,zap,bS,bA,zao,zad,zaO,bL,Nat.reduceAdd,Nat.reduceLeDiff,Nat.reduceEqDiff,↓reduceIte,zbR,tyX,pC,hlt,hki]);(have hpw:zcE s=(.mk 1 (zbV (s.extract 0 k)) [],s.extract k s.size,!decide (0<=nuR (s.extract 0 k))):=by (unfold zcE;rw[hrun]));rw[hpw];refine ⟨_,_,⟨rfl,rfl⟩,.data (Ty.dataAgg _),pUnd tz1 _ _,?_,?_,by omega⟩;(· exact Le.refl _);first | exact ⟨0,rfl,rfl⟩ | exact ⟨1,rfl,rfl⟩ | exact ⟨2,rfl,rfl⟩ | exact ⟨3,rfl,rfl⟩
  simp only[go_sem];(have hge:¬k<s.size:=by (have h9:=hc13;simp at h9;omega));have hrun:zdz s 0 zcL=k:=runN_eq tz1 (fun i hi=>by (rw[zz];exact hk.2 i hi)) (fun hlt2=>by (rw[zz] at hlt2 ⊢;omega));(iterate 8 (refine chS 1 ?_ (by intro _ q;simp only[↓bO,go_sem,seval,pC,hki];exact q)));simp only[↓bO,go_sem,seval,pC,hki];apply z;refine zP (b:=false) (by first | exact rfl | exact congrArg (fun b=>AV.v (.bool b)) hb22) (fun h=>(by cases h)) (fun _=>?_);apply zah;simp only[zag,z6,zY,bA,Nat.reduceEqDiff,↓reduceIte];apply u;refine sqR fun _ u=>?_;(iterate 6 (refine chS 1 ?_ (by intro _ q;simp only[↓bO,go_sem,seval,pC,hki];exact q)));refine zN 1 fun _ y=>?_;simp only[↓bO,go_sem,seval,pC,hki];refine APure.call (zdI (s.extract 0 k) tz1) ?_;(iterate 4 (apply y;clear y;refine zN 1 fun _ y=>?_;simp only[↓bO,go_sem,seval,pC,hki]));apply y;clear y;simp only[↓bO,go_sem,seval,pC,hki];apply u;refine sqR fun _ u=>?_;(iterate 6 (refine chS 1 ?_ (by intro _ q;simp only[↓bO,go_sem,seval,pC,hki];exact q)));refine zW 40 rfl (fun hc40=>?_) (fun hc40=>?_)
  ·
   simp only[go_sem];exact absurd hc40 tz4
  (iterate 5 (refine chS 1 ?_ (by intro _ q;simp only[↓bO,go_sem,seval,pC,hki];exact q)));simp only[↓bO,go_sem,seval,pC,hki];apply u;refine sqR fun _ u=>?_;(iterate 9 (refine chS 1 ?_ (by intro _ q;simp only[↓bO,go_sem,seval,pC,hki];exact q)));simp only[↓bO,go_sem,seval,pC,hki];apply u;refine sqR fun _ u=>?_;refine chS 1 ?_ (by intro _ q;simp only[↓bO,go_sem,seval,pC,hki];exact q);refine zN 1 fun _ y=>?_;simp only[↓bO,go_sem,seval,pC,hki];refine APure.call (zbM (zbV (s.extract 0 k))) ?_;apply y;clear y;simp only[↓bO,go_sem,seval,pC,hki];apply u;apply zR;(try simp only[zag,z6,zY,zbg,za3,zap,bS,bA,zao,zad,zaO,bL,Nat.reduceAdd,Nat.reduceLeDiff,Nat.reduceEqDiff,↓reduceIte,zbR,tyX,pC,hki]);(have hpw:zcE s=(.mk 1 (zbV (s.extract 0 k)) [],s.extract k s.size,!decide (0<=nuR (s.extract 0 k))):=by (unfold zcE;rw[hrun]));rw[hpw];refine ⟨_,_,⟨rfl,rfl⟩,.data (Ty.dataAgg _),pUnd tz1 _ _,?_,?_,by omega⟩;(· exact Le.refl _);first | exact ⟨0,rfl,rfl⟩ | exact ⟨1,rfl,rfl⟩ | exact ⟨2,rfl,rfl⟩ | exact ⟨3,rfl,rfl⟩
def PwOk (f:Nat):Prop:=∀s:ByteArray,s.size<f->s.size<=1048576->PCalls4 94 [.ptr 0 0] s false (.agg (pwF f s).1.cells) (pwF f s).2.1 (pwF f s).2.2
structure PwS where
 n:Nat
 acc:List Ty
 s:ByteArray
 b:Bool
def PwS.ok (f:Nat) (s0:ByteArray) (w:PwS):Prop:=zcD (pwF f) w.n w.acc w.s w.b=zcD (pwF f) (s0.size+1) [(pwF f s0).1] (pwF f s0).2.1 (pwF f s0).2.2/\w.s.size<w.n/\w.acc.length+w.s.size<=s0.size+1
theorem PwS.start (f:Nat) (s0:ByteArray):PwS.ok f s0 ⟨s0.size+1,[(pwF f s0).1],(pwF f s0).2.1,(pwF f s0).2.2⟩:=by
 have:=(zdQ f s0).le;exact ⟨rfl,by simp only;omega,by simp only[zx,zu];omega⟩
theorem PwS.ok.next {f:Nat} {s0:ByteArray} {w:PwS} (h:w.ok f s0) (hb:w.b=false) (hs:zcv w.s bSt=true):PwS.ok f s0 ⟨w.n-1,w.acc++[(pwF f (zdB w.s bSt)).1],(pwF f (zdB w.s bSt)).2.1,(pwF f (zdB w.s bSt)).2.2⟩:=by
 obtain ⟨h1,h2,h3⟩:=h;obtain ⟨m,hm⟩:∃m,w.n=m+1:=⟨w.n-1,by omega⟩;have g1:=zbk hs;have g2:=(zdQ f (zdB w.s bSt)).le;rw[za9] at g1;rw[hm,zcD,if_pos ⟨hb,hs⟩] at h1;refine ⟨by simp only[hm,Nat.add_sub_cancel];exact h1,by simp only;omega,by simp only[zd,zx,zu];omega⟩
theorem PwS.ok.stop {f:Nat} {s0:ByteArray} {w:PwS} (h:w.ok f s0) (hn:w.b=true\/zcv w.s bSt=false):zbQ (pwF f) s0=zfp (w.acc,w.s,w.b):=by
 obtain ⟨h1,h2,h3⟩:=h;obtain ⟨m,hm⟩:∃m,w.n=m+1:=⟨w.n-1,by omega⟩;rw[hm,zcD,if_neg (by rintro ⟨g1,g2⟩;rcases hn with h | h <;> simp_all)] at h1;unfold zbQ;rw[<- h1]
theorem zje (l:List Ty) (s:ByteArray):zfp (l,s,true)=(zi1 l,s,true):=by
 unfold zfp;simp
theorem zk1 (l:List Ty) (s:ByteArray):zfp (l,s,false)=(zi1 l,if zcv s bRp=true then zdB s bRp else s,!zcv s bRp):=by
 unfold zfp;cases h:zcv s bRp <;> simp
theorem zij (t:Ty):zi1 [t]=t:=rfl
theorem zgS {l:List Ty} (h:¬l.length=1):zi1 l=.mk 5 0 l:=by
 match l,h with
 | [],_=>rfl
 | [_],h=>exact absurd rfl h
 | _::_::_,_=>rfl
theorem zll {l:List Ty} (h:l.length=1):∃t,l=[t]:=by
 match l,h with
 | [t],_=>exact ⟨t,rfl⟩
theorem zdw:Le (.agg [.v (.int .i64 0),.v (.int .i64 0),.v (.slice none 0 0)]) (.agg (Ty.mk 0 0 []).cells):=by
 rw[Ty.cells_eq];exact Le.agg ⟨.refl _,.refl _,Le.slNil 3,trivial⟩
theorem Ty.pcells (k n:Int) (ps:List Ty):(Ty.mk k n ps).cells=[.v (.int .i64 k),.v (.int .i64 n),.sl 3 (ps.map Ty.cells)]:=Ty.cells_eq _
theorem inner_c (f:Nat) (ih:∀g,g<=f->PwOk g) (s:ByteArray) (hf:s.size<f) (hs:s.size<=1048576):PCalls4 139 [.ptr 0 0] s false (.agg (zbQ (pwF f) s).1.cells) (zbQ (pwF f) s).2.1 (zbQ (pwF f) s).2.2:=by
  refine ACalls.clean (C:=fun r os'=>r=_/\os'=_) ?_;refine aIn Tryz.func139 fun hm=>?_;simp only[Tryz.ntmps139,Tryz.results139,go_sem,seval];refine sqR fun _ u=>?_;simp only[↓bO,go_sem,seval,pC];apply u;refine zO fun _ u=>?_;refine zeh 2 [_] [_] rfl fun _ y=>?_;refine chS 1 ?_ (by intro _ q;simp only[↓bO,go_sem,seval,pC];exact q);simp only[↓bO,go_sem,seval,pC];refine PCalls4.at (k:=0) (ih f (zy f) s hf hs) ?_ (Ty.dataAgg _) rfl tz2 ?_;(· exact ⟨.ptr rfl,trivial⟩);simp only[zaz,Nat.reduceEqDiff,↓reduceIte];apply y;clear y;refine MidAt_lit ei24 tz3 rfl tz3 (by intro p hp;simp at hp;subst hp;exact ⟨rfl,Ty.cells_len _⟩) ?_;simp only[zaz,bS,bA,tyX,pC,zi];simp only[↓bO,go_sem,seval,pC];apply u;refine zO fun _ u=>?_;apply zV;refine zae (σ:=PwS) (mB 41 13) (fun w=>w.ok f s) (fun w=>[(3,.osl 2 3 (w.acc.map Ty.cells))]) (fun w=>[(2,.tok 26 3 w.acc.length),(0,.cells 141 (pC w.s w.b))]) (fun w=>w.n) ⟨s.size+1,[(pwF f s).1],(pwF f s).2.1,(pwF f s).2.2⟩ (PwS.start f s) ?_ (fun w hw=>?_)
  ·
   (try simp only[go_sem,seval,bL]);exact zaP
  simp only[go_sem,seval];have hwl:=hw.2.2;(have hb1:(w.acc.length+1) * 40<=140737488355328:=by omega);(have hb2:w.acc.length+1<=maxLen:=by (simp only[maxLen];omega));refine zO fun _ z=>?_;refine sqR fun _ x=>?_;(iterate 6 (refine chS 1 ?_ (by intro _ q;simp only[↓bO,go_sem,seval,pC,hb1,hb2,zc,zd];exact q)));refine zW 12 rfl (fun hc12=>?_) (fun hc12=>?_)
  ·
   simp only[go_sem];(have hb0:w.b=false:=by simpa using hc12);simp only[hb0];refine chS 1 ?_ (by intro _ q;simp only[↓bO,go_sem,seval,pC,hb1,hb2,zc,zd];exact q);refine zN 1 fun _ y=>?_;simp only[↓bO,go_sem,seval,pC,hb1,hb2,zc,zd];refine PCalls4.at (k:=0) (zfA w.s bSt false) ?_ (.v _) rfl tz2 ?_;(· exact ⟨.ptr rfl,.v _,trivial⟩);simp only[zaz,Nat.reduceEqDiff,↓reduceIte];apply y;clear y;simp only[↓bO,go_sem,seval,pC,hb1,hb2,zc,zd];apply x;apply zP rfl <;> intro hb15
   ·
    have hS:zcv w.s bSt=true:=hb15;simp only[hS,if_true];apply zS;apply z;apply zV;apply zQ;(iterate 2 (refine chS 1 ?_ (by intro _ q;simp only[↓bO,go_sem,seval,pC,hb1,hb2,zc,zd];exact q)));refine zN 1 fun _ y=>?_;simp only[↓bO,go_sem,seval,pC,hb1,hb2,zc,zd];have hcs:=zbk hS;rw[za9] at hcs;refine PCalls4.at (k:=0) (ih f (zy f) (zdB w.s bSt) (by have:=hw.2.2;omega) (by have:=hw.2.2;omega)) ?_ (Ty.dataAgg _) rfl tz2 ?_;(· exact ⟨.ptr rfl,trivial⟩);simp only[zaz,Nat.reduceEqDiff,↓reduceIte];apply y;clear y;refine chS 1 ?_ (by intro _ q;simp only[↓bO,go_sem,seval,↓zaV,↓za1,↓zaR,↓zaZ,↓zaS,↓zaY,↓za0,↓zaX,↓zaU,↓zax,↓zav,↓zaw,pC,hb1,hb2,zc,zd];exact q);refine chS 1 ?_ (by intro _ q;simp only[↓bO,go_sem,seval,pC,hb1,hb2,zc,zd];exact q);simp only[↓bO,go_sem,seval,pC,hb1,hb2,zc,zd];refine ⟨⟨w.n-1,w.acc++[(pwF f (zdB w.s bSt)).1],(pwF f (zdB w.s bSt)).2.1,(pwF f (zdB w.s bSt)).2.2⟩,hw.next hb0 hS,(by have:=hw.2.1;simp only;omega),?_⟩;(try simp only[go_sem,seval,hb1,hb2,zc,bL,zd]);exact zaP
   have hst:=hw.stop (.inr (show zcv w.s bSt=false from hb15));have hS:zcv w.s bSt=false:=hb15;simp only[hS,zA,if_false];apply zah;simp only[zag,z6,zY,bA,Nat.reduceEqDiff,↓reduceIte];apply u;refine sqR fun _ u=>?_;(iterate 6 (refine chS 1 ?_ (by intro _ q;simp only[↓bO,go_sem,seval,pC];exact q)));refine zW 26 rfl (fun hc26=>?_) (fun hc26=>?_)
   ·
    simp only[go_sem];(have hB:w.b=true:=by (first | exact hb0 | simpa using hc26));(iterate 6 (refine chS 1 ?_ (by intro _ q;simp only[↓bO,go_sem,seval,pC];exact q)));simp only[↓bO,go_sem,seval,pC];apply u;refine zO fun _ u=>?_;refine sqR fun _ z=>?_;(iterate 2 (refine chS 1 ?_ (by intro _ q;simp only[↓bO,go_sem,seval,pC];exact q)));simp only[↓bO,go_sem,seval,pC];apply z;apply zP rfl <;> intro hb35
    ·
     obtain ⟨t1,hone⟩:=zll (l:=w.acc) (by have h9:=hb35;simp at h9;omega);simp only[hone,zk,zq];refine sqR fun _ z=>?_;(iterate 3 (refine chS 1 ?_ (by intro _ q;simp only[↓bO,go_sem,seval,pC];exact q)));simp only[↓bO,go_sem,seval,pC];apply z;apply zR;(try simp only[zag,z6,zY,zbg,za3,zap,bS,bA,zao,zad,zaO,bL,Nat.reduceAdd,Nat.reduceLeDiff,Nat.reduceEqDiff,↓reduceIte,zbR,tyX,pC,zi]);exact absurd (hb0.symm.trans hB) tz4
    (have hln:¬w.acc.length=1:=by (have h9:=hb35;simp at h9;omega));apply zS;apply u;refine sqR fun _ u=>?_;(iterate 2 (refine chS 1 ?_ (by intro _ q;simp only[↓bO,go_sem,seval,pC];exact q)));simp only[↓bO,go_sem,seval,pC];apply u;apply zR;(try simp only[zag,z6,zY,zbg,za3,zap,bS,bA,zao,zad,zaO,bL,Nat.reduceAdd,Nat.reduceLeDiff,Nat.reduceEqDiff,↓reduceIte,zbR,tyX,pC,zi]);exact absurd (hb0.symm.trans hB) tz4
   simp only[go_sem];(have hB:w.b=false:=by (first | exact hb0 | simpa using hc26));(try simp only[hB]);refine chS 1 ?_ (by intro _ q;simp only[↓bO,go_sem,seval,pC];exact q);refine zN 1 fun _ y=>?_;simp only[↓bO,go_sem,seval,pC];refine PCalls4.at (k:=0) (zfA w.s bRp false) ?_ (.v _) rfl tz2 ?_;(· exact ⟨.ptr rfl,.v _,trivial⟩);simp only[zaz,Nat.reduceEqDiff,↓reduceIte];(iterate 4 (apply y;clear y;refine zN 1 fun _ y=>?_;simp only[↓bO,go_sem,seval,pC]));apply y;clear y;simp only[↓bO,go_sem,seval,pC];apply u;refine zO fun _ u=>?_;refine sqR fun _ z=>?_;(iterate 2 (refine chS 1 ?_ (by intro _ q;simp only[↓bO,go_sem,seval,pC];exact q)));simp only[↓bO,go_sem,seval,pC];apply z;apply zP rfl <;> intro hb35
   ·
    obtain ⟨t1,hone⟩:=zll (l:=w.acc) (by have h9:=hb35;simp at h9;omega);simp only[hone,zk,zq];refine sqR fun _ z=>?_;(iterate 3 (refine chS 1 ?_ (by intro _ q;simp only[↓bO,go_sem,seval,pC];exact q)));simp only[↓bO,go_sem,seval,pC];apply z;apply zR;(try simp only[zag,z6,zY,zbg,za3,zap,bS,bA,zao,zad,zaO,bL,Nat.reduceAdd,Nat.reduceLeDiff,Nat.reduceEqDiff,↓reduceIte,zbR,tyX,pC,zi]);rw[hst,hB,zk1];refine ⟨_,_,⟨rfl,rfl⟩,.data (Ty.dataAgg _),pUnd tz1 _ _,?_,?_,by omega⟩;(· simp only[hone,zij];exact Le.refl _);first | exact ⟨2,rfl,rfl⟩ | (simp only[hB];exact ⟨2,rfl,rfl⟩)
   (have hln:¬w.acc.length=1:=by (have h9:=hb35;simp at h9;omega));apply zS;apply u;refine sqR fun _ u=>?_;(iterate 2 (refine chS 1 ?_ (by intro _ q;simp only[↓bO,go_sem,seval,pC];exact q)));simp only[↓bO,go_sem,seval,pC];apply u;apply zR;(try simp only[zag,z6,zY,zbg,za3,zap,bS,bA,zao,zad,zaO,bL,Nat.reduceAdd,Nat.reduceLeDiff,Nat.reduceEqDiff,↓reduceIte,zbR,tyX,pC,zi]);rw[hst,hB,zk1];refine ⟨_,_,⟨rfl,rfl⟩,.data (Ty.dataAgg _),pUnd tz1 _ _,?_,?_,by omega⟩;(· simp only[zgS hln];rw[Ty.cells_eq];exact Le.agg ⟨.refl _,.refl _,Le.osl _ _ _,trivial⟩);first | exact ⟨2,rfl,rfl⟩ | (simp only[hB];exact ⟨2,rfl,rfl⟩)
  simp only[go_sem];(have hb0:w.b=true:=by simpa using hc12);have hst:=hw.stop (.inl hb0);(iterate 2 (refine chS 1 ?_ (by intro _ q;simp only[↓bO,go_sem,seval,pC];exact q)));simp only[↓bO,go_sem,seval,pC];apply x;refine zP (b:=false) (by first | exact rfl | exact congrArg (fun b=>AV.v (.bool b)) hb15) (fun h=>(by cases h)) (fun _=>?_);apply zah;simp only[zag,z6,zY,bA,Nat.reduceEqDiff,↓reduceIte];apply u;refine sqR fun _ u=>?_;(iterate 6 (refine chS 1 ?_ (by intro _ q;simp only[↓bO,go_sem,seval,pC];exact q)));refine zW 26 rfl (fun hc26=>?_) (fun hc26=>?_)
  ·
   simp only[go_sem];(have hB:w.b=true:=by (first | exact hb0 | simpa using hc26));(iterate 6 (refine chS 1 ?_ (by intro _ q;simp only[↓bO,go_sem,seval,pC];exact q)));simp only[↓bO,go_sem,seval,pC];apply u;refine zO fun _ u=>?_;refine sqR fun _ z=>?_;(iterate 2 (refine chS 1 ?_ (by intro _ q;simp only[↓bO,go_sem,seval,pC];exact q)));simp only[↓bO,go_sem,seval,pC];apply z;apply zP rfl <;> intro hb35
   ·
    obtain ⟨t1,hone⟩:=zll (l:=w.acc) (by have h9:=hb35;simp at h9;omega);simp only[hone,zk,zq];refine sqR fun _ z=>?_;(iterate 3 (refine chS 1 ?_ (by intro _ q;simp only[↓bO,go_sem,seval,pC];exact q)));simp only[↓bO,go_sem,seval,pC];apply z;apply zR;(try simp only[zag,z6,zY,zbg,za3,zap,bS,bA,zao,zad,zaO,bL,Nat.reduceAdd,Nat.reduceLeDiff,Nat.reduceEqDiff,↓reduceIte,zbR,tyX,pC,zi]);rw[hst,hB,zje];refine ⟨_,_,⟨rfl,rfl⟩,.data (Ty.dataAgg _),pUnd tz1 _ _,?_,?_,by omega⟩;(· simp only[hone,zij];exact Le.refl _);first | exact ⟨2,rfl,rfl⟩ | (simp only[hB];exact ⟨2,rfl,rfl⟩)
   (have hln:¬w.acc.length=1:=by (have h9:=hb35;simp at h9;omega));apply zS;apply u;refine sqR fun _ u=>?_;(iterate 2 (refine chS 1 ?_ (by intro _ q;simp only[↓bO,go_sem,seval,pC];exact q)));simp only[↓bO,go_sem,seval,pC];apply u;apply zR;(try simp only[zag,z6,zY,zbg,za3,zap,bS,bA,zao,zad,zaO,bL,Nat.reduceAdd,Nat.reduceLeDiff,Nat.reduceEqDiff,↓reduceIte,zbR,tyX,pC,zi]);rw[hst,hB,zje];refine ⟨_,_,⟨rfl,rfl⟩,.data (Ty.dataAgg _),pUnd tz1 _ _,?_,?_,by omega⟩;(· simp only[zgS hln];rw[Ty.cells_eq];exact Le.agg ⟨.refl _,.refl _,Le.osl _ _ _,trivial⟩);first | exact ⟨2,rfl,rfl⟩ | (simp only[hB];exact ⟨2,rfl,rfl⟩)
  simp only[go_sem];(have hB:w.b=false:=by (first | exact hb0 | simpa using hc26));(try simp only[hB]);refine chS 1 ?_ (by intro _ q;simp only[↓bO,go_sem,seval,pC];exact q);refine zN 1 fun _ y=>?_;simp only[↓bO,go_sem,seval,pC];refine PCalls4.at (k:=0) (zfA w.s bRp false) ?_ (.v _) rfl tz2 ?_;(· exact ⟨.ptr rfl,.v _,trivial⟩);simp only[zaz,Nat.reduceEqDiff,↓reduceIte];(iterate 4 (apply y;clear y;refine zN 1 fun _ y=>?_;simp only[↓bO,go_sem,seval,pC]));apply y;clear y;simp only[↓bO,go_sem,seval,pC];apply u;refine zO fun _ u=>?_;refine sqR fun _ z=>?_;(iterate 2 (refine chS 1 ?_ (by intro _ q;simp only[↓bO,go_sem,seval,pC];exact q)));simp only[↓bO,go_sem,seval,pC];apply z;apply zP rfl <;> intro hb35
  ·
   obtain ⟨t1,hone⟩:=zll (l:=w.acc) (by have h9:=hb35;simp at h9;omega);simp only[hone,zk,zq];refine sqR fun _ z=>?_;(iterate 3 (refine chS 1 ?_ (by intro _ q;simp only[↓bO,go_sem,seval,pC];exact q)));simp only[↓bO,go_sem,seval,pC];apply z;apply zR;(try simp only[zag,z6,zY,zbg,za3,zap,bS,bA,zao,zad,zaO,bL,Nat.reduceAdd,Nat.reduceLeDiff,Nat.reduceEqDiff,↓reduceIte,zbR,tyX,pC,zi]);exact absurd (hb0.symm.trans hB) tz4
  (have hln:¬w.acc.length=1:=by (have h9:=hb35;simp at h9;omega));apply zS;apply u;refine sqR fun _ u=>?_;(iterate 2 (refine chS 1 ?_ (by intro _ q;simp only[↓bO,go_sem,seval,pC];exact q)));simp only[↓bO,go_sem,seval,pC];apply u;apply zR;(try simp only[zag,z6,zY,zbg,za3,zap,bS,bA,zao,zad,zaO,bL,Nat.reduceAdd,Nat.reduceLeDiff,Nat.reduceEqDiff,↓reduceIte,zbR,tyX,pC,zi]);exact absurd (hb0.symm.trans hB) tz4
theorem pwhole_s (f:Nat) (ih:∀g,g<=f->PwOk g) (s:ByteArray) (hf:s.size<f+1) (hs:s.size<=1048576):PCalls4 94 [.ptr 0 0] s false (.agg (pwF (f+1) s).1.cells) (pwF (f+1) s).2.1 (pwF (f+1) s).2.2:=by
  refine ACalls.clean (C:=fun r os'=>r=_/\os'=_) ?_;refine aIn Tryz.func94 fun hm=>?_;simp only[Tryz.ntmps94,Tryz.results94,go_sem,seval];refine sqR fun _ u=>?_;simp only[↓bO,go_sem,seval,pC];apply u;refine sqR fun _ u=>?_;(iterate 2 (refine chS 1 ?_ (by intro _ q;simp only[↓bO,go_sem,seval,pC];exact q)));simp only[↓bO,go_sem,seval,pC];apply u;refine AWp_joinE (σ:=PwR) (mB 41 13) (fun j=>[]) (fun j=>[(2,.cells 26 j.1.cells),(0,.cells 141 (pC j.2.1 j.2.2))]) (fun j=>s.size<=1048576/\zbf (pwF f) s=j) ?_ (fun j hj=>?_)
  ·
   apply zV;refine zar (Weak.recell (id:=2) (t:=26) [.v (.int .i64 0),.v (.int .i64 0),.sl 3 []] rfl ⟨.refl _,.refl _,Le.slNil 3,trivial⟩) ?_;simp only[zaz,Nat.reduceEqDiff,↓reduceIte];refine sqR fun _ u=>?_;(iterate 4 (refine chS 1 ?_ (by intro _ q;simp only[↓bO,go_sem,seval,pC];exact q)));simp only[↓bO,go_sem,seval,pC];apply u;apply zP rfl <;> intro hb7
   ·
    exact absurd hb7 tz4
   refine sqR fun _ u=>?_;refine chS 1 ?_ (by intro _ q;simp only[↓bO,go_sem,seval,pC];exact q);refine zN 1 fun _ y=>?_;simp only[↓bO,go_sem,seval,pC];refine PCalls4.at (k:=0) (zfA s zgi false) ?_ (.v _) rfl tz2 ?_;(· exact ⟨.ptr rfl,.v _,trivial⟩);simp only[zaz,Nat.reduceEqDiff,↓reduceIte];apply y;clear y;simp only[↓bO,go_sem,seval,pC];apply u;apply zP rfl <;> intro hb13
   ·
    have hA:zcv s zgi=true:=hb13;simp only[hA,if_true];(have hbs:zbf (pwF f) s=(.mk 2 0 [],zdB s zgi,false):=by (unfold zbf;rw[if_pos hA]));apply zQ;refine chS 1 ?_ (by intro _ q;simp only[↓bO,go_sem,seval,pC];exact q);simp only[↓bO,go_sem,seval,pC];(try simp only[go_sem,seval]);refine ⟨(zbf (pwF f) s),⟨hs,rfl⟩,?_⟩;rw[hbs];(try simp only[Ty.pcells,zq]);exact clz2
   have hA:zcv s zgi=false:=hb13;simp only[hA,zA,if_false];refine sqR fun _ u=>?_;refine chS 1 ?_ (by intro _ q;simp only[↓bO,go_sem,seval,pC];exact q);refine zN 1 fun _ y=>?_;simp only[↓bO,go_sem,seval,pC];refine PCalls4.at (k:=0) (zfA s zca false) ?_ (.v _) rfl tz2 ?_;(· exact ⟨.ptr rfl,.v _,trivial⟩);simp only[zaz,Nat.reduceEqDiff,↓reduceIte];apply y;clear y;simp only[↓bO,go_sem,seval,pC];apply u;apply zP rfl <;> intro hb17
   ·
    have hB:zcv s zca=true:=hb17;simp only[hB,if_true];(have hbs:zbf (pwF f) s=(.mk 3 0 [],zdB s zca,false):=by (unfold zbf;rw[if_neg (by simp[hA]),if_pos hB]));apply zQ;refine chS 1 ?_ (by intro _ q;simp only[↓bO,go_sem,seval,pC];exact q);simp only[↓bO,go_sem,seval,pC];(try simp only[go_sem,seval]);refine ⟨(zbf (pwF f) s),⟨hs,rfl⟩,?_⟩;rw[hbs];(try simp only[Ty.pcells,zq]);exact clz2
   have hB:zcv s zca=false:=hb17;simp only[hB,zA,if_false];refine sqR fun _ u=>?_;refine chS 1 ?_ (by intro _ q;simp only[↓bO,go_sem,seval,pC];exact q);refine zN 1 fun _ y=>?_;simp only[↓bO,go_sem,seval,pC];refine PCalls4.at (k:=0) (zfA s bLp false) ?_ (.v _) rfl tz2 ?_;(· exact ⟨.ptr rfl,.v _,trivial⟩);simp only[zaz,Nat.reduceEqDiff,↓reduceIte];apply y;clear y;simp only[↓bO,go_sem,seval,pC];apply u;apply zP rfl <;> intro hb21
   ·
    have hC:zcv s bLp=true:=hb21;simp only[hC,if_true];(have hbs:zbf (pwF f) s=zbQ (pwF f) (zdB s bLp):=by (unfold zbf;rw[if_neg (by simp[hA]),if_neg (by simp[hB]),if_pos hC]));have hcs:=zbk hC;rw[zcM] at hcs;apply zQ;refine chS 1 ?_ (by intro _ q;simp only[↓bO,go_sem,seval,pC];exact q);refine zN 1 fun _ y=>?_;simp only[↓bO,go_sem,seval,pC];refine PCalls4.at (k:=0) (inner_c f ih (zdB s bLp) tz1 tz1) ?_ (Ty.dataAgg _) rfl tz2 ?_;(· exact ⟨.ptr rfl,trivial⟩);simp only[zaz,Nat.reduceEqDiff,↓reduceIte];apply y;clear y;simp only[↓bO,go_sem,seval,pC];(try simp only[go_sem,seval]);refine ⟨(zbf (pwF f) s),⟨hs,rfl⟩,?_⟩;rw[hbs];(try simp only[Ty.pcells,zq]);exact clz2
   have hC:zcv s bLp=false:=hb21;simp only[hC,zA,if_false];(have hbs:zbf (pwF f) s=zcE s:=by (unfold zbf;rw[if_neg (by simp[hA]),if_neg (by simp[hB]),if_neg (by simp[hC])]));apply zQ;refine chS 1 ?_ (by intro _ q;simp only[↓bO,go_sem,seval,pC];exact q);refine zN 1 fun _ y=>?_;simp only[↓bO,go_sem,seval,pC];refine PCalls4.at (k:=0) (name_c s hs) ?_ (Ty.dataAgg _) rfl tz2 ?_;(· exact ⟨.ptr rfl,trivial⟩);simp only[zaz,Nat.reduceEqDiff,↓reduceIte];apply y;clear y;simp only[↓bO,go_sem,seval,pC];(try simp only[go_sem,seval]);refine ⟨(zbf (pwF f) s),⟨hs,rfl⟩,?_⟩;rw[hbs];(try simp only[Ty.pcells,zq]);exact clz2
  simp only[go_sem,seval];have hj:=hj.2;(have hjm:j.2.1.size<=s.size:=by (rw[<- hj];exact (zgV (zdQ f) s).le));refine zO fun _ u=>?_;refine sqR fun _ w=>?_;(iterate 6 (refine chS 1 ?_ (by intro _ q;simp only[↓bO,go_sem,seval,pC];exact q)));refine zW 31 rfl (fun hc31=>?_) (fun hc31=>?_)
  ·
   simp only[go_sem];(have hj0:j.2.2=false:=by simpa using hc31);simp only[hj0];refine chS 1 ?_ (by intro _ q;simp only[↓bO,go_sem,seval,pC];exact q);refine zN 1 fun _ y=>?_;simp only[↓bO,go_sem,seval,pC];refine PCalls4.at (k:=0) (zfA j.2.1 bAr false) ?_ (.v _) rfl tz2 ?_;(· exact ⟨.ptr rfl,.v _,trivial⟩);simp only[zaz,Nat.reduceEqDiff,↓reduceIte];apply y;clear y;simp only[↓bO,go_sem,seval,pC];apply w;apply zP rfl <;> intro hb34
   ·
    have hD:zcv j.2.1 bAr=true:=hb34;simp only[hD,if_true];have hcd:=zbk hD;rw[zck] at hcd;refine zdl [] 6 rfl mixed (trivial) rfl ?_;dsimp only;refine tkK 1 rfl fun _ y=>?_;simp only[↓bO,go_sem,seval,pC];apply y;clear y;refine al2 (i:=0) (j:=2) ?_ ?_
    ·
     refine opT fun _ y=>?_;simp only[↓bO,go_sem,seval,pC];refine y _ ⟨trivial,?_⟩;clear y;refine al1 (i:=2) ?_;refine opT fun _ y=>?_;simp only[↓bO,go_sem,seval,pC];refine PCalls4.at (k:=0) (ih f (zy f) (zdB j.2.1 bAr) tz1 tz1) ?_ (Ty.dataAgg _) rfl tz2 ?_;(· exact ⟨.ptr rfl,trivial⟩);simp only[zaz,Nat.reduceEqDiff,↓reduceIte];(try simp only[go_sem]);refine y _ ⟨trivial,?_⟩;clear y;refine al1 (i:=3) ?_;refine opT fun _ y=>?_;simp only[↓bO,go_sem,seval,↓zik,↓ziw,↓zig,↓zh1,↓ziR,↓zjl,↓ziy,↓zil,↓zie,↓ze4,↓ze2,↓zeV,pC];refine y _ ⟨trivial,?_⟩;clear y;refine al1 (i:=4) ?_;refine opT fun _ y=>?_;simp only[↓bO,go_sem,seval,pC];refine y _ ⟨trivial,?_⟩;clear y;refine al1 (i:=5) ?_;refine opT fun _ y=>?_;simp only[↓bO,go_sem,seval,pC];refine y _ ⟨trivial,?_⟩;clear y;refine dnA ?_;apply u;refine sqR fun _ u=>?_;refine chS 1 ?_ (by intro _ q;simp only[↓bO,go_sem,seval,pC];exact q);simp only[↓bO,go_sem,seval,pC];apply u;apply zR;(try simp only[zag,z6,zY,zbg,za3,zap,bS,bA,zao,zad,zaO,bL,Nat.reduceAdd,Nat.reduceLeDiff,Nat.reduceEqDiff,↓reduceIte,zbR,tyX,pC,zi]);(have hF:pwF (f+1) s=zci (pwF f) j:=by rw[pwF,hj]);rw[hF];rw[zci,if_pos ⟨hj0,hD⟩];refine ⟨_,_,⟨rfl,rfl⟩,.data (Ty.dataAgg _),pUnd tz1 _ _,?_,?_,by omega⟩;(· first | exact Le.refl _ | (simp only[Ty.pcells,zk,zq];exact Le.refl _));first | exact ⟨2,rfl,rfl⟩ | (simp only[hj0];exact ⟨2,rfl,rfl⟩)
    refine opT fun _ y=>?_;simp only[↓bO,go_sem,seval,pC];refine PCalls4.at (k:=0) (ih f (zy f) (zdB j.2.1 bAr) tz1 tz1) ?_ (Ty.dataAgg _) rfl tz2 ?_;(· exact ⟨.ptr rfl,trivial⟩);simp only[zaz,Nat.reduceEqDiff,↓reduceIte];(try simp only[go_sem]);refine y _ ⟨trivial,?_⟩;clear y;refine al1 (i:=0) ?_;refine opT fun _ y=>?_;simp only[↓bO,go_sem,seval,pC];refine y _ ⟨trivial,?_⟩;clear y;refine al1 (i:=3) ?_;refine opT fun _ y=>?_;simp only[↓bO,go_sem,seval,↓zik,↓ziw,↓zig,↓zh1,↓ziR,↓zjl,↓ziy,↓zil,↓zie,↓ze4,↓ze2,↓zeV,pC];refine y _ ⟨trivial,?_⟩;clear y;refine al1 (i:=4) ?_;refine opT fun _ y=>?_;simp only[↓bO,go_sem,seval,pC];refine y _ ⟨trivial,?_⟩;clear y;refine al1 (i:=5) ?_;refine opT fun _ y=>?_;simp only[↓bO,go_sem,seval,pC];refine y _ ⟨trivial,?_⟩;clear y;refine dnA ?_;apply u;refine sqR fun _ u=>?_;refine chS 1 ?_ (by intro _ q;simp only[↓bO,go_sem,seval,pC];exact q);simp only[↓bO,go_sem,seval,pC];apply u;apply zR;(try simp only[zag,z6,zY,zbg,za3,zap,bS,bA,zao,zad,zaO,bL,Nat.reduceAdd,Nat.reduceLeDiff,Nat.reduceEqDiff,↓reduceIte,zbR,tyX,pC,zi]);(have hF:pwF (f+1) s=zci (pwF f) j:=by rw[pwF,hj]);rw[hF];rw[zci,if_pos ⟨hj0,hD⟩];refine ⟨_,_,⟨rfl,rfl⟩,.data (Ty.dataAgg _),pUnd tz1 _ _,?_,?_,by omega⟩;(· first | exact Le.refl _ | (simp only[Ty.pcells,zk,zq];exact Le.refl _));first | exact ⟨2,rfl,rfl⟩ | (simp only[hj0];exact ⟨2,rfl,rfl⟩)
   have hD:zcv j.2.1 bAr=false:=hb34;simp only[hD,zA,if_false];apply zS;apply u;refine sqR fun _ u=>?_;refine chS 1 ?_ (by intro _ q;simp only[↓bO,go_sem,seval,pC];exact q);simp only[↓bO,go_sem,seval,pC];apply u;apply zR;(try simp only[zag,z6,zY,zbg,za3,zap,bS,bA,zao,zad,zaO,bL,Nat.reduceAdd,Nat.reduceLeDiff,Nat.reduceEqDiff,↓reduceIte,zbR,tyX,pC,zi]);(have hF:pwF (f+1) s=zci (pwF f) j:=by rw[pwF,hj]);rw[hF];rw[zci,if_neg fun h=>by rw[hD] at h;cases h.2];(try simp only[hj0]);refine ⟨_,_,⟨rfl,rfl⟩,.data (Ty.dataAgg _),pUnd tz1 _ _,?_,?_,by omega⟩;(· first | exact Le.refl _ | (simp only[Ty.pcells,zk,zq];exact Le.refl _));first | exact ⟨2,rfl,rfl⟩ | (simp only[hj0];exact ⟨2,rfl,rfl⟩)
  simp only[go_sem];(have hj0:j.2.2=true:=by simpa using hc31);(iterate 2 (refine chS 1 ?_ (by intro _ q;simp only[↓bO,go_sem,seval,pC];exact q)));simp only[↓bO,go_sem,seval,pC];apply w;refine zP (b:=false) (by first | exact rfl | exact congrArg (fun b=>AV.v (.bool b)) hb34) (fun h=>(by cases h)) (fun _=>?_);apply zS;apply u;refine sqR fun _ u=>?_;refine chS 1 ?_ (by intro _ q;simp only[↓bO,go_sem,seval,pC];exact q);simp only[↓bO,go_sem,seval,pC];apply u;apply zR;(try simp only[zag,z6,zY,zbg,za3,zap,bS,bA,zao,zad,zaO,bL,Nat.reduceAdd,Nat.reduceLeDiff,Nat.reduceEqDiff,↓reduceIte,zbR,tyX,pC,zi]);(have hF:pwF (f+1) s=zci (pwF f) j:=by rw[pwF,hj]);rw[hF];rw[zci,if_neg fun h=>by rw[hj0] at h;cases h.1];refine ⟨_,_,⟨rfl,rfl⟩,.data (Ty.dataAgg _),pUnd tz1 _ _,?_,?_,by omega⟩;(· first | exact Le.refl _ | (simp only[Ty.pcells,zk,zq];exact Le.refl _));first | exact ⟨2,rfl,rfl⟩ | (simp only[hj0];exact ⟨2,rfl,rfl⟩)
theorem pwhole_c:∀f,PwOk f:=by
 intro f
 induction f using Nat.strongRecOn with
 | _ f ih =>
  intro s hf hs
  match f,ih,hf with
  | 0,_,hf=>omega
  | f+1,ih,hf=>exact pwhole_s f (fun g hg=>ih g tz1) s hf hs
def zbz (s:ByteArray):Ty×Int:=if (pwF (s.size+1) s).2.2=false/\(pwF (s.size+1) s).2.1=ByteArray.empty/\(pwF (s.size+1) s).1.ptx=s then ((pwF (s.size+1) s).1,0) else (.mk 0 0 [],3)
theorem zga {a b:ByteArray} (h:eqS a b=false):a≠b:=fun e=>by rw[zbe.2 e] at h;cases h
theorem zdo {s:ByteArray} (h:¬((pwF (s.size+1) s).2.2=false/\(pwF (s.size+1) s).2.1=ByteArray.empty/\(pwF (s.size+1) s).1.ptx=s)):zbz s=(.mk 0 0 [],3):=if_neg h
theorem zdT {s:ByteArray} (h:(pwF (s.size+1) s).2.2=false/\(pwF (s.size+1) s).2.1=ByteArray.empty/\(pwF (s.size+1) s).1.ptx=s):zbz s=((pwF (s.size+1) s).1,0):=if_pos h
theorem zlm {e:Int}:Le (.tup [.agg [.v (.int .i64 0),.v (.int .i64 0),.v (.slice none 0 0)],.v (.int .i64 e)]) (.tup [.agg (Ty.mk 0 0 []).cells,.v (.int .i64 e)]):=Le.tup ⟨zdw,.refl _,trivial⟩
theorem zkk (s:ByteArray) (hs:s.size<=524287):APure Tryz.prog 43 [.v (.string s)] (.tup [.agg (zbz s).1.cells,.v (.int .i64 (zbz s).2)]):=by
  refine APure.mkL (.cons (.v _) .nil) (.tup (.cons (Ty.dataAgg _) (.cons (.v _) .nil))) ?_;refine aIn Tryz.func43 fun hm=>?_;simp only[Tryz.ntmps43,Tryz.results43,go_sem,seval];have hcb:(pwF (s.size+1) s).1.cnt+2 * (pwF (s.size+1) s).2.1.size<=2 * s.size+1:=zdQ (s.size+1) s;refine sqR fun _ u=>?_;refine chS 1 ?_ (by intro _ q;simp only[↓bO,go_sem,seval,pC];exact q);simp only[↓bO,go_sem,seval,pC];apply u;refine sqR fun _ u=>?_;(iterate 3 (refine chS 1 ?_ (by intro _ q;simp only[↓bO,go_sem,seval,pC];exact q)));simp only[↓bO,go_sem,seval,pC];apply u;refine sqR fun _ u=>?_;refine chS 1 ?_ (by intro _ q;simp only[↓bO,go_sem,seval,pC];exact q);refine zN 1 fun _ y=>?_;simp only[↓bO,go_sem,seval,pC];refine PCalls4.at (k:=1) (pwhole_c (s.size+1) s tz1 tz1) ?_ (Ty.dataAgg _) rfl tz2 ?_;(· exact ⟨.ptr rfl,trivial⟩);simp only[zaz,Nat.reduceEqDiff,↓reduceIte];apply y;clear y;refine chS 1 ?_ (by intro _ q;simp only[↓bO,go_sem,seval,pC];exact q);simp only[↓bO,go_sem,seval,pC];apply u;refine zO fun _ u=>?_;refine sqR fun _ w=>?_;(iterate 5 (refine chS 1 ?_ (by intro _ q;simp only[↓bO,go_sem,seval,pC];exact q)));refine zW 15 rfl (fun hc15=>?_) (fun hc15=>?_)
  ·
   simp only[go_sem];(have hno:(pwF (s.size+1) s).2.2=true:=by simpa using hc15);have hP:=zdo (s:=s) (fun h=>by rw[hno] at h;cases h.1);(iterate 11 (refine chS 1 ?_ (by intro _ q;simp only[↓bO,go_sem,seval,pC];exact q)));simp only[↓bO,go_sem,seval,pC];apply w;refine zP (b:=true) (by first | exact rfl | exact congrArg (fun b=>AV.v (.bool b)) hb27) (fun _=>?_) (fun h=>(by cases h));refine sqR fun _ w=>?_;(iterate 2 (refine chS 1 ?_ (by intro _ q;simp only[↓bO,go_sem,seval,pC];exact q)));simp only[↓bO,go_sem,seval,pC];apply w;apply zR;(try simp only[zag,z6,zY,zbg,za3,zap,bS,bA,zao,zad,zaO,bL,Nat.reduceAdd,Nat.reduceLeDiff,Nat.reduceEqDiff,↓reduceIte,zbR,tyX,pC,zi]);rw[hP];first | exact zlm | exact Le.refl _
  simp only[go_sem];(have hg:(pwF (s.size+1) s).2.2=false:=by simpa using hc15);(iterate 7 (refine chS 1 ?_ (by intro _ q;simp only[↓bO,go_sem,seval,pC];exact q)));refine zW 22 rfl (fun hc22=>?_) (fun hc22=>?_)
  ·
   simp only[go_sem];(have hP:zbz s=(.mk 0 0 [],3):=by (first | exact hP | exact zdo (s:=s) (fun h=>zga (a:=(pwF (s.size+1) s).2.1) (b:=ByteArray.empty) (zd9 hc22) h.2.1)));(iterate 4 (refine chS 1 ?_ (by intro _ q;simp only[↓bO,go_sem,seval,pC];exact q)));simp only[↓bO,go_sem,seval,pC];apply w;refine zP (b:=true) (by first | exact rfl | exact congrArg (fun b=>AV.v (.bool b)) hb27) (fun _=>?_) (fun h=>(by cases h));refine sqR fun _ w=>?_;(iterate 2 (refine chS 1 ?_ (by intro _ q;simp only[↓bO,go_sem,seval,pC];exact q)));simp only[↓bO,go_sem,seval,pC];apply w;apply zR;(try simp only[zag,z6,zY,zbg,za3,zap,bS,bA,zao,zad,zaO,bL,Nat.reduceAdd,Nat.reduceLeDiff,Nat.reduceEqDiff,↓reduceIte,zbR,tyX,pC,zi]);rw[hP];first | exact zlm | exact Le.refl _
  simp only[go_sem];have he:(pwF (s.size+1) s).2.1=ByteArray.empty:=zbe.1 (zeb hc22);refine chS 1 ?_ (by intro _ q;simp only[↓bO,go_sem,seval,pC];exact q);refine zN 1 fun _ y=>?_;simp only[↓bO,go_sem,seval,pC];refine APure.call (zfC (pwF (s.size+1) s).1 tz1) ?_;(iterate 2 (apply y;clear y;refine zN 1 fun _ y=>?_;simp only[↓bO,go_sem,seval,pC]));apply y;clear y;simp only[↓bO,go_sem,seval,pC];apply w;apply zP rfl <;> intro hb27
  ·
   (have hP:zbz s=(.mk 0 0 [],3):=by (first | exact hP | exact zdo (s:=s) (fun h=>zga (a:=(pwF (s.size+1) s).1.ptx) (b:=s) (zd9 hb27) h.2.2)));refine sqR fun _ w=>?_;(iterate 2 (refine chS 1 ?_ (by intro _ q;simp only[↓bO,go_sem,seval,pC];exact q)));simp only[↓bO,go_sem,seval,pC];apply w;apply zR;(try simp only[zag,z6,zY,zbg,za3,zap,bS,bA,zao,zad,zaO,bL,Nat.reduceAdd,Nat.reduceLeDiff,Nat.reduceEqDiff,↓reduceIte,zbR,tyX,pC,zi]);rw[hP];first | exact zlm | exact Le.refl _
  have hp:(pwF (s.size+1) s).1.ptx=s:=zbe.1 (zeb hb27);have hP:=zdT ⟨hg,he,hp⟩;apply zS;apply u;refine sqR fun _ u=>?_;(iterate 2 (refine chS 1 ?_ (by intro _ q;simp only[↓bO,go_sem,seval,pC];exact q)));simp only[↓bO,go_sem,seval,pC];apply u;apply zR;(try simp only[zag,z6,zY,zbg,za3,zap,bS,bA,zao,zad,zaO,bL,Nat.reduceAdd,Nat.reduceLeDiff,Nat.reduceEqDiff,↓reduceIte,zbR,tyX,pC,zi]);rw[hP];first | exact zlm | exact Le.refl _
end Go.Proofs.YtkokfdmggdhfmaaGreatDoor
