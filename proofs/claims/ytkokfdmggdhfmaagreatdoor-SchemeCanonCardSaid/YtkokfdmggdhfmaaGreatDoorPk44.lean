/- packed, part 44 of 47. Conditions: none. -/
import Derived.Test.YtkokfdmggdhfmaaGreatDoorPk43
import Derived.Shelf.LaysM
import Derived.Shelf.LaysC
import Derived.Shelf.Strings.OnBuilder
import Derived.Shelf.Strings.SplitShaped
import Derived.Shelf.Small.Strs
import Derived.Shelf.Strings.Prefix
import Derived.Test.YtkokfdmggdhfmaaGreatDoorProg
set_option linter.unusedVariables false
set_option linter.unusedSimpArgs false
set_option maxRecDepth 100000
set_option maxHeartbeats 4000000
set_option linter.unnecessarySimpa false
namespace Go.Proofs.YtkokfdmggdhfmaaGreatDoor
open Go Go.Shelf
def Tryz.lays156_ren:Go.Shelf.Ren:=⟨fun | 156=>147 | 165=>185 | 166=>52 | 169=>55 | 240=>98 | 241=>209 | 276=>143 | 277=>225 | n=>n,fun | 31=>76 | 9=>9 | 3=>3 | 4=>4 | 0=>0 | 20=>20 | 72=>89 | 76=>92 | 70=>87 | 37=>46 | 75=>91 | 127=>144 | 164=>182 | 5=>5 | 80=>95 | n=>n,fun | n=>n⟩
theorem Tryz.lays156:Go.Proofs.Lays.n156 Tryz.prog Tryz.lays156_ren:={
 mixed:=by kernel_rfl
 f156:=Tryz.func147.trans (congrArg some tz0)
 f165:=Tryz.func185.trans (congrArg some tz0)
 f166:=Tryz.func52.trans (congrArg some tz0)
 f169:=Tryz.func55.trans (congrArg some tz0)
 f240:=Tryz.func98.trans (congrArg some tz0)
 f241:=Tryz.func209.trans (congrArg some tz0)
 f276:=Tryz.func143.trans (congrArg some tz0)
 f277:=Tryz.func225.trans (congrArg some tz0)
 t0:=Tryz.underlying0
 a0:=Tryz.isAgg0
 z0:=Tryz.sizeOf0
 v0:=Tryz.zeroValue0
 t3:=Tryz.underlying3
 a3:=Tryz.isAgg3
 z3:=Tryz.sizeOf3
 v3:=Tryz.zeroValue3
 t4:=Tryz.underlying4
 a4:=Tryz.isAgg4
 z4:=Tryz.sizeOf4
 v4:=Tryz.zeroValue4
 t9:=Tryz.underlying9
 a9:=Tryz.isAgg9
 z9:=Tryz.sizeOf9
 v9:=Tryz.zeroValue9
 t20:=Tryz.underlying20
 a20:=Tryz.isAgg20
 z20:=Tryz.sizeOf20
 v20:=Tryz.zeroValue20
 t31:=Tryz.underlying76
 a31:=Tryz.isAgg76
 z31:=Tryz.sizeOf76
 v31:=Tryz.zeroValue76
 t37:=Tryz.underlying46
 a37:=Tryz.isAgg46
 z37:=Tryz.sizeOf46
 v37:=Tryz.zeroValue46
 t70:=Tryz.underlying87
 a70:=Tryz.isAgg87
 z70:=Tryz.sizeOf87
 v70:=Tryz.zeroValue87
 t72:=Tryz.underlying89
 a72:=Tryz.isAgg89
 z72:=Tryz.sizeOf89
 v72:=Tryz.zeroValue89
 t75:=Tryz.underlying91
 a75:=Tryz.isAgg91
 z75:=Tryz.sizeOf91
 v75:=Tryz.zeroValue91
 t76:=Tryz.underlying92
 a76:=Tryz.isAgg92
 z76:=Tryz.sizeOf92
 v76:=Tryz.zeroValue92
 t127:=Tryz.underlying144
 a127:=Tryz.isAgg144
 z127:=Tryz.sizeOf144
 v127:=Tryz.zeroValue144
 t164:=Tryz.underlying182
 a164:=Tryz.isAgg182
 z164:=Tryz.sizeOf182
 v164:=Tryz.zeroValue182}
theorem Tryz.Builder_Extra_156:Builder.Extra Tryz.prog Tryz.lays156_ren:={
 sizeBuilder:=by kernel_rfl
 liesBuilder:=by kernel_rfl
 t5:=Tryz.underlying5
 a5:=Tryz.isAgg5
 z5:=Tryz.sizeOf5
 v5:=Tryz.zeroValue5
 infoByte:=by kernel_rfl
 cellsByte:=by kernel_rfl
 sizeByte:=by kernel_rfl
 neB5:=by decide}
open Go.RowKit in
theorem Tryz.strings_Join_none (a:Option Addr) (c:Nat) (sep:ByteArray) (w:World) :
  Calls Tryz.prog 147 #[.slice a 0 c,.string sep] w fun e w'=>e=.returned (.string ⟨#[]⟩)/\w'=w:=Any.strings_Join_none Tryz.lays156 Tryz.Builder_Extra_156 a c sep w
open Go.RowKit in
theorem Tryz.strings_Join (bk o c:Nat) (xs:List ByteArray) (sep:ByteArray) (w:World) (hcells:∀(j:Nat) x,xs[j]?=some x->w.cell? ⟨bk,o+j,none⟩=some (.string x)) (hbk:bk<w.heap.size) (hN:xs.length<=140737488355328) (hcap:xs.length<=c) (hlen:(Lib.join (xs.map (·.data.toList)) sep.data.toList).length<=140737488355328) :
  Calls Tryz.prog 147 #[.slice (some ⟨bk,o,none⟩) xs.length c,.string sep] w fun e w'=>e=.returned (.string ⟨(Lib.join (xs.map (·.data.toList)) sep.data.toList).toArray⟩)/\Below w.heap.size w w':=Any.strings_Join Tryz.lays156 Tryz.Builder_Extra_156 bk o c xs sep w hcells hbk hN hcap hlen
def Tryz.lays137_ren:Go.Shelf.Ren:=⟨fun | 137=>161 | 217=>172 | 266=>199 | n=>n,fun | 9=>9 | 5=>5 | 3=>3 | n=>n,fun | n=>n⟩
theorem Tryz.lays137:Go.Proofs.Lays.n137 Tryz.prog Tryz.lays137_ren:={
 mixed:=by kernel_rfl
 f137:=Tryz.func161.trans (congrArg some tz0)
 f217:=Tryz.func172.trans (congrArg some tz0)
 f266:=Tryz.func199.trans (congrArg some tz0)
 t3:=Tryz.underlying3
 a3:=Tryz.isAgg3
 z3:=Tryz.sizeOf3
 v3:=Tryz.zeroValue3
 t5:=Tryz.underlying5
 a5:=Tryz.isAgg5
 z5:=Tryz.sizeOf5
 v5:=Tryz.zeroValue5
 t9:=Tryz.underlying9
 a9:=Tryz.isAgg9
 z9:=Tryz.sizeOf9
 v9:=Tryz.zeroValue9}
open Go.RowKit in
theorem Tryz.strings_IndexByte (s:ByteArray) (c:Int) (w:World) :
  Calls Tryz.prog 161 #[.string s,.int .u8 c] w fun e w'=>e=.returned (.int .i64 (Lib.indexByte s.data.toList c.toNat.toUInt8))/\w'=w:=Any.strings_IndexByte Tryz.lays137 s c w
end Go.Proofs.YtkokfdmggdhfmaaGreatDoor
namespace Go.Proofs.YtkokfdmggdhfmaaGreatDoor
open Go Go.RowKit
attribute [local irreducible] aops zaE
def zbV (l:List ByteArray) (sep:ByteArray):ByteArray:=⟨(Lib.join (l.map (·.data.toList)) sep.data.toList).toArray⟩
theorem Join_pure (l:List ByteArray) (sep:ByteArray) (hn:l.length<=140737488355328) (hl:(zbV l sep).size<=140737488355328):APure Tryz.prog 147 [.sl 1 (l.map zaJ),.v (.string sep)] (.v (.string (zbV l sep))):=by
 (have hl':(Lib.join (l.map (·.data.toList)) sep.data.toList).length<=140737488355328:=by have h9:(zbV l sep).size=(Lib.join (l.map (·.data.toList)) sep.data.toList).length:=rfl;omega);refine APure.ofCalls ⟨_,Tryz.func147,by kernel_rfl,by kernel_rfl⟩ (.cons (zgM l) (.cons (.v _) .nil)) (.v _) fun E A w vs hgl hA hr=>?_;obtain ⟨u,v,rfl,h1,h2⟩:=hr.two;obtain rfl:=h2.str;rcases h1.strs with ⟨rfl,a,cap,rfl⟩ | ⟨b,o,cap,rfl,hle,hcap,hc⟩
 ·refine (Tryz.strings_Join_none a cap sep w).mono ?_
  rintro e w' ⟨rfl,rfl⟩;exact ⟨_,rfl,Below.refl _ _,.v _⟩
 cases l with
 | nil =>
  refine (Tryz.strings_Join_none (some ⟨b,o,none⟩) cap sep w).mono ?_;rintro e w' ⟨rfl,rfl⟩
  exact ⟨_,rfl,Below.refl _ _,.v _⟩
 | cons x l =>
  have h0:=hc 0 x rfl;refine (Tryz.strings_Join b o cap (x::l) sep w hc (World.block_lt_of_cell? w _ h0) hn hle hl').mono ?_;rintro e w' ⟨rfl,hb⟩;exact ⟨_,rfl,hb,.v _⟩
theorem zf2 (s:ByteArray) (c:Int):APure Tryz.prog 161 [.v (.string s),.v (.int .u8 c)] (.v (.int .i64 (Lib.indexByte s.data.toList c.toNat.toUInt8))):=by
 refine APure.ofCalls ⟨_,Tryz.func161,by kernel_rfl,by kernel_rfl⟩ (.cons (.v _) (.cons (.v _) .nil)) (.v _) fun E A w vs hgl hA hr=>?_;obtain ⟨u,v,rfl,h1,h2⟩:=hr.two;(cases h1;cases h2);refine (Tryz.strings_IndexByte s c w).mono ?_;rintro e w' ⟨rfl,rfl⟩;exact ⟨_,rfl,Below.refl _ _,.v _⟩
def kwT:ByteArray:=⟨#[32,102,117,110,32,108,101,116,32,114,101,99,32,105,110,32,105,102,32,116,104,101,110,32,101,108,115,101,32,116,114,117,101,32,102,97,108,115,101,32,105,110,116,32,98,111,111,108,32]⟩
def kwL:List ByteArray:=(Lib.fields kwT.data.toList).map fun l=>⟨l.toArray⟩
def eqS (a b:ByteArray):Bool:=a.toList==b.toList
theorem zcJ {a b:ByteArray}:eqS a b=true↔a=b:=by
 unfold eqS;rw[beq_iff_eq,ByteArray.toList_eq,ByteArray.toList_eq];exact ⟨fun h=>WideShapes.bytes_inj h,fun h=>by rw[h]⟩
def kwB (s:ByteArray):Bool:=kwL.any fun x=>eqS s x
def smI (c:Int):Bool:=decide (97<=c/\c<=122)
def dgI (c:Int):Bool:=decide (48<=c/\c<=57)
def inI (c:Int):Bool:=smI c||dgI c||c==95
def blI (c:Int):Bool:=c==32||c==9||c==10||c==13
def zdg (s:ByteArray) (a:Nat) (p:Int->Bool):Nat:=((s.data.toList.drop a).takeWhile fun b=>p b.toNat).length
theorem zg5 {s:ByteArray} {i:Nat} (h:i<s.size):s.data.toList[i]?=some ((s[i]?).getD 0):=by
 have h1:s[i]?=some s[i]:=getElem?_pos s i h;rw[h1];(have h2:i<s.data.toList.length:=by rw[Array.length_toList];exact h);rw[zb h2];rfl
theorem zg3 (s:ByteArray) (a:Nat) (p:Int->Bool) (ha:a<=s.size):a+zdg s a p<=s.size:=by
 have h1:=List.IsPrefix.length_le (List.takeWhile_prefix (l:=s.data.toList.drop a) (fun b=>p b.toNat));have h2:s.data.toList.length=s.size:=Array.length_toList;rw[List.length_drop,h2] at h1;unfold zdg;omega
theorem zd2 {α:Type} (q:α->Bool):∀(l:List α) (n:Nat),n<=l.length->(∀(i:Nat) (x:α),i<n->l[i]?=some x->q x=true)->(∀x,l[n]?=some x->q x=false)->(l.takeWhile q).length=n
 | [],n,h,_,_=>by simp at h;simp[h]
 | x::l,0,_,_,h2=>by simp[h2 x rfl]
 | x::l,n+1,h,h1,h2=>by
  rw[List.takeWhile_cons,if_pos (h1 0 x tz1 rfl),zJ,zd2 q l n (by simpa using h) (fun i y hi hy=>h1 (i+1) y tz1 (by simpa using hy)) (fun y hy=>h2 y (by simpa using hy))]
theorem runN_eq {s:ByteArray} {a n:Nat} {p:Int->Bool} (h0:a+n<=s.size) (h1:∀i,i<n->p ((s[a+i]?).getD 0).toNat=true) (h2:a+n<s.size->p ((s[a+n]?).getD 0).toNat=false):zdg s a p=n:=by
 have hsz:s.data.toList.length=s.size:=Array.length_toList;unfold zdg;refine zd2 _ _ _ (by rw[List.length_drop,hsz];omega) (fun i x hi hx=>?_) fun x hx=>?_
 ·rw[List.getElem?_drop,zg5 tz1] at hx
  cases hx;exact h1 i hi
 rw[List.getElem?_drop] at hx;(have hlt:a+n<s.size:=by have:=(zd.1 hx).1;omega);rw[zg5 hlt] at hx;cases hx;exact h2 hlt
end Go.Proofs.YtkokfdmggdhfmaaGreatDoor
namespace Go.Proofs.YtkokfdmggdhfmaaGreatDoor
open Go Go.RowKit
structure Tok where
 k:Int
 s:ByteArray
 a:Int
 b:Int
def Tok.cells (t:Tok):List AV:=[.v (.int .i64 t.k),.v (.string t.s),.v (.int .i64 t.a),.v (.int .i64 t.b)]
def tkAt (l:List Tok) (i:Int):Option Tok:=if 0<=i then l[i.toNat]? else none
def isT (l:List Tok) (i k:Int) (s:ByteArray):Bool:=match tkAt l i with
 | some t=>decide (t.k=k)&&decide (t.s=s)
 | none=>false
def zTy:Ty:=.mk 0 0 []
def zkw:ByteArray:=⟨#[105,110,116]⟩
def zdy:ByteArray:=⟨#[98,111,111,108]⟩
def bOpen:ByteArray:=⟨#[40]⟩
def bClose:ByteArray:=⟨#[41]⟩
def bStar:ByteArray:=⟨#[42]⟩
def zkq:ByteArray:=⟨#[45,62]⟩
def tupP (ps:List Ty):Ty:=match ps with
 | [t]=>t
 | _=>.mk 5 0 ps
def rd (l:List Tok) (most:Int):Nat->Option (List Ty)->Int->Int->Ty×Int×Int
 | 0,_,i,_=>(zTy,i,3)
 | f+1,none,i,lv =>
  if most<lv then (zTy,i,4) else
  let r:=if isT l i 3 zkw then (.mk 2 0 [],i+1,0) else if isT l i 3 zdy then (.mk 3 0 [],i+1,0)
   else if isT l i 4 bOpen then
    let p:=rd l most f none (i+1) (lv+1)
    if p.2.2=0 then rd l most f (some [p.1]) p.2.1 (lv+1) else (zTy,p.2.1,p.2.2)
   else (zTy,i,3)
  if r.2.2=0 then
   if isT l r.2.1 4 zkq then
    let u:=rd l most f none (r.2.1+1) (lv+1)
    if u.2.2=0 then (.mk 4 0 [r.1,u.1],u.2.1,0) else (zTy,u.2.1,u.2.2)
   else r
  else (zTy,r.2.1,r.2.2)
 | f+1,some ps,i,lv =>
  if isT l i 4 bClose then (tupP ps,i+1,0)
  else if isT l i 4 bStar then
   if 8<=ps.length then (zTy,i,6) else
   let p:=rd l most f none (i+1) lv
   if p.2.2=0 then rd l most f (some (ps++[p.1])) p.2.1 lv else (zTy,p.2.1,p.2.2)
  else (zTy,i,3)
def rdP (l:List Tok) (most:Int):Nat->Option (List Ty)->Int->Int->Ty×Int×Int
 | 0,_,i,_=>(zTy,i,3)
 | f+1,none,i,lv =>
  if most<lv then (zTy,i,4) else
  let r:=if isT l i 3 zkw then (.mk 2 0 [],i+1,0) else if isT l i 3 zdy then (.mk 3 0 [],i+1,0)
   else if isT l i 4 bOpen then
    let p:=rdP l most f none (i+1) (lv+1)
    if p.2.2=0 then rdP l most f (some [p.1]) p.2.1 (lv+1) else p
   else (zTy,i,3)
  if r.2.2=0 then
   if isT l r.2.1 4 zkq then
    let u:=rdP l most f none (r.2.1+1) (lv+1)
    (.mk 4 0 [r.1,u.1],u.2.1,u.2.2)
   else r
  else r
 | f+1,some ps,i,lv =>
  if isT l i 4 bClose then (tupP ps,i+1,0)
  else if isT l i 4 bStar then
   if ps.length=8 then (tupP ps,i,6) else
   let p:=rdP l most f none (i+1) lv
   if p.2.2=0 then rdP l most f (some (ps++[p.1])) p.2.1 lv else (tupP (ps++[p.1]),p.2.1,p.2.2)
  else (tupP ps,i,3)
def lsP (l:List Tok) (m:Int) (f:Nat) (i lv:Int):Ty×Int×Int :=
 if (rdP l m f none i lv).2.2=0 then rdP l m f (some [(rdP l m f none i lv).1]) (rdP l m f none i lv).2.1 lv else rdP l m f none i lv
def bsP (l:List Tok) (m:Int) (f:Nat) (i lv:Int):Ty×Int×Int :=
 if isT l i 3 zkw then (.mk 2 0 [],i+1,0) else if isT l i 3 zdy then (.mk 3 0 [],i+1,0)
 else if isT l i 4 bOpen then lsP l m f (i+1) (lv+1) else (zTy,i,3)
def arP (l:List Tok) (m:Int) (f:Nat) (lv:Int) (r:Ty×Int×Int):Ty×Int×Int :=
 if r.2.2=0 then
  if isT l r.2.1 4 zkq then (.mk 4 0 [r.1,(rdP l m f none (r.2.1+1) (lv+1)).1],(rdP l m f none (r.2.1+1) (lv+1)).2.1,(rdP l m f none (r.2.1+1) (lv+1)).2.2)
  else r
 else r
def lsR (l:List Tok) (m:Int) (f:Nat) (i lv:Int):Ty×Int×Int :=
 if (rd l m f none i lv).2.2=0 then rd l m f (some [(rd l m f none i lv).1]) (rd l m f none i lv).2.1 lv else (zTy,(rd l m f none i lv).2.1,(rd l m f none i lv).2.2)
def bsR (l:List Tok) (m:Int) (f:Nat) (i lv:Int):Ty×Int×Int :=
 if isT l i 3 zkw then (.mk 2 0 [],i+1,0) else if isT l i 3 zdy then (.mk 3 0 [],i+1,0)
 else if isT l i 4 bOpen then lsR l m f (i+1) (lv+1) else (zTy,i,3)
def arR (l:List Tok) (m:Int) (f:Nat) (lv:Int) (r:Ty×Int×Int):Ty×Int×Int :=
 if r.2.2=0 then
  if isT l r.2.1 4 zkq then
   if (rd l m f none (r.2.1+1) (lv+1)).2.2=0 then (.mk 4 0 [r.1,(rd l m f none (r.2.1+1) (lv+1)).1],(rd l m f none (r.2.1+1) (lv+1)).2.1,0)
   else (zTy,(rd l m f none (r.2.1+1) (lv+1)).2.1,(rd l m f none (r.2.1+1) (lv+1)).2.2)
  else r
 else (zTy,r.2.1,r.2.2)
def Agree (r q:Ty×Int×Int):Prop:=r.2=q.2/\(q.2.2=0->r=q)
def lft (l:List Tok) (i:Int):Nat:=((l.length:Int)-max i 0).toNat
structure LS where
 f:Nat
 ps:List Ty
 i:Int
 e:Int
def LS.ok (l:List Tok) (m:Int) (f0:Nat) (lv i0:Int) (RES:Ty×Int×Int) (s:LS):Prop :=
 0<s.ps.length/\s.ps.length<=8/\i0<=s.i/\s.f<=f0/\(if s.e=0 then rdP l m s.f (some s.ps) s.i lv=RES/\lft l s.i<s.f else RES=(tupP s.ps,s.i,s.e))
section
variable {l:List Tok} {m:Int} {f0:Nat} {lv i0:Int} {RES:Ty×Int×Int} {s:LS} {g:Nat}
end
structure RS where
 f:Nat
 ps:List Ty
 i:Int
 p:Ty
def RS.ok (l:List Tok) (m:Int) (f0:Nat) (lv i0:Int) (RES:Ty×Int×Int) (s:RS):Prop :=
 0<s.ps.length/\i0<=s.i/\s.f<=f0/\rd l m s.f (some s.ps) s.i lv=RES/\lft l s.i<s.f
section
variable {l:List Tok} {m:Int} {f0:Nat} {lv i0:Int} {RES:Ty×Int×Int} {s:RS} {g:Nat}
end
end Go.Proofs.YtkokfdmggdhfmaaGreatDoor
