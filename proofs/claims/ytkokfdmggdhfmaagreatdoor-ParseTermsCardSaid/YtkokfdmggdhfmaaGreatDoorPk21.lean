/- packed, part 21 of 45. Conditions: none. -/
import Derived.Test.YtkokfdmggdhfmaaGreatDoorPk20
set_option linter.unusedVariables false
set_option linter.unusedSimpArgs false
set_option linter.unnecessarySimpa false
namespace Go.Proofs.YtkokfdmggdhfmaaGreatDoor
open Go Go.RowKit
structure Tok where
 k:Int
 s:ByteArray
 a:Int
 b:Int
def Tok.cells (t:Tok):List AV:=[.v (.int .i64 t.k),.v (.string t.s),.v (.int .i64 t.a),.v (.int .i64 t.b)]
theorem Tok.data (t:Tok):DataL t.cells:=.cons (.v _) (.cons (.v _) (.cons (.v _) (.cons (.v _) .nil)))
theorem Tok.dataSl (l:List Tok):Data (.sl 4 (l.map Tok.cells)):=.sl fun x hx=>by
 obtain ⟨y,_,rfl⟩:=List.mem_map.1 hx;exact y.data
def tkAt (l:List Tok) (i:Int):Option Tok:=if 0<=i then l[i.toNat]? else none
def isT (l:List Tok) (i k:Int) (s:ByteArray):Bool:=match tkAt l i with
 | some t=>decide (t.k=k)&&decide (t.s=s)
 | none=>false
theorem zai {l:List Tok} {i k:Int} {s:ByteArray} (h:isT l i k s=true):0<=i/\i<l.length:=by
 unfold isT tkAt at h;split at h
 ·rename_i t ht
  split at ht
  ·rename_i h0
   have:=(ze.1 ht).1;omega
  cases ht
 cases h
theorem isT_at {l:List Tok} {i k:Int} {s:ByteArray} {t:Tok} (h0:0<=i) (ht:l[i.toNat]?=some t):isT l i k s=(decide (t.k=k)&&decide (t.s=s)):=by
 unfold isT tkAt;rw[if_pos h0,ht]
theorem zcx {l:List Tok} {i k:Int} {s:ByteArray} (h:¬(0<=i/\i<l.length)):isT l i k s=false:=by
 cases e:isT l i k s with
 | false=>rfl
 | true=>exact absurd (zai e) h
def zTy:Ty:=.mk 0 0 []
def zem:ByteArray:=⟨#[105,110,116]⟩
def zbn:ByteArray:=⟨#[98,111,111,108]⟩
def bOpen:ByteArray:=⟨#[40]⟩
def zas:ByteArray:=⟨#[41]⟩
def zbm:ByteArray:=⟨#[42]⟩
def zbD:ByteArray:=⟨#[45,62]⟩
def ze8 (ps:List Ty):Ty:=match ps with
 | [t]=>t
 | _=>.mk 5 0 ps
def rd (l:List Tok) (most:Int):Nat->Option (List Ty)->Int->Int->Ty×Int×Int
 | 0,_,i,_=>(zTy,i,3)
 | f+1,none,i,lv =>
  if most<lv then (zTy,i,4) else
  let r:=if isT l i 3 zem then (.mk 2 0 [],i+1,0) else if isT l i 3 zbn then (.mk 3 0 [],i+1,0)
   else if isT l i 4 bOpen then
    let p:=rd l most f none (i+1) (lv+1)
    if p.2.2=0 then rd l most f (some [p.1]) p.2.1 (lv+1) else (zTy,p.2.1,p.2.2)
   else (zTy,i,3)
  if r.2.2=0 then
   if isT l r.2.1 4 zbD then
    let u:=rd l most f none (r.2.1+1) (lv+1)
    if u.2.2=0 then (.mk 4 0 [r.1,u.1],u.2.1,0) else (zTy,u.2.1,u.2.2)
   else r
  else (zTy,r.2.1,r.2.2)
 | f+1,some ps,i,lv =>
  if isT l i 4 zas then (ze8 ps,i+1,0)
  else if isT l i 4 zbm then
   if 8<=ps.length then (zTy,i,6) else
   let p:=rd l most f none (i+1) lv
   if p.2.2=0 then rd l most f (some (ps++[p.1])) p.2.1 lv else (zTy,p.2.1,p.2.2)
  else (zTy,i,3)
theorem zaJ (l:List Tok) (m:Int):∀(f:Nat) (o:Option (List Ty)) (i lv:Int),i<=(rd l m f o i lv).2.1/\((rd l m f o i lv).2.2=0->i<(rd l m f o i lv).2.1)
 | 0,_,i,_=>⟨by simp[rd],by simp[rd]⟩
 | f+1,none,i,lv=>by
  have ih:=zaJ l m f;unfold rd;split;·simp
  have hr:∀r:Ty×Int×Int,r=(if isT l i 3 zem then (.mk 2 0 [],i+1,0) else if isT l i 3 zbn then (.mk 3 0 [],i+1,0)
    else if isT l i 4 bOpen then
     let p:=rd l m f none (i+1) (lv+1)
     if p.2.2=0 then rd l m f (some [p.1]) p.2.1 (lv+1) else (zTy,p.2.1,p.2.2)
    else (zTy,i,3))->i<=r.2.1/\(r.2.2=0->i<r.2.1):=by
   intro r hr;(split at hr);(·subst hr;simp;omega);(split at hr);(·subst hr;simp;omega);split at hr
   ·dsimp only at hr
    have h1:=ih none (i+1) (lv+1);split at hr
    ·have h2:=ih (some [(rd l m f none (i+1) (lv+1)).1]) (rd l m f none (i+1) (lv+1)).2.1 (lv+1)
     subst hr;omega
    subst hr;simp only;omega
   subst hr;simp
  dsimp only
  generalize hR:(if isT l i 3 zem then ((.mk 2 0 [],i+1,0):Ty×Int×Int) else if isT l i 3 zbn then (.mk 3 0 [],i+1,0)
    else if isT l i 4 bOpen then
     if (rd l m f none (i+1) (lv+1)).2.2=0 then rd l m f (some [(rd l m f none (i+1) (lv+1)).1]) (rd l m f none (i+1) (lv+1)).2.1 (lv+1) else (zTy,(rd l m f none (i+1) (lv+1)).2.1,(rd l m f none (i+1) (lv+1)).2.2)
    else (zTy,i,3))=r
  have h:=hr r hR.symm;have h3:=ih none (r.2.1+1) (lv+1);split
  ·split
   ·split
    (·simp only;omega);simp only;omega
   exact h
  simp only;omega
 | f+1,some ps,i,lv=>by
  have ih:=zaJ l m f;unfold rd;split;(·simp;omega);split
  ·split
   (·simp);dsimp only;have h1:=ih none (i+1) lv;split
   ·have h2:=ih (some (ps++[(rd l m f none (i+1) lv).1])) (rd l m f none (i+1) lv).2.1 lv
    omega
   simp only;omega
  simp
theorem rd_le (l:List Tok) (m:Int):∀(f:Nat) (o:Option (List Ty)) (i lv:Int),(rd l m f o i lv).2.1<=max i l.length
 | 0,_,i,_=>by simp[rd];omega
 | f+1,none,i,lv=>by
  have ih:=rd_le l m f;unfold rd;split;(·simp only;omega);dsimp only;have h1:=ih none (i+1) (lv+1);have h2:=ih (some [(rd l m f none (i+1) (lv+1)).1]) (rd l m f none (i+1) (lv+1)).2.1 (lv+1)
  generalize hR:(if isT l i 3 zem then ((.mk 2 0 [],i+1,0):Ty×Int×Int) else if isT l i 3 zbn then (.mk 3 0 [],i+1,0)
    else if isT l i 4 bOpen then
     if (rd l m f none (i+1) (lv+1)).2.2=0 then rd l m f (some [(rd l m f none (i+1) (lv+1)).1]) (rd l m f none (i+1) (lv+1)).2.1 (lv+1) else (zTy,(rd l m f none (i+1) (lv+1)).2.1,(rd l m f none (i+1) (lv+1)).2.2)
    else (zTy,i,3))=r
  have h:r.2.1<=max i l.length:=by
   (split at hR);(·rename_i hh;have:=zai hh;subst hR;simp only;omega);(split at hR);(·rename_i hh;have:=zai hh;subst hR;simp only;omega);split at hR
   ·rename_i hh;have:=zai hh
    (split at hR);(·subst hR;omega);subst hR;simp only;omega
   subst hR;simp only;omega
  have h3:=ih none (r.2.1+1) (lv+1);split
  ·split
   ·rename_i hh;have:=zai hh
    split;(·simp only;omega);simp only;omega
   exact h
  exact h
 | f+1,some ps,i,lv=>by
  have ih:=rd_le l m f;unfold rd;split;(·rename_i hh;have:=zai hh;simp only;omega);split
  ·rename_i hh;have:=zai hh
   split;(·simp only;omega);dsimp only;have h1:=ih none (i+1) lv;split
   ·have h2:=ih (some (ps++[(rd l m f none (i+1) lv).1])) (rd l m f none (i+1) lv).2.1 lv
    omega
   simp only;omega
  simp only;omega
theorem rd_err (l:List Tok) (m:Int):∀(f:Nat) (o:Option (List Ty)) (i lv:Int),(rd l m f o i lv).2.2≠0->(rd l m f o i lv).1=zTy
 | 0,_,i,_=>by simp[rd]
 | f+1,none,i,lv=>by
  have ih:=rd_err l m f;unfold rd;split;(·simp);dsimp only
  generalize (if isT l i 3 zem then ((.mk 2 0 [],i+1,0):Ty×Int×Int) else if isT l i 3 zbn then (.mk 3 0 [],i+1,0)
    else if isT l i 4 bOpen then
     if (rd l m f none (i+1) (lv+1)).2.2=0 then rd l m f (some [(rd l m f none (i+1) (lv+1)).1]) (rd l m f none (i+1) (lv+1)).2.1 (lv+1) else (zTy,(rd l m f none (i+1) (lv+1)).2.1,(rd l m f none (i+1) (lv+1)).2.2)
    else (zTy,i,3))=r
  by_cases h:r.2.2=0
  ·rw[if_pos h]
   split
   ·split
    (·simp);simp
   intro h2;exact absurd h h2
  rw[if_neg h];simp
 | f+1,some ps,i,lv=>by
  have ih:=rd_err l m f;unfold rd;split;(·simp);split
  ·split
   (·simp);dsimp only;split;(·exact ih _ _ _);simp
  simp
end Go.Proofs.YtkokfdmggdhfmaaGreatDoor
