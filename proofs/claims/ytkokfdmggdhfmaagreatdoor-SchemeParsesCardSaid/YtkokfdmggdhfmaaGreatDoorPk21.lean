/- packed, part 21 of 49. Conditions: none. -/
import Derived.Test.YtkokfdmggdhfmaaGreatDoorPk20
set_option linter.unusedVariables false
set_option linter.unusedSimpArgs false
set_option linter.unnecessarySimpa false
namespace Go.Proofs.YtkokfdmggdhfmaaGreatDoor
open Go Go.RowKit
structure Tok where
 k:Int
 s:ByteArray
 a:Int
 b:Int
def Tok.cells (t:Tok):List AV:=[.v (.int .i64 t.k),.v (.string t.s),.v (.int .i64 t.a),.v (.int .i64 t.b)]
def tkAt (l:List Tok) (i:Int):Option Tok:=if 0<=i then l[i.toNat]? else none
def isT (l:List Tok) (i k:Int) (s:ByteArray):Bool:=match tkAt l i with
 | some t=>decide (t.k=k)&&decide (t.s=s)
 | none=>false
def zTy:Ty:=.mk 0 0 []
def zgi:ByteArray:=⟨#[105,110,116]⟩
def zca:ByteArray:=⟨#[98,111,111,108]⟩
def bOpen:ByteArray:=⟨#[40]⟩
def bClose:ByteArray:=⟨#[41]⟩
def bStar:ByteArray:=⟨#[42]⟩
def zlk:ByteArray:=⟨#[45,62]⟩
def tupP (ps:List Ty):Ty:=match ps with
 | [t]=>t
 | _=>.mk 5 0 ps
def rd (l:List Tok) (most:Int):Nat->Option (List Ty)->Int->Int->Ty×Int×Int
 | 0,_,i,_=>(zTy,i,3)
 | f+1,none,i,lv =>
  if most<lv then (zTy,i,4) else
  let r:=if isT l i 3 zgi then (.mk 2 0 [],i+1,0) else if isT l i 3 zca then (.mk 3 0 [],i+1,0)
   else if isT l i 4 bOpen then
    let p:=rd l most f none (i+1) (lv+1)
    if p.2.2=0 then rd l most f (some [p.1]) p.2.1 (lv+1) else (zTy,p.2.1,p.2.2)
   else (zTy,i,3)
  if r.2.2=0 then
   if isT l r.2.1 4 zlk then
    let u:=rd l most f none (r.2.1+1) (lv+1)
    if u.2.2=0 then (.mk 4 0 [r.1,u.1],u.2.1,0) else (zTy,u.2.1,u.2.2)
   else r
  else (zTy,r.2.1,r.2.2)
 | f+1,some ps,i,lv =>
  if isT l i 4 bClose then (tupP ps,i+1,0)
  else if isT l i 4 bStar then
   if 8<=ps.length then (zTy,i,6) else
   let p:=rd l most f none (i+1) lv
   if p.2.2=0 then rd l most f (some (ps++[p.1])) p.2.1 lv else (zTy,p.2.1,p.2.2)
  else (zTy,i,3)
end Go.Proofs.YtkokfdmggdhfmaaGreatDoor
