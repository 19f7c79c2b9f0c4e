/- packed, part 22 of 47. Conditions: none. -/
import Derived.Test.YtkokfdmggdhfmaaGreatDoorPk21
set_option linter.unusedVariables false
set_option linter.unusedSimpArgs false
set_option linter.unnecessarySimpa false
namespace Go.Proofs.YtkokfdmggdhfmaaGreatDoor
open Go Go.RowKit
def eField (P:Program) (s f:Nat) (x:AV):Option AV :=
 match z6 P s f with
 | none=>none
 | some o =>
  match x with
  | .ptr id off=>some (.ptr id (off+o))
  | .rptr id n sz i off=>some (.rptr id n sz i (off+o))
  | .eptr cs=>some (.eptr (cs.drop o))
  | _=>none
def zj0 (P:Program) (t:Nat) (x i:AV) (os:Os):Option AV :=
 match i with
 | .v (.int _ i) =>
  match zaF P t with
  | some sz =>
   match x with
   | .sl sz' xs | .osl _ sz' xs=>if sz=sz'/\0<=i/\i<(xs.length:Int) then some (.eptr (xs.getD i.toNat [])) else none
   | .own id n =>
    match zaa os id with
    | some (.row _ sz' xs)=>if sz=sz'/\n=xs.length/\0<=i/\i<(n:Int) then some (.rptr id n sz i.toNat 0) else none
    | _=>none
   | _=>none
  | none =>
   match zfZ P t with
   | some (len,sz) =>
    match x with
    | .ptr id off=>if 0<=i/\i<(len:Int) then some (.ptr id (off+i.toNat * sz)) else none
    | .eptr cs=>if 0<=i/\i<(len:Int) then some (.eptr (cs.drop (i.toNat * sz))) else none
    | _=>none
   | none=>none
 | _=>none
def eEq2 (op:BinOp) (xs ys:List AV):Option AV :=
 match eq2 xs ys with
 | some b=>match op with
  | .eql=>some (.v (.bool b))
  | .neq=>some (.v (.bool (!b)))
  | _=>none
 | none=>none
def eBin (P:Program) (op:BinOp) (t:Nat) (x y:AV):Option AV :=
 match x,y with
 | .v (.int k a),.v (.int k' b) =>
  match op with
  | .shl=>if 0<=b then some (.v (.int k (iShl k a b))) else none
  | .shr=>if 0<=b then some (.v (.int k (iShr k a b))) else none
  | op=>if k=k' then
  match op with
  | .and=>some (.v (.int k (iAnd k a b)))
  | .or=>some (.v (.int k (iOr k a b)))
  | .xor=>some (.v (.int k (iXor k a b)))
  | .andNot=>some (.v (.int k (zjZ k a b)))
  | .add=>some (.v (.int k (k.wrap (a+b))))
  | .sub=>some (.v (.int k (k.wrap (a-b))))
  | .mul=>some (.v (.int k (k.wrap (a * b))))
  | .quo=>if b≠0 then some (.v (.int k (k.wrap (a.tdiv b)))) else none
  | .rem=>if b≠0 then some (.v (.int k (a.tmod b))) else none
  | .eql=>some (.v (.bool (a==b)))
  | .neq=>some (.v (.bool (a != b)))
  | .lss=>some (.v (.bool (decide (a<b))))
  | .leq=>some (.v (.bool (decide (a<=b))))
  | .gtr=>some (.v (.bool (decide (a > b))))
  | .geq=>some (.v (.bool (decide (a>=b))))
  | _=>none
  else none
 | .v (.string a),.v (.string b) =>
  match op with
  | .add=>if ((a.size+b.size:Nat):Int)<=IntKind.i64.max then some (.v (.string (a++b))) else none
  | .eql=>some (.v (.bool (a.toList==b.toList)))
  | .neq=>some (.v (.bool (!(a.toList==b.toList))))
  | _=>none
 | .v (.bool a),.v (.bool b)=>if zfG P t=true then
  match op with
  | .eql=>some (.v (.bool (a==b)))
  | .neq=>some (.v (.bool (!(a==b))))
  | _=>none
  else none
 | .ptr ..,.v (.pointer none) | .rptr ..,.v (.pointer none) | .eptr ..,.v (.pointer none)=>if zfR P t=true then
  match op with
  | .eql=>some (.v (.bool false))
  | .neq=>some (.v (.bool true))
  | _=>none
  else none
 | .v (.pointer none),.v (.pointer none)=>if zfR P t=true then
  match op with
  | .eql=>some (.v (.bool true))
  | .neq=>some (.v (.bool false))
  | _=>none
  else none
 | .agg xs,.agg ys=>if isI2T P t=true then eEq2 op xs ys else none
 | _,_=>none
def eUn (op:UnOp) (x:AV):Option AV :=
 match op,x with
 | .not,.v (.bool b)=>some (.v (.bool (!b)))
 | .neg,.v (.int k n)=>some (.v (.int k (k.wrap (0-n))))
 | .xor,.v (.int k n)=>some (.v (.int k (iXor k (if k.signed then -1 else k.max) n)))
 | _,_=>none
def eLen (P:Program) (t:Nat) (x:AV):Option AV :=
 match zez P t,x with
 | some true,.sl _ xs=>some (.v (.int .i64 xs.length))
 | some true,.osl _ _ xs=>some (.v (.int .i64 xs.length))
 | some true,.v (.slice _ n _)=>some (.v (.int .i64 n))
 | some false,.v (.string s)=>some (.v (.int .i64 s.size))
 | _,_=>none
def eLenX (P:Program) (t:Nat) (x:AV) (os:Os):Option AV :=
 match x with
 | .own id n =>
  match zez P t,zaa os id with
  | some true,some (.row _ _ xs)=>if n=xs.length then some (.v (.int .i64 n)) else none
  | _,_=>none
 | y=>eLen P t y
def ze0 (x:AV) (i:Nat):Option AV :=
 match x with
 | .tup l=>if i<l.length then some (l.getD i .any) else none
 | _=>none
def eFill (places:List (Nat×Nat)):List (Nat×AV)->List AV->Option (List AV)
 | [],cs=>some cs
 | (i,x)::rest,cs =>
  match places[i]? with
  | none=>none
  | some (off,size)=>if x.flat=true/\x.cl.length=size/\off+size<=cs.length then eFill places rest (za2 cs off x.cl) else none
def eBuild (P:Program) (t:Nat) (parts:List (Nat×AV)):Option AV :=
 match zaK P t,zaL P t with
 | some z,some pl=>(eFill pl parts (z.map .v)).map .agg
 | _,_=>none
def ePart (P:Program) (t off:Nat) (x:AV):Option AV :=
 match zbM P t,x with
 | some (agg,n),.agg cs=>if off+(if agg then n else 1)<=cs.length then some (za4 agg ((cs.drop off).take (if agg then n else 1))) else none
 | _,_=>none
def zjC (P:Program) (t:Nat) (x i:AV) (ok:Bool) (os:Os):Option AV :=
 match mapZ P t,x,i with
 | some z,.map id,.v (.int .i64 k) =>
  match zaa os id with
  | some (.map es)=>some (if ok then .tup [(zbx es k).getD (zi8 z),.v (.bool (zbx es k).isSome)] else (zbx es k).getD (zi8 z))
  | _=>none
 | _,_,_=>none
def eLoad (P:Program) (t:Nat) (x:AV) (os:Os):Option AV :=
 match zbM P t with
 | none=>none
 | some (agg,n) =>
  match x with
  | .ptr id off =>
   match zaa os id with
   | some (.cells _ cs)=>if off+(if agg then n else 1)<=cs.length then some (za4 agg ((cs.drop off).take (if agg then n else 1))) else none
   | _=>none
  | .rptr id n' sz i off =>
   match zaa os id with
   | some (.row _ sz' xs)=>if sz=sz'/\n'=xs.length/\i<xs.length/\off+(if agg then n else 1)<=sz then some (za4 agg (((xs.getD i []).drop off).take (if agg then n else 1))) else none
   | _=>none
  | .eptr cs=>if (if agg then n else 1)<=cs.length then some (za4 agg (cs.take (if agg then n else 1))) else none
  | _=>none
def eSlice (P:Program) (t:Nat) (x:AV) (lo hi:Option AV):Option AV :=
 match x with
 | .sl sz xs | .osl _ sz xs =>
  match ziO 0 lo,ziO xs.length hi with
  | some l,some h=>if zaF P t=some sz/\0<=l/\l<=h/\h<=(xs.length:Int) then some (.sl sz ((xs.take h.toNat).drop l.toNat)) else none
  | _,_=>none
 | .v (.string s) =>
  match ziO 0 lo,ziO s.size hi with
  | some l,some h=>if zdJ P t=true/\0<=l/\l<=h/\h<=(s.size:Int) then some (.v (.string (s.extract l.toNat h.toNat))) else none
  | _,_=>none
 | _=>none
def zi4 (P:Program) (t:Nat) (x i:AV):Option AV :=
 match x,i with
 | .v (.string s),.v (.int _ i)=>if zdJ P t=true/\0<=i/\i<(s.size:Int) then some (.v (.int .u8 ((s[i.toNat]?).getD 0).toNat)) else none
 | _,_=>none
def zgV (mx:Bool) (x y:AV):Option AV :=
 match x,y with
 | .v (.int k a),.v (.int _ b)=>some (.v (.int k (if mx then max a b else min a b)))
 | _,_=>none
def eConv (P:Program) (s t:Nat) (x:AV):Option AV :=
 match x,zjc P s,zjc P t with
 | .v (.int _ n),some _,some k=>some (.v (.int k (k.wrap n)))
 | .v (.int _ n),some _,none=>if zdJ P t=true then some (.v (.string (Utf8.encode n))) else none
 | _,_,_=>none
def eMore (P:Program) (o:Op) (ev:Operand->AV):Option AV :=
 match o with
 | .convert s t x=>eConv P s t (ev x)
 | .slice t x lo hi none=>eSlice P t (ev x) (lo.map ev) (hi.map ev)
 | .index t x i=>zi4 P t (ev x) (ev i)
 | .call {callee:=.builtin .min,args:=⟨[x,y]⟩,argTypes:=_}=>zgV false (ev x) (ev y)
 | .call {callee:=.builtin .max,args:=⟨[x,y]⟩,argTypes:=_}=>zgV true (ev x) (ev y)
 | _=>none
def eVal (P:Program) (o:Oper) (ev:Operand->AV) (os:Os):Option AV :=
 match o.op with
 | .move y=>some (ev y)
 | .assign y=>some (ev y)
 | .pick c x y=>match ev c with | .v (.bool b)=>some (if b then ev x else ev y) | _=>none
 | .fieldAddr s x f=>eField P s f (ev x)
 | .field s x f=>match zfK P s f with | some (t,off)=>ePart P t off (ev x) | none=>none
 | .load t x=>eLoad P t (ev x) os
 | .nilCheck x=>match ev x with | .ptr id off=>some (.ptr id off) | .rptr id n sz i off=>some (.rptr id n sz i off) | .eptr cs=>some (.eptr cs) | .clo f cs=>some (.clo f cs) | _=>none
 | .binOp op t x y _=>eBin P op t (ev x) (ev y)
 | .unOp op _ x=>eUn op (ev x)
 | .indexAddr t x i=>zj0 P t (ev x) (ev i) os
 | .extract x i=>ze0 (ev x) i
 | .build t parts=>eBuild P t (parts.toList.map fun p=>(p.1,ev p.2))
 | .lookup t x i ok=>zjC P t (ev x) (ev i) ok os
 | .makeFunc (.func f) ⟨[]⟩ caps=>some (.clo f (caps.toList.map ev))
 | .makeFunc (.func f) ⟨x::l⟩ ⟨[]⟩=>some (.mth f ((x::l).map ev))
 | .call {callee:=.builtin .len,args:=⟨[x]⟩,argTypes:=⟨[t]⟩}=>eLenX P t (ev x) os
 | op=>eMore P op ev
section
variable {P:Program} {os:Os} {x y z:AV} {K:AV->Prop}
theorem zhO {s f:Nat} (h:eField P s f x=some y) (hk:K y):zcH P s f x K:=by
 revert h;unfold eField zcH
 (repeat' split);all_goals (intro h;first | (cases h;done) | (cases h;exact hk) | (simp_all;done))
theorem ze8 {t:Nat} (h:eLoad P t x os=some y) (hk:K y):zav P t x os K:=by
 unfold eLoad at h;unfold zav;(split at h);(·cases h);(rename_i agg n ht);rw[ht];(simp only);(generalize (if agg=true then n else 1)=m at h ⊢);split at h
 ·split at h
  ·rename_i hg
   simp only[hg];(split at h);(·rename_i hc;cases h;exact ⟨hc,hk⟩);cases h
  cases h
 ·split at h
  ·rename_i hg
   simp only[hg];(split at h);(·rename_i hc;cases h;exact ⟨hc.1,hc.2.1,hc.2.2.1,hc.2.2.2,hk⟩);cases h
  cases h
 ·split at h
  (·rename_i hc;cases h;exact ⟨hc,hk⟩);cases h
 cases h
theorem zgO {t:Nat} {i:AV} (h:zj0 P t x i os=some y) (hk:K y):zcd P t x i os K:=by
 unfold zj0 at h;unfold zcd;split at h
 ·split at h
  ·rename_i hz
   rw[hz];(simp only);split at h
   ·split at h
    (·rename_i hc;cases h;exact ⟨hc.1,hc.2.1,hc.2.2,hk⟩);cases h
   ·split at h
    (·rename_i hc;cases h;exact ⟨hc.1,hc.2.1,hc.2.2,hk⟩);cases h
   ·split at h
    ·rename_i hg
     simp only[hg];(split at h);(·rename_i hc;cases h;exact ⟨hc.1,hc.2.1,hc.2.2.1,hc.2.2.2,hk⟩);cases h
    cases h
   cases h
  (rename_i hz);rw[hz];(simp only);split at h
  ·rename_i ha
   rw[ha];(simp only);split at h
   ·split at h
    (·rename_i hc;cases h;exact ⟨hc.1,hc.2,hk⟩);cases h
   ·split at h
    (·rename_i hc;cases h;exact ⟨hc.1,hc.2,hk⟩);cases h
   cases h
  cases h
 cases h
theorem zkH {op:BinOp} {xs ys:List AV} (h:eEq2 op xs ys=some y) (hk:K y):aEq2 op xs ys K:=by
 revert h;unfold eEq2 aEq2
 cases eq2 xs ys with
 | none=>intro h;cases h
 | some b=>cases op <;> intro h <;> first | (cases h;done) | (cases h;exact hk)
set_option maxHeartbeats 800000 in
theorem zkY {op:BinOp} {t:Nat} {q:Operand} {u:AV} (h:eBin P op t x u=some y) (hk:K y):aBin P op t q x u K:=by
 unfold eBin at h;split at h
 ·unfold aBin
  cases op <;> simp only[] at h ⊢ <;> first
   | (split at h <;> first | (cases h;done) | (rename_i hc;cases h;exact ⟨hc,hk⟩))
   | (split at h <;> first | (cases h;done) | (rename_i hc;split at h <;> first | (cases h;done) | (rename_i hd;cases h;exact ⟨hc,hd,hk⟩)))
   | (split at h <;> cases h)
 ·unfold aBin
  cases op <;> simp only[] at h ⊢ <;> first
   | (cases h;done)
   | (cases h;exact hk)
   | (split at h <;> first | (cases h;done) | (rename_i hc;cases h;exact ⟨hc,hk⟩))
 all_goals first
  | (cases h;done)
  | (unfold aBin;split at h <;> first
    | (cases h;done)
    | (rename_i hc;exact ⟨hc,zkH h hk⟩)
    | (rename_i hc;cases op <;> simp only[] at h ⊢ <;> first | (cases h;done) | (cases h;exact ⟨hc,hk⟩)))
theorem eUn_sound {op:UnOp} (h:eUn op x=some y) (hk:K y):aUn op x K:=by
 revert h;unfold eUn aUn
 (repeat' split);all_goals (intro h;first | (cases h;done) | (cases h;exact hk) | (cases h;simp_all;done) | (simp_all;done))
theorem zlf {t:Nat} (h:eLen P t x=some y) (hk:K y):aLen P t x K:=by
 revert h;unfold eLen aLen
 (repeat' split);all_goals (intro h;first | (cases h;done) | (cases h;exact hk) | (cases h;simp_all;done) | (simp_all;done))
theorem zjk {t:Nat} (h:eLenX P t x os=some y) (hk:K y):zjF P t x os K:=by
 unfold eLenX at h;unfold zjF;split at h
 ·split at h
  ·rename_i h1 h2
   (split at h);(·rename_i hn;cases h;simp only[h1,h2];exact ⟨hn,hk⟩);cases h
  cases h
 (rename_i hne);split;(·exact (hne _ _ rfl).elim);exact zlf h hk
theorem zdm {i:Nat} (h:ze0 x i=some y) (hk:K y):zbr x i K:=by
 revert h;unfold ze0 zbr
 (repeat' split);all_goals (intro h;first | (cases h;done) | (cases h;exact ⟨by assumption,hk⟩) | (simp_all;done))
theorem zfo {pl:List (Nat×Nat)} {K:List AV->Prop} {ds:List AV}:∀(parts:List (Nat×AV)) (cs:List AV),eFill pl parts cs=some ds->K ds->zdp pl parts cs K
 | [],cs,h,hk=>by cases h;exact hk
 | (i,x)::rest,cs,h,hk=>by
  rw[eFill] at h;rw[zdp];(split at h);(·cases h);(rename_i off size hp);rw[hp];(simp only);split at h
  ·rename_i hc
   exact ⟨hc.1,hc.2.1,hc.2.2,zfo rest _ h hk⟩
  cases h
theorem zhL {t:Nat} {parts:List (Nat×AV)} (h:eBuild P t parts=some y) (hk:K y):zfL P t parts K:=by
 unfold eBuild at h;unfold zfL;split at h
 ·rename_i z pl h1 h2
  rw[h1,h2]
  cases hf:eFill pl parts (z.map .v) with
  | none=>rw[hf] at h;cases h
  | some ds=>rw[hf] at h;cases h;exact zfo parts _ hf hk
 cases h
theorem ziS {t off:Nat} (h:ePart P t off x=some y) (hk:K y):zhZ P t off x K:=by
 revert h;unfold ePart zhZ
 (repeat' split);all_goals (intro h;first | (cases h;done) | (cases h;exact ⟨by assumption,hk⟩) | (simp_all;done))
theorem zhs {t:Nat} {i:AV} {ok:Bool} (h:zjC P t x i ok os=some y) (hk:K y):zdE P t x i ok os K:=by
 revert h;unfold zjC zdE
 (repeat' split);all_goals (intro h;first | (cases h;done) | (cases h;exact hk) | (cases h;simp_all;done) | (simp_all;done))
theorem zix {t:Nat} {lo hi:Option AV} (h:eSlice P t x lo hi=some y) (hk:K y):zeK P t x lo hi K:=by
 revert h;unfold eSlice zeK
 (repeat' split);all_goals (intro h;first | (cases h;done) | (cases h;exact hk) | (cases h;simp_all;done) | (simp_all;done))
theorem zhq {t:Nat} {i:AV} (h:zi4 P t x i=some y) (hk:K y):zcS P t x i K:=by
 revert h;unfold zi4 zcS
 (repeat' split);all_goals (intro h;first | (cases h;done) | (cases h;exact hk) | (cases h;simp_all;done) | (simp_all;done))
theorem zdW {mx:Bool} {i:AV} (h:zgV mx x i=some y) (hk:K y):zcf mx x i K:=by
 revert h;unfold zgV zcf
 (repeat' split);all_goals (intro h;first | (cases h;done) | (cases h;exact hk) | (cases h;simp_all;done) | (simp_all;done))
theorem zjJ {s t:Nat} (h:eConv P s t x=some y) (hk:K y):zig P s t x K:=by
 unfold eConv at h;unfold zig;split at h
 ·rename_i e1 e2
  simp only[e1,e2];cases h;exact hk
 ·rename_i e1 e2
  simp only[e1,e2];(split at h);(·rename_i hs;cases h;exact ⟨hs,hk⟩);cases h
 cases h
theorem ziY {o:Op} {ev:Operand->AV} (h:eMore P o ev=some y) (hk:K y):zeP P o ev K:=by
 unfold eMore at h;unfold zeP;(split at h);(·exact zjJ h hk);(·exact zix h hk);(·exact zhq h hk);(·exact zdW h hk);(·exact zdW h hk);cases h
theorem zeh {o:Oper} {ev:Operand->AV} (h:eVal P o ev os=some y) (hk:K y):aVal P o ev os K:=by
 obtain ⟨dst,op,ty,pos,after,guard⟩:=o;unfold eVal at h;(simp only at h);(split at h);(·cases h;exact hk);·cases h;exact hk
 ·rename_i c x1 q
  (show aBool (ev c) fun b=>K (if b then ev x1 else ev q));(split at h);(·rename_i hb;cases h;rw[hb];exact hk);cases h
 ·exact zhO h hk
 ·rename_i s x1 f
  (show match zfK P s f with | some (t,off)=>zhZ P t off (ev x1) K | none=>False);(split at h);(·exact ziS h hk);cases h
 ·exact ze8 h hk
 ·rename_i x1
  (show match ev x1 with | .ptr id off=>K (.ptr id off) | .rptr id n sz i off=>K (.rptr id n sz i off) | .eptr cs=>K (.eptr cs) | .clo f cs=>K (.clo f cs) | _=>False);(split at h);all_goals first | (cases h;exact hk) | (cases h;done)
 (·exact zkY h hk);(·exact eUn_sound h hk);(·exact zgO h hk);(·exact zdm h hk);(·exact zhL h hk);(·exact zhs h hk);(·cases h;exact hk);(·cases h;exact hk);(·exact zjk h hk);unfold aVal;(simp only);exact ziY h hk
end
end Go.Proofs.YtkokfdmggdhfmaaGreatDoor
