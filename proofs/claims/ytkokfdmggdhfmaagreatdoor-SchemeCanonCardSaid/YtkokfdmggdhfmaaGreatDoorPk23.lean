/- packed, part 23 of 47. Conditions: none. -/
import Derived.Test.YtkokfdmggdhfmaaGreatDoorPk22
set_option linter.unusedVariables false
set_option linter.unusedSimpArgs false
set_option linter.unnecessarySimpa false
namespace Go.Proofs.YtkokfdmggdhfmaaGreatDoor
open Go Go.RowKit
mutual
def AV.dataB:AV->Bool
 | .any | .v _=>true
 | .agg cs | .tup cs | .clo _ cs=>AV.dataLB cs
 | .sl _ xs=>AV.dataLLB xs
 | _=>false
def AV.dataLB:List AV->Bool
 | []=>true
 | x::xs=>AV.dataB x&&AV.dataLB xs
def AV.dataLLB:List (List AV)->Bool
 | []=>true
 | x::xs=>AV.dataLB x&&AV.dataLLB xs
end
mutual
theorem AV.dataB_sound:∀x:AV,x.dataB=true->Data x
 | .any,_=>.any
 | .v x,_=>.v x
 | .agg cs,h=>.agg (AV.dataLB_sound cs (by rw[AV.dataB] at h;exact h))
 | .tup cs,h=>.tup (AV.dataLB_sound cs (by rw[AV.dataB] at h;exact h))
 | .clo f cs,h=>.clo (AV.dataLB_sound cs (by rw[AV.dataB] at h;exact h))
 | .sl sz xs,h=>.sl (AV.dataLLB_sound xs (by rw[AV.dataB] at h;exact h))
 | .osl ..,h | .own ..,h | .ptr ..,h | .rptr ..,h | .eptr ..,h | .map ..,h | .mth ..,h=>by simp[AV.dataB] at h
theorem AV.dataLB_sound:∀l:List AV,AV.dataLB l=true->DataL l
 | [],_=>.nil
 | x::xs,h=>by
  rw[AV.dataLB,zl] at h;exact .cons (AV.dataB_sound x h.1) (AV.dataLB_sound xs h.2)
theorem AV.dataLLB_sound:∀l:List (List AV),AV.dataLLB l=true->∀x∈l,DataL x
 | [],_=>fun x h=>by cases h
 | y::ys,h=>fun x hx=>by
  rw[AV.dataLLB,zl] at h;(rcases zH.1 hx with e | hx);(·rw[e];exact AV.dataLB_sound y h.1);exact AV.dataLLB_sound ys h.2 x hx
end
def vEq:Value->Value->Bool
 | .bool a,.bool b=>a==b
 | .int k a,.int k' b=>k==k'&&a==b
 | .pointer none,.pointer none=>true
 | .map none,.map none=>true
 | .slice none n c,.slice none n' c'=>n==n'&&c==c'
 | .string a,.string b=>decide (a=b)
 | .nilFunc,.nilFunc=>true
 | .tuple ⟨[]⟩,.tuple ⟨[]⟩=>true
 | _,_=>false
theorem zhF {x y:Value} (h:vEq x y=true):x=y:=by
 unfold vEq at h;split at h <;> simp_all
mutual
def AV.eqB:AV->AV->Bool
 | .any,.any=>true
 | .v x,.v y=>vEq x y
 | .agg l,.agg m=>AV.eqLB l m
 | .tup l,.tup m=>AV.eqLB l m
 | .sl n l,.sl k m=>n==k&&AV.eqLLB l m
 | .osl i n l,.osl j k m=>i==j&&n==k&&AV.eqLLB l m
 | .own i n,.own j k=>i==j&&n==k
 | .ptr i n,.ptr j k=>i==j&&n==k
 | .rptr a b c d e,.rptr a' b' c' d' e'=>a==a'&&b==b'&&c==c'&&d==d'&&e==e'
 | .eptr l,.eptr m=>AV.eqLB l m
 | .map i,.map j=>i==j
 | .clo f l,.clo g m=>f==g&&AV.eqLB l m
 | _,_=>false
def AV.eqLB:List AV->List AV->Bool
 | [],[]=>true
 | x::l,y::m=>AV.eqB x y&&AV.eqLB l m
 | _,_=>false
def AV.eqLLB:List (List AV)->List (List AV)->Bool
 | [],[]=>true
 | x::l,y::m=>AV.eqLB x y&&AV.eqLLB l m
 | _,_=>false
end
mutual
theorem AV.eqB_sound:∀x y:AV,AV.eqB x y=true->x=y
 | .any,y,h=>by cases y <;> simp_all [AV.eqB]
 | .v x,y,h=>by
  cases y with
  | v y=>rw[AV.eqB] at h;rw[zhF h]
  | _=>simp[AV.eqB] at h
 | .agg l,y,h=>by
  cases y with
  | agg m=>rw[AV.eqB] at h;rw[AV.eqLB_sound l m h]
  | _=>simp[AV.eqB] at h
 | .tup l,y,h=>by
  cases y with
  | tup m=>rw[AV.eqB] at h;rw[AV.eqLB_sound l m h]
  | _=>simp[AV.eqB] at h
 | .sl n l,y,h=>by
  cases y with
  | sl k m=>simp only[AV.eqB,zl,beq_iff_eq] at h;rw[h.1,AV.eqLLB_sound l m h.2]
  | _=>simp[AV.eqB] at h
 | .osl i n l,y,h=>by
  cases y with
  | osl j k m=>simp only[AV.eqB,zl,beq_iff_eq] at h;rw[h.1.1,h.1.2,AV.eqLLB_sound l m h.2]
  | _=>simp[AV.eqB] at h
 | .own i n,y,h=>by cases y <;> simp_all [AV.eqB]
 | .ptr i n,y,h=>by cases y <;> simp_all [AV.eqB]
 | .rptr a b c d e,y,h=>by cases y <;> simp_all [AV.eqB]
 | .eptr l,y,h=>by
  cases y with
  | eptr m=>rw[AV.eqB] at h;rw[AV.eqLB_sound l m h]
  | _=>simp[AV.eqB] at h
 | .map i,y,h=>by cases y <;> simp_all [AV.eqB]
 | .clo f l,y,h=>by
  cases y with
  | clo g m=>simp only[AV.eqB,zl,beq_iff_eq] at h;rw[h.1,AV.eqLB_sound l m h.2]
  | _=>simp[AV.eqB] at h
 | .mth f l,y,h=>by simp[AV.eqB] at h
theorem AV.eqLB_sound:∀x y:List AV,AV.eqLB x y=true->x=y
 | [],[],_=>rfl
 | [],_::_,h=>by simp[AV.eqLB] at h
 | _::_,[],h=>by simp[AV.eqLB] at h
 | x::l,y::m,h=>by
  rw[AV.eqLB,zl] at h;rw[AV.eqB_sound x y h.1,AV.eqLB_sound l m h.2]
theorem AV.eqLLB_sound:∀x y:List (List AV),AV.eqLLB x y=true->x=y
 | [],[],_=>rfl
 | [],_::_,h=>by simp[AV.eqLLB] at h
 | _::_,[],h=>by simp[AV.eqLLB] at h
 | x::l,y::m,h=>by
  rw[AV.eqLLB,zl] at h;rw[AV.eqLB_sound x y h.1,AV.eqLLB_sound l m h.2]
end
def Ob.eqB:Ob->Ob->Bool
 | .cells t l,.cells u m=>t==u&&AV.eqLB l m
 | .tok a b c,.tok a' b' c'=>a==a'&&b==b'&&c==c'
 | .row t n l,.row u k m=>t==u&&n==k&&AV.eqLLB l m
 | .map l,.map m=>l.map (·.1)==m.map (·.1)&&AV.eqLB (l.map (·.2)) (m.map (·.2))
 | _,_=>false
theorem zg4 {α β:Type}:∀{l m:List (α×β)},l.map (·.1)=m.map (·.1)->l.map (·.2)=m.map (·.2)->l=m
 | [],[],_,_=>rfl
 | [],_::_,h,_=>by simp at h
 | _::_,[],h,_=>by simp at h
 | (a,b)::l,(c,d)::m,h1,h2=>by
  simp only[zo,List.cons.injEq] at h1 h2;rw[h1.1,h2.1,zg4 h1.2 h2.2]
theorem Ob.eqB_sound {x y:Ob} (h:Ob.eqB x y=true):x=y:=by
 (cases x <;> cases y <;> simp only[Ob.eqB,zl,beq_iff_eq,zr] at h);(·rw[h.1,AV.eqLB_sound _ _ h.2]);(·rw[h.1.1,h.1.2,h.2]);(·rw[h.1.1,h.1.2,AV.eqLLB_sound _ _ h.2]);rw[zg4 h.1 (AV.eqLB_sound _ _ h.2)]
def zkI:Os->Os->Bool
 | [],[]=>true
 | (i,x)::l,(j,y)::m=>i==j&&Ob.eqB x y&&zkI l m
 | _,_=>false
theorem zfw:∀{x y:Os},zkI x y=true->x=y
 | [],[],_=>rfl
 | [],_::_,h=>by simp[zkI] at h
 | _::_,[],h=>by simp[zkI] at h
 | (i,x)::l,(j,y)::m,h=>by
  simp only[zkI,zl,beq_iff_eq] at h;rw[h.1.1,Ob.eqB_sound h.1.2,zfw h.2]
def St.eqB (s t:St):Bool:=AV.eqLB s.sl t.sl&&zkI s.os t.os&&s.nx==t.nx&&s.n0==t.n0
theorem St.eqB_sound {s t:St} (h:St.eqB s t=true):s=t:=by
 simp only[St.eqB,zl,beq_iff_eq] at h;obtain ⟨a,b,c,d⟩:=s;obtain ⟨a',b',c',d'⟩:=t;(simp only at h);rw[AV.eqLB_sound _ _ h.1.1.1,zfw h.1.1.2,h.1.2,h.2]
abbrev CallE:=Nat->List AV->Os->Nat->Option (AV×Os×Nat)
def CallE.Ok (P:Program) (c:CallE):Prop:=∀f args os nx r os' nx',c f args os nx=some (r,os',nx')->ACalls P f args os nx fun r1 os1 nx1=>r1=r/\os1=os'/\nx1=nx'
def zj5 (P:Program) (t:Nat) (x y:AV) (st:St):Option St :=
 match zbM P t,x with
 | some (_,n),.ptr id off =>
  match zaa st.os id with
  | some (.cells t' cs)=>if y.flat=true/\y.cl.length=n/\off+n<=cs.length/\y.cl.all AV.one=true then some {st with os:=zat st.os id (.cells t' (za2 cs off y.cl))} else none
  | _=>none
 | some (_,n),.rptr id n' sz i off =>
  match zaa st.os id with
  | some (.row t' sz' xs)=>if sz'=sz/\n'=xs.length/\i<xs.length/\off+n<=sz/\y.flat=true/\y.cl.length=n/\y.cl.all AV.one=true then some {st with os:=zat st.os id (.row t' sz (xs.set i (za2 (xs.getD i []) off y.cl)))} else none
  | _=>none
 | _,_=>none
def zcz (own:Bool) (P:Program) (t n:Nat) (parts:List (Nat×AV)) (st:St):Option (AV×St) :=
 match zax P t with
 | some (e,sz,_)=>if n * sz<=2 ^ 24/\parts.map (·.1)=List.range n then
   if n=0 then some (.osl st.nx sz [],st.new (.tok e sz 0))
   else if (parts.all fun p=>p.2.flat&&p.2.cl.length==sz)=true then (if (own&&zcr P e)=true then some (.own st.nx n,st.new (.row e sz (parts.map fun p=>p.2.cl))) else some (.sl sz (parts.map fun p=>p.2.cl),st)) else none
  else none
 | none=>none
def zgS (P:Program) (t:Nat) (m k x:AV) (st:St):Option St :=
 match mapZ P t,m,k with
 | some _,.map id,.v (.int .i64 k) =>
  match zaa st.os id with
  | some (.map es)=>some {st with os:=zat st.os id (.map (zfB es k x))}
  | _=>none
 | _,_,_=>none
def zgU (P:Program) (t:Nat) (s x:AV) (st:St):Option (AV×St) :=
 match zax P t,s,slIn P t st.os x with
 | some (e,sz,bytes),.osl id sz' xs,some (sz'',ys) =>
  match zaa st.os id with
  | some (.tok e' sz3 n)=>if e'=e/\sz3=sz/\sz'=sz/\sz''=sz/\n=xs.length/\(ys.all fun y=>y.all AV.one)=true/\(xs.length+ys.length) * bytes<=140737488355328/\xs.length+ys.length<=maxLen then
    some (.osl id sz (xs++ys),{st with os:=zat st.os id (.tok e sz (xs.length+ys.length))}) else none
  | _=>none
 | some (e,sz,bytes),.v (.slice none 0 0),some (sz'',ys)=>if sz''=sz/\(ys.all fun y=>y.all AV.one)=true/\ys.length * bytes<=140737488355328/\ys.length<=maxLen then
   some (.osl st.nx sz ys,{st with os:=(st.nx,.tok e sz ys.length)::st.os,nx:=st.nx+1}) else none
 | some (e,sz,bytes),.own id n,some (sz'',ys) =>
  match zaa st.os id with
  | some (.row e' sz3 xs)=>if e'=e/\sz3=sz/\sz''=sz/\n=xs.length/\(ys.all fun y=>y.all AV.one)=true/\(xs.length+ys.length) * bytes<=140737488355328/\xs.length+ys.length<=maxLen then
    some (.own id (xs.length+ys.length),{st with os:=zat st.os id (.row e sz (xs++ys))}) else none
  | _=>none
 | _,_,_=>none
def ze6 (P:Program) (t id n:Nat) (y:AV) (st:St):Option (AV×St) :=
 match zaF P t,zaa st.os id,y with
 | some sz',some (.row e sz xs),.v (.int _ k)=>if sz'=sz/\n=xs.length/\0<=k/\k<=(n:Int) then some (.own st.nx k.toNat,{st with os:=(st.nx,.row e sz (xs.take k.toNat))::zaY st.os id,nx:=st.nx+1}) else none
 | _,_,_=>none
def eCallV (c:CallE) (f:AV) (args:List AV) (dst:Option Nat) (st:St):Option St :=
 match f with
 | .clo g caps=>match c g (args++caps) st.os st.nx with
  | some (r,os',nx')=>some (({st with os:=os',nx:=nx'}:St).put dst r)
  | none=>none
 | _=>none
def eOp (P:Program) (c:CallE) (o:Oper) (st:St):Option St :=
 match o.op with
 | .box t x=>if (st.ev x).flat=true then some ((st.new (.cells t (st.ev x).cl)).put o.dst (.ptr st.nx 0)) else none
 | .alloc t=>match zaK P t with | some z=>some ((st.new (.cells t (z.map .v))).put o.dst (.ptr st.nx 0)) | none=>none
 | .store t x y=>(zj5 P t (st.ev x) (st.ev y) st).map fun st'=>st'.put o.dst (.v undef)
 | .buildSlice t n parts=>(zcz true P t n (parts.toList.map fun p=>(p.1,st.ev p.2)) st).map fun p=>p.2.put o.dst p.1
 | .makeMap _ none=>some ((st.new (.map [])).put o.dst (.map st.nx))
 | .mapUpdate t m k x=>(zgS P t (st.ev m) (st.ev k) (st.ev x) st).map fun st'=>st'.put o.dst (.v undef)
 | .call {callee:=.builtin .append,args:=⟨[s,x]⟩,argTypes:=⟨[t,t']⟩}=>if t'=t then (zgU P t (st.ev s) (st.ev x) st).map fun p=>p.2.put o.dst p.1 else none
 | .call {callee:=.value f,args:=args,argTypes:=_}=>eCallV c (st.ev f) (args.toList.map st.ev) o.dst st
 | .slice t x none (some y) none=>match st.ev x with
  | .own id n=>(ze6 P t id n (st.ev y) st).map fun p=>p.2.put o.dst p.1
  | _=>(eVal P o st.ev st.os).map fun x=>st.put o.dst x
 | _=>(eVal P o st.ev st.os).map fun x=>st.put o.dst x
section
variable {P:Program} {c:CallE} {st st':St} {K:St->Prop}
theorem ziL {t:Nat} {x y:AV} (h:zj5 P t x y st=some st') (hk:K st'):zgE P t x y st K:=by
 unfold zj5 at h;unfold zgE;split at h
 ·rename_i ht
  rw[ht];(simp only);split at h
  ·rename_i hg
   simp only[hg];(split at h);(·rename_i hc;cases h;exact ⟨hc.1,hc.2.1,hc.2.2.1,hc.2.2.2,hk⟩);cases h
  cases h
 ·rename_i ht
  rw[ht];(simp only);split at h
  ·rename_i hg
   simp only[hg];(split at h);(·rename_i hc;cases h;exact ⟨hc.1,hc.2.1,hc.2.2.1,hc.2.2.2.1,hc.2.2.2.2.1,hc.2.2.2.2.2.1,hc.2.2.2.2.2.2,hk⟩);cases h
  cases h
 cases h
theorem zf6 {t n:Nat} {parts:List (Nat×AV)} {K:AV->St->Prop} {p:AV×St} (h:zcz true P t n parts st=some p) (hk:K p.1 p.2):zdd P t n parts st K:=by
 unfold zcz at h;unfold zdd;split at h
 ·rename_i he
  rw[he];(simp only);split at h
  ·rename_i hc
   refine ⟨hc.1,hc.2,?_⟩;(split at h);(·rename_i hn;cases h;rw[if_pos hn];exact hk);(rename_i hn);rw[if_neg hn];split at h
   ·rename_i ha
    refine ⟨fun q hq=>?_,?_⟩
    ·have:=zB.1 ha q hq
     simpa using this
    simp only[Bool.true_and] at h;(split at h);(·rename_i hi;cases h;rw[if_pos hi];exact hk);rename_i hi;cases h;rw[if_neg hi];exact hk
   cases h
  cases h
 cases h
theorem zg9 {t:Nat} {m k x:AV} (h:zgS P t m k x st=some st') (hk:K st'):zek P t m k x st K:=by
 unfold zgS at h;unfold zek;split at h
 ·rename_i ht
  rw[ht];(simp only);(split at h);(·rename_i hg;simp only[hg];cases h;exact hk);cases h
 cases h
theorem zhe {t:Nat} {s x:AV} {K:AV->St->Prop} {p:AV×St} (h:zgU P t s x st=some p) (hk:K p.1 p.2):zeu P t s x st K:=by
 unfold zgU at h;unfold zeu;split at h
 ·rename_i h1 h2
  rw[h1,h2];(simp only);split at h
  ·rename_i hg
   simp only[hg];(split at h);(·rename_i hc;cases h;exact ⟨hc.1,hc.2.1,hc.2.2.1,hc.2.2.2.1,hc.2.2.2.2.1,hc.2.2.2.2.2.1,hc.2.2.2.2.2.2.1,hc.2.2.2.2.2.2.2,hk⟩);cases h
  cases h
 ·rename_i h1 h2
  rw[h1,h2];(simp only);(split at h);(·rename_i hc;cases h;exact ⟨hc.1,hc.2.1,hc.2.2.1,hc.2.2.2,hk⟩);cases h
 ·rename_i h1 h2
  rw[h1,h2];(simp only);split at h
  ·rename_i hg
   simp only[hg];(split at h);(·rename_i hc;cases h;exact ⟨hc.1,hc.2.1,hc.2.2.1,hc.2.2.2.1,hc.2.2.2.2.1,hc.2.2.2.2.2.1,hc.2.2.2.2.2.2,hk⟩);cases h
  cases h
 cases h
theorem zf7 {t id n:Nat} {y:AV} {K:AV->St->Prop} {p:AV×St} (h:ze6 P t id n y st=some p) (hk:K p.1 p.2):zah P t id n y st K:=by
 unfold ze6 at h;unfold zah;split at h
 ·rename_i h1 h2
  rw[h1,h2];(simp only);(split at h);(·rename_i hc;cases h;exact ⟨hc.1,hc.2.1,hc.2.2.1,hc.2.2.2,hk⟩);cases h
 cases h
theorem zic (hc:c.Ok P) {f:AV} {args:List AV} {dst:Option Nat} (h:eCallV c f args dst st=some st') (hk:K st'):zgw P f args dst st K:=by
 unfold eCallV at h;unfold zgw;split at h
 ·split at h
  ·rename_i r os' nx' he
   (cases h);exact (hc _ _ _ _ _ _ _ he).mono fun r1 os1 nx1 ⟨e1,e2,e3⟩=>by rw[e1,e2,e3];exact hk
  cases h
 cases h
theorem zhR (hc:c.Ok P) {o:Oper} (h:eOp P c o st=some st') (hk:K st'):aop P o st K:=by
 obtain ⟨dst,op,ty,pos,after,guard⟩:=o;unfold eOp at h;(simp only at h);split at h
 ·split at h
  (·rename_i hf;cases h;exact ⟨hf,hk⟩);cases h
 ·rename_i t
  (show match zaK P t with | some z=>K ((st.new (.cells t (z.map .v))).put dst (.ptr st.nx 0)) | none=>False);(split at h);(·cases h;exact hk);cases h
 ·rename_i t x y
  cases he:zj5 P t (st.ev x) (st.ev y) st with
  | none=>rw[he] at h;cases h
  | some s1=>rw[he] at h;cases h;exact ziL (K:=fun st'=>K (st'.put dst (.v undef))) he hk
 ·rename_i t n parts
  cases he:zcz true P t n (parts.toList.map fun p=>(p.1,st.ev p.2)) st with
  | none=>rw[he] at h;cases h
  | some s1=>rw[he] at h;cases h;exact zf6 (K:=fun x st'=>K (st'.put dst x)) he hk
 ·cases h;exact hk
 ·rename_i t m k x
  cases he:zgS P t (st.ev m) (st.ev k) (st.ev x) st with
  | none=>rw[he] at h;cases h
  | some s1=>rw[he] at h;cases h;exact zg9 (K:=fun st'=>K (st'.put dst (.v undef))) he hk
 ·rename_i s x t t'
  split at h
  ·rename_i ht
   cases he:zgU P t (st.ev s) (st.ev x) st with
   | none=>rw[he] at h;cases h
   | some s1=>rw[he] at h;cases h;exact ⟨ht,zhe (K:=fun x st'=>K (st'.put dst x)) he hk⟩
  cases h
 ·exact zic hc h hk
 ·rename_i t x y
  (show match st.ev x with | .own id n=>zah P t id n (st.ev y) st fun z st'=>K (st'.put dst z) | _=>aVal P ⟨dst,.slice t x none (some y) none,ty,pos,after,guard⟩ st.ev st.os fun x=>K (st.put dst x));split at h
  ·rename_i id n hx
   cases he:ze6 P t id n (st.ev y) st with
   | none=>rw[he] at h;cases h
   | some s1=>rw[he] at h;cases h;exact zf7 (K:=fun x st'=>K (st'.put dst x)) he hk
  cases he:eVal P ⟨dst,.slice t x none (some y) none,ty,pos,after,guard⟩ st.ev st.os with
  | none=>rw[he] at h;cases h
  | some x=>rw[he] at h;cases h;exact zeh (K:=fun x=>K (st.put dst x)) he hk
 unfold aop;simp only
 cases he:eVal P ⟨dst,op,ty,pos,after,guard⟩ st.ev st.os with
 | none=>rw[he] at h;cases h
 | some x=>rw[he] at h;cases h;exact zeh (K:=fun x=>K (st.put dst x)) he hk
end
end Go.Proofs.YtkokfdmggdhfmaaGreatDoor
