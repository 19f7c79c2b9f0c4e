/- packed, part 23 of 49. Conditions: none. -/
import Derived.Test.YtkokfdmggdhfmaaGreatDoorPk22
set_option linter.unusedVariables false
set_option linter.unusedSimpArgs false
set_option linter.unnecessarySimpa false
namespace Go.Proofs.YtkokfdmggdhfmaaGreatDoor
open Go Go.RowKit
mutual
def AV.dataB:AV->Bool
 | .any | .v _=>true
 | .agg cs | .tup cs | .clo _ cs=>AV.dataLB cs
 | .sl _ xs=>AV.dataLLB xs
 | _=>false
def AV.dataLB:List AV->Bool
 | []=>true
 | x::xs=>AV.dataB x&&AV.dataLB xs
def AV.dataLLB:List (List AV)->Bool
 | []=>true
 | x::xs=>AV.dataLB x&&AV.dataLLB xs
end
mutual
theorem AV.dataB_sound:∀x:AV,x.dataB=true->Data x
 | .any,_=>.any
 | .v x,_=>.v x
 | .agg cs,h=>.agg (AV.dataLB_sound cs (by rw[AV.dataB] at h;exact h))
 | .tup cs,h=>.tup (AV.dataLB_sound cs (by rw[AV.dataB] at h;exact h))
 | .clo f cs,h=>.clo (AV.dataLB_sound cs (by rw[AV.dataB] at h;exact h))
 | .sl sz xs,h=>.sl (AV.dataLLB_sound xs (by rw[AV.dataB] at h;exact h))
 | .osl ..,h | .own ..,h | .ptr ..,h | .rptr ..,h | .eptr ..,h | .map ..,h | .mth ..,h=>by simp[AV.dataB] at h
theorem AV.dataLB_sound:∀l:List AV,AV.dataLB l=true->DataL l
 | [],_=>.nil
 | x::xs,h=>by
  rw[AV.dataLB,zl] at h;exact .cons (AV.dataB_sound x h.1) (AV.dataLB_sound xs h.2)
theorem AV.dataLLB_sound:∀l:List (List AV),AV.dataLLB l=true->∀x∈l,DataL x
 | [],_=>fun x h=>by cases h
 | y::ys,h=>fun x hx=>by
  rw[AV.dataLLB,zl] at h;(rcases zK.1 hx with e | hx);(·rw[e];exact AV.dataLB_sound y h.1);exact AV.dataLLB_sound ys h.2 x hx
end
def vEq:Value->Value->Bool
 | .bool a,.bool b=>a==b
 | .int k a,.int k' b=>k==k'&&a==b
 | .pointer none,.pointer none=>true
 | .map none,.map none=>true
 | .slice none n c,.slice none n' c'=>n==n'&&c==c'
 | .string a,.string b=>decide (a=b)
 | .nilFunc,.nilFunc=>true
 | .tuple ⟨[]⟩,.tuple ⟨[]⟩=>true
 | _,_=>false
theorem ziM {x y:Value} (h:vEq x y=true):x=y:=by
 unfold vEq at h;split at h <;> simp_all
mutual
def AV.eqB:AV->AV->Bool
 | .any,.any=>true
 | .v x,.v y=>vEq x y
 | .agg l,.agg m=>AV.eqLB l m
 | .tup l,.tup m=>AV.eqLB l m
 | .sl n l,.sl k m=>n==k&&AV.eqLLB l m
 | .osl i n l,.osl j k m=>i==j&&n==k&&AV.eqLLB l m
 | .own i n,.own j k=>i==j&&n==k
 | .ptr i n,.ptr j k=>i==j&&n==k
 | .rptr a b c d e,.rptr a' b' c' d' e'=>a==a'&&b==b'&&c==c'&&d==d'&&e==e'
 | .eptr l,.eptr m=>AV.eqLB l m
 | .map i,.map j=>i==j
 | .clo f l,.clo g m=>f==g&&AV.eqLB l m
 | _,_=>false
def AV.eqLB:List AV->List AV->Bool
 | [],[]=>true
 | x::l,y::m=>AV.eqB x y&&AV.eqLB l m
 | _,_=>false
def AV.eqLLB:List (List AV)->List (List AV)->Bool
 | [],[]=>true
 | x::l,y::m=>AV.eqLB x y&&AV.eqLLB l m
 | _,_=>false
end
mutual
theorem AV.eqB_sound:∀x y:AV,AV.eqB x y=true->x=y
 | .any,y,h=>by cases y <;> simp_all [AV.eqB]
 | .v x,y,h=>by
  cases y with
  | v y=>rw[AV.eqB] at h;rw[ziM h]
  | _=>simp[AV.eqB] at h
 | .agg l,y,h=>by
  cases y with
  | agg m=>rw[AV.eqB] at h;rw[AV.eqLB_sound l m h]
  | _=>simp[AV.eqB] at h
 | .tup l,y,h=>by
  cases y with
  | tup m=>rw[AV.eqB] at h;rw[AV.eqLB_sound l m h]
  | _=>simp[AV.eqB] at h
 | .sl n l,y,h=>by
  cases y with
  | sl k m=>simp only[AV.eqB,zl,beq_iff_eq] at h;rw[h.1,AV.eqLLB_sound l m h.2]
  | _=>simp[AV.eqB] at h
 | .osl i n l,y,h=>by
  cases y with
  | osl j k m=>simp only[AV.eqB,zl,beq_iff_eq] at h;rw[h.1.1,h.1.2,AV.eqLLB_sound l m h.2]
  | _=>simp[AV.eqB] at h
 | .own i n,y,h=>by cases y <;> simp_all [AV.eqB]
 | .ptr i n,y,h=>by cases y <;> simp_all [AV.eqB]
 | .rptr a b c d e,y,h=>by cases y <;> simp_all [AV.eqB]
 | .eptr l,y,h=>by
  cases y with
  | eptr m=>rw[AV.eqB] at h;rw[AV.eqLB_sound l m h]
  | _=>simp[AV.eqB] at h
 | .map i,y,h=>by cases y <;> simp_all [AV.eqB]
 | .clo f l,y,h=>by
  cases y with
  | clo g m=>simp only[AV.eqB,zl,beq_iff_eq] at h;rw[h.1,AV.eqLB_sound l m h.2]
  | _=>simp[AV.eqB] at h
 | .mth f l,y,h=>by simp[AV.eqB] at h
theorem AV.eqLB_sound:∀x y:List AV,AV.eqLB x y=true->x=y
 | [],[],_=>rfl
 | [],_::_,h=>by simp[AV.eqLB] at h
 | _::_,[],h=>by simp[AV.eqLB] at h
 | x::l,y::m,h=>by
  rw[AV.eqLB,zl] at h;rw[AV.eqB_sound x y h.1,AV.eqLB_sound l m h.2]
theorem AV.eqLLB_sound:∀x y:List (List AV),AV.eqLLB x y=true->x=y
 | [],[],_=>rfl
 | [],_::_,h=>by simp[AV.eqLLB] at h
 | _::_,[],h=>by simp[AV.eqLLB] at h
 | x::l,y::m,h=>by
  rw[AV.eqLLB,zl] at h;rw[AV.eqLB_sound x y h.1,AV.eqLLB_sound l m h.2]
end
def Ob.eqB:Ob->Ob->Bool
 | .cells t l,.cells u m=>t==u&&AV.eqLB l m
 | .tok a b c,.tok a' b' c'=>a==a'&&b==b'&&c==c'
 | .row t n l,.row u k m=>t==u&&n==k&&AV.eqLLB l m
 | .map l,.map m=>l.map (·.1)==m.map (·.1)&&AV.eqLB (l.map (·.2)) (m.map (·.2))
 | _,_=>false
theorem zhp {α β:Type}:∀{l m:List (α×β)},l.map (·.1)=m.map (·.1)->l.map (·.2)=m.map (·.2)->l=m
 | [],[],_,_=>rfl
 | [],_::_,h,_=>by simp at h
 | _::_,[],h,_=>by simp at h
 | (a,b)::l,(c,d)::m,h1,h2=>by
  simp only[zk,List.cons.injEq] at h1 h2;rw[h1.1,h2.1,zhp h1.2 h2.2]
theorem Ob.eqB_sound {x y:Ob} (h:Ob.eqB x y=true):x=y:=by
 (cases x <;> cases y <;> simp only[Ob.eqB,zl,beq_iff_eq,zA] at h);(·rw[h.1,AV.eqLB_sound _ _ h.2]);(·rw[h.1.1,h.1.2,h.2]);(·rw[h.1.1,h.1.2,AV.eqLLB_sound _ _ h.2]);rw[zhp h.1 (AV.eqLB_sound _ _ h.2)]
def zlS:Os->Os->Bool
 | [],[]=>true
 | (i,x)::l,(j,y)::m=>i==j&&Ob.eqB x y&&zlS l m
 | _,_=>false
theorem zft:∀{x y:Os},zlS x y=true->x=y
 | [],[],_=>rfl
 | [],_::_,h=>by simp[zlS] at h
 | _::_,[],h=>by simp[zlS] at h
 | (i,x)::l,(j,y)::m,h=>by
  simp only[zlS,zl,beq_iff_eq] at h;rw[h.1.1,Ob.eqB_sound h.1.2,zft h.2]
def St.eqB (s t:St):Bool:=AV.eqLB s.sl t.sl&&zlS s.os t.os&&s.nx==t.nx&&s.n0==t.n0
theorem St.eqB_sound {s t:St} (h:St.eqB s t=true):s=t:=by
 simp only[St.eqB,zl,beq_iff_eq] at h;obtain ⟨a,b,c,d⟩:=s;obtain ⟨a',b',c',d'⟩:=t;(simp only at h);rw[AV.eqLB_sound _ _ h.1.1.1,zft h.1.1.2,h.1.2,h.2]
abbrev CallE:=Nat->List AV->Os->Nat->Option (AV×Os×Nat)
def CallE.Ok (P:Program) (c:CallE):Prop:=∀f args os nx r os' nx',c f args os nx=some (r,os',nx')->ACalls P f args os nx fun r1 os1 nx1=>r1=r/\os1=os'/\nx1=nx'
def zk4 (P:Program) (t:Nat) (x y:AV) (st:St):Option St :=
 match zbU P t,x with
 | some (_,n),.ptr id off =>
  match zad st.os id with
  | some (.cells t' cs)=>if y.flat=true/\y.cl.length=n/\off+n<=cs.length/\y.cl.all AV.one=true then some {st with os:=zaz st.os id (.cells t' (zbd cs off y.cl))} else none
  | _=>none
 | some (_,n),.rptr id n' sz i off =>
  match zad st.os id with
  | some (.row t' sz' xs)=>if sz'=sz/\n'=xs.length/\i<xs.length/\off+n<=sz/\y.flat=true/\y.cl.length=n/\y.cl.all AV.one=true then some {st with os:=zaz st.os id (.row t' sz (xs.set i (zbd (xs.getD i []) off y.cl)))} else none
  | _=>none
 | _,_=>none
def zcX (own:Bool) (P:Program) (t n:Nat) (parts:List (Nat×AV)) (st:St):Option (AV×St) :=
 match zaD P t with
 | some (e,sz,_)=>if n * sz<=2 ^ 24/\parts.map (·.1)=List.range n then
   if n=0 then some (.osl st.nx sz [],st.new (.tok e sz 0))
   else if (parts.all fun p=>p.2.flat&&p.2.cl.length==sz)=true then (if (own&&zcF P e)=true then some (.own st.nx n,st.new (.row e sz (parts.map fun p=>p.2.cl))) else some (.sl sz (parts.map fun p=>p.2.cl),st)) else none
  else none
 | none=>none
def zhq (P:Program) (t:Nat) (m k x:AV) (st:St):Option St :=
 match mapZ P t,m,k with
 | some _,.map id,.v (.int .i64 k) =>
  match zad st.os id with
  | some (.map es)=>some {st with os:=zaz st.os id (.map (zfS es k x))}
  | _=>none
 | _,_,_=>none
def zg3 (P:Program) (t:Nat) (s x:AV) (st:St):Option (AV×St) :=
 match zaD P t,s,slIn P t st.os x with
 | some (e,sz,bytes),.osl id sz' xs,some (sz'',ys) =>
  match zad st.os id with
  | some (.tok e' sz3 n)=>if e'=e/\sz3=sz/\sz'=sz/\sz''=sz/\n=xs.length/\(ys.all fun y=>y.all AV.one)=true/\(xs.length+ys.length) * bytes<=140737488355328/\xs.length+ys.length<=maxLen then
    some (.osl id sz (xs++ys),{st with os:=zaz st.os id (.tok e sz (xs.length+ys.length))}) else none
  | _=>none
 | some (e,sz,bytes),.v (.slice none 0 0),some (sz'',ys)=>if sz''=sz/\(ys.all fun y=>y.all AV.one)=true/\ys.length * bytes<=140737488355328/\ys.length<=maxLen then
   some (.osl st.nx sz ys,{st with os:=(st.nx,.tok e sz ys.length)::st.os,nx:=st.nx+1}) else none
 | some (e,sz,bytes),.own id n,some (sz'',ys) =>
  match zad st.os id with
  | some (.row e' sz3 xs)=>if e'=e/\sz3=sz/\sz''=sz/\n=xs.length/\(ys.all fun y=>y.all AV.one)=true/\(xs.length+ys.length) * bytes<=140737488355328/\xs.length+ys.length<=maxLen then
    some (.own id (xs.length+ys.length),{st with os:=zaz st.os id (.row e sz (xs++ys))}) else none
  | _=>none
 | _,_,_=>none
def zfk (P:Program) (t id n:Nat) (y:AV) (st:St):Option (AV×St) :=
 match zaI P t,zad st.os id,y with
 | some sz',some (.row e sz xs),.v (.int _ k)=>if sz'=sz/\n=xs.length/\0<=k/\k<=(n:Int) then some (.own st.nx k.toNat,{st with os:=(st.nx,.row e sz (xs.take k.toNat))::zba st.os id,nx:=st.nx+1}) else none
 | _,_,_=>none
def eCallV (c:CallE) (f:AV) (args:List AV) (dst:Option Nat) (st:St):Option St :=
 match f with
 | .clo g caps=>match c g (args++caps) st.os st.nx with
  | some (r,os',nx')=>some (({st with os:=os',nx:=nx'}:St).put dst r)
  | none=>none
 | _=>none
def eOp (P:Program) (c:CallE) (o:Oper) (st:St):Option St :=
 match o.op with
 | .box t x=>if (st.ev x).flat=true then some ((st.new (.cells t (st.ev x).cl)).put o.dst (.ptr st.nx 0)) else none
 | .alloc t=>match zaT P t with | some z=>some ((st.new (.cells t (z.map .v))).put o.dst (.ptr st.nx 0)) | none=>none
 | .store t x y=>(zk4 P t (st.ev x) (st.ev y) st).map fun st'=>st'.put o.dst (.v undef)
 | .buildSlice t n parts=>(zcX true P t n (parts.toList.map fun p=>(p.1,st.ev p.2)) st).map fun p=>p.2.put o.dst p.1
 | .makeMap _ none=>some ((st.new (.map [])).put o.dst (.map st.nx))
 | .mapUpdate t m k x=>(zhq P t (st.ev m) (st.ev k) (st.ev x) st).map fun st'=>st'.put o.dst (.v undef)
 | .call {callee:=.builtin .append,args:=⟨[s,x]⟩,argTypes:=⟨[t,t']⟩}=>if t'=t then (zg3 P t (st.ev s) (st.ev x) st).map fun p=>p.2.put o.dst p.1 else none
 | .call {callee:=.value f,args:=args,argTypes:=_}=>eCallV c (st.ev f) (args.toList.map st.ev) o.dst st
 | .slice t x none (some y) none=>match st.ev x with
  | .own id n=>(zfk P t id n (st.ev y) st).map fun p=>p.2.put o.dst p.1
  | _=>(eVal P o st.ev st.os).map fun x=>st.put o.dst x
 | _=>(eVal P o st.ev st.os).map fun x=>st.put o.dst x
section
variable {P:Program} {c:CallE} {st st':St} {K:St->Prop}
theorem ziW {t:Nat} {x y:AV} (h:zk4 P t x y st=some st') (hk:K st'):zgJ P t x y st K:=by
 unfold zk4 at h;unfold zgJ;split at h
 ·rename_i ht
  rw[ht];(simp only);split at h
  ·rename_i hg
   simp only[hg];(split at h);(·rename_i hc;cases h;exact ⟨hc.1,hc.2.1,hc.2.2.1,hc.2.2.2,hk⟩);cases h
  cases h
 ·rename_i ht
  rw[ht];(simp only);split at h
  ·rename_i hg
   simp only[hg];(split at h);(·rename_i hc;cases h;exact ⟨hc.1,hc.2.1,hc.2.2.1,hc.2.2.2.1,hc.2.2.2.2.1,hc.2.2.2.2.2.1,hc.2.2.2.2.2.2,hk⟩);cases h
  cases h
 cases h
theorem zgm {t n:Nat} {parts:List (Nat×AV)} {K:AV->St->Prop} {p:AV×St} (h:zcX true P t n parts st=some p) (hk:K p.1 p.2):zdt P t n parts st K:=by
 unfold zcX at h;unfold zdt;split at h
 ·rename_i he
  rw[he];(simp only);split at h
  ·rename_i hc
   refine ⟨hc.1,hc.2,?_⟩;(split at h);(·rename_i hn;cases h;rw[if_pos hn];exact hk);(rename_i hn);rw[if_neg hn];split at h
   ·rename_i ha
    refine ⟨fun q hq=>?_,?_⟩
    ·have:=zF.1 ha q hq
     simpa using this
    simp only[Bool.true_and] at h;(split at h);(·rename_i hi;cases h;rw[if_pos hi];exact hk);rename_i hi;cases h;rw[if_neg hi];exact hk
   cases h
  cases h
 cases h
theorem zg2 {t:Nat} {m k x:AV} (h:zhq P t m k x st=some st') (hk:K st'):zeJ P t m k x st K:=by
 unfold zhq at h;unfold zeJ;split at h
 ·rename_i ht
  rw[ht];(simp only);(split at h);(·rename_i hg;simp only[hg];cases h;exact hk);cases h
 cases h
theorem zhf {t:Nat} {s x:AV} {K:AV->St->Prop} {p:AV×St} (h:zg3 P t s x st=some p) (hk:K p.1 p.2):zey P t s x st K:=by
 unfold zg3 at h;unfold zey;split at h
 ·rename_i h1 h2
  rw[h1,h2];(simp only);split at h
  ·rename_i hg
   simp only[hg];(split at h);(·rename_i hc;cases h;exact ⟨hc.1,hc.2.1,hc.2.2.1,hc.2.2.2.1,hc.2.2.2.2.1,hc.2.2.2.2.2.1,hc.2.2.2.2.2.2.1,hc.2.2.2.2.2.2.2,hk⟩);cases h
  cases h
 ·rename_i h1 h2
  rw[h1,h2];(simp only);(split at h);(·rename_i hc;cases h;exact ⟨hc.1,hc.2.1,hc.2.2.1,hc.2.2.2,hk⟩);cases h
 ·rename_i h1 h2
  rw[h1,h2];(simp only);split at h
  ·rename_i hg
   simp only[hg];(split at h);(·rename_i hc;cases h;exact ⟨hc.1,hc.2.1,hc.2.2.1,hc.2.2.2.1,hc.2.2.2.2.1,hc.2.2.2.2.2.1,hc.2.2.2.2.2.2,hk⟩);cases h
  cases h
 cases h
theorem zgt {t id n:Nat} {y:AV} {K:AV->St->Prop} {p:AV×St} (h:zfk P t id n y st=some p) (hk:K p.1 p.2):zak P t id n y st K:=by
 unfold zfk at h;unfold zak;split at h
 ·rename_i h1 h2
  rw[h1,h2];(simp only);(split at h);(·rename_i hc;cases h;exact ⟨hc.1,hc.2.1,hc.2.2.1,hc.2.2.2,hk⟩);cases h
 cases h
theorem zi7 (hc:c.Ok P) {f:AV} {args:List AV} {dst:Option Nat} (h:eCallV c f args dst st=some st') (hk:K st'):zgD P f args dst st K:=by
 unfold eCallV at h;unfold zgD;split at h
 ·split at h
  ·rename_i r os' nx' he
   (cases h);exact (hc _ _ _ _ _ _ _ he).mono fun r1 os1 nx1 ⟨e1,e2,e3⟩=>by rw[e1,e2,e3];exact hk
  cases h
 cases h
theorem zjg (hc:c.Ok P) {o:Oper} (h:eOp P c o st=some st') (hk:K st'):aop P o st K:=by
 obtain ⟨dst,op,ty,pos,after,guard⟩:=o;unfold eOp at h;(simp only at h);split at h
 ·split at h
  (·rename_i hf;cases h;exact ⟨hf,hk⟩);cases h
 ·rename_i t
  (show match zaT P t with | some z=>K ((st.new (.cells t (z.map .v))).put dst (.ptr st.nx 0)) | none=>False);(split at h);(·cases h;exact hk);cases h
 ·rename_i t x y
  cases he:zk4 P t (st.ev x) (st.ev y) st with
  | none=>rw[he] at h;cases h
  | some s1=>rw[he] at h;cases h;exact ziW (K:=fun st'=>K (st'.put dst (.v undef))) he hk
 ·rename_i t n parts
  cases he:zcX true P t n (parts.toList.map fun p=>(p.1,st.ev p.2)) st with
  | none=>rw[he] at h;cases h
  | some s1=>rw[he] at h;cases h;exact zgm (K:=fun x st'=>K (st'.put dst x)) he hk
 ·cases h;exact hk
 ·rename_i t m k x
  cases he:zhq P t (st.ev m) (st.ev k) (st.ev x) st with
  | none=>rw[he] at h;cases h
  | some s1=>rw[he] at h;cases h;exact zg2 (K:=fun st'=>K (st'.put dst (.v undef))) he hk
 ·rename_i s x t t'
  split at h
  ·rename_i ht
   cases he:zg3 P t (st.ev s) (st.ev x) st with
   | none=>rw[he] at h;cases h
   | some s1=>rw[he] at h;cases h;exact ⟨ht,zhf (K:=fun x st'=>K (st'.put dst x)) he hk⟩
  cases h
 ·exact zi7 hc h hk
 ·rename_i t x y
  (show match st.ev x with | .own id n=>zak P t id n (st.ev y) st fun z st'=>K (st'.put dst z) | _=>aVal P ⟨dst,.slice t x none (some y) none,ty,pos,after,guard⟩ st.ev st.os fun x=>K (st.put dst x));split at h
  ·rename_i id n hx
   cases he:zfk P t id n (st.ev y) st with
   | none=>rw[he] at h;cases h
   | some s1=>rw[he] at h;cases h;exact zgt (K:=fun x st'=>K (st'.put dst x)) he hk
  cases he:eVal P ⟨dst,.slice t x none (some y) none,ty,pos,after,guard⟩ st.ev st.os with
  | none=>rw[he] at h;cases h
  | some x=>rw[he] at h;cases h;exact zeC (K:=fun x=>K (st.put dst x)) he hk
 unfold aop;simp only
 cases he:eVal P ⟨dst,op,ty,pos,after,guard⟩ st.ev st.os with
 | none=>rw[he] at h;cases h
 | some x=>rw[he] at h;cases h;exact zeC (K:=fun x=>K (st.put dst x)) he hk
end
end Go.Proofs.YtkokfdmggdhfmaaGreatDoor
