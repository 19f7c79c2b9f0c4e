/- packed, part 42 of 47. Conditions: none. -/
import Derived.Test.YtkokfdmggdhfmaaGreatDoorPk41
set_option linter.unusedVariables false
set_option linter.unusedSimpArgs false
set_option linter.unnecessarySimpa false
namespace Go.Proofs.YtkokfdmggdhfmaaGreatDoor
open Go Go.RowKit
def eWant (ops:List Oper) (o:Oper) (st:St):Option Bool :=
 match o.guard with
 | none=>some true
 | some (j,want) =>
  match ((ops[j]?).bind (·.dst)) with
  | none=>some false
  | some d=>match st.get d with
   | .v (.bool b)=>some (b==want)
   | .v (.tuple _)=>some false
   | _=>none
def eOps (P:Program) (c:CallE) (ops:List Oper):List Oper->St->Option St
 | [],st=>some st
 | o::rest,st=>match eWant ops o st with
  | some true=>match eOp P c o st with
   | some st'=>eOps P c ops rest st'
   | none=>none
  | some false=>eOps P c ops rest (st.put o.dst (.v undef))
  | none=>none
def eDOp (P:Program) (c:CallE) (os:Os) (o:Oper) (st:St):Option St :=
 match o.op with
 | .alloc t=>match zaK P t with | some z=>some ((st.new (.cells t (z.map .v))).put o.dst (.ptr st.nx 0)) | none=>none
 | .makeMap _ none=>some ((st.new (.map [])).put o.dst (.map st.nx))
 | .buildSlice t n parts=>(zcz false P t n (parts.toList.map fun p=>(p.1,st.ev p.2)) st).map fun p=>p.2.put o.dst p.1
 | .call {callee:=.value f,args:=args,argTypes:=_} =>
  match st.ev f with
  | .clo g caps=>if AV.dataLB (args.toList.map st.ev++caps)=true then
    match c g (args.toList.map st.ev++caps) [] 0 with
    | some (r,_,_)=>if r.dataB=true then some (st.put o.dst r) else none
    | none=>none
   else none
  | _=>none
 | _=>(eVal P o st.ev os).map fun x=>st.put o.dst x
def eDRun (P:Program) (c:CallE) (ops:List Oper) (os:Os):List Oper->St->Option St
 | [],st=>some st
 | o::rest,st=>match eWant ops o st with
  | some true=>match eDOp P c os o st with
   | some st'=>eDRun P c ops os rest st'
   | none=>none
  | some false=>eDRun P c ops os rest (st.put o.dst (.v undef))
  | none=>none
def zhY (P:Program) (o:Oper) (ev:Operand->AV):Option AV :=
 match o.guard with
 | some _=>none
 | none=>match o.op with
  | .move y=>some (ev y)
  | .assign y=>some (ev y)
  | .fieldAddr s x f=>match z6 P s f,ev x with | some o,.ptr id off=>some (.ptr id (off+o)) | _,_=>none
  | .nilCheck x=>match ev x with | .ptr id off=>some (.ptr id off) | _=>none
  | .extract x i=>ze0 (ev x) i
  | .call {callee:=.builtin .len,args:=⟨[x]⟩,argTypes:=⟨[t]⟩}=>match zez P t,ev x with
   | some true,.sl _ xs=>some (.v (.int .i64 xs.length))
   | some true,.osl _ _ xs=>some (.v (.int .i64 xs.length))
   | _,_=>none
  | _=>none
def eAt (P:Program) (c:CallE) (l:List Oper) (i:Nat) (st:St):Option St :=
 match l[i]? with
 | none=>none
 | some o=>match eWant l o st with
  | some true=>eOp P c o st
  | some false=>some (st.put o.dst (.v undef))
  | none=>none
def zhD (P:Program) (l:List Oper) (listed:Array Bool) (st:St):List Nat->Option (Nat×St)
 | []=>none
 | i::rest=>match l[i]? with
  | none=>zhD P l listed st rest
  | some o=>match zhY P o st.ev with
   | some x=>if Region.free .any l.toArray listed i=true then some (i,st.put o.dst x) else zhD P l listed st rest
   | none=>zhD P l listed st rest
def insB (p:Array Bool×St):List (Array Bool×St)->Option (List (Array Bool×St))
 | []=>some [p]
 | q::rest=>if p.1.toList==q.1.toList then (if weakB p.2 q.2=true then some (q::rest) else none) else (insB p rest).map fun r=>q::r
def eNext (P:Program) (c:CallE) (l:List Oper) (listed:Array Bool) (st:St):List Nat->List (Array Bool×St)->Option (List (Array Bool×St))
 | [],acc=>some acc
 | i::rest,acc=>match eAt P c l i st with
  | none=>none
  | some s=>match insB (listed.setIfInBounds i true,s) acc with
   | none=>none
   | some acc'=>eNext P c l listed st rest acc'
def zhy (P:Program) (c:CallE) (l:List Oper):List (Array Bool×St)->List (Array Bool×St)->Option (List (Array Bool×St))
 | [],acc=>some acc
 | (listed,st)::rest,acc=>match Region.ready .any l.toArray listed with
  | []=>none
  | i::rs=>match zhD P l listed st (i::rs) with
   | some (j,st')=>match insB (listed.setIfInBounds j true,st') acc with
    | none=>none
    | some acc'=>zhy P c l rest acc'
   | none=>match eNext P c l listed st (i::rs) acc with
    | none=>none
    | some acc'=>zhy P c l rest acc'
def eEnd (l:List Oper):List (Array Bool×St)->Option St
 | [(listed,st)]=>if (Region.ready .any l.toArray listed).isEmpty=true then some st else none
 | _=>none
def eLev (P:Program) (c:CallE) (l:List Oper):Nat->List (Array Bool×St)->Option St
 | 0,L=>eEnd l L
 | n+1,L=>match zhy P c l L [] with
  | none=>none
  | some L'=>eLev P c l n L'
def zjb (o:Oper):Bool :=
 match o.op with
 | .store .. | .mapUpdate .. | .box ..=>true
 | .call {callee:=.builtin .append,args:=_,argTypes:=_}=>true
 | _=>false
def setOp (o:Oper):Bool :=
 match o.op with
 | .assign _=>true
 | _=>false
def callOp (o:Oper):Bool :=
 match o.op with
 | .call {callee:=.value _,args:=_,argTypes:=_}=>true
 | _=>false
def floatsOf (ops:Array Oper) (m:Nat):List Nat :=
 (List.range m).filter fun i=>(match ops[i]? with
  | some o=>(match o.op,o.guard with | .extract (.tmp _) _,none=>true | _,_=>false)
  | none=>false)&&!((List.range (m+1)).any fun j=>decide (i<j)&&Region.waitsFor .any ops j i)
def eDraw (P:Program) (c:CallE) (l:List Oper) (m:Nat) (st:St):Option St :=
 if drawF l.toArray m (floatsOf l.toArray m)=true then
  match eDRun P c l st.os (l.take m) st with
  | some st'=>eOps P c l (l.drop m) st'
  | none=>none
 else none
def zhn (P:Program) (c:CallE) (l:List Oper) (draw:Bool) (st:St):Option St :=
 match draw with
 | false=>eOps P c l l st
 | true =>
  match eDraw P c l (l.findIdx fun o=>zjb o||setOp o||callOp o) st with
  | some s=>some s
  | none=>match eDraw P c l (l.findIdx fun o=>zjb o||setOp o) st with
   | some s=>some s
   | none=>match eDraw P c l (l.findIdx zjb) st with
    | some s=>some s
    | none=>if Region.noSelect l.toArray=true then (eLev P c l l.length [(Array.replicate l.length false,{st with n0:=st.nx})]).map fun s=>{s with n0:=st.n0} else none
abbrev Pol:=List (Nat×Nat×Nat×Nat)
def eRow1 (t:Nat) (cs:List AV):Pol->Option (Nat×Nat×Nat)
 | []=>none
 | (t',i,e,sz)::rest=>if t'=t then match cs[i]? with
   | some (.v (.slice none 0 0))=>some (i,e,sz)
   | _=>eRow1 t cs rest
  else eRow1 t cs rest
def eRowF (pol:Pol):Os->Option (Nat×Nat×List AV×Nat×Nat×Nat)
 | []=>none
 | (id,.cells t cs)::rest=>match eRow1 t cs pol with
  | some (i,e,sz)=>some (id,t,cs,i,e,sz)
  | none=>eRowF pol rest
 | _::rest=>eRowF pol rest
def eRows (pol:Pol):Nat->St->St
 | 0,st=>st
 | n+1,st=>match eRowF pol st.os with
  | none=>st
  | some (id,t,cs,i,e,sz)=>match zaa st.os id with
   | some (.cells t' cs')=>match cs'[i]? with
    | some (.v (.slice none 0 0))=>eRows pol n ⟨st.sl,zat ((st.nx,.row e sz [])::st.os) id (.cells t' (cs'.set i (.own st.nx 0))),st.nx+1,st.n0⟩
    | _=>st
   | _=>st
def zk8 (body:St->Option (Exit×St)):Nat->St->Option (Exit×St)
 | 0,_=>none
 | n+1,st=>match body st with
  | some (.normal,st')=>zk8 body n st'
  | some (e,st')=>some (e,st')
  | none=>none
def zdh (P:Program) (c:CallE) (pol:Pol) (fuel:Nat):Code->St->Option (Exit×St)
 | .skip,st=>some (.normal,st)
 | .label _,st=>some (.normal,st)
 | .ret,st=>some (.ret,st)
 | .exit id,st=>some (.exit id,st)
 | .region _ ops draw,st=>(zhn P c ops.toList draw (eRows pol 8 st)).map fun s=>(.normal,s)
 | .seq x y,st=>match zdh P c pol fuel x st with
  | some (.normal,st')=>zdh P c pol fuel y st'
  | some (e,st')=>some (e,st')
  | none=>none
 | .block id b,st=>match zdh P c pol fuel b st with
  | some (.exit i,st')=>if i=id then some (.normal,st') else some (.exit i,st')
  | some (e,st')=>some (e,st')
  | none=>none
 | .cond o x y,st=>match st.ev o with
  | .v (.bool true)=>zdh P c pol fuel x st
  | .v (.bool false)=>zdh P c pol fuel y st
  | _=>none
 | .loop b,st=>zk8 (fun st=>zdh P c pol fuel b st) fuel st
 | .scope b,st=>match zdh P c pol fuel b st with
  | some (.goto _,_)=>none
  | r=>r
 | _,_=>none
def eRes (P:Program):List ResultVar->St->Option (List AV)
 | [],st=>some []
 | .tmp t::rest,st=>(eRes P rest st).map fun l=>st.get t::l
 | .cell a t::rest,st=>match eLoad P t (st.get a) st.os with
  | some x=>(eRes P rest st).map fun l=>x::l
  | none=>none
def eBody (P:Program) (c:CallE) (pol:Pol) (fuel:Nat) (fn:Func) (args:List AV) (os:Os) (nx:Nat):Option (AV×Os×Nat) :=
 if (fn.name=="runtime.NumGoroutine")=false/\args.length<=fn.ntmps then
  match fn.body with
  | some code=>match zdh P c pol fuel code ⟨args++List.replicate (fn.ntmps-args.length) (.v undef),os,nx,nx⟩ with
   | some (.normal,st)=>(eRes P fn.results.toList st).map fun l=>(zau l,st.os,st.nx)
   | some (.ret,st)=>(eRes P fn.results.toList st).map fun l=>(zau l,st.os,st.nx)
   | _=>none
  | none=>none
 else none
def eCall (P:Program) (pol:Pol) (fuel:Nat):Nat->CallE
 | 0=>fun _ _ _ _=>none
 | n+1=>fun f args os nx=>match P.funcs[f]? with
  | some fn=>(eBody P (eCall P pol fuel n) pol fuel fn args os nx).map (zdY nx)
  | none=>none
def ePure (P:Program) (pol:Pol) (fuel n f:Nat) (args:List AV) (x:AV):Bool :=
 AV.dataLB args&&x.dataB&&match eCall P pol fuel n f args [] 0 with
  | some (r,_,_)=>AV.eqB r x
  | none=>false
section
variable {P:Program} {c:CallE}
theorem zbp {ops:List Oper} {o:Oper} {st:St} {T F:Prop} {b:Bool} (h:eWant ops o st=some b) (ht:b=true->T) (hf:b=false->F):aWant ops o st T F:=by
 unfold eWant at h;unfold aWant;(split at h);(·rename_i hg;rw[hg];cases h;exact ht rfl);(rename_i hg);rw[hg];(simp only);(split at h);(·rename_i hd;rw[hd];cases h;exact hf rfl);(rename_i hd);rw[hd];(simp only);split at h
 ·rename_i hv
  rw[hv];(simp only);(cases h);split;(·rename_i e;exact ht (by simp[e]));rename_i e;exact hf (by simpa using e)
 (·rename_i hv;rw[hv];cases h;exact hf rfl);cases h
theorem zc9 (hc:c.Ok P) {ops:List Oper} {K:St->Prop}:∀(l:List Oper) (st st':St),eOps P c ops l st=some st'->K st'->aops P ops l st K
 | [],st,st',h,hk=>by cases h;exact hk
 | o::rest,st,st',h,hk=>by
  rw[eOps] at h;rw[aops];split at h
  ·rename_i hw
   split at h
   ·rename_i s1 he
    exact zbp hw (fun _=>zhR hc he (zc9 hc rest s1 st' h hk)) (fun h=>by cases h)
   cases h
  ·rename_i hw
   exact zbp hw (fun h=>by cases h) (fun _=>zc9 hc rest _ st' h hk)
  cases h
theorem zls (hc:c.Ok P) {os:Os} {o:Oper} {st st':St} {K:St->Prop} (h:eDOp P c os o st=some st') (hk:K st'):dOp P os o st K:=by
 obtain ⟨dst,op,ty,pos,after,guard⟩:=o;unfold eDOp at h;(simp only at h);split at h
 ·rename_i t
  (show match zaK P t with | some z=>K ((st.new (.cells t (z.map .v))).put dst (.ptr st.nx 0)) | none=>False);(split at h);(·cases h;exact hk);cases h
 ·cases h;exact hk
 ·rename_i t n parts
  cases he:zcz false P t n (parts.toList.map fun p=>(p.1,st.ev p.2)) st with
  | none=>rw[he] at h;cases h
  | some s1 =>
   rw[he] at h;cases h;unfold zcz at he;unfold dOp;(simp only);split at he
   ·rename_i e sz b hz
    rw[hz];(simp only);split at he
    ·rename_i hc
     refine ⟨hc.1,(by have h9:=hc.2;rw[List.map_map] at h9;exact h9),?_⟩;(split at he);(·rename_i hn;cases he;rw[if_pos hn];exact hk);(rename_i hn);rw[if_neg hn];split at he
     ·rename_i ha
      simp only[Bool.false_and,zr,if_false] at he;(cases he);refine ⟨fun p hp=>?_,?_⟩
      ·have:=zB.1 ha (p.1,st.ev p.2) (List.mem_map_of_mem hp)
       simpa using this
      have h4:=hk;simp only[List.map_map] at h4;exact h4
     cases he
    cases he
   cases he
 ·rename_i f args at'
  (show match st.ev f with | .clo g caps=>∃x,APure P g (args.toList.map st.ev++caps) x/\K (st.put dst x) | _=>False);split at h
  ·rename_i g caps hf
   split at h
   ·rename_i hd
    split at h
    ·rename_i r _ _ he
     split at h
     ·rename_i hr
      (cases h);exact ⟨r,⟨AV.dataLB_sound _ hd,AV.dataB_sound _ hr,(hc _ _ _ _ _ _ _ he).mono fun _ _ _ hh=>hh.1⟩,hk⟩
     cases h
    cases h
   cases h
  cases h
 unfold dOp;simp only
 cases he:eVal P ⟨dst,op,ty,pos,after,guard⟩ st.ev os with
 | none=>rw[he] at h;cases h
 | some x=>rw[he] at h;cases h;exact ⟨x,zeh he rfl,hk⟩
theorem zdv (hc:c.Ok P) {ops:List Oper} {os:Os} {K:St->Prop}:∀(l:List Oper) (st st':St),eDRun P c ops os l st=some st'->K st'->zaE P ops os l st K
 | [],st,st',h,hk=>by cases h;exact hk
 | o::rest,st,st',h,hk=>by
  rw[eDRun] at h;rw[zaE];split at h
  ·rename_i hw
   split at h
   ·rename_i s1 he
    exact zbp hw (fun _=>zls hc he (zdv hc rest s1 st' h hk)) (fun h=>by cases h)
   cases h
  ·rename_i hw
   exact zbp hw (fun h=>by cases h) (fun _=>zdv hc rest _ st' h hk)
  cases h
theorem ziu {o:Oper} {ev:Operand->AV} {x:AV} {K:AV->Prop} (h:zhY P o ev=some x) (hk:K x):zfy P o ev K:=by
 obtain ⟨dst,op,ty,pos,after,guard⟩:=o;unfold zhY at h;(simp only at h);(split at h);(·cases h);refine ⟨rfl,?_⟩;(simp only);(split at h);(·cases h;exact hk);·cases h;exact hk
 ·rename_i s y f
  (show match z6 P s f,ev y with | some o,.ptr id off=>K (.ptr id (off+o)) | _,_=>False);(split at h);(·cases h;exact hk);cases h
 ·rename_i y
  (show match ev y with | .ptr id off=>K (.ptr id off) | _=>False);(split at h);(·cases h;exact hk);cases h
 ·exact zdm h hk
 ·rename_i y t
  (show zez P t=some true/\match ev y with | .sl _ xs=>K (.v (.int .i64 xs.length)) | .osl _ _ xs=>K (.v (.int .i64 xs.length)) | _=>False);(split at h);(·rename_i h1 h2;cases h;exact ⟨h1,by rw[h2];exact hk⟩);(·rename_i h1 h2;cases h;exact ⟨h1,by rw[h2];exact hk⟩);cases h
 cases h
theorem zfH {l:List Oper} {listed:Array Bool} {st:St}:∀(rs:List Nat) {j:Nat} {st':St},zhD P l listed st rs=some (j,st') ->
  ∃o x,j∈rs/\l[j]?=some o/\zhY P o st.ev=some x/\Region.free .any l.toArray listed j=true/\st'=st.put o.dst x
 | [],j,st',h=>by cases h
 | i::rest,j,st',h=>by
  rw[zhD] at h
  have hrec:zhD P l listed st rest=some (j,st')->∃o x,j∈i::rest/\l[j]?=some o/\zhY P o st.ev=some x/\Region.free .any l.toArray listed j=true/\st'=st.put o.dst x:=fun h=>by
   obtain ⟨o,x,h1,h2⟩:=zfH rest h;exact ⟨o,x,List.mem_cons_of_mem _ h1,h2⟩
  (split at h);(·exact hrec h);(rename_i o ho);split at h
  ·rename_i x hx
   (split at h);(·rename_i hf;cases h;exact ⟨o,x,by simp,ho,hx,hf,rfl⟩);exact hrec h
  exact hrec h
theorem eAt_sound (hc:c.Ok P) {l:List Oper} {i:Nat} {st st':St} {K:St->Prop} (h:eAt P c l i st=some st') (hk:K st'):aAt P l i st K:=by
 unfold eAt at h;unfold aAt;(split at h);(·cases h);(rename_i ho);rw[ho];(simp only);(split at h);(·rename_i hw;exact zbp hw (fun _=>zhR hc h hk) (fun h=>by cases h));(·rename_i hw;cases h;exact zbp hw (fun h=>by cases h) (fun _=>hk));cases h
def Has (L:List (Array Bool×St)) (p:Array Bool×St):Prop:=∃q∈L,q.1=p.1/\Weak p.2 q.2
theorem Has.sub {L L':List (Array Bool×St)} {p:Array Bool×St} (h:Has L p) (hs:∀q∈L,q∈L'):Has L' p:=by
 obtain ⟨q,h1,h2⟩:=h;exact ⟨q,hs q h1,h2⟩
theorem zew {p:Array Bool×St}:∀{L L':List (Array Bool×St)},insB p L=some L'->Has L' p/\∀q∈L,q∈L'
 | [],L',h=>by cases h;exact ⟨⟨p,by simp,rfl,.refl _⟩,fun q hq=>by cases hq⟩
 | q::rest,L',h=>by
  rw[insB] at h;split at h
  ·rename_i e
   split at h
   ·rename_i e2
    (cases h);have h1:p.1=q.1:=Array.toList_inj.1 (beq_iff_eq.1 e);exact ⟨⟨q,by simp,h1.symm,zj1 e2⟩,fun r hr=>hr⟩
   cases h
  cases hr:insB p rest with
  | none=>rw[hr] at h;cases h
  | some r =>
   rw[hr] at h;(cases h);have:=zew hr;refine ⟨this.1.sub fun x hx=>List.mem_cons_of_mem _ hx,fun x hx=>?_⟩;(rcases zH.1 hx with e | hx);(·rw[e];simp);exact List.mem_cons_of_mem _ (this.2 x hx)
theorem zfF {l:List Oper} {listed:Array Bool} {st:St}:∀{rs:List Nat} {acc acc':List (Array Bool×St)},eNext P c l listed st rs acc=some acc' ->
  (∀i∈rs,∃s,eAt P c l i st=some s/\Has acc' (listed.setIfInBounds i true,s))/\∀q∈acc,q∈acc'
 | [],acc,acc',h=>by cases h;exact ⟨fun i hi=>by (cases hi),fun q hq=>hq⟩
 | i::rest,acc,acc',h=>by
  rw[eNext] at h;(split at h);(·cases h);(rename_i s hs);(split at h);(·cases h);(rename_i acc1 h1);have a:=zew h1;have b:=zfF h;refine ⟨fun j hj=>?_,fun q hq=>b.2 q (a.2 q hq)⟩;(rcases zH.1 hj with e | hj);(·rw[e];exact ⟨s,hs,a.1.sub b.2⟩);exact b.1 j hj
theorem zcT {l:List Oper}:∀{L acc acc':List (Array Bool×St)},zhy P c l L acc=some acc' ->
  (∀p∈L,Region.ready .any l.toArray p.1≠[]/\((∃j st',zhD P l p.1 p.2 (Region.ready .any l.toArray p.1)=some (j,st')/\Has acc' (p.1.setIfInBounds j true,st')) \/
   ∀i∈Region.ready .any l.toArray p.1,∃s,eAt P c l i p.2=some s/\Has acc' (p.1.setIfInBounds i true,s)))/\∀q∈acc,q∈acc'
 | [],acc,acc',h=>by cases h;exact ⟨fun p hp=>by (cases hp),fun q hq=>hq⟩
 | (listed,st)::rest,acc,acc',h=>by
  rw[zhy] at h;(split at h);(·cases h);(rename_i i rs hr);split at h
  ·rename_i j st' hf
   (split at h);(·cases h);(rename_i acc1 h1);have a:=zew h1;have b:=zcT h;refine ⟨fun p hp=>?_,fun q hq=>b.2 q (a.2 q hq)⟩;rcases zH.1 hp with e | hp
   ·rw[e]
    simp only[hr];exact ⟨by simp,.inl ⟨j,st',hf,a.1.sub b.2⟩⟩
   exact b.1 p hp
  (split at h);(·cases h);(rename_i acc1 h1);have a:=zfF h1;have b:=zcT h;refine ⟨fun p hp=>?_,fun q hq=>b.2 q (a.2 q hq)⟩;rcases zH.1 hp with e | hp
  ·rw[e]
   simp only[hr]
   exact ⟨by simp,.inr fun k hk=>by
    obtain ⟨s,h2,h3⟩:=a.1 k hk
    exact ⟨s,h2,h3.sub b.2⟩⟩
  exact b.1 p hp
theorem zkO (hc:c.Ok P) {l:List Oper} (hs:Region.noSelect l.toArray=true) {Q:Exit->St->Prop} (hQ:∀c st,¬Q (.panic c) st) :
  ∀(n:Nat) (L:List (Array Bool×St)) (st':St),eLev P c l n L=some st'->Q .normal st'->∀p∈L,zb0 P l Q [] n p.1 p.2:=by
 intro n
 induction n with
 | zero =>
  intro L st' h hq p hp;rw[eLev] at h;unfold eEnd at h;split at h
  ·rename_i listed st
   split at h
   ·rename_i hr
    (cases h);(have:p=(listed,st'):=by simpa using hp);rw[this];exact ziv (by simpa using hr) hq
   cases h
  cases h
 | succ n ih =>
  intro L st' h hq p hp;rw[eLev] at h;(split at h);(·cases h);(rename_i L' hL);have a:=(zcT hL).1 p hp;rcases a.2 with ⟨j,s,hf,hm⟩ | h1
  ·obtain ⟨o,x,h1,h2,h3,h4,h5⟩:=zfH _ hf
   obtain ⟨q,hq1,hq2,hq3⟩:=hm;have:=zhU hq3 (ih L' st' h hq q hq1);rw[hq2] at this;subst h5;exact zh6 j h2 hs h4 (by simpa using h1) hQ (ziu h3 this)
  refine zhh rfl a.1 fun i hi=>?_;obtain ⟨s,h2,q,hq1,hq2,hq3⟩:=h1 i hi;have:=zhU hq3 (ih L' st' h hq q hq1);rw[hq2] at this;exact eAt_sound hc h2 ⟨trivial,this⟩
theorem zdq (hm:P.follows .mixedOrders=true) (hc:c.Ok P) {id m:Nat} {l:List Oper} {st st':St} {Q:Exit->St->Prop} (h:eDraw P c l m st=some st') (hq:Q .normal st') (hQ:∀c st,¬Q (.panic c) st) :
  AWp P (.region id l.toArray true) Q st:=by
 unfold eDraw at h;split at h
 ·rename_i hB
  split at h
  ·rename_i s1 he
   exact zhE m _ hm hB (.inr hQ) (zdv hc _ _ _ he (zc9 hc _ _ _ h hq))
  cases h
 cases h
theorem zg0 (hm:P.follows .mixedOrders=true) (hc:c.Ok P) {id:Nat} {l:List Oper} {draw:Bool} {st st':St} {Q:Exit->St->Prop} (h:zhn P c l draw st=some st') (hq:Q .normal st') (hQ:∀c st,¬Q (.panic c) st) :
  AWp P (.region id l.toArray draw) Q st:=by
 unfold zhn at h;(split at h);(·exact zN (zc9 hc _ _ _ h hq));(split at h);(·rename_i he;cases h;exact zdq hm hc he hq hQ);(split at h);(·rename_i he;cases h;exact zdq hm hc he hq hQ);(split at h);(·rename_i he;cases h;exact zdq hm hc he hq hQ);split at h
 ·rename_i hs
  cases he:eLev P c l l.length [(Array.replicate l.length false,{st with n0:=st.nx})] with
  | none=>rw[he] at h;cases h
  | some s =>
   rw[he] at h;(cases h);exact zdc [] l.length rfl hm trivial rfl (zkO (Q:=fun e s=>Q e {s with n0:=st.n0}) hc hs (fun c s=>hQ c _) _ _ _ he hq (Array.replicate l.length false,{st with n0:=st.nx}) tz4)
 cases h
def Lands (e:Exit) (st:St) (e1:Exit) (st1:St):Prop:=e1=e/\st1=st
theorem zjz {b:Code} {f:St->Option (Exit×St)} (hf:∀st e st',f st=some (e,st')->(∀c,e≠.panic c)/\AWp P b (Lands e st') st) {fuel:Nat} {st:St} {e:Exit} {st':St} (h:zk8 f fuel st=some (e,st')) :
  (∀c,e≠.panic c)/\AWp P (.loop b) (Lands e st') st:=by
 refine ⟨?_,?_⟩
 ·induction fuel generalizing st with
  | zero=>cases h
  | succ n ih =>
   rw[zk8] at h;(split at h);(·exact ih h);(·rename_i he;cases h;exact (hf _ _ _ he).1);cases h
 refine zko (σ:=Nat×St) (fun s=>zk8 f s.1 s.2=some (e,st')) (fun s=>s.2) (fun s=>s.1) (fuel,st) h (Weak.refl _) fun s hs=>?_;obtain ⟨n,st1⟩:=s;simp only at hs ⊢
 cases n with
 | zero=>cases hs
 | succ n =>
  rw[zk8] at hs;split at hs
  ·rename_i s1 he
   refine (hf _ _ _ he).2.mono fun e1 st1 hh=>?_;obtain ⟨rfl,rfl⟩:=hh;exact ⟨(n,_),hs,by simp,Weak.refl _⟩
  ·rename_i e2 s2 hne he
   (cases hs);refine (hf _ _ _ he).2.mono fun e1 st1 hh=>?_;obtain ⟨rfl,rfl⟩:=hh
   cases e1 with
   | normal=>exact absurd rfl hne
   | _=>exact ⟨rfl,rfl⟩
  cases hs
theorem zjB (pol:Pol):∀(n:Nat) (st:St),Weak st (eRows pol n st):=by
 intro n
 induction n with
 | zero=>intro st;exact .refl _
 | succ n ih =>
  intro st;rw[eRows];split;(·exact .refl _);split
  ·rename_i hg
   split;(·rename_i hi;exact (Weak.rowCell _ _ _ hg hi).trans (ih _));exact .refl _
  exact .refl _
theorem zfA (hm:P.follows .mixedOrders=true) (hc:c.Ok P) {pol:Pol} {fuel:Nat}:∀(code:Code) (st:St) (e:Exit) (st':St),zdh P c pol fuel code st=some (e,st')->(∀c,e≠.panic c)/\AWp P code (Lands e st') st:=by
 intro code
 induction code with
 | skip=>intro st e st' h;cases h;exact ⟨fun c h=>(by cases h),zS ⟨rfl,rfl⟩⟩
 | label l=>intro st e st' h;cases h;exact ⟨fun c h=>(by cases h),AWp_label ⟨rfl,rfl⟩⟩
 | ret=>intro st e st' h;cases h;exact ⟨fun c h=>(by cases h),zP ⟨rfl,rfl⟩⟩
 | exit id=>intro st e st' h;cases h;exact ⟨fun c h=>(by cases h),zae ⟨rfl,rfl⟩⟩
 | region id ops draw =>
  intro st e st' h;rw[zdh] at h
  cases he:zhn P c ops.toList draw (eRows pol 8 st) with
  | none=>rw[he] at h;cases h
  | some s =>
   rw[he] at h;(cases h);refine ⟨fun c h=>(by cases h),?_⟩;have:=zg0 (id:=id) (Q:=Lands .normal st') hm hc he ⟨rfl,rfl⟩ fun c s h=>by cases h.1
   exact zap (zjB pol 8 st) (by simpa using this)
 | seq x y ihx ihy =>
  intro st e st' h;rw[zdh] at h;split at h
  ·rename_i s1 he
   have h1:=ihx _ _ _ he;have h2:=ihy _ _ _ h;refine ⟨h2.1,zem (h1.2.mono fun e1 st1 hh=>?_)⟩;obtain ⟨rfl,rfl⟩:=hh;exact h2.2
  ·rename_i e1 s1 hne he
   (cases h);have h1:=ihx _ _ _ he;refine ⟨h1.1,zem (h1.2.mono fun e1 st1 hh=>?_)⟩;obtain ⟨rfl,rfl⟩:=hh
   cases e1 with
   | normal=>exact absurd rfl hne
   | _=>exact ⟨rfl,rfl⟩
  cases h
 | block id b ih =>
  intro st e st' h;rw[zdh] at h;split at h
  ·rename_i i s1 he
   have h1:=ih _ _ _ he;split at h
   ·rename_i hi
    (cases h);refine ⟨fun c h=>(by cases h),zU (h1.2.mono fun e1 st1 hh=>?_)⟩;obtain ⟨rfl,rfl⟩:=hh;simp only[z8,if_pos hi];exact ⟨rfl,rfl⟩
   (rename_i hi);(cases h);refine ⟨h1.1,zU (h1.2.mono fun e1 st1 hh=>?_)⟩;obtain ⟨rfl,rfl⟩:=hh;simp only[z8,if_neg hi];exact ⟨rfl,rfl⟩
  ·rename_i e1 s1 hne he
   (cases h);have h1:=ih _ _ _ he;refine ⟨h1.1,zU (h1.2.mono fun e1 st1 hh=>?_)⟩;obtain ⟨rfl,rfl⟩:=hh
   cases e1 with
   | exit i=>exact absurd rfl (hne _)
   | _=>exact ⟨rfl,rfl⟩
  cases h
 | cond o x y ihx ihy =>
  intro st e st' h;rw[zdh] at h;split at h
  ·rename_i hv
   have h1:=ihx _ _ _ h;exact ⟨h1.1,zO hv (fun _=>h1.2) (fun h=>by cases h)⟩
  ·rename_i hv
   have h1:=ihy _ _ _ h;exact ⟨h1.1,zO hv (fun h=>by cases h) (fun _=>h1.2)⟩
  cases h
 | loop b ih =>
  intro st e st' h;rw[zdh] at h
  exact zjz (fun st e st' h=>ih st e st' h) h
 | scope b ih =>
  intro st e st' h;rw[zdh] at h;(split at h);(·cases h);(rename_i hne);have h1:=ih _ _ _ h;refine ⟨h1.1,AWp_scope (h1.2.mono fun e1 st1 hh=>?_)⟩;obtain ⟨rfl,rfl⟩:=hh
  cases e1 with
  | goto l=>exact (hne _ _ h).elim
  | _=>exact ⟨rfl,rfl⟩
 | _=>intro st e st' h;simp[zdh] at h
theorem zef:∀(rs:List ResultVar) {st:St} {l:List AV} {K:List AV->Prop},eRes P rs st=some l->K l->zbc P rs st K
 | [],st,l,K,h,hk=>by cases h;exact hk
 | .tmp t::rest,st,l,K,h,hk=>by
  rw[eRes] at h;rw[zbc]
  cases he:eRes P rest st with
  | none=>rw[he] at h;cases h
  | some m=>rw[he] at h;cases h;exact zef rest he hk
 | .cell a t::rest,st,l,K,h,hk=>by
  rw[eRes] at h;rw[zbc];split at h
  ·rename_i x hx
   refine ze8 hx ?_
   cases he:eRes P rest st with
   | none=>rw[he] at h;cases h
   | some m=>rw[he] at h;cases h;exact zef rest he hk
  cases h
theorem zjj (hm:P.follows .mixedOrders=true) (pol:Pol) (fuel:Nat):∀n,CallE.Ok P (eCall P pol fuel n):=by
 intro n
 induction n with
 | zero=>intro f args os nx r os' nx' h;cases h
 | succ n ih =>
  intro f args os nx r os' nx' h;rw[eCall] at h;dsimp only at h;split at h
  ·rename_i fn hf
   cases hb9:eBody P (eCall P pol fuel n) pol fuel fn args os nx with
   | none=>rw[hb9] at h;cases h
   | some p9 =>
   rw[hb9] at h;(have e9:zdY nx p9=(r,os',nx'):=by simpa using h);clear h;(have e10:r=(zdY nx p9).1/\os'=(zdY nx p9).2.1/\nx'=(zdY nx p9).2.2:=by rw[e9];exact ⟨rfl,rfl,rfl⟩);rw[e10.1,e10.2.1,e10.2.2];refine zhM ?_;clear e9 e10;obtain ⟨r,os',nx'⟩:=p9;have h:=hb9;unfold eBody at h;split at h
   ·rename_i hn
    split at h
    ·rename_i code hb
     have fin:∀st,(eRes P fn.results.toList st).map (fun l=>(zau l,st.os,st.nx))=some (r,os',nx')->zbc P fn.results.toList st fun l=>zau l=r/\st.os=os'/\st.nx=nx':=fun st h=>by
      cases he:eRes P fn.results.toList st with
      | none=>rw[he] at h;cases h
      | some m=>rw[he] at h;cases h;exact zef _ he ⟨rfl,rfl,rfl⟩
     refine zeA hf hn.1 hb hn.2 fun _=>?_;split at h
     ·rename_i st1 he
      refine (zfA hm ih code _ _ _ he).2.mono fun e1 s1 hh=>?_;obtain ⟨rfl,rfl⟩:=hh;exact fin _ h
     ·rename_i st1 he
      refine (zfA hm ih code _ _ _ he).2.mono fun e1 s1 hh=>?_;obtain ⟨rfl,rfl⟩:=hh;exact fin _ h
     cases h
    cases h
   cases h
  cases h
theorem zdt (hm:P.follows .mixedOrders=true) {pol:Pol} {fuel n f:Nat} {args:List AV} {x:AV} (h:ePure P pol fuel n f args x=true):APure P f args x:=by
 simp only[ePure,zl] at h;obtain ⟨⟨h1,h2⟩,h3⟩:=h;split at h3
 ·rename_i r os nx he
  rw[<- AV.eqB_sound _ _ h3];exact ⟨AV.dataLB_sound _ h1,AV.dataB_sound _ (by rw[AV.eqB_sound _ _ h3];exact h2),(zjj hm pol fuel n _ _ _ _ _ _ _ he).mono fun _ _ _ hh=>hh.1⟩
 cases h3
end
end Go.Proofs.YtkokfdmggdhfmaaGreatDoor
