/- packed, part 2 of 45. Conditions: none. -/
import Derived.Test.YtkokfdmggdhfmaaGreatDoorPk1
set_option linter.unusedVariables false
set_option linter.unusedSimpArgs false
namespace Go.Proofs.YtkokfdmggdhfmaaGreatDoor
open Go Go.RowKit
set_option linter.unnecessarySimpa false
structure St where
 sl:List AV
 os:Os
 nx:Nat
 n0:Nat
def St.get (st:St) (t:Nat):AV:=st.sl.getD t .any
def St.ev (st:St):Operand->AV
 | .tmp t=>st.get t
 | .const v=>.v v
 | .func f=>.clo f []
 | .global g=>glEv g
def St.put (st:St) (d:Option Nat) (x:AV):St :=
 match d with
 | some d=>{st with sl:=st.sl.set d x}
 | none=>st
def zfP (E:Env) (nx:Nat):Prop:=∀id,E.valid id↔id<nx
structure SimC (A0:Nat->Nat->Prop) (E0:Env) (os0:Os) (w0:World) (E:Env) (st:St) (a:Act) (w:World):Prop where
 size:a.tmps.size=st.sl.length
 sl:∀(i:Nat) (c:AV) (u:Value),st.sl[i]?=some c->a.tmps[i]?=some u->Rp E (AvX A0 E st.os) w c u
 os:OsOk A0 E st.os w
 nx:zfP E st.nx
 defers:a.defers=[]
 ext:Ext E0 E
 stp:Stp (Av E0 os0) w0 w
 sub:∀b o,Av E st.os b o->Av E0 os0 b o\/w0.heap.size<=b
 base:∀id,E0.valid id->id<st.n0
theorem Ob.ok_step {E E':Env} {A A':Nat->Nat->Prop} {w w':World} {id:Nat} {ob:Ob} (h:ob.ok E A w id) (hv:E.valid id) (he:Ext E E') (hs:Stp A w w')
  (hA:∀b o,A' b o->A b o\/w.heap.size<=b) (hc:E'.cnt id=E.cnt id) (hb:∀b,ob.blk E id=some b->w'.heap[b]?=w.heap[b]?):ob.ok E' A' w' id:=by
 have hcur:=he.cur id hv hc
 have hrow:∀(t sz n:Nat) (C C':Array Value->Prop),ob.blk E id=(E.cur id).ownBlock->(∀cur,C cur->C' cur)->zgF w (E.cur id) t sz n C->zgF w' (E'.cur id) t sz n C':=by
  intro t sz n C C' hbe hC hr;rw[hcur];(rcases hr with h0 | ⟨b,cap,cur,hs',hn,hcap,hh,hsz,hCC⟩);(·exact .inl h0);exact .inr ⟨b,cap,cur,hs',hn,hcap,by rw[hb b (by rw[hbe,hs'];rfl)];exact hh,hsz,hC _ hCC⟩
 cases ob with
 | cells t cs =>
  obtain ⟨cur,hh,hsz,hr⟩:=h
  exact ⟨cur,by rw[he.blk id hv,hb _ rfl];exact hh,hsz,fun i c u hc hu=>(hr i c u hc hu).step hs he hA⟩
 | tok t sz n=>exact ⟨by rw[hc];exact h.1,hrow t sz n _ _ rfl (fun _ h=>h) h.2⟩
 | row t sz xs =>
  exact ⟨by rw[hc];exact h.1,h.2.1,hrow t sz _ _ _ rfl (fun _ h j c u hc hu=>(h j c u hc hu).step hs he hA) h.2.2⟩
 | map es =>
  obtain ⟨ents,clock,hh,hsz,hr,hst⟩:=h;exact ⟨ents,clock,by rw[he.blk id hv,hb _ rfl];exact hh,hsz,fun i p e hp hee=>⟨(hr i p e hp hee).1,(hr i p e hp hee).2.step hs he hA⟩,hst⟩
theorem Ob.blk_lt {E:Env} {A:Nat->Nat->Prop} {w:World} {id b:Nat} {ob:Ob} (h:ob.ok E A w id) (hb:ob.blk E id=some b):b<w.heap.size:=by
 have lt:∀{k:Nat} {o:Obj},w.heap[k]?=some o->k<w.heap.size:=fun h=>(Array.getElem?_eq_some_iff.1 h).1
 have hrow:∀(t sz n:Nat) (C:Array Value->Prop),(E.cur id).ownBlock=some b->zgF w (E.cur id) t sz n C->b<w.heap.size:=by
  intro t sz n C hbe hr;(rcases hr with h0 | ⟨b',cap,cur,hs',hn,hcap,hh,hsz,hCC⟩);(·rw[h0.1] at hbe;cases hbe);rw[hs'] at hbe;cases hbe;exact lt hh
 cases ob with
 | cells t cs=>obtain ⟨cur,hh,_⟩:=h;cases hb;exact lt hh
 | tok t sz n=>exact hrow t sz n _ hb h.2
 | row t sz xs=>exact hrow t sz _ _ hb h.2.2
 | map es=>obtain ⟨ents,clock,hh,_⟩:=h;cases hb;exact lt hh
theorem OsOk.lt {A0:Nat->Nat->Prop} {E:Env} {os:Os} {w:World} (h:OsOk A0 E os w) {b o:Nat} (ha:AvX A0 E os b o):b<w.heap.size:=by
 (rcases ha with ha | ⟨id,ob,hg,hb,_⟩);(·exact h.bnd b o ha);exact Ob.blk_lt (h.ok id ob hg).2 hb
theorem OsOk.keep {A0:Nat->Nat->Prop} {E:Env} {os:Os} {w w':World} (h:OsOk A0 E os w) (hb:Below w.heap.size w w'):OsOk A0 E os w' where
 ok id ob hg:=by
  obtain ⟨hv,ho⟩:=h.ok id ob hg;exact ⟨hv,Ob.ok_step ho hv (.refl E) (.of_below hb) (fun _ _ h=>.inl h) rfl (fun b hbb=>hb.block b (Ob.blk_lt ho hbb))⟩
 inj:=h.inj
 out:=h.out
 bnd b o ha:=Nat.lt_of_lt_of_le (h.bnd b o ha) hb.size
 gl:=h.gl.step (.of_below hb) (fun _ _ h=>.inl h)
theorem RpGet {E:Env} {A:Nat->Nat->Prop} {w:World} {l:List AV} {us:Array Value} (hs:us.size=l.length) (h:∀(i:Nat) (c:AV) (u:Value),l[i]?=some c->us[i]?=some u->Rp E A w c u) (t:Nat) :
  Rp E A w (l.getD t .any) (us.getD t undef):=by
 rcases Nat.lt_or_ge t l.length with hlt | hge
 ·have h1:l[t]?=some l[t]:=zc hlt
  have h2:us[t]?=some us[t]:=zo tz1;have h3:=h t _ _ h1 h2;(have h4:us.getD t undef=us[t]:=by simp[Array.getD,show t<us.size by omega]);rw[zg,h1,h4];exact h3
 rw[zg,List.getElem?_eq_none hge];exact .any _
section
variable {A0:Nat->Nat->Prop} {E0:Env} {os0:Os} {w0:World} {E:Env} {st:St} {a:Act} {w:World}
theorem tz4 {p:Prop} (h:p:=by simp):p:=h
theorem SimC.ev (h:SimC A0 E0 os0 w0 E st a w) (y:Operand):Rp E (AvX A0 E st.os) w (st.ev y) (a.eval y):=by
 cases y with
 | tmp t=>exact RpGet h.size h.sl t
 | const v=>exact .v v
 | global g=>exact h.os.gl.ev E g
 | func f=>exact .clo tz4 (fun i c u hc _=>by simp at hc)
theorem SimC.upd (h:SimC A0 E0 os0 w0 E st a w) {E':Env} {os':Os} {nx':Nat} {w':World} (he:Ext E E') (hs:Stp (Av E st.os) w w')
  (hsub:∀b o,Av E' os' b o->Av E st.os b o\/w.heap.size<=b) (hok:OsOk A0 E' os' w') (hnx:zfP E' nx'):SimC A0 E0 os0 w0 E' {st with os:=os',nx:=nx'} a w' where
 size:=h.size
 sl i c u hc hu:=(h.sl i c u hc hu).step (hs.mono fun b o _ ha=>.inr ha) he (fun b o ha=>by
  (rcases ha with ha | ha);·exact .inl (.inl ha)
  exact (hsub b o ha).imp .inr id)
 os:=hok
 nx:=hnx
 defers:=h.defers
 ext:=h.ext.trans he
 stp:=h.stp.trans hs h.sub
 sub b o ha:=by
  (rcases hsub b o ha with h1 | h1);(·exact h.sub b o h1);exact .inr (Nat.le_trans h.stp.size h1)
 base:=h.base
theorem SimC.set (h:SimC A0 E0 os0 w0 E st a w) {x:AV} {v:Value} (hr:Rp E (AvX A0 E st.os) w x v) (d:Option Nat):SimC A0 E0 os0 w0 E (st.put d x) (a.put d v) w:=by
 cases d with
 | none=>exact h
 | some d =>
  refine {h with size:=by simp[St.put,Act.put,h.size],sl:=fun i c u hc hu=>?_};simp only[St.put,Act.put] at hc hu;rw[List.getElem?_set] at hc;rw[Array.getElem?_setIfInBounds] at hu
  by_cases hd:d=i
  ·subst hd
   rw[if_pos rfl] at hc hu;split at hc
   ·split at hu
    (·cases hc;cases hu;exact hr);cases hu
   cases hc
  rw[if_neg hd] at hc hu;exact h.sl i c u hc hu
end
def AWp (P:Program) (c:Code) (Q:Exit->St->Prop) (st:St):Prop :=
 ∀A0 E0 os0 w0 E a w,SimC A0 E0 os0 w0 E st a w->c.wp P (fun e a' w'=>∃st' E',Q e st'/\SimC A0 E0 os0 w0 E' st' a' w') a w
def zD (N:St->Prop) (Q:Exit->St->Prop):Exit->St->Prop
 | .normal,st=>N st
 | e,st=>Q e st
def zB (id:Nat) (Q:Exit->St->Prop):Exit->St->Prop
 | .exit i,st=>if i=id then Q .normal st else Q (.exit i) st
 | e,st=>Q e st
section
variable {P:Program} {Q:Exit->St->Prop} {st:St}
theorem AWp.mono {c:Code} {Q':Exit->St->Prop} (h:AWp P c Q st) (hq:∀e st,Q e st->Q' e st):AWp P c Q' st :=
 fun A0 E0 os0 w0 E a w hs=>wp_mono (h A0 E0 os0 w0 E a w hs) fun _ _ _ ⟨st',E',q,s⟩=>⟨st',E',hq _ _ q,s⟩
theorem zy (h:Q .normal st):AWp P .skip Q st:=fun _ _ _ _ E _ _ hs=>wp_skip ⟨st,E,h,hs⟩
theorem zc6 {l:Nat} (h:Q .normal st):AWp P (.label l) Q st:=fun _ _ _ _ E _ _ hs=>wp_label ⟨st,E,h,hs⟩
theorem zw (h:Q .ret st):AWp P .ret Q st:=fun _ _ _ _ E _ _ hs=>wp_ret ⟨st,E,h,hs⟩
theorem zO {id:Nat} (h:Q (.exit id) st):AWp P (.exit id) Q st:=fun _ _ _ _ E _ _ hs=>wp_exit ⟨st,E,h,hs⟩
theorem zc9 {x y:Code} (h:AWp P x (zD (AWp P y Q) Q) st):AWp P (.seq x y) Q st:=fun A0 E0 os0 w0 E a w hs =>
 wp_seq (wp_mono (h A0 E0 os0 w0 E a w hs) fun e a' w' ⟨st',E',q,s⟩=>by
  cases e with
  | normal=>exact q A0 E0 os0 w0 E' a' w' s
  | _=>exact ⟨st',E',q,s⟩)
theorem zF {id:Nat} {c:Code} (h:AWp P c (zB id Q) st):AWp P (.block id c) Q st:=fun A0 E0 os0 w0 E a w hs =>
 wp_block (wp_mono (h A0 E0 os0 w0 E a w hs) fun e a' w' ⟨st',E',q,s⟩=>by
  cases e with
  | exit i =>
   simp only[zB] at q;simp only[Exit.inBlock];(split at q);·rename_i hi;rw[if_pos hi];exact ⟨st',E',q,s⟩
   rename_i hi;rw[if_neg hi];exact ⟨st',E',q,s⟩
  | _=>exact ⟨st',E',q,s⟩)
theorem zt {c:Operand} {x y:Code} {b:Bool} (hc:st.ev c=.v (.bool b)) (ht:b=true->AWp P x Q st) (hf:b=false->AWp P y Q st):AWp P (.cond c x y) Q st :=
 fun A0 E0 os0 w0 E a w hs=>by
  have h1:=hs.ev c;rw[hc] at h1
  have h2:a.eval c=.bool b:=by
   (generalize hv:a.eval c=v at h1);cases h1;rfl
  exact wp_cond_split h2 (fun hb=>ht hb A0 E0 os0 w0 E a w hs) (fun hb=>hf hb A0 E0 os0 w0 E a w hs)
def Weak (st st':St):Prop:=∀A0 E0 os0 w0 E a w,SimC A0 E0 os0 w0 E st a w->∃E',SimC A0 E0 os0 w0 E' st' a w
theorem zaB {c:Code} {st':St} (hw:Weak st st') (h:AWp P c Q st'):AWp P c Q st:=fun A0 E0 os0 w0 E a w hs =>
 let ⟨E',hs'⟩:=hw A0 E0 os0 w0 E a w hs
 h A0 E0 os0 w0 E' a w hs'
theorem Weak.trans {s t u:St} (h:Weak s t) (k:Weak t u):Weak s u:=fun A0 E0 os0 w0 E a w hs =>
 let ⟨E',hs'⟩:=h A0 E0 os0 w0 E a w hs
 k A0 E0 os0 w0 E' a w hs'
theorem AWp_loop {σ:Type} {c:Code} (pre:σ->Prop) (J:σ->St) (μ:σ->Nat) (s0:σ) (h0:pre s0) (hw:Weak st (J s0))
  (round:∀s,pre s->AWp P c (zD (fun st'=>∃s',pre s'/\μ s' < μ s/\Weak st' (J s')) Q) (J s)):AWp P (.loop c) Q st:=by
 intro A0 E0 os0 w0 E a w hs
 let I:Act->World->Prop:=fun a w=>∃s E,pre s/\SimC A0 E0 os0 w0 E (J s) a w
 let L:Act->World->Nat->Prop:=fun a w n=>∃s E,pre s/\μ s=n/\SimC A0 E0 os0 w0 E (J s) a w
 have least:∀a w,I a w->∃n,L a w n/\∀m,L a w m->n<=m:=by
  intro a w ⟨s,E,hp,hsim⟩
  have key:∀k n,n<=k->L a w n->∃n,L a w n/\∀m,L a w m->n<=m:=by
   intro k
   induction k with
   | zero=>intro n hn hl;exact ⟨n,hl,fun m _=>by omega⟩
   | succ k ih =>
    intro n hn hl
    by_cases hm:∃m,L a w m/\m<n
    ·obtain ⟨m,hm1,hm2⟩:=hm;exact ih m tz1 hm1
    exact ⟨n,hl,fun m hm'=>by
     (rcases Nat.lt_or_ge m n with h | h);·exact absurd ⟨m,hm',h⟩ hm
     exact h⟩
  exact key (μ s) (μ s) (zh _) ⟨s,E,hp,rfl,hsim⟩
 have hdec:∀a w,Decidable (∃n,L a w n/\∀m,L a w m->n<=m):=fun _ _=>Classical.propDecidable _
 let M:Act->World->Nat:=fun a w=>if h:∃n,L a w n/\∀m,L a w m->n<=m then h.choose else 0
 have hM:∀a w,I a w->L a w (M a w)/\∀m,L a w m->M a w<=m:=by
  intro a w hi;have h:=least a w hi;simp only[M,dif_pos h];exact h.choose_spec
 refine wp_loop I M ?_ ?_
 ·obtain ⟨E',hs'⟩:=hw A0 E0 os0 w0 E a w hs
  exact ⟨s0,E',h0,hs'⟩
 intro a w hi;obtain ⟨⟨s,E,hp,hmu,hsim⟩,_⟩:=hM a w hi;refine wp_mono (round s hp A0 E0 os0 w0 E a w hsim) ?_;intro e a' w' ⟨st',E',q,hs'⟩
 cases e with
 | normal =>
  obtain ⟨s',hp',hlt,hw'⟩:=q;obtain ⟨E'',hs''⟩:=hw' A0 E0 os0 w0 E' a' w' hs';have hi':I a' w':=⟨s',E'',hp',hs''⟩;refine ⟨hi',?_⟩;have:=(hM a' w' hi').2 (μ s') ⟨s',E'',hp',rfl,hs''⟩
  omega
 | _=>exact ⟨st',E',q,hs'⟩
end
theorem Weak.mk {st st':St} (h1:LeL st.sl st'.sl) (h2:∀id ob,zJ st'.os id=some ob->zJ st.os id=some ob) (h3:st'.nx=st.nx) (h4:st'.n0=st.n0):Weak st st':=by
 intro A0 E0 os0 w0 E a w hs
 have hA:∀b o,AvX A0 E st'.os b o->AvX A0 E st.os b o:=fun b o ha=>by
  (rcases ha with ha | ⟨id,ob,hg,hr⟩);(·exact .inl ha);exact .inr ⟨id,ob,h2 id ob hg,hr⟩
 refine ⟨E,?_⟩;refine {size:=by rw[hs.size,h1.length],sl:=fun i c u hc hu=>?_,os:=?_,nx:=by rw[h3];exact hs.nx,defers:=hs.defers,ext:=hs.ext,stp:=hs.stp,sub:=fun b o ⟨id,ob,hg,hr⟩=>hs.sub b o ⟨id,ob,h2 id ob hg,hr⟩,base:=by rw[h4];exact hs.base}
 ·obtain ⟨x,hx,hle⟩:=h1.get i c hc
  exact (hle E _ w u (hs.sl i x u hx hu)).mono hA
 refine ⟨fun id ob hg=>?_,fun i j oi oj b hi hj=>hs.os.inj i j oi oj b (h2 _ _ hi) (h2 _ _ hj),fun id ob b hg=>hs.os.out id ob b (h2 _ _ hg),hs.os.bnd,hs.os.gl.mono hA⟩;obtain ⟨hv,ho⟩:=hs.os.ok id ob (h2 _ _ hg);exact ⟨hv,Ob.ok_step ho hv (.refl E) (.refl _ w) (fun b o h=>.inl (hA b o h)) rfl (fun _ _=>rfl)⟩
def zfD (P:Program) (f:Nat):Prop:=∃fn,P.funcs[f]?=some fn/\(fn.name=="runtime.NumGoroutine")=false/\fn.body.isNone=false
def RpL (E:Env) (A:Nat->Nat->Prop) (w:World) (l:List AV) (us:Array Value):Prop :=
 us.size=l.length/\∀(i:Nat) (c:AV) (u:Value),l[i]?=some c->us[i]?=some u->Rp E A w c u
def Ret (A0:Nat->Nat->Prop) (E:Env) (os:Os) (w:World) (Q:AV->Os->Nat->Prop):Ending->World->Prop:=fun e w' =>
 ∃r v os' nx' E',e=.returned v/\Q r os' nx'/\Rp E' (AvX A0 E' os') w' r v/\OsOk A0 E' os' w'/\zfP E' nx'/\Ext E E'/\Stp (Av E os) w w'/\∀b o,Av E' os' b o->Av E os b o\/w.heap.size<=b
def ACalls (P:Program) (f:Nat) (args:List AV) (os:Os) (nx:Nat) (Q:AV->Os->Nat->Prop):Prop :=
 zfD P f/\∀A0 E w (vs:Array Value),OsOk A0 E os w->zfP E nx->RpL E (AvX A0 E os) w args vs->Calls P f vs w (Ret A0 E os w Q)
theorem ACalls.mono {P:Program} {f:Nat} {args:List AV} {os:Os} {nx:Nat} {Q Q':AV->Os->Nat->Prop} (h:ACalls P f args os nx Q) (hq:∀r os' nx',Q r os' nx'->Q' r os' nx') :
  ACalls P f args os nx Q' :=
 ⟨h.1,fun A0 E w vs h1 h2 h3=>(h.2 A0 E w vs h1 h2 h3).mono fun _ _ ⟨r,v,os',nx',E',he,q,rest⟩=>⟨r,v,os',nx',E',he,hq _ _ _ q,rest⟩⟩
def Met (args:List AV):Prop:=∃E A w us,RpL E A w args us
def zaW (P:Program) (t:Nat):Option (Bool×Nat) :=
 match P.underlying t,P.info? t with
 | some (.struct _),some i=>some (true,i.size)
 | some (.array ..),some i=>some (true,i.size)
 | some _,some i=>some (false,i.size)
 | _,_=>none
def zS:Bool->List AV->AV
 | true,cs=>.agg cs
 | false,[c]=>c
 | false,_=>.any
def zK (P:Program) (t:Nat) (x:AV) (os:Os) (K:AV->Prop):Prop :=
 match zaW P t with
 | none=>False
 | some (agg,n) =>
  match x with
  | .ptr id off =>
   match zJ os id with
   | some (.cells _ cs)=>off+(if agg then n else 1)<=cs.length/\K (zS agg ((cs.drop off).take (if agg then n else 1)))
   | _=>False
  | .rptr id n' sz i off =>
   match zJ os id with
   | some (.row _ sz' xs)=>sz=sz'/\n'=xs.length/\i<xs.length/\off+(if agg then n else 1)<=sz/\K (zS agg (((xs.getD i []).drop off).take (if agg then n else 1)))
   | _=>False
  | .eptr cs=>(if agg then n else 1)<=cs.length/\K (zS agg (cs.take (if agg then n else 1)))
  | _=>False
def zU (P:Program):List ResultVar->St->(List AV->Prop)->Prop
 | [],_,K=>K []
 | .tmp t::rest,st,K=>zU P rest st fun l=>K (st.get t::l)
 | .cell a t::rest,st,K=>zK P t (st.get a) st.os fun x=>zU P rest st fun l=>K (x::l)
def zL:List AV->AV
 | [x]=>x
 | l=>.tup l
def zW (P:Program) (rs:List ResultVar) (Q:AV->Os->Nat->Prop):Exit->St->Prop
 | .normal,st | .ret,st=>zU P rs st fun l=>Q (zL l) st.os st.nx
 | _,_=>False
end Go.Proofs.YtkokfdmggdhfmaaGreatDoor
