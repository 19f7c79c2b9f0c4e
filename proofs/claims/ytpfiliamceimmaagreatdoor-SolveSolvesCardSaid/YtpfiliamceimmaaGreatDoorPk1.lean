/- packed, part 1 of 48. Conditions: none. -/
import Derived.WalkKit
import Derived.KernelRfl
import Derived.MapKept
import Derived.Laws.StructEq
set_option linter.unusedVariables false
set_option linter.unusedSimpArgs false
namespace Go.Proofs.YtpfiliamceimmaaGreatDoor
open Go Go.RowKit
theorem za : type_of% @List.getElem?_eq_getElem := @List.getElem?_eq_getElem
theorem zb : type_of% @List.getElem?_eq_some_iff := @List.getElem?_eq_some_iff
theorem zc : type_of% @List.mem_of_getElem? := @List.mem_of_getElem?
theorem zd : type_of% @decide_eq_true_eq := @decide_eq_true_eq
theorem ze : type_of% @decide_eq_false_iff_not := @decide_eq_false_iff_not
theorem zf : type_of% @List.drop_succ_cons := @List.drop_succ_cons
theorem zh : type_of% @Int.natCast_one := @Int.natCast_one
theorem zi : type_of% @List.length_append := @List.length_append
theorem zj : type_of% @Int.natCast_add := @Int.natCast_add
theorem zk : type_of% @List.drop_zero := @List.drop_zero
theorem zl : type_of% @List.zip_cons_cons := @List.zip_cons_cons
theorem zm : type_of% @List.zip_nil_right := @List.zip_nil_right
theorem zn : type_of% @Int.cast_ofNat_Int := @Int.cast_ofNat_Int
theorem zp : type_of% @List.zip_nil_left := @List.zip_nil_left
theorem zq : type_of% @List.mem_map := @List.mem_map
theorem zt : type_of% @List.map_cons := @List.map_cons
theorem zu : type_of% @List.map_append := @List.map_append
theorem zw : type_of% @List.cons_append := @List.cons_append
theorem zx : type_of% @List.length_map := @List.length_map
theorem zy : type_of% @Bool.and_eq_true := @Bool.and_eq_true
theorem zz : type_of% @List.length_cons := @List.length_cons
theorem zA : type_of% @List.getElem?_append_left := @List.getElem?_append_left
theorem zB : type_of% @List.nil_append := @List.nil_append
theorem zC : type_of% @List.getD_eq_getElem?_getD := @List.getD_eq_getElem?_getD
theorem zD : type_of% @List.mem_append := @List.mem_append
theorem zE : type_of% @List.mem_cons := @List.mem_cons
theorem zF : type_of% @Bool.eq_iff_iff := @Bool.eq_iff_iff
theorem zG : type_of% @Nat.lt_or_ge := @Nat.lt_or_ge
theorem zH : type_of% @Int.toNat_natCast := @Int.toNat_natCast
theorem zI : type_of% @List.take_length := @List.take_length
theorem zJ : type_of% @List.length_nil := @List.length_nil
theorem zK : type_of% @List.getElem?_append_right := @List.getElem?_append_right
theorem zL : type_of% @Bool.false_eq_true := @Bool.false_eq_true
theorem zM : type_of% @List.take_add_one := @List.take_add_one
theorem zN : type_of% @List.getElem?_map := @List.getElem?_map
theorem zO : type_of% @Nat.zero_add := @Nat.zero_add
theorem zP : type_of% @Array.getElem?_eq_getElem := @Array.getElem?_eq_getElem
theorem zQ : type_of% @Nat.le_refl := @Nat.le_refl
theorem zR : type_of% @Array.getElem?_toList := @Array.getElem?_toList
theorem zS : type_of% @List.mem_iff_getElem := @List.mem_iff_getElem
theorem zU : type_of% @Nat.zero_lt_succ := @Nat.zero_lt_succ
theorem zV : type_of% @List.all_eq_true := @List.all_eq_true
theorem zW : type_of% @List.map_nil := @List.map_nil
theorem zX : type_of% @List.getElem?_toArray := @List.getElem?_toArray
theorem zY : type_of% @Option.map_some := @Option.map_some
inductive AV where
 | any
 | v (x:Value)
 | agg (cs:List AV)
 | tup (cs:List AV)
 | sl (sz:Nat) (xs:List (List AV))
 | osl (id sz:Nat) (xs:List (List AV))
 | own (id n:Nat)
 | ptr (id off:Nat)
 | rptr (id n sz i off:Nat)
 | eptr (cs:List AV)
 | map (id:Nat)
 | clo (f:Nat) (caps:List AV)
structure Env where
 valid:Nat->Prop
 blk:Nat->Nat
 cur:Nat->Value
 cnt:Nat->Nat
inductive Rp (E:Env) (A:Nat->Nat->Prop) (w:World):AV->Value->Prop
 | any (x:Value):Rp E A w .any x
 | v (x:Value):Rp E A w (.v x) x
 | agg {cs:List AV} {us:Array Value} (hs:us.size=cs.length)
   (h:∀(i:Nat) (c:AV) (u:Value),cs[i]?=some c->us[i]?=some u->Rp E A w c u):Rp E A w (.agg cs) (.agg us)
 | tup {cs:List AV} {us:Array Value} (hs:us.size=cs.length)
   (h:∀(i:Nat) (c:AV) (u:Value),cs[i]?=some c->us[i]?=some u->Rp E A w c u):Rp E A w (.tup cs) (.tuple us)
 | sl0 {sz cap:Nat} {a:Option Addr} (hc:cap<=maxLen):Rp E A w (.sl sz []) (.slice a 0 cap)
 | sl {sz:Nat} {xs:List (List AV)} {b o n cap:Nat} (g:Nat->Value) (hn:n=xs.length) (hcap:n<=cap) (hc:cap<=maxLen)
   (hsz:∀x∈xs,x.length=sz)
   (hcell:∀j,j<xs.flatten.length->w.cell? ⟨b,o+j,none⟩=some (g j)/\¬A b (o+j))
   (h:∀(j:Nat) (c:AV),xs.flatten[j]?=some c->Rp E A w c (g j)):Rp E A w (.sl sz xs) (.slice (some ⟨b,o,none⟩) n cap)
 | osl {id sz:Nat} {xs:List (List AV)} {s:Value} (hv:E.valid id) (h:Rp E A w (.sl sz xs) s) (hl:xs.length<=E.cnt id)
   (hcur:xs.length=E.cnt id->s=E.cur id):Rp E A w (.osl id sz xs) s
 | own {id n:Nat} {s:Value} (hv:E.valid id) (hl:n<=E.cnt id) (hcur:n=E.cnt id->s=E.cur id) (h1:s.oneCell'=true):Rp E A w (.own id n) s
 | ptr {id off:Nat} (hv:E.valid id):Rp E A w (.ptr id off) (.pointer (some ⟨E.blk id,off,none⟩))
 | rptr {id n sz i off:Nat} {a:Addr} (hv:E.valid id) (hl:n<=E.cnt id) (hcur:n=E.cnt id->(E.cur id).ownBlock=some a.block/\a=⟨a.block,i * sz+off,none⟩) :
   Rp E A w (.rptr id n sz i off) (.pointer (some a))
 | eptr {cs:List AV} {b o:Nat} (g:Nat->Value) (hcell:∀j,j<cs.length->w.cell? ⟨b,o+j,none⟩=some (g j)/\¬A b (o+j))
   (h:∀(j:Nat) (c:AV),cs[j]?=some c->Rp E A w c (g j)):Rp E A w (.eptr cs) (.pointer (some ⟨b,o,none⟩))
 | map {id:Nat} (hv:E.valid id):Rp E A w (.map id) (.map (some (E.blk id)))
 | clo {f:Nat} {caps:List AV} {us:Array Value} (hs:us.size=caps.length)
   (h:∀(i:Nat) (c:AV) (u:Value),caps[i]?=some c->us[i]?=some u->Rp E A w c u):Rp E A w (.clo f caps) (.func (.func f) #[] us)
structure Stp (A:Nat->Nat->Prop) (w w':World):Prop where
 os:w'.os=w.os
 tape:w'.tape=w.tape
 output:w'.output=w.output
 size:w.heap.size<=w'.heap.size
 block:∀b,b<w.heap.size->(∀o,¬A b o)->w'.heap[b]?=w.heap[b]?
 cell:∀b o,b<w.heap.size->¬A b o->w'.cell? ⟨b,o,none⟩=w.cell? ⟨b,o,none⟩
structure Ext (E E':Env):Prop where
 valid:∀id,E.valid id->E'.valid id
 blk:∀id,E.valid id->E'.blk id=E.blk id
 cnt:∀id,E.valid id->E.cnt id<=E'.cnt id
 cur:∀id,E.valid id->E'.cnt id=E.cnt id->E'.cur id=E.cur id
theorem Ext.refl (E:Env):Ext E E:=⟨fun _ h=>h,fun _ _=>rfl,fun _ _=>zQ _,fun _ _ _=>rfl⟩
theorem tz1 {p:Prop} (h:p:=by omega):p:=h
theorem Ext.trans {E F G:Env} (h:Ext E F) (k:Ext F G):Ext E G :=
  ⟨fun id hv=>k.valid id (h.valid id hv),fun id hv=>(k.blk id (h.valid id hv)).trans (h.blk id hv),fun id hv=>Nat.le_trans (h.cnt id hv) (k.cnt id (h.valid id hv)),
   fun id hv he=>by
    have h1:=h.cnt id hv;have h2:=k.cnt id (h.valid id hv);have e1:F.cnt id=E.cnt id:=by omega
    exact (k.cur id (h.valid id hv) tz1).trans (h.cur id hv e1)⟩
theorem Stp.refl (A:Nat->Nat->Prop) (w:World):Stp A w w:=⟨rfl,rfl,rfl,zQ _,fun _ _ _=>rfl,fun _ _ _ _=>rfl⟩
theorem Stp.mono {A A':Nat->Nat->Prop} {w w':World} (h:Stp A w w') (hA:∀b o,b<w.heap.size->A b o->A' b o):Stp A' w w' :=
 ⟨h.os,h.tape,h.output,h.size,fun b hb hn=>h.block b hb (fun o ha=>hn o (hA b o hb ha)),fun b o hb hn=>h.cell b o hb (fun ha=>hn (hA b o hb ha))⟩
theorem Stp.trans {A A':Nat->Nat->Prop} {w w' w'':World} (h:Stp A w w') (k:Stp A' w' w'') (hA:∀b o,A' b o->A b o\/w.heap.size<=b):Stp A w w'' :=
  ⟨k.os.trans h.os,k.tape.trans h.tape,k.output.trans h.output,Nat.le_trans h.size k.size,
   fun b hb hn=>(k.block b (Nat.lt_of_lt_of_le hb h.size) (fun o ha=>(hA b o ha).elim (hn o) (fun hh=>by omega))).trans (h.block b hb hn),
   fun b o hb hn=>(k.cell b o (Nat.lt_of_lt_of_le hb h.size) (fun ha=>(hA b o ha).elim hn (fun hh=>by omega))).trans (h.cell b o hb hn)⟩
theorem Stp.of_below {A:Nat->Nat->Prop} {w w':World} (h:Below w.heap.size w w'):Stp A w w' :=
 ⟨h.os,h.tape,h.output,h.size,fun b hb _=>h.block b hb,fun _ _ hb _=>h.cell hb⟩
theorem Stp.below {w w':World} (h:Stp (fun _ _=>False) w w'):Below w.heap.size w w' :=
 ⟨h.os,h.tape,h.output,h.size,fun b hb=>h.block b hb (fun _ h=>h)⟩
theorem Rp.step {E E':Env} {A A':Nat->Nat->Prop} {w w':World} {x:AV} {u:Value} (h:Rp E A w x u) (hs:Stp A w w') (he:Ext E E')
  (hA:∀b o,A' b o->A b o\/w.heap.size<=b):Rp E' A' w' x u:=by
 have kc:∀b o y,w.cell? ⟨b,o,none⟩=some y/\¬A b o->w'.cell? ⟨b,o,none⟩=some y/\¬A' b o:=fun b o y ⟨hc,hn⟩=>by
  have hb:b<w.heap.size:=World.block_lt_of_cell? w _ hc;exact ⟨(hs.cell b o hb hn).trans hc,fun ha=>(hA b o ha).elim hn (fun hh=>by omega)⟩
 induction h with
 | any x=>exact .any x
 | v x=>exact .v x
 | agg hsz _ ih=>exact .agg hsz ih
 | tup hsz _ ih=>exact .tup hsz ih
 | sl0 hc=>exact .sl0 hc
 | sl g hn hcap hc hsz hcell _ ih=>exact .sl g hn hcap hc hsz (fun j hj=>kc _ _ _ (hcell j hj)) ih
 | osl hv _ hl hcur ih =>
  have h1:=he.cnt _ hv
  exact .osl (he.valid _ hv) ih tz1 (fun e=>by
   have e1:=hcur tz1
   rw[he.cur _ hv tz1];exact e1)
 | own hv hl hcur hone =>
  have h1:=he.cnt _ hv
  exact .own (he.valid _ hv) tz1 (fun e=>by
   have e1:=hcur tz1
   rw[he.cur _ hv tz1];exact e1) hone
 | ptr hv=>rw[<- he.blk _ hv];exact .ptr (he.valid _ hv)
 | rptr hv hl hcur =>
  have h1:=he.cnt _ hv
  exact .rptr (he.valid _ hv) tz1 (fun e=>by
   have e1:=hcur tz1
   rw[he.cur _ hv tz1];exact e1)
 | eptr g hcell _ ih=>exact .eptr g (fun j hj=>kc _ _ _ (hcell j hj)) ih
 | map hv=>rw[<- he.blk _ hv];exact .map (he.valid _ hv)
 | clo hsz _ ih=>exact .clo hsz ih
theorem Rp.keep {E:Env} {A:Nat->Nat->Prop} {w w':World} {x:AV} {u:Value} (h:Rp E A w x u) (hs:Below w.heap.size w w'):Rp E A w' x u :=
 h.step (.of_below hs) (.refl E) (fun _ _ h=>.inl h)
theorem Rp.mono {E:Env} {A A':Nat->Nat->Prop} {w:World} {x:AV} {u:Value} (h:Rp E A w x u) (hA:∀b o,A' b o->A b o):Rp E A' w x u :=
 h.step (.refl A w) (.refl E) (fun b o h=>.inl (hA b o h))
def Data (x:AV):Prop:=∀E E' A w u,Rp E A w x u->Rp E' A w x u
def DataL (l:List AV):Prop:=∀x∈l,Data x
theorem Data.v (x:Value):Data (.v x):=fun _ _ _ _ _ h=>by cases h;exact .v x
theorem Data.any:Data .any:=fun _ _ _ _ _ _=>.any _
theorem Data.agg {cs:List AV} (h:DataL cs):Data (.agg cs):=fun E E' A w u hr=>by
 cases hr with
 | agg hs hr=>exact .agg hs (fun i c y hc hu=>h c (zc hc) E E' A w y (hr i c y hc hu))
theorem Data.tup {cs:List AV} (h:DataL cs):Data (.tup cs):=fun E E' A w u hr=>by
 cases hr with
 | tup hs hr=>exact .tup hs (fun i c y hc hu=>h c (zc hc) E E' A w y (hr i c y hc hu))
theorem Data.sl {sz:Nat} {xs:List (List AV)} (h:∀x∈xs,DataL x):Data (.sl sz xs):=fun E E' A w u hr=>by
 cases hr with
 | sl0 hc=>exact .sl0 hc
 | sl g hn hcap hc hsz hcell hr =>
  refine .sl g hn hcap hc hsz hcell (fun j c hj=>?_);have hm:=zc hj;obtain ⟨x,hx,hcx⟩:=List.mem_flatten.1 hm;exact h x hx c hcx E E' A w _ (hr j c hj)
theorem Data.clo {f:Nat} {cs:List AV} (h:DataL cs):Data (.clo f cs):=fun E E' A w u hr=>by
 cases hr with
 | clo hs hr=>exact .clo hs (fun i c y hc hu=>h c (zc hc) E E' A w y (hr i c y hc hu))
theorem DataL.nil:DataL []:=fun _ h=>by cases h
theorem DataL.cons {x:AV} {l:List AV} (h:Data x) (hl:DataL l):DataL (x::l):=fun y hy=>by
 (rcases zE.1 hy with rfl | hy);(·exact h);exact hl y hy
def Le (x y:AV):Prop:=∀E A w u,Rp E A w x u->Rp E A w y u
theorem Le.refl (x:AV):Le x x:=fun _ _ _ _ h=>h
theorem Le.any (x:AV):Le x .any:=fun _ _ _ _ _=>.any _
theorem Le.osl (id sz:Nat) (xs:List (List AV)):Le (.osl id sz xs) (.sl sz xs):=fun _ _ _ _ h=>by cases h;assumption
def LeL:List AV->List AV->Prop
 | [],[]=>True
 | x::xs,y::ys=>Le x y/\LeL xs ys
 | _,_=>False
theorem LeL.refl:∀l,LeL l l
 | []=>trivial
 | x::xs=>⟨.refl x,LeL.refl xs⟩
theorem LeL.length:∀{l m:List AV},LeL l m->l.length=m.length
 | [],[],_=>rfl
 | _::_,_::_,h=>by simp[LeL.length h.2]
theorem LeL.get:∀{l m:List AV},LeL l m->∀(i:Nat) (y:AV),m[i]?=some y->∃x,l[i]?=some x/\Le x y
 | [],[],_,i,y,h=>by simp at h
 | x::xs,z::zs,h,0,y,hy=>by simp at hy;subst hy;exact ⟨x,rfl,h.1⟩
 | x::xs,z::zs,h,i+1,y,hy=>by simpa using LeL.get h.2 i y (by simpa using hy)
theorem Le.agg {cs ds:List AV} (h:LeL cs ds):Le (.agg cs) (.agg ds):=fun E A w u hr=>by
 cases hr with
 | agg hs hr=>exact .agg (by rw[hs,h.length]) (fun i c y hc hu=>by
   obtain ⟨x,hx,hle⟩:=h.get i c hc
   exact hle E A w y (hr i x y hx hu))
theorem Le.tup {cs ds:List AV} (h:LeL cs ds):Le (.tup cs) (.tup ds):=fun E A w u hr=>by
 cases hr with
 | tup hs hr=>exact .tup (by rw[hs,h.length]) (fun i c y hc hu=>by
   obtain ⟨x,hx,hle⟩:=h.get i c hc
   exact hle E A w y (hr i x y hx hu))
inductive Ob where
 | cells (t:Nat) (cs:List AV)
 | tok (t sz n:Nat)
 | row (t sz:Nat) (xs:List (List AV))
 | map (es:List (Int×AV))
abbrev Os:=List (Nat×Ob)
def zav:Os->Nat->Option Ob
 | [],_=>none
 | (i,ob)::rest,id=>if i=id then some ob else zav rest id
def zam:Os->Nat->Ob->Os
 | [],id,ob=>[(id,ob)]
 | (i,o)::rest,id,ob=>if i=id then (id,ob)::rest else (i,o)::zam rest id ob
theorem zba (os:Os) (id:Nat) (ob:Ob) (j:Nat):zav (zam os id ob) j=if j=id then some ob else zav os j:=by
 induction os with
 | nil=>simp only[zam,zav];by_cases h:j=id <;> simp[h,eq_comm] ;intro e;exact absurd e.symm h
 | cons p rest ih =>
  obtain ⟨i,o⟩:=p;simp only[zam]
  by_cases hi:i=id
  ·subst hi
   simp only[if_true,zav]
   by_cases hj:j=i
   (·subst hj;simp);rw[if_neg (fun e=>hj e.symm),if_neg hj,if_neg (fun e=>hj e.symm)]
  simp only[if_neg hi,zav,ih]
  by_cases hj:i=j
  (·subst hj;simp[hi]);simp[hj]
def Ob.blk (E:Env) (id:Nat):Ob->Option Nat
 | .cells .. | .map ..=>some (E.blk id)
 | .tok .. | .row ..=>(E.cur id).ownBlock
def Ob.av:Ob->Nat->Prop
 | .tok _ sz n,o=>n * sz<=o
 | _,_=>True
def Av (E:Env) (os:Os) (b o:Nat):Prop:=∃id ob,zav os id=some ob/\ob.blk E id=some b/\ob.av o
def AvX (A0:Nat->Nat->Prop) (E:Env) (os:Os) (b o:Nat):Prop:=A0 b o\/Av E os b o
def zlT (w:World) (s:Value) (t sz n:Nat) (C:Array Value->Prop):Prop :=
 (s=.slice none 0 0/\n=0) \/
 ∃b cap cur,s=.slice (some ⟨b,0,none⟩) n cap/\n<=cap/\cap<=maxLen/\w.heap[b]?=some (.cells cur t (0,0))/\cur.size=cap * sz/\C cur
def Ob.ok (E:Env) (A:Nat->Nat->Prop) (w:World) (id:Nat):Ob->Prop
 | .cells t cs=>∃cur,w.heap[E.blk id]?=some (.cells cur t (0,0))/\cur.size=cs.length/\∀(i:Nat) (c:AV) (u:Value),cs[i]?=some c->cur[i]?=some u->Rp E A w c u
 | .tok t sz n=>E.cnt id=n/\zlT w (E.cur id) t sz n (fun _=>True)
 | .row t sz xs=>E.cnt id=xs.length/\(∀x∈xs,x.length=sz) /\
   zlT w (E.cur id) t sz xs.length (fun cur=>∀(j:Nat) (c:AV) (u:Value),xs.flatten[j]?=some c->cur[j]?=some u->Rp E A w c u)
 | .map es=>∃ents clock,w.heap[E.blk id]?=some (.map ents clock)/\ents.size=es.length /\
   (∀(i:Nat) (p:Int×AV) (e:MapEntry),es[i]?=some p->ents[i]?=some e->e.key=.int .i64 p.1/\Rp E A w p.2 e.val)/\MapKept.Stamped ents clock
structure OsOk (A0:Nat->Nat->Prop) (E:Env) (os:Os) (w:World):Prop where
 ok:∀id ob,zav os id=some ob->E.valid id/\ob.ok E (AvX A0 E os) w id
 inj:∀i j oi oj b,zav os i=some oi->zav os j=some oj->oi.blk E i=some b->oj.blk E j=some b->i=j
 out:∀id ob b,zav os id=some ob->ob.blk E id=some b->∀o,¬A0 b o
 bnd:∀b o,A0 b o->b<w.heap.size
end Go.Proofs.YtpfiliamceimmaaGreatDoor
