/- packed, part 29 of 45. Conditions: none. -/
import Derived.Test.YtkokfdmggdhfmaaGreatDoorPk28
set_option linter.unusedVariables false
set_option linter.unusedSimpArgs false
namespace Go.Proofs.YtkokfdmggdhfmaaGreatDoor
open Go Go.RowKit
set_option linter.unnecessarySimpa false
def wantTB (ops:List Oper) (o:Oper) (st:St):Bool :=
 match o.guard with
 | none=>true
 | some (j,w)=>match ((ops[j]?).bind (·.dst)) with
  | none=>false
  | some d=>match st.get d with
   | .v (.bool b)=>b==w
   | _=>false
theorem aWant_T {ops:List Oper} {o:Oper} {st:St} {T F:Prop} (h:wantTB ops o st=true) (hT:T):aWant ops o st T F:=by
 unfold wantTB at h;unfold aWant;split;(·exact hT);(rename_i j w hg);rw[hg] at h;(simp only at h);split;(·rename_i hd;rw[hd] at h;cases h);(rename_i d hd);rw[hd] at h;(simp only at h);split
 ·rename_i b hb
  rw[hb] at h;simp only[beq_iff_eq] at h;rw[if_pos h];exact hT
 (·rename_i vs hvs;rw[hvs] at h;cases h);(rename_i h1 h2);(split at h);(·rename_i b hb;exact absurd hb (h1 b));cases h
def isV:AV->Bool
 | .v _=>true
 | _=>false
def gIn (G:List Nat) (o:Oper):Bool :=
 match o.op with
 | .load _ (.tmp x) | .indexAddr _ (.tmp x) _ | .fieldAddr _ (.tmp x) _=>G.contains x
 | _=>true
def zau (P:Program) (o:Oper) (st:St) (os1:Os) (K:AV->Prop):Prop :=
 match o.op with
 | .move y=>K (st.ev y)
 | .load t (.tmp x)=>isE (st.get x)=true/\zK P t (st.get x) os1 K
 | .indexAddr t (.tmp x) i=>zbi (st.get x)=true/\isV (st.ev i)=true/\zbe P t (st.get x) (st.ev i) os1 K
 | .fieldAddr s (.tmp x) f=>isE (st.get x)=true/\zbx P s f (st.get x) K
 | _=>False
def fromG (G:List Nat) (o:Oper):Bool :=
 match o.op with
 | .move (.tmp y)=>G.contains y
 | .move _=>false
 | _=>true
def zgq (G:List Nat) (o:Oper):List Nat :=
 match o.dst with
 | some d=>if fromG G o then d::G else G
 | none=>G
def zgu (P:Program) (l:List Oper) (Q:Exit->St->Prop) (os1:Os) (G:List Nat) (fuel:Nat) (listed:Array Bool) (st:St):Prop :=
 ∀A0 Er w1 E a w,OsOk A0 Er os1 w1->SimC A0 Er os1 w1 E st a w->(∀d∈G,∀u,a.tmps[d]?=some u->Rp Er (AvX A0 Er os1) w1 (st.get d) u) ->
  wpAnyH P .any l.toArray (fun e a' w'=>∃st' E',Q e st'/\SimC A0 Er os1 w1 E' st' a' w') (Stp (Av Er os1) w1) fuel listed a w
section
variable {P:Program} {l:List Oper} {Q:Exit->St->Prop} {os1:Os} {G:List Nat} {fuel:Nat} {listed:Array Bool} {st:St}
theorem zdz {id:Nat} (n:Nat) (G:List Nat) (hn:l.length=n) (hm:P.follows .mixedOrders=true)
  (h:zgu P l (fun e st'=>Q e {st' with n0:=st.n0}) st.os G n (Array.replicate n false) {st with n0:=st.nx}) :
  AWp P (.region id l.toArray true) Q st:=fun A0 E0 os0 w0 E a w hsim=>by
 subst hn;have h0:=hsim.drew;have h1:=h0.rebase
 have h2:=h A0 E _ E a _ h1.os h1 (fun d _ u hu=>by
  rcases hd:st.sl[d]? with _ | c
  ·have h5:=List.getElem?_eq_none_iff.1 hd
   have h6:=(Array.getElem?_eq_some_iff.1 hu).1;rw[h1.size] at h6;(simp only at h6);omega
  have h7:=h1.sl d c u hd hu;have h8:st.get d=c:=by simp[St.get,zg,hd]
  exact (show ({st with n0:=st.nx}:St).get d=c from h8)▸h7)
 (have h3:l.toArray.size=l.length:=by simp);rw[<- h3] at h2;refine wp_mono (wp_region_held hm h2) ?_;rintro e a' w' ⟨st',E',hq,hs'⟩;exact ⟨_,E',hq,h0.over hs'⟩
theorem SimC.oldRp {A0:Nat->Nat->Prop} {Er:Env} {w1:World} {E:Env} {a:Act} {w:World} (h:SimC A0 Er os1 w1 E st a w) {x:AV} {v:Value} (hr:Rp Er (AvX A0 Er os1) w1 x v):Rp E (AvX A0 E st.os) w x v :=
 hr.step (h.stp.mono fun b o _ ha=>.inr ha) h.ext fun b o ha=>by
  (rcases ha with ha | ha);(·exact .inl (.inl ha));exact (h.sub b o ha).imp (fun h=>.inr h) (fun h=>h)
theorem evV {A0:Nat->Nat->Prop} {Er:Env} {w1:World} {E:Env} {a:Act} {w:World} (h:SimC A0 Er os1 w1 E st a w) {y:Operand} (hv:isV (st.ev y)=true) {A:Nat->Nat->Prop} {E':Env} {w':World}:Rp E' A w' (st.ev y) (a.eval y):=by
 have hr:=h.ev y;generalize hx:st.ev y=x at hr hv
 cases x with
 | v z=>cases hr;exact .v _
 | _=>cases hv
theorem gAt {A0:Nat->Nat->Prop} {Er:Env} {w1:World} {a:Act} (hsz:a.tmps.size=st.sl.length) (hG:∀d∈G,∀u,a.tmps[d]?=some u->Rp Er (AvX A0 Er os1) w1 (st.get d) u) {x:Nat} (hx:G.contains x=true):Rp Er (AvX A0 Er os1) w1 (st.get x) (a.eval (.tmp x)):=by
 (have hm:x∈G:=by simpa using hx);simp only[Act.eval];rcases Nat.lt_or_ge x a.tmps.size with h | h
 ·have h1:a.tmps[x]?=some a.tmps[x]:=zo h
  rw[Array.getD_eq_getD_getElem?,h1];exact hG x hm _ h1
 (have h2:st.get x=.any:=by simp[St.get,zg,List.getElem?_eq_none (show st.sl.length<=x by omega)]);rw[h2];exact .any _
theorem zfK {A0:Nat->Nat->Prop} {Er:Env} {w1:World} {E:Env} {a:Act} {w:World} {o:Oper} {K:AV->Prop} (hok:OsOk A0 Er os1 w1) (h:SimC A0 Er os1 w1 E st a w) (hG:∀d∈G,∀u,a.tmps[d]?=some u->Rp Er (AvX A0 Er os1) w1 (st.get d) u)
  (hw:Region.wanted o (yielded l.toArray a.tmps)=true) (hin:gIn G o=true) (hq:zau P o st os1 K) :
  ∃x v,K x/\Rp E (AvX A0 E st.os) w x v/\YieldsIf P l.toArray (Stp (Av Er os1) w1) o v a/\((zgq G o=G\/∃d,o.dst=some d/\zgq G o=d::G/\Rp Er (AvX A0 Er os1) w1 x v)):=by
 obtain ⟨dst,op,ty,pos,after,guard⟩:=o
 have val:∀(s:Sem Value) (v:Value) (w':World),s.run P w'=.ok v w'->((do pure (.value (<- s))):Sem Next).run P w'=.ok (.value v) w':=fun s v w' h=>by
  simp only[Sem.run_bind,h,Result.andThen_ok,Sem.run_pure]
 unfold zau at hq;simp only at hq
 have next:∀{p:Oper} {x:AV} {v:Value},(fromG G p=true->Rp Er (AvX A0 Er os1) w1 x v)->(zgq G p=G\/∃d,p.dst=some d/\zgq G p=d::G/\Rp Er (AvX A0 Er os1) w1 x v):=fun {p x v} hr=>by
  unfold zgq
  cases hd':p.dst with
  | none=>exact .inl rfl
  | some d =>
   cases hf:fromG G p with
   | true=>exact .inr ⟨d,rfl,by simp,hr hf⟩
   | false=>exact .inl tz4
 split at hq
 ·rename_i y
  refine ⟨_,_,hq,h.ev y,.inl ⟨hw,fun w' _=>by simp[execOp]⟩,next fun hf=>?_⟩
  cases y with
  | tmp y'=>exact gAt h.size hG hf
  | _=>simp[fromG] at hf
 ·rename_i t x
  obtain ⟨he,hl⟩:=hq;have hx:G.contains x=true:=hin;obtain ⟨ad,y,v,hu,h1,h2,h3⟩:=zeH (P:=P) hok he (gAt h.size hG hx) hl;refine ⟨y,v,h3,h.oldRp h2,.inl ⟨hw,fun w' hb=>?_⟩,next fun _=>h2⟩
  have hr:(Instr.loadAt t (a.eval (.tmp x))).run P w'=.ok v w':=by
   rw[hu];simp only[Instr.loadAt,Instr.sureAddr,Sem.run_bind,Sem.run_pure,Result.andThen_ok,h1 w' hb]
  simp only[execOp,val _ _ _ hr]
 ·rename_i t x i
  obtain ⟨he,hv,hl⟩:=hq;have hx:G.contains x=true:=hin;obtain ⟨y,z,h1,h2,h3⟩:=zdc (P:=P) hok he (gAt h.size hG hx) (evV h hv) hl;exact ⟨y,z,h3,h.oldRp h2,.inl ⟨hw,fun w' _=>by simp only[execOp,val _ _ _ (h1 w')]⟩,next fun _=>h2⟩
 ·rename_i s x f
  obtain ⟨he,hl⟩:=hq;have hx:G.contains x=true:=hin
  have hpe:isPE (st.get x)=true:=by
   cases hg:st.get x with
   | eptr cs=>rfl
   | _=>rw[hg] at he;cases he
  obtain ⟨y,z,h1,h2,h3⟩:=zdH (P:=P) hpe (gAt h.size hG hx) hl;exact ⟨y,z,h3,h.oldRp h2,.inl ⟨hw,fun w' _=>by simp only[execOp,val _ _ _ (h1 w')]⟩,next fun _=>h2⟩
 exact hq.elim
theorem get_put (st:St) (d:Nat) (x:AV) (j:Nat) (h:d≠j):(st.put (some d) x).get j=st.get j:=by
 simp[St.put,St.get,zg,List.getElem?_set,h]
theorem gKeep {A0:Nat->Nat->Prop} {Er:Env} {w1:World} {a:Act} (hG:∀d∈G,∀u,a.tmps[d]?=some u->Rp Er (AvX A0 Er os1) w1 (st.get d) u) (dst:Option Nat) (x:AV) (v:Value) (hd:∀d,dst=some d->G.contains d=false) :
  ∀d∈G,∀u,(a.put dst v).tmps[d]?=some u->Rp Er (AvX A0 Er os1) w1 ((st.put dst x).get d) u:=by
 intro d hdG u hu
 cases dst with
 | none=>exact hG d hdG u hu
 | some e =>
  have hne:e≠d:=fun h=>by
   subst h;have:=hd e rfl;rw[show G.contains e=true by simpa using hdG] at this;cases this
  rw[get_put _ _ _ _ hne];simp only[Act.put,Array.getElem?_setIfInBounds,if_neg hne] at hu;exact hG d hdG u hu
theorem zM (i:Nat) {o:Oper} (hi:l[i]?=some o) (hs:Region.noSelect l.toArray=true) (hf:Region.free .any l.toArray listed i=true) (hr:(Region.ready .any l.toArray listed).contains i=true)
  (hQ:∀c st,¬Q (.panic c) st) (hw:wantTB l o st=true) (hd:∀d,o.dst=some d->G.contains d=false) (hin:gIn G o=true) {G':List Nat} (hG':zgq G o=G')
  (h:∀K:St->Prop,(∀st',zgu P l Q os1 G' fuel (listed.setIfInBounds i true) st'->K st')->zau P o st os1 fun x=>K (st.put o.dst x)):zgu P l Q os1 G (fuel+1) listed st:=by
 subst hG';intro A0 Er w1 E a w hok hsim hG
 have hwant:Region.wanted o (yielded l.toArray a.tmps)=true:=by
  (rcases zaD (T:=True) (F:=False) hsim (aWant_T hw trivial) with ⟨h1,_⟩ | ⟨_,h1⟩);(·exact h1);exact h1.elim
 obtain ⟨x,v,hk,hrp,hy,hg⟩:=zfK hok hsim hG hwant hin (h _ fun _ h=>h);refine wpAnyH_take (oi:=o) (v:=v) (by simpa using hi) hs hf hr ?_ hy hsim.stp ?_;(·rintro c a w ⟨st',E',hq,_⟩;exact absurd hq (hQ c st'));refine hk A0 Er w1 E _ w hok (hsim.set hrp o.dst) ?_;have hkeep:=gKeep hG o.dst x v hd;(rcases hg with hg | ⟨d,hd1,hg,hold⟩);(·rw[hg];exact hkeep);rw[hg];intro j hj u hu;rcases List.mem_cons.1 hj with rfl | hj
 ·rw[hd1] at hu ⊢
  simp only[Act.put,Array.getElem?_setIfInBounds,if_true] at hu;split at hu
  ·cases hu
   (rename_i hlt);(have:j<st.sl.length:=by rw[<- hsim.size];exact hlt);(have e:(st.put (some j) x).get j=x:=by simp[St.put,St.get,zg,this]);rw[e];exact hold
  cases hu
 exact hkeep j hj u hu
theorem zaQ (hr:Region.ready .any l.toArray listed=[]) (h:Q .normal st):zgu P l Q os1 G fuel listed st:=fun _ _ _ E _ _ _ hsim _=>wpAnyH_done hr ⟨st,E,h,hsim⟩ fuel
theorem Oper.wp_put {o:Oper} {a:Act} {w:World} {K:Act->World->Prop} {Q':Exit->Act->World->Prop} (h:o.wp P a w K Q'):o.wp P a w (fun a' w'=>K a' w'/\∀j,o.dst≠some j->a'.tmps[j]?=a.tmps[j]?) Q':=by
 have put:∀(b:Act) (v:Value) (j:Nat),o.dst≠some j->(b.put o.dst v).tmps[j]?=b.tmps[j]?:=fun b v j hj=>by
  cases hd:o.dst with
  | none=>rfl
  | some d =>
   (have:d≠j:=fun e=>hj (by rw[hd,e]));simp[Act.put,Array.getElem?_setIfInBounds,this]
 unfold Oper.wp at *;generalize (execOp a.eval o).run P w=r at *
 cases r with
 | ok n w' =>
  cases n <;> simp only[Oper.upon] at h ⊢
  case value u=>exact ⟨h,put a u⟩
  case skip=>exact ⟨h,put a _⟩
  case defer d=>exact ⟨h,fun j hj=>put {a with defers:=d::a.defers} _ j hj⟩
  case enter f args=>exact Calls.mono h (fun e w'' he=>by cases e <;> first | exact ⟨he,put a _⟩ | exact he)
  case row row args=>exact Rows.mono h (fun u w'' he=>⟨he,put a u⟩)
 | halt x w'=>cases x <;> simp only[Oper.upon] at h ⊢ <;> exact h
def keepG (st st':St):List Nat->Prop
 | []=>True
 | d::G=>st'.get d=st.get d/\keepG st st' G
theorem keepG.get {st st':St}:∀{G:List Nat},keepG st st' G->∀d∈G,st'.get d=st.get d
 | d::G,h,e,he=>by
  (rcases List.mem_cons.1 he with rfl | he);(·exact h.1);exact keepG.get h.2 e he
theorem zfS {rs:List Nat} (hr:Region.ready .any l.toArray listed=rs) (hne:rs≠[]) (hd:∀i∈rs,∀o,l[i]?=some o->∀d,o.dst=some d->G.contains d=false)
  (h:∀i∈rs,aAt P l i st fun st'=>keepG st st' G/\zgu P l Q os1 G fuel (listed.setIfInBounds i true) st'):zgu P l Q os1 G (fuel+1) listed st:=by
 intro A0 Er w1 E a w hok hsim hG;refine wpAnyH_all hr hne fun i hi=>?_;have h1:=h i hi;unfold aAt at h1;(split at h1);(·exact h1.elim);(rename_i o ho);have hdo:=hd i hi o ho
 have keep:∀(st':St) (a':Act),keepG st st' G->(∀j,o.dst≠some j->a'.tmps[j]?=a.tmps[j]?)->∀d∈G,∀u,a'.tmps[d]?=some u->Rp Er (AvX A0 Er os1) w1 (st'.get d) u:=fun st' a' hk ht d hdG u hu=>by
  have hne:o.dst≠some d:=fun e=>by
   have:=hdo d e;rw[show G.contains d=true by simpa using hdG] at this;cases this
  rw[ht d hne] at hu;rw[hk.get d hdG];exact hG d hdG u hu
 unfold wpOp;simp only[List.getElem?_toArray,ho];rcases zaD hsim h1 with ⟨hw,hop⟩ | ⟨hw,hk,hk2⟩
 ·rw[if_pos hw]
  refine .inl (Oper.wp_mono (fun a' w' hh=>?_) (Oper.wp_put (zbC hsim hop)));obtain ⟨⟨st',E',⟨q,q2⟩,s⟩,ht⟩:=hh;exact ⟨s.stp,q2 A0 Er w1 _ _ _ hok s (keep st' a' q ht)⟩
 rw[hw];simp only[zf,if_false];have s:=hsim.set (x:=.v undef) (.v _) o.dst;exact ⟨s.stp,hk2 A0 Er w1 _ _ _ hok s (gKeep hG o.dst _ _ hdo)⟩
theorem zY {i:Nat} (hr:Region.ready .any l.toArray listed=[i]) {o:Oper} (hi:l[i]?=some o) (hd:∀d,o.dst=some d->G.contains d=false) (h:aAt P l i st fun st'=>keepG st st' G/\zgu P l Q os1 G fuel (listed.setIfInBounds i true) st'):zgu P l Q os1 G (fuel+1) listed st :=
 zfS hr tz4 (fun j hj o' ho'=>by simp at hj;subst hj;rw[hi] at ho';cases ho';exact hd) (by simpa using h)
end
end Go.Proofs.YtkokfdmggdhfmaaGreatDoor
