/- packed, part 47 of 48. Conditions: none. -/
import Derived.Test.YtpfiliamceimmaaGreatDoorPk46
set_option linter.unusedVariables false
set_option linter.unusedSimpArgs false
namespace Go.Proofs.YtpfiliamceimmaaGreatDoor
open Go Go.RowKit
def LeR1 (os os':Os) (x y:AV):Prop:=Le x y\/∃id n e sz xs,x=.own id n/\y=.sl sz xs/\zav os id=some (.row e sz xs)/\n=xs.length/\zav os' id=none
def LeR (os os':Os):List AV->List AV->Prop
 | [],[]=>True
 | x::xs,y::ys=>LeR1 os os' x y/\LeR os os' xs ys
 | _,_=>False
theorem LeR.length {os os':Os}:∀{l m:List AV},LeR os os' l m->l.length=m.length
 | [],[],_=>rfl
 | _::_,_::_,h=>by simp[h.2.length]
theorem LeR.get {os os':Os}:∀{l m:List AV},LeR os os' l m->∀(i:Nat) (y:AV),m[i]?=some y->∃x,l[i]?=some x/\LeR1 os os' x y
 | [],[],_,i,y,h=>by simp at h
 | x::_,z::_,h,0,y,hy=>by simp at hy;subst hy;exact ⟨x,rfl,h.1⟩
 | _::_,_::_,h,i+1,y,hy=>by simpa using h.2.get i y (by simpa using hy)
theorem Weak.freezeR {st:St} {sl':List AV} {os':Os} {n:Nat} (h1:LeR st.os os' st.sl sl') (ho:OsSub st.os os') (hn:n<=st.nx) (h0:st.n0<=n) (h6:UndL n sl') (h7:UndOs n os'):Weak st ⟨sl',os',n,st.n0⟩:=by
 refine Weak.trans (t:=⟨sl',os',st.nx,st.n0⟩) (fun A0 E0 os0 w0 E a w hs=>⟨E,?_⟩) (Weak.all (st:=⟨sl',os',st.nx,st.n0⟩) (st':=⟨sl',os',n,st.n0⟩) (LeL.refl _) (fun _ _ h=>h) hn rfl h0 h6 h7);have hget:∀id ob,zav os' id=some ob->zav st.os id=some ob:=fun id ob h=>ho.get id ob h
 have hav:∀b o,Av E os' b o->Av E st.os b o:=by
  rintro b o ⟨id,ob,hg,hb,ha⟩;exact ⟨id,ob,hget _ _ hg,hb,ha⟩
 (have hAX:∀b o,AvX A0 E os' b o->AvX A0 E st.os b o:=fun b o ha=>ha.imp (fun h=>h) (hav b o));refine ⟨by rw[hs.size];exact h1.length,fun i c u hc hu=>?_,⟨fun id ob hg=>?_,fun i j oi oj b hi hj hbi hbj=>hs.os.inj i j oi oj b (hget _ _ hi) (hget _ _ hj) hbi hbj,fun id ob b hg hb=>hs.os.out id ob b (hget _ _ hg) hb,hs.os.bnd⟩,hs.nx,hs.defers,hs.ext,hs.stp,fun b o ha=>hs.sub b o (hav b o ha),hs.base⟩
 ·obtain ⟨x,hx,hxc⟩:=h1.get i c hc
  have hr:=hs.sl i x u hx hu;(rcases hxc with hle | ⟨id,k,e,sz,xs,rfl,rfl,hg,hk,hno⟩);(·exact hle _ _ _ _ (hr.mono hAX));obtain ⟨hv,hcnt,hxs,hrow⟩:=hs.os.ok id _ hg
  cases hr with
  | own hv' hl hcur hone =>
   have hue:=hcur tz1;subst hue;rcases hrow with ⟨h2,h3⟩ | ⟨b,cap,cur,h2,h3,h4,h5,h6',h7'⟩
   ·rw[h2,List.length_eq_zero_iff.1 h3]
    exact .sl0 (by simp[maxLen])
   (have hob:(E.cur id).ownBlock=some b:=by rw[h2];rfl);have hfl:=zaF sz xs hxs;have hms:xs.length * sz<=cap * sz:=Nat.mul_le_mul_right sz h3;rw[h2];refine .sl (fun j=>cur.getD j undef) rfl h3 h4 hxs (fun j hj=>⟨?_,?_⟩) fun j c hj=>?_
   ·have hlt:j<cur.size:=by omega
    rw[zO,cell_of_row w _ _ cur e (0,0) h5];simp[Array.getD,hlt]
   ·rintro (ha | ⟨id',ob',hg',hb',_⟩)
    (·exact hs.os.out id _ b hg hob _ ha);have:=hs.os.inj id' id ob' _ b (hget _ _ hg') hg hb' hob;subst this;rw[hno] at hg';cases hg'
   (have hlt:j<cur.size:=by have:=(zb.1 hj).1;omega);(have h8:cur[j]?=some (cur.getD j undef):=by simp[Array.getD,hlt]);exact (h7' j c _ hj h8).mono hAX
 obtain ⟨hv,hok⟩:=hs.os.ok id ob (hget _ _ hg);exact ⟨hv,Ob.ok_step hok hv (.refl E) (.refl _ w) (fun b o ha=>.inl (hAX b o ha)) rfl (fun _ _=>rfl)⟩
section
variable {P:Program} {A0:Nat->Nat->Prop} {E0:Env} {os0:Os} {w0:World} {E:Env} {st:St} {a:Act} {w:World}
theorem zjU {o:Oper} {t n:Nat} {parts:Array (Nat×Operand)} (ho:o.op=.buildSlice t n parts) {e sz bytes:Nat} (he:zaO P t=some (e,sz,bytes)) (hle:n * sz<=2 ^ 24) (hord:parts.toList.map (·.1)=List.range n) (hn:n≠0)
  (hall:∀p∈parts.toList,(st.ev p.2).flat=true/\(st.ev p.2).cl.length=sz) {K:St->Prop} {Q':Exit->Act->World->Prop} (h:SimC A0 E0 os0 w0 E st a w)
  (hk:K ((st.new (.row e sz (parts.toList.map fun p=>(st.ev p.2).cl))).put o.dst (.own st.nx n))):o.wp P a w (fun a' w'=>∃st' E',K st'/\SimC A0 E0 os0 w0 E' st' a' w') Q':=by
 have val:∀(s:Sem Value) (v:Value) (w':World),s.run P w=.ok v w'->((do pure (.value (<- s))):Sem Next).run P w=.ok (.value v) w':=fun s v w' h=>by
  simp only[Sem.run_bind,h,Result.andThen_ok,Sem.run_pure]
 obtain ⟨dst,op,ty,pos,after,guard⟩:=o;(simp only at ho);subst ho;unfold Oper.wp;obtain ⟨i,zv,ht,hi,hzero,rfl,rfl,hzs,hsz0⟩:=zbO he;(have hpl:parts.size=n:=by have:=congrArg List.length hord;simpa using this);obtain ⟨z,w',cells,h1,h2,h3,hz,hnm,hh,hcs,hcr⟩:=zc5 (P:=P) h.os (ev:=st.ev) (ρ:=a.eval) (fun p _=>h.ev p.2) he hle hord hn (fun p hp=>hall p hp);simp only[execOp,val _ _ _ h1,Oper.upon_value]
 obtain ⟨E',h4,h5⟩:=h.newRow (e:=e) (sz:=i.size) (n:=n) (xs:=parts.toList.map fun p=>(st.ev p.2).cl) h2 (by simp[hpl]) hnm hh hcs (fun x hx=>by
  obtain ⟨p,hp,rfl⟩:=zq.1 hx
  exact (hall p hp).2) hcr
 rw[hz];exact ⟨_,E',hk,h4.set h5 dst⟩
end
section
variable {P:Program} {l:List Oper} {Q:Exit->St->Prop} {os1:Os} {G:List Nat} {fuel:Nat} {listed:Array Bool} {st:St}
theorem NAny_own {i:Nat} (hr:Region.ready .any l.toArray listed=[i]) {dst:Option Nat} {t n ty:Nat} {pos:String} {after:Array Edge} {parts:Array (Nat×Operand)} (hi:l[i]?=some {dst:=dst,op:=.buildSlice t n parts,type:=ty,pos:=pos,after:=after,guard:=none}) (hd:∀d,dst=some d->G.contains d=false)
  {e sz bytes:Nat} (he:zaO P t=some (e,sz,bytes)) (hle:n * sz<=2 ^ 24) (hord:parts.toList.map (·.1)=List.range n) (hn:n≠0) (hall:∀p∈parts.toList,(st.ev p.2).flat=true/\(st.ev p.2).cl.length=sz)
  (h:∀K:St->Prop,(∀st',keepG st st' G->zjk P l Q os1 G fuel (listed.setIfInBounds i true) st'->K st')->K ((st.new (.row e sz (parts.toList.map fun p=>(st.ev p.2).cl))).put dst (.own st.nx n))):zjk P l Q os1 G (fuel+1) listed st:=by
 intro A0 Er w1 E a w hok hsim hG;refine wpAnyH_all hr tz4 fun j hj=>?_;simp only[List.mem_singleton] at hj;subst hj
 have keep:∀(st':St) (a':Act),keepG st st' G->(∀j,dst≠some j->a'.tmps[j]?=a.tmps[j]?)->∀d∈G,∀u,a'.tmps[d]?=some u->Rp Er (AvX A0 Er os1) w1 (st'.get d) u:=fun st' a' hk ht d hdG u hu=>by
  have hne:dst≠some d:=fun e=>by
   have:=hd d e;rw[show G.contains d=true by simpa using hdG] at this;cases this
  rw[ht d hne] at hu;rw[hk.get d hdG];exact hG d hdG u hu
 unfold wpOp;simp only[zX,hi];(have hw:Region.wanted {dst:=dst,op:=.buildSlice t n parts,type:=ty,pos:=pos,after:=after,guard:=none} (yielded l.toArray a.tmps)=true:=by simp[Region.wanted]);rw[if_pos hw];have h9:=h (fun st'=>keepG st st' G/\zjk P l Q os1 G fuel (listed.setIfInBounds j true) st') (fun st' h1 h2=>⟨h1,h2⟩);refine .inl (Oper.wp_mono (fun a' w' hh=>?_) (Oper.wp_put (zjU (st:=st) rfl he hle hord hn hall (K:=fun st'=>keepG st st' G/\zjk P l Q os1 G fuel (listed.setIfInBounds j true) st') hsim h9)));obtain ⟨⟨st',E',⟨q,q2⟩,s⟩,ht⟩:=hh;exact ⟨s.stp,q2 A0 Er w1 _ _ _ hok s (keep st' a' q ht)⟩
end
end Go.Proofs.YtpfiliamceimmaaGreatDoor
