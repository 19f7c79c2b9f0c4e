/- packed, part 36 of 47. Conditions: none. -/
import Derived.Test.YtkokfdmggdhfmaaGreatDoorPk35
set_option linter.unusedVariables false
set_option linter.unusedSimpArgs false
namespace Go.Proofs.YtkokfdmggdhfmaaGreatDoor
open Go Go.RowKit
set_option linter.unnecessarySimpa false
section
variable {P:Program} {A0:Nat->Nat->Prop} {E0:Env} {os0:Os} {w0:World} {E:Env} {st:St} {a:Act} {w:World}
theorem SimC.storeRows (h:SimC A0 E0 os0 w0 E st a w) {id e sz p:Nat} {xs xs':List (List AV)} {vs:List Value} (hg:zaa st.os id=some (.row e sz xs)) (hp:p+vs.length<=xs.length * sz) (h1:∀v∈vs,v.oneCell'=true) (hl':xs'.length=xs.length) (hxl':∀x∈xs',x.length=sz)
  (hc':∀(j:Nat) (c:AV),xs'.flatten[j]?=some c->(∃u,vs[j-p]?=some u/\p<=j/\Rp E (AvX A0 E st.os) w c u)\/(¬(p<=j/\j<p+vs.length)/\xs.flatten[j]?=some c)) {b:Nat} (hb:(E.cur id).ownBlock=some b) :
  ∃w',(storeCells ⟨b,p,none⟩ vs).run P w=.ok () w'/\SimC A0 E0 os0 w0 E {st with os:=zat st.os id (.row e sz xs')} a w':=by
 obtain ⟨hv,hcnt,hxl,hrow⟩:=h.os.ok id _ hg;obtain ⟨cap,cur,hs,hncap,hcapm,hh,hsz,hc⟩:=zdr hb hrow;have hmul:xs.length * sz<=cap * sz:=Nat.mul_le_mul_right _ hncap;(have hfit:p+0+vs.length<=cur.size:=by omega);have hst:=run_storeCells_at P b p e vs 0 cur w hh hfit h1;simp only[Nat.add_zero] at hst;refine ⟨_,hst,?_⟩;(generalize hnew:(cur.toList.take p++vs++cur.toList.drop (p+vs.length)).toArray=new);have hlt:b<w.heap.size:=(Array.getElem?_eq_some_iff.1 hh).1;have hnl:new.size=cur.size:=by subst hnew;simp;omega
 have hnget:∀j,new[j]?=if p<=j/\j<p+vs.length then vs[j-p]? else cur[j]?:=by
  intro j;subst hnew
  by_cases c1:j<p
  ·rw[if_neg tz1];simp[List.getElem?_append,c1,List.getElem?_take];intro;omega
  by_cases c2:j<p+vs.length
  ·rw[if_pos ⟨by omega,c2⟩]
   rw[zG,List.append_assoc,zt tz7,zq tz7];congr 1;simp;omega
  rw[if_neg tz1];rw[zG,zt tz7,List.getElem?_drop];rw[<- zu];congr 1;simp;omega
 have hblk:(w.setRow b new).heap[b]?=some (.cells new e (0,0)):=setRow_heap w _ cur new e _ hh;have hoth:∀k,k≠b->(w.setRow b new).heap[k]?=w.heap[k]?:=fun k hk=>setRow_other w _ k _ (fun e=>hk e)
 have hstp:Stp (Av E st.os) w (w.setRow b new):=by
  refine ⟨rfl,rfl,rfl,by simp[World.setRow],fun k hk hn=>hoth k (fun e=>hn 0 ⟨id,_,hg,by rw[e];exact hb,trivial⟩),fun k o hk hn=>?_⟩;exact World.cell?_of_block (hoth k (fun e=>hn ⟨id,_,hg,by rw[e];exact hb,trivial⟩))
 have e0:E.chg id (E.cur id) (E.cnt id)=E:=by
  cases E with | mk v b c n=>simp only[Env.chg];congr 1 <;> (funext j;by_cases hj:j=id <;> simp[hj])
 have hput:∀k o,Av E (zat st.os id (.row e sz xs')) k o->Av E st.os k o:=by
  rintro k o ⟨j,o',hj,hbk,hav⟩;rw[zaI] at hj;(split at hj);(·rename_i he;cases hj;subst he;exact ⟨_,_,hg,hbk,trivial⟩);exact ⟨j,o',hj,hbk,hav⟩
 have hA:∀k o,AvX A0 E (zat st.os id (.row e sz xs')) k o->AvX A0 E st.os k o:=fun k o ha=>ha.imp (fun h=>h) (hput k o)
 have stepA:∀{c u},Rp E (AvX A0 E st.os) w c u->Rp E (AvX A0 E (zat st.os id (.row e sz xs'))) (w.setRow b new) c u:=fun hrp =>
  hrp.step (hstp.mono fun b o _ ha=>.inr ha) (.refl E) (fun b o ha=>.inl (hA b o ha))
 have:=h.chg (ob':=.row e sz xs') hg (E.cur id) (E.cnt id) (zw _) (fun _=>rfl) hstp
  (fun k _ hk=>hoth k (fun e=>hk (by rw[e];exact hb))) (by rw[e0];intro k hk;exact .inl hk) (fun _ _ _ _ _=>trivial)
  (by
   rw[e0];refine ⟨by rw[hcnt,hl'],hxl',.inr ⟨b,cap,new,by rw[hs,hl'],by omega,hcapm,hblk,by rw[hnl,hsz],fun j c u hj hu=>?_⟩⟩;rw[hnget] at hu;rcases hc' j c hj with ⟨u',hu',hpj,hr⟩ | ⟨hn,hx⟩
   ·have hlt2:=(zd.1 hu').1
    rw[if_pos ⟨hpj,by omega⟩,hu'] at hu;(cases hu);exact stepA hr
   rw[if_neg hn] at hu
   exact stepA (hc j c u hx hu))
 rw[e0] at this;exact this
theorem zgY (z0:Value) (n:Nat):(Builtin.zeroCells #[z0] n).toList=List.replicate n z0:=by
 have h:∀i:Nat,(#[z0])[i % (#[z0]).size]! = z0:=fun i=>by
  have:i % (#[z0]).size=0:=Nat.mod_one i;rw[this];rfl
 unfold Builtin.zeroCells;simp only[Array.toList_map,Array.toList_range];rw[List.map_congr_left fun i _=>h i,List.map_const',List.length_range];(congr 1);exact Nat.mul_one n
theorem flat_tail {xs:List (List AV)} {z:AV} {k:Nat} (hx:∀x∈xs,x.length=1) (hk:k<=xs.length) (j:Nat) (c:AV) (h:(xs.take k++List.replicate (xs.length-k) [z]).flatten[j]?=some c) :
  (j<xs.length/\k<=j/\c=z)\/(j<k/\xs.flatten[j]?=some c):=by
 have hall:∀l:List (List AV),(∀x∈l,x.length=1)->∀j:Nat,l.flatten[j]?=(l[j]?).bind fun x=>x[0]?:=by
  intro l
  induction l with
  | nil=>intro _ j;simp
  | cons x l ih =>
   intro hl j;have h1:=hl x tz4
   match x,h1 with
   | [y],_ =>
    cases j with
    | zero=>rfl
    | succ j=>simpa using ih (fun z hz=>hl z (by simp[hz])) j
 rw[hall _ (fun x hx'=>by
  (rcases List.mem_append.1 hx' with h3 | h3);·exact hx x (List.mem_of_mem_take h3)
  rw[(List.mem_replicate.1 h3).2];rfl)] at h
 by_cases hj:j<k
 ·rw[zq tz7,List.getElem?_take,if_pos hj] at h
  exact .inr ⟨hj,by rw[hall _ hx];exact h⟩
 rw[zt tz7,List.getElem?_replicate] at h;split at h
 ·rename_i h4
  (simp at h4 h);exact .inl ⟨by omega,by omega,h.symm⟩
 simp at h
theorem SimC.clearRow (h:SimC A0 E0 os0 w0 E st a w) {id e k:Nat} {xs:List (List AV)} (z0:Value) (h1:z0.oneCell'=true) (hg:zaa st.os id=some (.row e 1 xs)) (hk:k<=xs.length) {b:Nat} (hb:(E.cur id).ownBlock=some b) :
  ∃w',(storeCells ⟨b,k,none⟩ (List.replicate (xs.length-k) z0)).run P w=.ok () w'/\SimC A0 E0 os0 w0 E {st with os:=zat st.os id (.row e 1 (xs.take k++List.replicate (xs.length-k) [.v z0]))} a w':=by
 have hxl:=(h.os.ok id _ hg).2.2.1;refine h.storeRows hg tz7 (fun v hv=>by rw[(List.mem_replicate.1 hv).2];exact h1) tz7 (fun x hx=>?_) (fun j c hj=>?_) hb
 ·rcases List.mem_append.1 hx with h3 | h3
  (·exact hxl x (List.mem_of_mem_take h3));rw[(List.mem_replicate.1 h3).2];rfl
 (rcases flat_tail hxl hk j c hj with ⟨h2,h3,rfl⟩ | ⟨h2,h3⟩);(·exact .inl ⟨z0,by rw[List.getElem?_replicate,if_pos tz1],h3,.v _⟩);exact .inr ⟨by simp;omega,h3⟩
theorem zcw {ops rest2:List Oper} {Q:Exit->Act->World->Prop} {K:St->Prop} (hQ:∀st' E' a' w',K st'->SimC A0 E0 os0 w0 E' st' a' w'->wpList P ops.toArray Q rest2 a' w') :
  ∀(l:List Oper) (st:St) (E:Env) (a:Act) (w:World),SimC A0 E0 os0 w0 E st a w->aops P ops l st K->wpList P ops.toArray Q (l++rest2) a w
 | [],st,E,a,w,h,hk=>hQ st E a w hk h
 | o::rest,st,E,a,w,h,hk=>by
  simp only[aops] at hk;refine wpList_step fun K' hK'=>?_;rcases zbj h hk with ⟨h1,h2⟩ | ⟨h1,h2⟩
  ·rw[if_pos h1]
   refine Oper.wp_mono (fun a' w' hh=>?_) (zdU (Q':=Q) h h2);obtain ⟨st',E',q,s⟩:=hh;exact hK' a' w' (zcw hQ rest st' E' a' w' s q)
  rw[h1];simp only[zr,if_false];exact hK' _ _ (zcw hQ rest _ E _ w (h.set (.v _) o.dst) h2)
def ClearAt (P:Program) (d t:Nat) (x lo:Operand) (st:St) (K:St->Prop):Prop :=
 ∃(rid m e by':Nat) (kk:IntKind) (k:Int) (xs:List (List AV)) (z0:Value),st.ev x=.own rid m/\st.ev lo=.v (.int kk k)/\zaa st.os rid=some (.row e 1 xs)/\m=xs.length/\0<=k/\k<=(m:Int)/\zax P t=some (e,1,by')/\zaK P e=some [z0]/\z0.oneCell'=true/\d<st.sl.length /\
  K {(st.put (some d) .any) with os:=zat st.os rid (.row e 1 (xs.take k.toNat++List.replicate (xs.length-k.toNat) [.v z0]))}
theorem AWp_clear {Q:Exit->St->Prop} {st:St} {id:Nat} {l:List Oper} {d t ty1 ty2:Nat} {x lo:Operand} {p1 p2:String} {a1 a2:Array Edge} (n:Nat)
  (hl:l=l.take n++[{dst:=some d,op:=.slice t x (some lo) none none,type:=ty1,pos:=p1,after:=a1,guard:=none},{dst:=none,op:=.call {callee:=.builtin .clear,args:=⟨[.tmp d]⟩,argTypes:=⟨[t]⟩},type:=ty2,pos:=p2,after:=a2,guard:=none}])
  (h:aops P l (l.take n) st fun st'=>ClearAt P d t x lo st' (Q .normal)):AWp P (.region id l.toArray false) Q st:=by
 have val:∀(s:Sem Value) (v:Value) (w w':World),s.run P w=.ok v w'->((do pure (.value (<- s))):Sem Next).run P w=.ok (.value v) w':=fun s v w w' h=>by
  simp only[Sem.run_bind,h,Result.andThen_ok,Sem.run_pure]
 intro A0 E0 os0 w0 E a w hs;refine wp_region_lit ?_
 have key:=zcw (P:=P) (ops:=l) (rest2:=[{dst:=some d,op:=.slice t x (some lo) none none,type:=ty1,pos:=p1,after:=a1,guard:=none},{dst:=none,op:=.call {callee:=.builtin .clear,args:=⟨[.tmp d]⟩,argTypes:=⟨[t]⟩},type:=ty2,pos:=p2,after:=a2,guard:=none}])
  (Q:=fun e a' w'=>∃st' E',Q e st'/\SimC A0 E0 os0 w0 E' st' a' w') (K:=fun st'=>ClearAt P d t x lo st' (Q .normal)) (A0:=A0) (E0:=E0) (os0:=os0) (w0:=w0) (fun st' E' a' w' hk hsim=>?_) (l.take n) st E a w hs h
 (·rw[<- hl] at key;exact key);obtain ⟨rid,m,e,by',kk,k,xs,z0,hx,hlo,hg,hm,h0,h1,he,hz,hz1,hd,hK⟩:=hk;obtain ⟨i,zv,ht,hi,hzero,hsz,hby,hzs,hsz0⟩:=zaO he
 have hzc:zv.cells=#[z0]:=by
  unfold zaK at hz;rw[hi] at hz;simp only[Option.bind_some,hzero,Option.map_some,Option.some.injEq] at hz;exact Array.toList_inj.1 (by rw[hz])
 have hxr:=hsim.ev x;rw[hx] at hxr;have hlr:=hsim.ev lo;rw[hlo] at hlr;(generalize hlv:a'.eval lo=lv at hlr);(cases hlr);(generalize hxv:a'.eval x=u at hxr);obtain ⟨hv0,hcnt,hxl,hrow⟩:=hsim.os.ok rid _ hg;have hsz1:a'.tmps.size=st'.sl.length:=hsim.size
 have fin:∀(z:Value) (w2:World),(Instr.sliceAt t u (some (.int kk k)) none none).run P w'=.ok z w'->(Builtin.clear_ #[t] ty2 #[z]).run P w'=.ok (.tuple #[]) w2 ->
   (∃E2,SimC A0 E0 os0 w0 E2 {st' with os:=zat st'.os rid (.row e 1 (xs.take k.toNat++List.replicate (xs.length-k.toNat) [.v z0]))} a' w2) ->
   wpList P l.toArray (fun e a' w'=>∃st' E',Q e st'/\SimC A0 E0 os0 w0 E' st' a' w') [{dst:=some d,op:=.slice t x (some lo) none none,type:=ty1,pos:=p1,after:=a1,guard:=none},{dst:=none,op:=.call {callee:=.builtin .clear,args:=⟨[.tmp d]⟩,argTypes:=⟨[t]⟩},type:=ty2,pos:=p2,after:=a2,guard:=none}] a' w':=by
  rintro z w2 h3 h4 ⟨E2,h5⟩;refine wpList_step fun K1 hK1=>?_;rw[if_pos (by simp[Region.wanted])];unfold Oper.wp;simp only[execOp,Option.map_none,Option.map_some,hxv,hlv,val _ _ _ _ h3,Oper.upon_value];refine hK1 _ _ (wpList_step fun K2 hK2=>?_);rw[if_pos (by simp[Region.wanted])];unfold Oper.wp;simp only[execOp,resolve,Sem.run_bind,Sem.run_pure,Result.andThen_ok,invoke,builtin,List.map_toArray,zo,zE,zcC (a:=a') (d:=d) (v:=z) tz1,h4,Oper.upon_value];refine hK2 _ _ (wpList_nil ⟨_,E2,hK,?_⟩);exact h5.set (.any z) (some d)
 rcases hrow with ⟨h2,h3⟩ | ⟨b,cap,cur,h2,h3,h4,h5,h6,h7⟩
 ·cases hxr with
  | own hvv hle hcur h1c =>
   have hue:=hcur tz1;(have:u=.slice none 0 0:=by rw[hue,h2]);subst this;(have hk0:k=0:=by omega);subst hk0;have hxs:xs=[]:=List.eq_nil_of_length_eq_zero h3;subst hxs;have hb:=zaM (P:=P) (w:=w') (isS:=true) (n:=0) (cap:=0) (lo:=some (.int kk 0)) (hi:=none) (l:=0) (h:=0) (.inr ⟨_,rfl⟩) (.inl ⟨rfl,rfl⟩) tz1 tz1 tz1 tz1;refine fin (.slice none 0 0) w' (by simp[Instr.sliceAt,run_underlying ht,Instr.slice,hb,sizeOf,typeInfo,hi]) (by simp[Builtin.clear_,run_underlying ht]) ?_
   have hW:Weak st' ⟨st'.sl,zat st'.os rid (.row e 1 []),st'.nx,st'.n0⟩:=Weak.mk (LeL.refl _) (fun id ob hgo=>by
    rw[zaI] at hgo;(split at hgo);·rename_i hid;cases hgo;rw[hid];exact hg
    exact hgo) rfl rfl
   obtain ⟨E2,h9⟩:=hW _ _ _ _ _ _ _ hsim;exact ⟨E2,h9⟩
 cases hxr with
 | own hvv hle hcur h1c =>
  have hue:=hcur tz1;(have:u=.slice (some ⟨b,0,none⟩) xs.length cap:=by rw[hue,h2]);subst this;(have hob:(E'.cur rid).ownBlock=some b:=by rw[h2];rfl);have hb:=zaM (P:=P) (w:=w') (isS:=true) (n:=xs.length) (cap:=cap) (lo:=some (.int kk k)) (hi:=none) (l:=k) (h:=xs.length) (.inr ⟨_,rfl⟩) (.inl ⟨rfl,rfl⟩) tz1 tz1 tz1 h3;obtain ⟨w2,h8,h9⟩:=hsim.clearRow z0 hz1 hg (k:=k.toNat) tz1 hob
  have hsl:(Instr.sliceAt t (.slice (some ⟨b,0,none⟩) xs.length cap) (some (.int kk k)) none none).run P w'=.ok (.slice (if cap=k.toNat then some ⟨b,0,none⟩ else some ⟨b,k.toNat,none⟩) (xs.length-k.toNat) (cap-k.toNat)) w':=by
   simp only[Instr.sliceAt,run_underlying ht,Sem.run_bind,Result.andThen_ok,Instr.slice,hb,sizeOf,typeInfo,run_program,hi,Sem.run_pure,hsz,Option.map_some,zaw,Nat.mul_one,zD,Int.toNat_natCast]
  by_cases hlast:k.toNat=xs.length
  ·refine fin _ w' hsl (by rw[hlast,Nat.sub_self];split <;> simp[Builtin.clear_,run_underlying ht]) ?_
   rw[hlast,Nat.sub_self,List.replicate_zero,List.append_nil,zp]
   have hW:Weak st' ⟨st'.sl,zat st'.os rid (.row e 1 xs),st'.nx,st'.n0⟩:=Weak.mk (LeL.refl _) (fun id ob hgo=>by
    rw[zaI] at hgo;(split at hgo);·rename_i hid;cases hgo;rw[hid];exact hg
    exact hgo) rfl rfl
   obtain ⟨E2,h10⟩:=hW _ _ _ _ _ _ _ hsim;exact ⟨E2,h10⟩
  (have hne:xs.length-k.toNat≠0:=by omega);refine fin _ w2 hsl ?_ ⟨E',h9⟩;rw[if_neg tz1];obtain ⟨n1,hn1⟩:∃n1,xs.length-k.toNat=n1+1:=⟨xs.length-k.toNat-1,by omega⟩;rw[hn1] at h8 ⊢;have e1:(#[t])[0]?=some t:=rfl;(have e2:∀v:Value,(#[v])[0]?=some v:=fun _=>rfl);simp only[Builtin.clear_,e1,e2,run_underlying ht,Sem.run_bind,Result.andThen_ok,zeroValue,typeInfo,run_program,hi,hzero,Sem.run_pure,hzc,zgY];rw[h8];rfl
end
end Go.Proofs.YtkokfdmggdhfmaaGreatDoor
