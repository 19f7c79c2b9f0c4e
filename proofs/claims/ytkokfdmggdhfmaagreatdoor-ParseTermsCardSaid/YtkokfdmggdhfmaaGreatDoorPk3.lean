/- packed, part 3 of 45. Conditions: none. -/
import Derived.Test.YtkokfdmggdhfmaaGreatDoorPk2
set_option linter.unusedVariables false
set_option linter.unusedSimpArgs false
namespace Go.Proofs.YtkokfdmggdhfmaaGreatDoor
open Go Go.RowKit
set_option linter.unnecessarySimpa false
theorem zZ (b o j:Nat):(⟨b,o,none⟩:Addr).add j=⟨b,o+j,none⟩:=by unfold Addr.add;split <;> simp_all
section
variable {P:Program} {E:Env} {A:Nat->Nat->Prop} {w:World}
theorem zaU {t:Nat} {agg:Bool} {n:Nat} (h:zaW P t=some (agg,n)) :
  (∀w,(isAgg t).run P w=.ok agg w)/\(∀w,(sizeOf t).run P w=.ok n w)/\∃d i,P.underlying t=some d/\P.info? t=some i/\i.size=n:=by
 unfold zaW at h;split at h
 ·rename_i fs i hd hi
  (cases h);exact ⟨fun w=>by simp[isAgg,run_underlying hd],fun w=>by simp[sizeOf,typeInfo,hi],_,_,hd,hi,rfl⟩
 ·rename_i m e i hd hi
  (cases h);exact ⟨fun w=>by simp[isAgg,run_underlying hd],fun w=>by simp[sizeOf,typeInfo,hi],_,_,hd,hi,rfl⟩
 ·rename_i d i h1 h2 hd hi
  (cases h);refine ⟨fun w=>?_,fun w=>by simp[sizeOf,typeInfo,hi],_,_,hd,hi,rfl⟩;cases d <;> first | (exact absurd rfl (h1 _)) | (exact absurd rfl (h2 _ _)) | simp[isAgg,run_underlying hd]
 cases h
theorem zaA {t:Nat} {agg:Bool} {n:Nat} (ht:zaW P t=some (agg,n)) (b o:Nat) (l:List AV) (g:Nat->Value) (hl:l.length=if agg then n else 1)
  (hc:∀j c,l[j]?=some c->w.cell? ⟨b,o+j,none⟩=some (g j)/\Rp E A w c (g j)) :
  ∃v,(loadVar t ⟨b,o,none⟩).run P w=.ok v w/\Rp E A w (zS agg l) v:=by
 obtain ⟨h1,h2,_⟩:=zaU ht
 cases agg with
 | true =>
  simp only[if_true] at hl;refine ⟨.agg ((List.range n).map g).toArray,?_,?_⟩
  ·have h3:=run_loadCells (P:=P) w ⟨b,o,none⟩ n g (fun j hj=>by
    rw[zZ]
    exact (hc j _ (zc tz1)).1)
   simp[loadVar,h1,h2,h3]
  refine .agg (by simp[hl]) (fun i c u hi hu=>?_);(have hlt:i<n:=by rw[<- hl];exact (ze.1 hi).1);(have:u=g i:=by simp[hlt] at hu;exact hu.symm);subst this
  exact (hc i c hi).2
 | false =>
  simp only[zf,if_false] at hl
  match l,hl with
  | [c],_ =>
   obtain ⟨h3,h4⟩:=hc 0 c rfl;simp only[Nat.add_zero] at h3;exact ⟨g 0,by simp[loadVar,h1,h3],h4⟩
end
theorem zaL {α:Type} (cs:List α) (off m j:Nat) (c:α) (h:((cs.drop off).take m)[j]?=some c):cs[off+j]?=some c/\j<m:=by
 rw[List.getElem?_take] at h;(split at h);(·rename_i hj;rw[List.getElem?_drop] at h;exact ⟨h,hj⟩);cases h
theorem zal {α:Type} (sz:Nat):∀(xs:List (List α)) (h:∀x∈xs,x.length=sz) (i j:Nat),j<sz->xs.flatten[i * sz+j]?=(xs.getD i [])[j]?
 | [],_,i,j,_=>by simp
 | x::xs,h,0,j,hj=>by
  have:=h x tz4;simp only[List.flatten_cons,Nat.zero_mul,Nat.zero_add,List.getD_cons_zero]
  rw[zl tz1]
 | x::xs,h,i+1,j,hj=>by
  have hx:=h x tz4;simp only[List.flatten_cons,List.getD_cons_succ];rw[zp (by rw[hx,Nat.add_mul];omega)];rw[show (i+1) * sz+j-x.length=i * sz+j by rw[hx,Nat.add_mul];omega];exact zal sz xs (fun y hy=>h y (by simp[hy])) i j hj
theorem zP {α:Type} (sz:Nat):∀(xs:List (List α)) (_:∀x∈xs,x.length=sz),xs.flatten.length=xs.length * sz
 | [],_=>by simp
 | x::xs,h=>by
  simp only[List.flatten_cons,za,List.length_cons,h x tz4,zP sz xs (fun y hy=>h y (by simp[hy])),Nat.add_mul];omega
theorem zdh {s:Value} {b:Nat} (h:s.ownBlock=some b) {t sz n:Nat} {w:World} {C:Array Value->Prop} (hr:zgF w s t sz n C) :
  ∃cap cur,s=.slice (some ⟨b,0,none⟩) n cap/\n<=cap/\cap<=maxLen/\w.heap[b]?=some (.cells cur t (0,0))/\cur.size=cap * sz/\C cur:=by
 (rcases hr with h0 | ⟨b',cap,cur,hs',hn,hcap,hh,hsz,hCC⟩);(·rw[h0.1] at h;cases h);rw[hs'] at h;cases h;exact ⟨cap,cur,hs',hn,hcap,hh,hsz,hCC⟩
section
variable {P:Program} {A0:Nat->Nat->Prop} {E:Env} {os:Os} {w:World}
theorem tz7 {p:Prop} (h:p:=by simp;omega):p:=h
theorem zbN {t:Nat} {x:AV} {u:Value} {K:AV->Prop} (hos:OsOk A0 E os w) (hr:Rp E (AvX A0 E os) w x u) (h:zK P t x os K) :
  ∃a y v,u=.pointer (some a)/\(loadVar t a).run P w=.ok v w/\Rp E (AvX A0 E os) w y v/\K y:=by
 unfold zK at h;(split at h);(·exact h.elim);(rename_i agg n ht);split at h
 ·-- a pointer to an object
  (rename_i id off);split at h
  ·rename_i t' cs hg
   obtain ⟨hle,hk⟩:=h;obtain ⟨hv,cur,hh,hsz,hc⟩:=hos.ok id _ hg;cases hr
   obtain ⟨v,h1,h2⟩:=zaA (P:=P) (w:=w) (E:=E) (A:=AvX A0 E os) ht (E.blk id) off ((cs.drop off).take (if agg then n else 1)) (fun j=>cur.getD (off+j) undef)
    tz7 (fun j c hj=>by
     obtain ⟨h1,_⟩:=zaL cs off _ j c hj;(have hlt:off+j<cur.size:=by rw[hsz];exact (ze.1 h1).1);have h2:cur[off+j]?=some (cur.getD (off+j) undef):=by simp[Array.getD,hlt]
     exact ⟨by rw[cell_of_row w _ _ cur t' (0,0) hh,h2],hc _ _ _ h1 h2⟩)
   exact ⟨_,_,v,rfl,h1,h2,hk⟩
  exact h.elim
 ·-- a pointer into a row
  (rename_i id n' sz i off);split at h
  ·rename_i t' sz' xs hg
   obtain ⟨rfl,rfl,hi,hle,hk⟩:=h;obtain ⟨hv,hcnt,hlen,hrow⟩:=hos.ok id _ hg
   cases hr with
   | @rptr _ _ _ _ _ a _ _ hcur =>
    obtain ⟨hb,ha⟩:=hcur hcnt.symm;obtain ⟨cap,cur,hs,hn,hcap,hh,hsz,hc⟩:=zdh hb hrow;have hfl:=zP sz xs hlen
    have hmem:(xs.getD i [])∈xs:=by
     rw[zg,zc hi];exact List.getElem_mem hi
    have hxl:=hlen _ hmem
    obtain ⟨v,h1,h2⟩:=zaA (P:=P) (w:=w) (E:=E) (A:=AvX A0 E os) ht a.block (i * sz+off) (((xs.getD i []).drop off).take (if agg then n else 1))
     (fun j=>cur.getD (i * sz+off+j) undef) (by simp only[List.length_take,List.length_drop,hxl];omega) (fun j c hj=>by
      obtain ⟨h1,hj'⟩:=zaL _ off _ j c hj;have h3:xs.flatten[i * sz+(off+j)]?=some c:=by rw[zal sz xs hlen i (off+j) tz1];exact h1
      have hlt:i * sz+(off+j)<cur.size:=by
       have h5:i * sz+(off+j)<xs.flatten.length:=(ze.1 h3).1;have h6:=Nat.mul_le_mul_right sz hn;omega
      have h2:cur[i * sz+(off+j)]?=some (cur.getD (i * sz+off+j) undef):=by simp[Array.getD,hlt,Nat.add_assoc]
      exact ⟨by rw[cell_of_row w _ _ cur t' (0,0) hh,Nat.add_assoc,h2,Nat.add_assoc],hc _ _ _ h3 h2⟩)
    rw[<- ha] at h1;exact ⟨a,_,v,rfl,h1,h2,hk⟩
  exact h.elim
 ·-- a pointer to cells that stay
  (rename_i cs);obtain ⟨hle,hk⟩:=h
  cases hr with
  | eptr g hcell hc =>
   rename_i b o
   obtain ⟨v,h1,h2⟩:=zaA (P:=P) (w:=w) (E:=E) (A:=AvX A0 E os) ht b o (cs.take (if agg then n else 1)) g tz7 (fun j c hj=>by
     have h1:=zaL cs 0 _ j c (by simpa using hj);simp only[Nat.zero_add] at h1
     exact ⟨(hcell j (ze.1 h1.1).1).1,hc _ _ h1.1⟩)
   exact ⟨_,_,v,rfl,h1,h2,hk⟩
 exact h.elim
end
def zep (tmps:Array Value):ResultVar->Sem Value
 | .tmp t=>pure (tmps.getD t undef)
 | .cell a t=>do loadVar t (<- asAddr (tmps.getD a undef))
section
variable {P:Program} {A0:Nat->Nat->Prop} {E0:Env} {os0:Os} {w0:World} {E:Env} {st:St} {a:Act} {w:World}
theorem zcu:∀(rs:List ResultVar) (K:List AV->Prop) (_:SimC A0 E0 os0 w0 E st a w) (_:zU P rs st K),
  ∃l vs,(rs.mapM (zep a.tmps)).run P w=.ok vs w /\
   vs.length=l.length/\(∀(i:Nat) (c:AV) (u:Value),l[i]?=some c->vs[i]?=some u->Rp E (AvX A0 E st.os) w c u)/\K l
 | [],K,hs,h=>⟨[],[],by simp,rfl,by simp,h⟩
 | .tmp t::rest,K,hs,h=>by
  simp only[zU] at h;obtain ⟨l,vs,h1,h2,h3,h4⟩:=zcu rest _ hs h;have hr:Rp E (AvX A0 E st.os) w (st.get t) (a.tmps.getD t undef):=hs.ev (.tmp t);refine ⟨st.get t::l,a.tmps.getD t undef::vs,?_,by simp[h2],fun i c u hc hu=>?_,h4⟩;·simp only[List.mapM_cons,Sem.run_bind,h1,zep,Sem.run_pure,Result.andThen_ok]
  cases i with
  | zero=>simp only[List.getElem?_cons_zero,Option.some.injEq] at hc hu;subst hc;subst hu;exact hr
  | succ i=>exact h3 i c u (by simpa using hc) (by simpa using hu)
 | .cell b t::rest,K,hs,h=>by
  simp only[zU] at h;have hr:Rp E (AvX A0 E st.os) w (st.get b) (a.tmps.getD b undef):=hs.ev (.tmp b);obtain ⟨ad,y,v,h1,h2,h3,hk⟩:=zbN hs.os hr h;obtain ⟨l,vs,h5,h6,h7,h8⟩:=zcu rest _ hs hk;refine ⟨y::l,v::vs,?_,by simp[h6],fun i c u hc hu=>?_,h8⟩;·simp only[List.mapM_cons,Sem.run_bind,h5,zep,h1,asAddr,Sem.run_pure,Result.andThen_ok,h2]
  cases i with
  | zero=>simp only[List.getElem?_cons_zero,Option.some.injEq] at hc hu;subst hc;subst hu;exact h3
  | succ i=>exact h7 i c u (by simpa using hc) (by simpa using hu)
theorem zdX {fn:Func} {Q:AV->Os->Nat->Prop} (hs:SimC A0 E0 os0 w0 E st a w) (h:zU P fn.results.toList st fun l=>Q (zL l) st.os st.nx) :
  ∃r v,(results fn a.tmps).run P w=.ok v w/\Rp E (AvX A0 E st.os) w r v/\Q r st.os st.nx:=by
 obtain ⟨l,vs,h1,h2,h3,h4⟩:=zcu _ _ hs h
 have e:results fn a.tmps=(do
   let vs <- fn.results.mapM (zep a.tmps)
   pure (if h:vs.size=1 then vs[0] else .tuple vs)):=by
  unfold results;congr 1
 have h5:(fn.results.mapM (zep a.tmps)).run P w=.ok vs.toArray w:=by
  rw[Array.mapM_eq_mapM_toList];simp only[<- bind_pure_comp,Sem.run_bind,h1,Result.andThen_ok,Sem.run_pure]
 refine ⟨zL l,if h:vs.toArray.size=1 then vs.toArray[0] else .tuple vs.toArray,?_,?_,h4⟩
 ·rw[e]
  simp only[Sem.run_bind,h5,Result.andThen_ok,Sem.run_pure]
 match l,vs,h2,h3 with
 | [],[],_,h3=>simp only[zL];exact .tup rfl (fun i c u hc _=>by simp at hc)
 | [x],[y],_,h3=>exact h3 0 x y rfl rfl
 | x::y::l,z::u::vs,h2,h3 =>
  simp only[zL,List.size_toArray,List.length_cons];rw[dif_neg tz1];exact .tup (by simpa using h2) (fun i c u hc hu=>h3 i c u hc (by simpa using hu))
theorem zes {f:Nat} {args:List AV} {os:Os} {nx:Nat} {Q:AV->Os->Nat->Prop} {fn:Func} {c:Code} (hf:P.funcs[f]?=some fn) (hn:(fn.name=="runtime.NumGoroutine")=false) (hb:fn.body=some c)
  (hlen:args.length<=fn.ntmps) (h:Met args->AWp P c (zW P fn.results.toList Q) ⟨args++List.replicate (fn.ntmps-args.length) (.v undef),os,nx,nx⟩):ACalls P f args os nx Q:=by
 refine ⟨⟨fn,hf,hn,by simp[hb]⟩,fun A0 E w vs hos hnx hr=>?_⟩;refine calls_of_wp hf hb ?_
 have hsim:SimC A0 E os w E ⟨args++List.replicate (fn.ntmps-args.length) (.v undef),os,nx,nx⟩ {tmps:=vs++Array.replicate (fn.ntmps-vs.size) undef,defers:=[]} w:=by
  refine ⟨by simp[hr.1],fun i c u hc hu=>?_,hos,hnx,rfl,.refl E,.refl _ w,fun b o h=>.inl h,fun id hv=>(hnx id).1 hv⟩;rcases Nat.lt_or_ge i args.length with hi | hi
  ·rw[zl hi] at hc
   rw[Array.getElem?_append_left (by rw[hr.1];exact hi)] at hu;exact hr.2 i c u hc hu
  rw[zp hi] at hc;rw[Array.getElem?_append_right (by rw[hr.1];exact hi)] at hu;rw[List.getElem?_replicate] at hc;rw[Array.getElem?_replicate] at hu;split at hc
  ·split at hu
   (·cases hc;cases hu;exact .v _);cases hu
  cases hc
 refine wp_mono (h ⟨E,_,w,vs,hr⟩ A0 E os w E _ w hsim) ?_;rintro e a' w' ⟨st',E',q,hs'⟩
 have fin:(zU P fn.results.toList st' fun l=>Q (zL l) st'.os st'.nx)->∃v,(results fn a'.tmps).run P w'=.ok v w'/\Ret A0 E os w Q (.returned v) w':=fun q=>by
  obtain ⟨r,v,h1,h2,h3⟩:=zdX hs' q;exact ⟨v,h1,r,v,st'.os,st'.nx,E',rfl,h3,h2,hs'.os,hs'.nx,hs'.ext,hs'.stp,hs'.sub⟩
 cases e with
 | normal=>obtain ⟨v,h1,h2⟩:=fin q;exact ⟨hs'.defers,v,h1,h2⟩
 | ret=>obtain ⟨v,h1,h2⟩:=fin q;exact ⟨hs'.defers,v,h1,h2⟩
 | _=>exact q.elim
theorem tz0 {p:Prop} (h:p:=by kernel_rfl):p:=h
theorem aIn {f:Nat} {args:List AV} {os:Os} {nx:Nat} {Q:AV->Os->Nat->Prop} {fn:Func} {c:Code} (hf:P.funcs[f]?=some fn) (h:Met args->AWp P c (zW P fn.results.toList Q) ⟨args++List.replicate (fn.ntmps-args.length) (.v undef),os,nx,nx⟩) (hn:(fn.name=="runtime.NumGoroutine")=false:=by kernel_rfl) (hb:fn.body=some c:=by rfl) (hlen:args.length<=fn.ntmps:=by exact Nat.le_of_ble_eq_true tz0):ACalls P f args os nx Q:=zes (hf:=hf) (hn:=hn) (hb:=hb) (hlen:=hlen) (h:=h)
end
end Go.Proofs.YtkokfdmggdhfmaaGreatDoor
