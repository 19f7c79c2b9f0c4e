/- packed, part 26 of 48. Conditions: none. -/
import Derived.Test.YtpfiliamceimmaaGreatDoorPk25
set_option linter.unusedVariables false
set_option linter.unusedSimpArgs false
namespace Go.Proofs.YtpfiliamceimmaaGreatDoor
open Go Go.RowKit
def zia:AV->Bool
 | .ptr _ _ | .eptr _=>true
 | _=>false
def zkR:AV->Bool
 | .sl _ _ | .osl _ _ _ | .eptr _=>true
 | _=>false
def isP:AV->Bool
 | .ptr _ _=>true
 | _=>false
def zcJ (P:Program) (o:Oper) (ev:Operand->AV) (os:Os) (K:AV->Prop):Prop :=
 o.guard=none/\match o.op with
 | .move y=>K (ev y)
 | .load t x=>zia (ev x)=true/\zaS P t (ev x) os K
 | .indexAddr t x i=>zkR (ev x)=true/\zce P t (ev x) (ev i) os K
 | .fieldAddr s x f=>zia (ev x)=true/\zcG P s f (ev x) K
 | _=>False
section
variable {P:Program} {E:Env} {A0 A:Nat->Nat->Prop} {os:Os} {w:World}
theorem zbR {t:Nat} {agg:Bool} {n:Nat} (ht:zcD P t=some (agg,n)) (b o:Nat) (g:Nat->Value) (hc:∀j,j<(if agg then n else 1)->w.cell? ⟨b,o+j,none⟩=some (g j)) :
  (loadVar t ⟨b,o,none⟩).run P w=.ok (if agg then .agg ((List.range n).map g).toArray else g 0) w:=by
 obtain ⟨h1,h2,_⟩:=zb7 ht
 cases agg with
 | true =>
  have h3:=run_loadCells (P:=P) w ⟨b,o,none⟩ n g (fun j hj=>by rw[zaR];exact hc j hj)
  simp[loadVar,h1,h2,h3]
 | false =>
  have h3:=hc 0 tz4;simp only[Nat.add_zero] at h3;simp[loadVar,h1,h3]
theorem aLoad_det {t:Nat} {x:AV} {u:Value} {K:AV->Prop} (hos:OsOk A0 E os w) (hp:zia x=true) (hr:Rp E (AvX A0 E os) w x u) (h:zaS P t x os K) :
  ∃a y v,u=.pointer (some a)/\(∀w',Below w.heap.size w w'->(loadVar t a).run P w'=.ok v w')/\Rp E (AvX A0 E os) w y v/\K y:=by
 obtain ⟨a,y,v,rfl,h1,h2,h3⟩:=zdb (P:=P) hos hr h;refine ⟨a,y,v,rfl,fun w' hb=>?_,h2,h3⟩;unfold zaS at h;(split at h);(·exact h.elim);rename_i agg n ht
 have key:∀(b o:Nat) (g:Nat->Value),a=⟨b,o,none⟩->(∀j,j<(if agg then n else 1)->w.cell? ⟨b,o+j,none⟩=some (g j))->(loadVar t a).run P w'=.ok v w':=by
  rintro b o g rfl hc;have e1:=zbR (P:=P) ht b o g hc;rw[e1] at h1;(cases h1);refine zbR (P:=P) ht b o g fun j hj=>?_;have hcj:=hc j hj;have hlt:b<w.heap.size:=World.block_lt_of_cell? w _ hcj;exact (hb.cell (p:=⟨b,o+j,none⟩) hlt).trans hcj
 split at h
 ·rename_i id off
  split at h
  ·rename_i t' cs hg
   obtain ⟨hle,hk⟩:=h;obtain ⟨hv,cur,hh,hsz,hc⟩:=hos.ok id _ hg;(cases hr);refine key (E.blk id) off (fun j=>cur.getD (off+j) undef) rfl fun j hj=>?_;(have hlt:off+j<cur.size:=by omega);rw[cell_of_row w _ _ cur t' (0,0) hh];simp[Array.getD,hlt]
  exact h.elim
 ·cases hp
 ·rename_i cs
  obtain ⟨hle,hk⟩:=h
  cases hr with
  | @eptr cs b o g hcell hc=>exact key b o g rfl fun j hj=>(hcell j tz1).1
 exact h.elim
theorem zdY {t:Nat} {x i:AV} {u v:Value} {K:AV->Prop} (hos:OsOk A0 E os w) (hp:zkR x=true) (hr:Rp E (AvX A0 E os) w x u) (hi:Rp E (AvX A0 E os) w i v) (h:zce P t x i os K) :
  ∃y z,(∀w':World,(Instr.indexAt t u v).run P w'=.ok z w')/\Rp E (AvX A0 E os) w y z/\K y:=by
 unfold zce at h;split at h
 case h_2=>exact h.elim
 (rename_i k i);cases hi
 have slc:∀(sz:Nat) (xs:List (List AV)),zaW P t=some sz->Rp E (AvX A0 E os) w (.sl sz xs) u->0<=i->i<(xs.length:Int) ->
   ∃z,(∀w':World,(Instr.indexAt t u (.int k i)).run P w'=.ok z w')/\Rp E (AvX A0 E os) w (.eptr (xs.getD i.toNat [])) z:=by
  intro sz xs he hx h0 h1;obtain ⟨e,inf,hu,hinf,hsz⟩:=zb1 he;obtain ⟨b,o,cap,rfl,h2⟩:=hx.elem (i:=i.toNat) tz1;refine ⟨_,fun w'=>?_,h2⟩;simp[Instr.indexAt,asIntOf,run_underlying hu,h0,h1,sizeOf,typeInfo,hinf,hsz,zaR]
 split at h
 ·rename_i sz he
  split at h
  ·obtain ⟨rfl,h0,h1,hk⟩:=h
   obtain ⟨z,h2,h3⟩:=slc _ _ he hr h0 h1;exact ⟨_,z,h2,h3,hk⟩
  ·obtain ⟨rfl,h0,h1,hk⟩:=h
   obtain ⟨z,h2,h3⟩:=slc _ _ he (Le.osl _ _ _ _ _ _ _ hr) h0 h1;exact ⟨_,z,h2,h3,hk⟩
  (·cases hp);exact h.elim
 split at h
 ·rename_i len sz he
  obtain ⟨e,inf,hu,hinf,hsz⟩:=zgI he;(split at h);·cases hp
  ·obtain ⟨h0,h1,hk⟩:=h
   cases hr with
   | @eptr cs b o g hcell hc =>
    refine ⟨_,.pointer (some ⟨b,o+i.toNat * sz,none⟩),fun w'=>?_,?_,hk⟩;·simp[Instr.indexAt,asIntOf,run_underlying hu,h0,h1,sizeOf,typeInfo,hinf,hsz,zaR,Instr.sureAddr]
    exact .eptr (fun j=>g (i.toNat * sz+j)) (fun j hj=>by
     have:=hcell (i.toNat * sz+j) (by simp at hj;omega)
     rwa [<- Nat.add_assoc] at this) (fun j c hj=>hc (i.toNat * sz+j) c (by rwa [List.getElem?_drop] at hj))
  exact h.elim
 exact h.elim
theorem zeQ {s f:Nat} {x:AV} {u:Value} {K:AV->Prop} (hp:zia x=true) (hr:Rp E A w x u) (h:zcG P s f x K) :
  ∃y z,(∀w':World,(Instr.fieldAt s u f).run P w'=.ok z w')/\Rp E A w y z/\K y:=by
 obtain ⟨y,z,h1,h2,h3⟩:=zdq (P:=P) hr h;unfold zcG at h;(split at h);(·exact h.elim);rename_i o ho
 have key:∀(a:Addr) (w':World),(Instr.fieldAt s (.pointer (some a)) f).run P w'=.ok (.pointer (some (a.add o))) w':=by
  intro a w';unfold zau at ho;split at ho
  ·rename_i fs hu
   cases hf:fs[f]? with
   | none=>simp[hf] at ho
   | some fl =>
    simp only[hf,Option.bind_some] at ho;split at ho
    ·rename_i i hi
     (split at ho);(·cases ho);(rename_i hne);(cases ho);simp[Instr.fieldAt,run_underlying hu,hf,Instr.sureAddr,fieldPlace,sizeOf,typeInfo,hi,hne]
    cases ho
  cases ho
 have hu:∃a,u=.pointer (some a):=by
  cases x with
  | ptr id off=>cases hr;exact ⟨_,rfl⟩
  | eptr cs=>cases hr;exact ⟨_,rfl⟩
  | _=>cases hp
 obtain ⟨a,rfl⟩:=hu;rw[key a w] at h1;(cases h1);exact ⟨y,_,fun w'=>key a w',h2,h3⟩
end
theorem zjQ {P:Program} {l:List Oper} {A0:Nat->Nat->Prop} {E0:Env} {os0:Os} {w0:World} {E:Env} {st:St} {a:Act} {w:World} {o:Oper} {K:AV->Prop} (h:SimC A0 E0 os0 w0 E st a w) (hq:zcJ P o st.ev st.os K) :
  ∃x v,K x/\Rp E (AvX A0 E st.os) w x v/\YieldsIf P l.toArray (Below w.heap.size w) o v a:=by
 obtain ⟨dst,op,ty,pos,after,guard⟩:=o;obtain ⟨hg,hq⟩:=hq;(simp only at hg hq);subst hg
 have wanted:∀v,(∀w',Below w.heap.size w w'->(execOp a.eval {dst:=dst,op:=op,type:=ty,pos:=pos,after:=after,guard:=none}).run P w'=.ok (.value v) w')->YieldsIf P l.toArray (Below w.heap.size w) {dst:=dst,op:=op,type:=ty,pos:=pos,after:=after,guard:=none} v a:=fun v hv =>
  .inl ⟨by simp[Region.wanted],hv⟩
 have val:∀(s:Sem Value) (v:Value) (w':World),s.run P w'=.ok v w'->((do pure (.value (<- s))):Sem Next).run P w'=.ok (.value v) w':=fun s v w' h=>by
  simp only[Sem.run_bind,h,Result.andThen_ok,Sem.run_pure]
 (split at hq);·rename_i y;exact ⟨_,_,hq,h.ev y,wanted _ fun w _=>by simp[execOp]⟩
 ·rename_i t x
  obtain ⟨ad,y,v,hu,h1,h2,h3⟩:=aLoad_det (P:=P) h.os hq.1 (h.ev x) hq.2;refine ⟨y,v,h3,h2,wanted _ fun w' hb=>?_⟩
  have hr:(Instr.loadAt t (a.eval x)).run P w'=.ok v w':=by
   rw[hu];simp only[Instr.loadAt,Instr.sureAddr,Sem.run_bind,Sem.run_pure,Result.andThen_ok,h1 w' hb]
  simp only[execOp,val _ _ _ hr]
 ·rename_i t x i
  obtain ⟨y,z,h1,h2,h3⟩:=zdY (P:=P) h.os hq.1 (h.ev x) (h.ev i) hq.2;exact ⟨y,z,h3,h2,wanted _ fun w' _=>by simp only[execOp,val _ _ _ (h1 w')]⟩
 ·rename_i s x f
  obtain ⟨y,z,h1,h2,h3⟩:=zeQ (P:=P) hq.1 (h.ev x) hq.2;exact ⟨y,z,h3,h2,wanted _ fun w' _=>by simp only[execOp,val _ _ _ (h1 w')]⟩
 exact hq.elim
def HAny (P:Program) (l:List Oper) (Q:Exit->St->Prop) (fuel:Nat) (listed:Array Bool) (st:St):Prop :=
 ∀A0 E a w,SimC A0 E st.os w E st a w ->
  wpAnyH P .any l.toArray (fun e a' w'=>∃st' E',Q e st'/\SimC A0 E st.os w E' st' a' w') (Below w.heap.size w) fuel listed a w
def JAny (P:Program) (l:List Oper) (Q:Exit->St->Prop) (os1:Os) (F:List Nat) (fuel:Nat) (listed:Array Bool) (st:St):Prop :=
 ∀A0 Er w1 E a w,Below w1.heap.size w1 w->SimC A0 Er os1 w1 E st a w->(∀d∈F,∃b,w1.heap.size<=b/\a.tmps[d]?=some (.pointer (some ⟨b,0,none⟩))) ->
  wpAnyH P .any l.toArray (fun e a' w'=>∃st' E',Q e st'/\SimC A0 Er os1 w1 E' st' a' w') (Below w1.heap.size w1) fuel listed a w
section
variable {P:Program} {l:List Oper} {Q:Exit->St->Prop} {os1:Os} {F:List Nat} {fuel:Nat} {listed:Array Bool} {st:St}
theorem zha {id:Nat} (n:Nat) (hn:l.length=n) (hm:P.follows .mixedOrders=true)
  (h:HAny P l (fun e st'=>Q e {st' with n0:=st.n0}) n (Array.replicate n false) {st with n0:=st.nx}) :
  AWp P (.region id l.toArray true) Q st:=fun A0 E0 os0 w0 E a w hsim=>by
 subst hn;have h0:=hsim.drew;have h1:=h0.rebase;have h2:=h A0 E a _ h1;(have h3:l.toArray.size=l.length:=by simp);rw[<- h3] at h2;refine wp_mono (wp_region_held hm h2) ?_;rintro e a' w' ⟨st',E',hq,hs'⟩;exact ⟨_,E',hq,h0.over hs'⟩
theorem zlv (i:Nat) {o:Oper} (hi:l[i]?=some o) (hs:Region.noSelect l.toArray=true) (hf:Region.free .any l.toArray listed i=true) (hr:(Region.ready .any l.toArray listed).contains i=true)
  (hQ:∀c st,¬Q (.panic c) st) (h:∀K:St->Prop,(∀st',HAny P l Q fuel (listed.setIfInBounds i true) st'->K st')->zcJ P o st.ev st.os fun x=>K (st.put o.dst x)):HAny P l Q (fuel+1) listed st:=by
 intro A0 E a w hsim;obtain ⟨x,v,hk,hrp,hy⟩:=zjQ (l:=l) hsim (h _ fun _ h=>h);refine wpAnyH_take (oi:=o) (v:=v) (by simpa using hi) hs hf hr ?_ hy (.refl _ w) ?_;(·rintro c a w ⟨st',E',hq,_⟩;exact absurd hq (hQ c st'));(have hos:(st.put o.dst x).os=st.os:=by cases o.dst <;> rfl);have:=hk A0 E _ w (by rw[hos];exact hsim.set hrp o.dst);rw[hos] at this;exact this
theorem tkH (i:Nat) {o:Oper} (hi:l[i]?=some o) (h:∀K:St->Prop,(∀st',HAny P l Q fuel (listed.setIfInBounds i true) st'->K st')->zcJ P o st.ev st.os fun x=>K (st.put o.dst x)) (hs:Region.noSelect l.toArray=true:=by kernel_rfl) (hf:Region.free .any l.toArray listed i=true:=by kernel_rfl) (hr:(Region.ready .any l.toArray listed).contains i=true:=by kernel_rfl) (hQ:∀c st,¬Q (.panic c) st:=by exact fun _ _ h=>h):HAny P l Q (fuel+1) listed st:=zlv (i:=i) (hi:=hi) (hs:=hs) (hf:=hf) (hr:=hr) (hQ:=hQ) (h:=h)
theorem ziW (h:JAny P l Q st.os [] fuel listed st):HAny P l Q fuel listed st:=fun A0 E a w hsim=>h A0 E w E a w (.refl _ w) hsim tz4
theorem zep (hr:Region.ready .any l.toArray listed=[]) (h:Q .normal st):JAny P l Q os1 F fuel listed st:=fun _ _ _ E _ _ _ hsim _=>wpAnyH_done hr ⟨st,E,h,hsim⟩ fuel
def jAt (P:Program) (l:List Oper) (i:Nat) (F:List Nat) (st:St) (K:List Nat->St->Prop):Prop :=
 match l[i]? with
 | none=>False
 | some o=>o.guard=none/\match o.op,o.dst with
  | .alloc t,some d=>d<st.sl.length/\F.contains d=false/\aop P o st fun st'=>K (d::F) st'
  | .store t (.tmp x) y,none=>F.contains x=true/\isP (st.get x)=true/\aop P o st fun st'=>K F st'
  | _,_=>False
theorem JAny_at {i:Nat} (h:jAt P l i F st fun F' st'=>JAny P l Q os1 F' fuel (listed.setIfInBounds i true) st') {A0:Nat->Nat->Prop} {Er:Env} {w1:World} {E:Env} {a:Act} {w:World} (hB:Below w1.heap.size w1 w) (hsim:SimC A0 Er os1 w1 E st a w)
  (hF:∀d∈F,∃b,w1.heap.size<=b/\a.tmps[d]?=some (.pointer (some ⟨b,0,none⟩))) :
  wpOp P l.toArray (fun e a' w'=>∃st' E',Q e st'/\SimC A0 Er os1 w1 E' st' a' w') i (fun a' w'=>Below w1.heap.size w1 w' /\
   wpAnyH P .any l.toArray (fun e a' w'=>∃st' E',Q e st'/\SimC A0 Er os1 w1 E' st' a' w') (Below w1.heap.size w1) fuel (listed.setIfInBounds i true) a' w') a w:=by
 have val:∀(s:Sem Value) (v:Value) (w' w2:World),s.run P w'=.ok v w2->((do pure (.value (<- s))):Sem Next).run P w'=.ok (.value v) w2:=fun s v w' w2 h=>by
  simp only[Sem.run_bind,h,Result.andThen_ok,Sem.run_pure]
 have unit:∀(s:Sem Unit) (w':World),s.run P w=.ok () w'->((do s;pure .skip):Sem Next).run P w=.ok .skip w':=fun s w' h=>by
  simp only[Sem.run_bind,h,Result.andThen_ok,Sem.run_pure]
 unfold jAt at h;(split at h);(·exact h.elim);(rename_i o ho);obtain ⟨hg,h⟩:=h;(have hw:Region.wanted o (yielded l.toArray a.tmps)=true:=by simp[Region.wanted,hg]);unfold wpOp;simp only[zX,ho];rw[if_pos hw];refine .inl ?_;split at h
 ·rename_i t d hop hd
  obtain ⟨hds,hdF,hk⟩:=h
  have hz:∃z,zbk P t=some z:=by
   unfold aop at hk;rw[hop] at hk;(simp only at hk);(split at hk);(·rename_i z hz;exact ⟨z,hz⟩);exact hk.elim
  obtain ⟨z,hz⟩:=hz
  have hrun:∃cs,(execOp a.eval o).run P w=.ok (.value (.pointer (some ⟨w.heap.size,0,none⟩))) (w.alloc (.cells cs t)):=by
   unfold zbk at hz
   cases hi:P.info? t with
   | none=>simp[hi] at hz
   | some inf =>
    cases hzz:inf.zero with
    | none=>simp[hi,hzz] at hz
    | some zv =>
     have hr:(Instr.alloc t true (.tuple #[])).run P w=.ok (.pointer (some ⟨w.heap.size,0,none⟩)) (w.alloc (.cells zv.cells t)):=by
      simp[Instr.alloc,zeroValue,typeInfo,hi,hzz,newVar,newRow]
     refine ⟨zv.cells,?_⟩;obtain ⟨dst,op,ty,pos,after,guard⟩:=o;(simp only at hop);subst hop;simp only[execOp,val _ _ _ _ hr]
  obtain ⟨cs,hrun⟩:=hrun;have hs:=zcz (Q':=fun _ _ _=>True) hsim hk;unfold Oper.wp at hs ⊢;rw[hrun] at hs ⊢;rw[Oper.upon_value] at hs ⊢;obtain ⟨st',E',hj,hs⟩:=hs;have hB':Below w1.heap.size w1 (w.alloc (.cells cs t)):=hB.alloc hB.size _;refine ⟨hB',hj A0 Er w1 E' _ _ hB' hs fun d' hd'=>?_⟩;rw[hd];rcases zE.1 hd' with rfl | hd'
  ·refine ⟨w.heap.size,hB.size,?_⟩
   (have hlt:d'<a.tmps.size:=by rw[hsim.size];exact hds);simp[Act.put,hlt]
  obtain ⟨b,hb,hav⟩:=hF d' hd'
  have hne:d≠d':=fun e=>by
   subst e;(have:F.contains d=true:=by simpa using hd');rw[this] at hdF;cases hdF
  exact ⟨b,hb,by simp only[Act.put,Array.getElem?_setIfInBounds,if_neg hne];exact hav⟩
 ·rename_i t x y hop hd
  obtain ⟨hxF,hp,hk⟩:=h;obtain ⟨b,hb,hav⟩:=hF x (by simpa using hxF);have hex:a.eval (.tmp x)=.pointer (some ⟨b,0,none⟩):=by simp[Act.eval,Array.getD_eq_getD_getElem?,hav]
  have hrun:∃new,(execOp a.eval o).run P w=.ok .skip (w.setRow b new):=by
   have hk2:=hk;unfold aop at hk2;rw[hop] at hk2;(simp only at hk2);have hxr:=hsim.ev (.tmp x);have hxx:st.ev (.tmp x)=st.get x:=rfl
   cases hget:st.get x with
   | ptr id off =>
    rw[hxx,hget] at hxr hk2;rw[hex] at hxr
    cases hxr with
    | ptr hv =>
     unfold zfD at hk2;split at hk2
     case h_3=>exact hk2.elim
     case h_2=>rename_i heq;cases heq
     (rename_i agg n id2 off2 ht heq);(cases heq);split at hk2
     case h_2=>exact hk2.elim
     (rename_i t' cs hgo);obtain ⟨hf,hn,hle,hone,_⟩:=hk2;obtain ⟨h1,h2⟩:=(hsim.ev y).cl hf;obtain ⟨_,cur,hh,hsz,_⟩:=hsim.os.ok id _ hgo;obtain ⟨_,hsize,_⟩:=zb7 ht
     have h1v:∀v∈(a.eval y).cells.toList,v.oneCell'=true:=fun v hv=>by
      obtain ⟨i,hi,rfl⟩:=zS.1 hv;(have hi':i<(st.ev y).cl.length:=by rw[<- h1];simpa using hi);have hc:=za hi';exact (h2 i _ _ hc (by rw[<- zR];exact za hi)).oneCell (zV.1 hone _ (List.getElem_mem hi'))
     have hst:=run_storeCells_at P (E.blk id) 0 t' (a.eval y).cells.toList 0 cur w hh tz8 h1v;simp only[Nat.add_zero] at hst;obtain ⟨new,hst⟩:∃new,(storeCells ⟨E.blk id,0,none⟩ (a.eval y).cells.toList 0).run P w=.ok () (w.setRow (E.blk id) new):=⟨_,hst⟩
     have hr:(Instr.storeAt t (.pointer (some ⟨E.blk id,0,none⟩)) (a.eval y)).run P w=.ok () (w.setRow (E.blk id) new):=by
      simp only[Instr.storeAt,Instr.sureAddr,storeVar,Sem.run_bind,Sem.run_pure,Result.andThen_ok,hsize];rw[if_neg (by rw[h1,hn];simp)];simp only[Sem.run_bind,Sem.run_pure,Result.andThen_ok,hst]
     refine ⟨new,?_⟩;obtain ⟨dst,op,ty,pos,after,guard⟩:=o;(simp only at hop);subst hop;simp only[execOp,hex]
     exact unit _ _ hr
   | _=>rw[hget] at hp;cases hp
  obtain ⟨new,hrun⟩:=hrun;have hs:=zcz (Q':=fun _ _ _=>True) hsim hk;unfold Oper.wp at hs ⊢;rw[hrun] at hs ⊢;rw[Oper.upon_skip] at hs ⊢;obtain ⟨st',E',hj,hs⟩:=hs;have hB':Below w1.heap.size w1 (w.setRow b new):=hB.trans ⟨rfl,rfl,rfl,by simp[World.setRow],fun k hk=>setRow_other w _ k _ tz1⟩;refine ⟨hB',hj A0 Er w1 E' _ _ hB' hs fun d' hd'=>?_⟩;rw[hd];exact hF d' hd'
 exact h.elim
theorem zkz {rs:List Nat} (hr:Region.ready .any l.toArray listed=rs) (hne:rs≠[]) (h:∀i∈rs,jAt P l i F st fun F' st'=>JAny P l Q os1 F' fuel (listed.setIfInBounds i true) st'):JAny P l Q os1 F (fuel+1) listed st:=by
 intro A0 Er w1 E a w hB hsim hF;exact wpAnyH_all hr hne fun i hi=>JAny_at (h i hi) hB hsim hF
theorem zbn {i:Nat} (hr:Region.ready .any l.toArray listed=[i]) (h:jAt P l i F st fun F' st'=>JAny P l Q os1 F' fuel (listed.setIfInBounds i true) st'):JAny P l Q os1 F (fuel+1) listed st :=
 zkz hr tz4 (by simpa using h)
theorem ziB {i j:Nat} (hr:Region.ready .any l.toArray listed=[i,j]) (h:jAt P l i F st fun F' st'=>JAny P l Q os1 F' fuel (listed.setIfInBounds i true) st')
  (h2:jAt P l j F st fun F' st'=>JAny P l Q os1 F' fuel (listed.setIfInBounds j true) st'):JAny P l Q os1 F (fuel+1) listed st :=
 zkz hr tz4 (by simpa using ⟨h,h2⟩)
theorem zb8 {i:Nat} {K:List Nat->St->Prop} {o:Oper} {t d:Nat} (hi:l[i]?=some o) (hg:o.guard=none) (hop:o.op=.alloc t) (hd:o.dst=some d) (hds:d<st.sl.length) (hdF:F.contains d=false)
  (h:∀K':St->Prop,(∀st',K (d::F) st'->K' st')->aop P o st K'):jAt P l i F st K:=by
 unfold jAt;rw[hi];refine ⟨hg,?_⟩;rw[hop,hd];exact ⟨hds,hdF,h _ fun _ h=>h⟩
theorem zca {i:Nat} {K:List Nat->St->Prop} {o:Oper} {t x:Nat} {y:Operand} (hi:l[i]?=some o) (hg:o.guard=none) (hop:o.op=.store t (.tmp x) y) (hd:o.dst=none) (hxF:F.contains x=true) (hp:isP (st.get x)=true)
  (h:∀K':St->Prop,(∀st',K F st'->K' st')->aop P o st K'):jAt P l i F st K:=by
 unfold jAt;rw[hi];refine ⟨hg,?_⟩;rw[hop,hd];exact ⟨hxF,hp,h _ fun _ h=>h⟩
end
end Go.Proofs.YtpfiliamceimmaaGreatDoor
