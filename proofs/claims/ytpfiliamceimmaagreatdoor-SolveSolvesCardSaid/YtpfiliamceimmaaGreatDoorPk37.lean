/- packed, part 37 of 48. Conditions: none. -/
import Derived.Test.YtpfiliamceimmaaGreatDoorPk36
import Derived.WideKeyEntry
set_option linter.unusedVariables false
set_option linter.unusedSimpArgs false
namespace Go.Proofs.YtpfiliamceimmaaGreatDoor
open Go Go.RowKit
theorem zfx {a:Act} {d:Nat} {v:Value} {y:Operand} (h:y≠.tmp d):(a.put (some d) v).eval y=a.eval y:=by
 cases y with
 | tmp t =>
  have:d≠t:=fun e=>h (by rw[e])
  simp[Act.eval,Act.put,Array.getD_eq_getD_getElem?,Array.getElem?_setIfInBounds_ne this]
 | _=>rfl
theorem zer {a:Act} {d:Nat} {v:Value} (h:d<a.tmps.size):(a.put (some d) v).eval (.tmp d)=v:=by
 simp[Act.eval,Act.put,Array.getD_eq_getD_getElem?,Array.getElem?_setIfInBounds,h]
theorem zki {P:Program} {E:Env} {A:Nat->Nat->Prop} {w:World} {b t kt et:Nat} {z:Value} {es:List (Int×AV)} {ents:Array MapEntry} {clock:Nat} (k:Int) (hut:P.underlying t=some (.map kt et)) (hku:P.underlying kt=some (.int .i64))
  (hzero:∀u:World,(zeroValue et).run P u=.ok z u) (hh:w.heap[b]?=some (.map ents clock)) (hsz:ents.size=es.length)
  (hent:∀(i:Nat) (p:Int×AV) (e:MapEntry),es[i]?=some p->ents[i]?=some e->e.key=.int .i64 p.1/\Rp E A w p.2 e.val) (hst:MapKept.Stamped ents clock) :
  ∃(v0:Value) (s:Nat) (m1:Obj),(Instr.mapEntry t (.map (some b)) (.int .i64 k)).run P w=.ok (.tuple #[v0,goInt s]) {w with heap:=w.heap.setIfInBounds b m1} /\
   ∀val:Value,∃m2:Obj,(Instr.mapUpdate t (.map (some b)) (.int .i64 k) val).run P w=.ok () {w with heap:=w.heap.setIfInBounds b m2} /\
    (Instr.entryStore t (.map (some b)) (goInt s) val).run P {w with heap:=w.heap.setIfInBounds b m1}=.ok () {w with heap:=w.heap.setIfInBounds b m2}:=by
 have hlt:b<w.heap.size:=(Array.getElem?_eq_some_iff.1 hh).1;(have hget:(getObj b).run P w=.ok (.map ents clock) w:=by simp[getObj,Sem.run,hh]);(have hset:∀o:Obj,(setObj b o).run P w=.ok () {w with heap:=w.heap.setIfInBounds b o}:=fun o=>by simp[setObj,Sem.run,hh]);have hget1:∀e c,(getObj b).run P {w with heap:=w.heap.setIfInBounds b (.map e c)}=.ok (.map e c) {w with heap:=w.heap.setIfInBounds b (.map e c)}:=fun e c=>by simp[getObj,Sem.run,hlt]
 have hset1:∀(e:Array MapEntry) (c:Nat) (o':Obj),(setObj b o').run P {w with heap:=w.heap.setIfInBounds b (.map e c)}=.ok () {w with heap:=w.heap.setIfInBounds b o'}:=fun e c o'=>by
  simp[setObj,Sem.run,hlt,Array.setIfInBounds_setIfInBounds]
 have hck:=zdk (P:=P) (w:=w) hku false k;obtain ⟨s1,s2,_⟩:=hst;rcases zcm (E:=E) (w:=w) k es ents.toList 0 (by simpa using hsz) (fun i p e hp he=>hent i p e hp (by simpa using he)) with ⟨h1,h2,hnk⟩ | ⟨i,y,e,h1,h2,h3,h4,h5,h6⟩
 ·refine ⟨z,clock,.map (ents.push ⟨.int .i64 k,z,clock⟩) (clock+1),?_,fun val=>⟨.map (ents.push ⟨.int .i64 k,val,clock⟩) (clock+1),?_,?_⟩⟩
  (·simp only[Instr.mapEntry,run_underlying hut,Sem.run_bind,Result.andThen_ok,hget,hck,Instr.findKey,run_underlying hku,h2,Sem.run_pure,hzero,hset]);·simp only[Instr.mapUpdate,run_underlying hut,Sem.run_bind,Result.andThen_ok,hget,hck,Instr.findKey,run_underlying hku,h2,Sem.run_pure,hset]
  have hidx:(ents.push ⟨.int .i64 k,z,clock⟩).findIdx? (fun e=>((e.born:Nat):Int)==((clock:Nat):Int))=some ents.size:=by
   rw[Go.WideElems.findIdx_arr]
   exact Go.WideElems.findIdx_born (l:=(ents.push ⟨.int .i64 k,z,clock⟩).toList) (j:=ents.size) (e0:=⟨.int .i64 k,z,clock⟩) (by
    simp only[Array.toList_push,zu,zt,zW];refine List.nodup_append.2 ⟨s2,by simp,fun a ha c hc e1=>?_⟩;simp only[List.mem_singleton] at hc;obtain ⟨x,hx,rfl⟩:=zq.1 ha;have:=s1 x hx
    omega) tz4
  have hmod:(ents.push ⟨.int .i64 k,z,clock⟩).modify ents.size (fun e=>{e with val:=val})=ents.push ⟨.int .i64 k,val,clock⟩:=by
   apply Array.ext';rw[Array.toList_modify,Array.toList_push,Array.toList_push,<- Array.length_toList,Go.WideElems.modify_last]
  simp only[Instr.entryStore,Sem.run_bind,Result.andThen_ok,hget1,asInt,asIntOf,goInt,Sem.run_pure,hidx,hmod,hset1]
 rw[zO] at h2;(have hi:i<ents.size:=by have:=(zb.1 h4).1;simpa using this);(have hei:ents[i]?=some e:=by simpa using h4);obtain ⟨hek,_⟩:=hent i _ e h3 hei;simp only at hek
 have hstay:(Instr.keyThatStays ((((ents[i]?).map (·.key))).getD (.int .i64 k)) (.int .i64 k)).run P w=.ok (.int .i64 k) w:=by
  (have key:∀d,Instr.sameBits (d+1) (.int .i64 k) (.int .i64 k)=true:=fun d=>by simp[Instr.sameBits]);have hsb:Instr.sameBits 10000 (.int .i64 k) (.int .i64 k)=true:=key 9999;simp only[hei,zY,Option.getD_some,hek,Instr.keyThatStays,hsb,if_true,Sem.run_pure]
 have hstay2:(Instr.keyThatStays e.key (.int .i64 k)).run P w=.ok (.int .i64 k) w:=by
  rw[hei] at hstay;simpa using hstay
 refine ⟨e.val,e.born,.map (ents.modify i fun e=>{e with key:=.int .i64 k}) clock,?_,fun val=>⟨.map (ents.modify i fun e=>{e with key:=.int .i64 k,val:=val}) clock,?_,?_⟩⟩;(·simp only[Instr.mapEntry,run_underlying hut,Sem.run_bind,Result.andThen_ok,hget,hck,Instr.findKey,run_underlying hku,h2,Sem.run_pure,hstay2,hset,hei,zY,Option.getD_some]);·simp only[Instr.mapUpdate,run_underlying hut,Sem.run_bind,Result.andThen_ok,hget,hck,Instr.findKey,run_underlying hku,h2,Sem.run_pure,hstay,hset]
 have hsame:ents.modify i (fun e=>{e with key:=.int .i64 k})=ents:=by
  apply Array.ext';rw[Array.toList_modify,Go.ChangeMaps.modify_eq_set _ _ _ _ h4];(have:({e with key:=.int .i64 k}:MapEntry)=e:=by rw[<- hek]);rw[this];exact Go.WideElems.set_self _ _ _ h4
 have hidx:ents.findIdx? (fun e'=>((e'.born:Nat):Int)==((e.born:Nat):Int))=some i:=by
  rw[Go.WideElems.findIdx_arr];exact Go.WideElems.findIdx_born s2 h4
 have hmod:ents.modify i (fun e=>{e with val:=val})=ents.modify i (fun e=>{e with key:=.int .i64 k,val:=val}):=by
  apply Array.ext';rw[Array.toList_modify,Array.toList_modify,Go.ChangeMaps.modify_eq_set _ _ _ _ h4,Go.ChangeMaps.modify_eq_set _ _ _ _ h4,<- hek]
 rw[hsame];simp only[Instr.entryStore,Sem.run_bind,Result.andThen_ok,hget1,asInt,asIntOf,goInt,Sem.run_pure,hidx,hmod,hset1]
def aInt (o:Op) (ev:Operand->AV) (K:AV->Prop):Prop :=
 match o with
 | .binOp .add _ x y _=>match ev x,ev y with
  | .v (.int k a),.v (.int k' b)=>k=k'/\K (.v (.int k (k.wrap (a+b))))
  | _,_=>False
 | .call {callee:=.builtin .min,args:=⟨[x,y]⟩,argTypes:=_}=>match ev x,ev y with
  | .v (.int k a),.v (.int k' b)=>k=k'/\K (.v (.int k (min a b)))
  | _,_=>False
 | _=>False
theorem zlt {P:Program} {A0:Nat->Nat->Prop} {E0:Env} {os0:Os} {w0:World} {E:Env} {st:St} {a:Act} {w:World} {o:Oper} {K:AV->Prop} (h:SimC A0 E0 os0 w0 E st a w) (hq:aInt o.op st.ev K) :
  ∃v,K (.v v)/\∀w',(execOp a.eval o).run P w'=.ok (.value v) w':=by
 obtain ⟨dst,op,ty,pos,after,guard⟩:=o;unfold aInt at hq;split at hq
 ·rename_i t x y t2 heq
  (simp only at heq;subst heq);split at hq
  case h_2=>exact hq.elim
  (rename_i k n k' m hx hy);obtain ⟨rfl,hq⟩:=hq;have hrx:=h.ev x;have hry:=h.ev y;rw[hx] at hrx;rw[hy] at hry;(generalize hux:a.eval x=u at hrx);(generalize huy:a.eval y=u2 at hry);(cases hrx;cases hry);refine ⟨_,hq,fun w'=>?_⟩;obtain ⟨r,z,h1,h2,h3⟩:=zg2 (P:=P) (w:=w') (E:=E) (A:=fun _ _=>False) (op:=.add) (t:=t) (p:=x) (q:=y) (K:=fun r=>r=.v (.int k (k.wrap (n+m)))) (Rp.v (.int k n)) (Rp.v (.int k m)) (by simp[aBin]);subst h3;(cases h2);simp only[execOp,hux,huy];simp only[Sem.run_bind] at h1 ⊢;rw[h1];simp only[Result.andThen_ok,Sem.run_pure]
 ·rename_i x y tys heq
  (simp only at heq;subst heq);split at hq
  case h_2=>exact hq.elim
  (rename_i k n k' m hx hy);obtain ⟨rfl,hq⟩:=hq;have hrx:=h.ev x;have hry:=h.ev y;rw[hx] at hrx;rw[hy] at hry;(generalize hux:a.eval x=u at hrx);(generalize huy:a.eval y=u2 at hry);(cases hrx;cases hry);refine ⟨_,hq,fun w'=>?_⟩;obtain ⟨r,z,h1,h2,h3⟩:=zf7 (P:=P) (w:=w') (E:=E) (A:=fun _ _=>False) (o:={dst:=dst,op:=.call {callee:=.builtin .min,args:=⟨[x,y]⟩,argTypes:=tys},type:=ty,pos:=pos,after:=after,guard:=guard}) (ev:=fun z=>.v (a.eval z)) (ρ:=a.eval) (K:=fun r=>r=.v (.int k (min n m))) (fun z=>Rp.v _) (by simp[zeN,zct,hux,huy]);subst h3;(cases h2);exact h1
 exact hq.elim
theorem zhm {P:Program} {l:List Oper} {Q:Exit->St->Prop} {H:Held} {fuel:Nat} {listed:Array Bool} {st:St} (i:Nat) {o:Oper} (hi:l[i]?=some o) (hg:o.guard=none) (hs:Region.noSelect l.toArray=true) (hf:Region.free .any l.toArray listed i=true) (hr:(Region.ready .any l.toArray listed).contains i=true)
  (hQ:∀c st,¬Q (.panic c) st) (h:∀K:St->Prop,(∀st',zcb P l Q H fuel (listed.setIfInBounds i true) st'->K st')->aInt o.op st.ev fun x=>K (st.put o.dst x)):zcb P l Q H (fuel+1) listed st:=by
 intro A0 Er os0 w0 E a w hE hW hsim;obtain ⟨v,hk,hrun⟩:=zlt (P:=P) hsim (h _ fun _ h=>h);refine wpAnyH_take (oi:=o) (v:=v) (by simpa using hi) hs hf hr ?_ (.inl ⟨by simp[Region.wanted,hg],fun w' _=>hrun w'⟩) hW ?_;(·rintro c a w ⟨st',E',hq,_⟩;exact absurd hq (hQ c st'));exact hk A0 Er os0 w0 E _ w hE hW (hsim.set (.v _) o.dst)
section
variable {P:Program} {l:List Oper} {Q:Exit->St->Prop} {H:Held} {fuel:Nat} {listed:Array Bool} {st:St}
theorem zhj {i j k t id:Nat} {oi oj ok:Oper} {m key m2 x:Operand} {d1 d2:Nat} {es:List (Int×AV)} {kk:Int} {z:Value} (hi:l[i]?=some oi) (hj:l[j]?=some oj) (hk:l[k]?=some ok)
  (hr1:Region.ready .any l.toArray listed=[i]) (hr2:Region.ready .any l.toArray (listed.setIfInBounds i true)=[j]) (hr3:Region.ready .any l.toArray ((listed.setIfInBounds i true).setIfInBounds j true)=[k])
  (e1:oi.op=.mapEntry t m key/\oi.guard=none/\oi.dst=some d1) (e2:oj.op=.extract (.tmp d1) 1/\oj.guard=none/\oj.dst=some d2) (e3:ok.op=.entryStore t m2 (.tmp d2) x/\ok.guard=none/\ok.dst=none)
  (hd:d1<st.sl.length/\d2<st.sl.length/\d1≠d2) (hn:m2≠.tmp d1/\m2≠.tmp d2/\x≠.tmp d1/\x≠.tmp d2)
  (hm:st.ev m=.map id) (hm2:st.ev m2=.map id) (hkey:st.ev key=.v (.int .i64 kk)) (hz:mapZ P t=some z) (hg:zav st.os id=some (.map es))
  (h:HeldS H ⟨(st.sl.set d1 .any).set d2 .any,zam st.os id (.map (zef es kk (st.ev x))),st.nx,st.n0⟩ /\
   zcb P l Q H fuel (((listed.setIfInBounds i true).setIfInBounds j true).setIfInBounds k true) ⟨(st.sl.set d1 .any).set d2 .any,zam st.os id (.map (zef es kk (st.ev x))),st.nx,st.n0⟩):zcb P l Q H (fuel+3) listed st:=by
 intro A0 Er os0 w0 E a w hE hW hsim;obtain ⟨hS,hA⟩:=h;have he:=hsim.ext;have hmr:=hsim.ev m;rw[hm] at hmr;(generalize hu:a.eval m=u at hmr);have hmr2:=hsim.ev m2;rw[hm2] at hmr2;(generalize hu2:a.eval m2=u2 at hmr2);have hkr:=hsim.ev key;rw[hkey] at hkr;(generalize hv:a.eval key=v at hkr);(cases hmr);(cases hmr2);(cases hkr);obtain ⟨hvv,ents,clock,hh,hsz,hent,hstm⟩:=hsim.os.ok id _ hg;obtain ⟨kt,et,inf,hut,hku,hinf,hzero⟩:=zgp hz;obtain ⟨v0,s,m1,hrun1,hrest⟩:=zki (P:=P) (E:=E) (z:=z) kk hut hku (fun u=>by simp[zeroValue,typeInfo,hinf,hzero]) hh hsz hent hstm;obtain ⟨mo,hupd,hrun3⟩:=hrest (a.eval x)
 have unit:∀(s:Sem Unit) (w w':World),s.run P w=.ok () w'->((do s;pure .skip):Sem Next).run P w=.ok .skip w':=fun s w w' h=>by
  simp only[Sem.run_bind,h,Result.andThen_ok,Sem.run_pure]
 have val:∀(s:Sem Value) (v:Value) (w w':World),s.run P w=.ok v w'->((do pure (.value (<- s))):Sem Next).run P w=.ok (.value v) w':=fun s v w w' h=>by
  simp only[Sem.run_bind,h,Result.andThen_ok,Sem.run_pure]
 -- the end,by the update's own law
 have hwp:(Oper.mk none (.mapUpdate t m key x) 0 ok.pos #[] none).wp P a w (fun a' w'=>∃st' E',st'=({st with os:=zam st.os id (.map (zef es kk (st.ev x)))}:St)/\SimC A0 Er os0 w0 E' st' a' w') (fun _ _ _=>False):=zcz hsim (by
  (show zdj P t (st.ev m) (st.ev key) (st.ev x) st _);rw[hm,hkey]
  simp only[zdj,hz,hg];first | done | rfl)
 unfold Oper.wp at hwp;simp only[execOp,hu,hv,unit _ _ _ hupd,Oper.upon_skip] at hwp;obtain ⟨st',E',rfl,hs⟩:=hwp;have hs3:=(hs.set (x:=.any) (.any (.tuple #[v0,goInt s])) (some d1)).set (x:=.any) (.any (goInt s)) (some d2);have hW3:=zhK hs3 hS hs3.ext hE
 have hW1:zi7 Er H {w with heap:=w.heap.setIfInBounds (E.blk id) m1}:=fun p hp q c y hc hy=>by
  have h9:=hW p hp q c y hc hy;obtain ⟨t',cs,hgp,_⟩:=hS.mem p hp
  have hne:p.1≠id:=fun e=>by
   rw[e] at hgp;simp only[zba,if_true] at hgp;cases hgp
  simp only[zba,if_neg hne] at hgp;(have hbk:Er.blk p.1≠E.blk id:=fun e=>hne (hsim.os.inj p.1 id _ _ (E.blk id) hgp hg (by rw[<- e,<- he.blk _ (hE p hp).1];rfl) rfl));rw[<- h9];exact World.cell?_of_block (by rw[Array.getElem?_setIfInBounds,if_neg (fun (e:E.blk id=Er.blk p.1)=>hbk e.symm)])
 have hts:=hsim.size;(have hgd:∀(o:Oper) (b:Act),o.guard=none->Region.wanted o (yielded l.toArray b.tmps)=true:=fun o b h=>by simp[Region.wanted,h]);refine wpAnyH_all hr1 tz4 fun i' hi'=>?_;(obtain rfl:i'=i:=by simpa using hi');unfold wpOp;simp only[zX,hi,hgd oi a e1.2.1,if_true];refine .inl ?_;unfold Oper.wp;obtain ⟨dst1,op1,ty1,pos1,af1,g1⟩:=oi;obtain ⟨rfl,rfl,rfl⟩:=e1;simp only[execOp,hu,hv,val _ _ _ _ hrun1,Oper.upon_value];refine ⟨hW1,wpAnyH_all hr2 tz4 fun j' hj'=>?_⟩;(obtain rfl:j'=j:=by simpa using hj');unfold wpOp;simp only[zX,hj,hgd oj _ e2.2.1,if_true];refine .inl ?_;unfold Oper.wp;obtain ⟨dst2,op2,ty2,pos2,af2,g2⟩:=oj;obtain ⟨rfl,rfl,rfl⟩:=e2
 have hx2:(execOp (a.put (some d1) (.tuple #[v0,goInt s])).eval {dst:=some d2,op:=.extract (.tmp d1) 1,type:=ty2,pos:=pos2,after:=af2,guard:=none}).run P {w with heap:=w.heap.setIfInBounds (E.blk id) m1}=.ok (.value (goInt s)) {w with heap:=w.heap.setIfInBounds (E.blk id) m1}:=by
  simp[execOp,zer (show d1<a.tmps.size by omega),Instr.extract]
 rw[hx2];simp only[Oper.upon_value];refine ⟨hW1,wpAnyH_all hr3 tz4 fun k' hk'=>?_⟩;(obtain rfl:k'=k:=by simpa using hk');unfold wpOp;simp only[zX,hk,hgd ok _ e3.2.1,if_true];refine .inl ?_;unfold Oper.wp;obtain ⟨dst3,op3,ty3,pos3,af3,g3⟩:=ok;obtain ⟨rfl,rfl,rfl⟩:=e3;(have hz1:((a.put (some d1) (.tuple #[v0,goInt s])).put (some d2) (goInt s)).eval m2=.map (some (E.blk id)):=by rw[zfx hn.2.1,zfx hn.1,hu2]);(have hz2:((a.put (some d1) (.tuple #[v0,goInt s])).put (some d2) (goInt s)).eval x=a.eval x:=by rw[zfx hn.2.2.2,zfx hn.2.2.1]);have hz3:((a.put (some d1) (.tuple #[v0,goInt s])).put (some d2) (goInt s)).eval (.tmp d2)=goInt s:=zer (by simp only[Act.put,Array.size_setIfInBounds];omega);simp only[execOp,hz1,hz2,hz3,unit _ _ _ hrun3,Oper.upon_skip];exact ⟨hW3,hA A0 Er os0 w0 _ _ _ hE hW3 hs3⟩
end
end Go.Proofs.YtpfiliamceimmaaGreatDoor
