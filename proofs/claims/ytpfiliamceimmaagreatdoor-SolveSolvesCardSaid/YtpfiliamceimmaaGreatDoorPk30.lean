/- packed, part 30 of 48. Conditions: none. -/
import Derived.Test.YtpfiliamceimmaaGreatDoorPk29
set_option linter.unusedVariables false
set_option linter.unusedSimpArgs false
namespace Go.Proofs.YtpfiliamceimmaaGreatDoor
open Go Go.RowKit
section
variable {P:Program} {l:List Oper} {Q:Exit->St->Prop} {H:Held} {fuel:Nat} {listed:Array Bool} {st:St}
theorem ziN {A0:Nat->Nat->Prop} {E0:Env} {os0:Os} {w0:World} {E:Env} {a:Act} {w:World} (hsim:SimC A0 E0 os0 w0 E st a w) {o:Oper} (hw:zfJ l o st=true):Region.wanted o (yielded l.toArray a.tmps)=true:=by
 (rcases zbL (T:=True) (F:=False) hsim (aWant_T hw trivial) with ⟨h1,_⟩ | ⟨_,h1⟩);(·exact h1);exact h1.elim
theorem zb0 (i:Nat) {o:Oper} (hi:l[i]?=some o) (hs:Region.noSelect l.toArray=true) (hf:Region.free .any l.toArray listed i=true) (hr:(Region.ready .any l.toArray listed).contains i=true)
  (hQ:∀c st,¬Q (.panic c) st) (hw:zfJ l o st=true) (h:∀K:St->Prop,(∀st',zcb P l Q H fuel (listed.setIfInBounds i true) st'->K st')->zfa P {o with guard:=none} st.ev fun x=>K (st.put o.dst x)):zcb P l Q H (fuel+1) listed st:=by
 intro A0 Er os0 w0 E a w hE hW hsim;have hwant:=ziN hsim hw;obtain ⟨x,v,hk,hrp,hy⟩:=zfd (l:=l) (o:={o with guard:=none}) hsim (h _ fun _ h=>h);refine wpAnyH_take (oi:=o) (v:=v) (by simpa using hi) hs hf hr ?_ (.inl ⟨hwant,fun w' _=>?_⟩) hW ?_;·rintro c a w ⟨st',E',hq,_⟩;exact absurd hq (hQ c st')
 ·rcases hy with ⟨_,hv⟩ | ⟨h1,_⟩
  (·exact hv w');simp[Region.wanted] at h1
 exact hk A0 Er os0 w0 E _ w hE hW (hsim.set hrp o.dst)
theorem zl1 (i:Nat) {o:Oper} (k:Nat) {id off:Nat} {vs:List AV} (hk:H[k]?=some (id,off,vs)) (hi:l[i]?=some o) (hs:Region.noSelect l.toArray=true) (hf:Region.free .any l.toArray listed i=true)
  (hr:(Region.ready .any l.toArray listed).contains i=true) (hQ:∀c st,¬Q (.panic c) st) (hw:zfJ l o st=true)
  (h:zcq P {o with guard:=none} st.ev st.os vs id off fun x=>zcb P l Q H fuel (listed.setIfInBounds i true) (st.put o.dst x)):zcb P l Q H (fuel+1) listed st:=by
 intro A0 Er os0 w0 E a w hE hW hsim;have he:=hsim.ext;have hwant:=ziN hsim hw;obtain ⟨dst,op,ty,pos,after,guard⟩:=o;obtain ⟨hg,hcu,hq⟩:=h;(simp only at hq);split at hq
 case h_2=>exact hq.elim
 (rename_i t x);split at hq
 case h_2=>exact hq.elim
 (rename_i agg n ht);obtain ⟨hx,hl,hK⟩:=hq;have hmem:=zc hk;obtain ⟨hv,hex⟩:=hE _ hmem;have hr0:=hsim.ev x;rw[hx] at hr0;generalize hu:a.eval x=u at hr0
 cases hr0 with
 | ptr hv' =>
  have hb:=he.blk _ hv
  -- the value in any world that holds the cells
  have load:∀w',zi7 Er H w'->∃v,(loadVar t ⟨Er.blk id,off,none⟩).run P w'=.ok v w'/\Rp Er (fun _ _=>False) w' (zbP agg vs) v:=fun w' hW'=>by
   obtain ⟨v,h1,h2⟩:=zbv (P:=P) (w:=w') (E:=Er) (A:=fun _ _=>False) ht (Er.blk id) off vs (fun j=>((vs[j]?).bind (zcF Er)).getD undef) hl (fun j c hj=>by
    have hxc:=hex c (zc hj)
    have:∃u,zcF Er c=some u:=by
     cases c with
     | v x=>exact ⟨_,rfl⟩
     | map id=>exact ⟨_,rfl⟩
     | ptr id off=>exact ⟨_,rfl⟩
     | own id n=>exact ⟨_,rfl⟩
     | _=>exact hxc.elim
    obtain ⟨u,hu⟩:=this;simp only[hj,Option.bind_some,hu,Option.getD_some]
    exact ⟨hW' _ hmem j c u hj hu,zkL hxc hu⟩)
   exact ⟨v,h1,h2⟩
  have hown:∀c,exOk Er c->∀id n,c=.own id n->Er.cnt id=n:=fun c hc id n e=>by subst e;exact hc.2.1
  -- it is one and the same
  have same:∀w' w'' v' v'',Rp Er (fun _ _=>False) w' (zbP agg vs) v'->Rp Er (fun _ _=>False) w'' (zbP agg vs) v''->agg=true\/vs.length=1->v'=v'':=by
   intro w' w'' v' v'' h1 h2 hc
   cases agg with
   | true =>
    simp only[zbP] at h1 h2
    cases h1 with
    | @agg _ us hs1 hr1=>cases h2 with
     | @agg _ us2 hs2 hr2 =>
      (congr 1);apply Array.ext;(·omega);intro j hj hj2;(have hjv:j<vs.length:=by omega);have hc1:=za hjv;have hxc:=hex _ (zc hc1);have e1:=zci hxc (.refl Er) (hown _ hxc) (hr1 j _ _ hc1 (zP hj));have e2:=zci hxc (.refl Er) (hown _ hxc) (hr2 j _ _ hc1 (zP hj2))
      exact Option.some.inj (e1.symm.trans e2)
   | false =>
    have hl1:vs.length=1:=by rcases hc with h | h;cases h;exact h
    match vs,hl1,hex,h1,h2 with
    | [c],_,hex,h1,h2 =>
     simp only[zbP] at h1 h2;have hxc:=hex c tz4;have e1:=zci hxc (.refl Er) (hown _ hxc) h1;have e2:=zci hxc (.refl Er) (hown _ hxc) h2;exact Option.some.inj (e1.symm.trans e2)
  (have hc:agg=true\/vs.length=1:=by cases agg <;> simp_all);obtain ⟨v,h1,h2⟩:=load w hW;refine wpAnyH_take (oi:={dst:=dst,op:=.load t x,type:=ty,pos:=pos,after:=after,guard:=guard}) (v:=v) (by simpa using hi) hs hf hr ?_ ?_ hW ?_;·rintro c a w ⟨st',E',hq,_⟩;exact absurd hq (hQ c st')
  ·refine .inl ⟨hwant,fun w' hW'=>?_⟩
   obtain ⟨v',h3,h4⟩:=load w' hW';obtain rfl:=same w' w v' v h4 h2 hc;simp only[execOp,hu,Instr.loadAt,Instr.sureAddr,Sem.run_bind,Sem.run_pure,Result.andThen_ok,hb,h3]
  refine hK A0 Er os0 w0 E _ w hE hW (hsim.set (x:=zbP agg vs) ?_ dst)
  have hp:∀{v},Rp Er (fun _ _=>False) w (zbP agg vs) v->Rp E (AvX A0 E st.os) w (zbP agg vs) v:=by
   intro v hr
   have one:∀c∈vs,∀u,Rp Er (fun _ _=>False) w c u->Rp E (AvX A0 E st.os) w c u:=fun c hc u hr=>by
    have hxc:=hex c hc
    cases c with
    | v y=>cases hr;exact .v _
    | map id=>cases hr;rw[<- he.blk _ hxc];exact .map (he.valid _ hxc)
    | ptr id off=>cases hr;rw[<- he.blk _ hxc];exact .ptr (he.valid _ hxc)
    | own id n =>
     have h9:=((hcu.mem _ hc).cnt hsim.os).1
     cases hr with
     | own hv hl hcur h1=>exact .own (he.valid _ hxc.1) (by rw[h9];exact zQ _) (fun _=>by rw[hcur hxc.2.1.symm,he.cur _ hxc.1 (by rw[h9,hxc.2.1])]) h1
    | _=>exact hxc.elim
   cases agg with
   | true =>
    simp only[zbP] at hr ⊢
    cases hr with
    | agg hs hr=>exact .agg hs fun i c u hc hu=>one c (zc hc) u (hr i c u hc hu)
   | false =>
    have hl1:vs.length=1:=by rcases hc with h | h;cases h;exact h
    match vs,hl1,one,hr with
    | [c],_,one,hr=>exact one c tz4 _ hr
  exact hp h2
theorem zgq (i:Nat) {o:Oper} (k:Nat) {id off:Nat} {vs:List AV} (hk:H[k]?=some (id,off,vs)) (hi:l[i]?=some o) (hs:Region.noSelect l.toArray=true) (hf:Region.free .any l.toArray listed i=true)
  (hr:(Region.ready .any l.toArray listed).contains i=true) (hQ:∀c st,¬Q (.panic c) st) (hw:zfJ l o st=true)
  (h:∀K:St->Prop,(∀st',zcb P l Q H fuel (listed.setIfInBounds i true) st'->K st')->zcq P {o with guard:=none} st.ev st.os vs id off fun x=>K (st.put o.dst x)):zcb P l Q H (fuel+1) listed st :=
 zl1 i k hk hi hs hf hr hQ hw (h _ fun _ h=>h)
theorem zaZ (i:Nat) {o:Oper} (hi:l[i]?=some o) (hs:Region.noSelect l.toArray=true) (hf:Region.free .any l.toArray listed i=true) (hr:(Region.ready .any l.toArray listed).contains i=true)
  (hQ:∀c st,¬Q (.panic c) st) (hw:wantF l o st=true) (h:zcb P l Q H fuel (listed.setIfInBounds i true) (st.put o.dst (.v undef))):zcb P l Q H (fuel+1) listed st:=by
 intro A0 Er os0 w0 E a w hE hW hsim
 have hwant:Region.wanted o (yielded l.toArray a.tmps)=false:=by
  (rcases zbL (T:=False) (F:=True) hsim (aWant_F hw trivial) with ⟨_,h1⟩ | ⟨h1,_⟩);(·exact h1.elim);exact h1
 refine wpAnyH_take (oi:=o) (v:=undef) (by simpa using hi) hs hf hr ?_ (.inr ⟨hwant,rfl⟩) hW ?_;(·rintro c a w ⟨st',E',hq,_⟩;exact absurd hq (hQ c st'));exact h A0 Er os0 w0 E _ w hE hW (hsim.set (.v _) o.dst)
end
end Go.Proofs.YtpfiliamceimmaaGreatDoor
