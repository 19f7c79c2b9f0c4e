/- packed, part 24 of 48. Conditions: none. -/
import Derived.Test.YtpfiliamceimmaaGreatDoorPk23
set_option linter.unusedVariables false
set_option linter.unusedSimpArgs false
namespace Go.Proofs.YtpfiliamceimmaaGreatDoor
open Go Go.RowKit
theorem Weak.ren {st st':St} (σ:Nat->Nat) (hσ:∀i,σ (σ i)=i) (h0:∀i,i<st.n0->σ i=i) (hn:∀i,i<st.nx->σ i<st.nx) (hl:RenL σ st.sl st'.sl)
  (ho:∀id ob',zav st'.os id=some ob'->∃ob,zav st.os (σ id)=some ob/\RenO σ (σ id) ob ob') (hnx:st'.nx=st.nx) (hn0:st'.n0=st.n0):Weak st st':=by
 intro A0 E0 os0 w0 E a w hs
 have hE:(E.pull σ).pull σ=E:=by
  obtain ⟨v,b,c,n⟩:=E;simp only[Env.pull,hσ]
 have hblk:∀id ob' ob,RenO σ (σ id) ob ob'->ob'.blk (E.pull σ) id=ob.blk E (σ id):=fun id ob' ob h=>by
  have:=h.blk (E.pull σ)
  rwa [hσ,hE] at this
 have hav:∀b o,Av (E.pull σ) st'.os b o->Av E st.os b o:=by
  rintro b o ⟨id,ob',hg,hb,ha⟩;obtain ⟨ob,h1,h2⟩:=ho id ob' hg;exact ⟨σ id,ob,h1,by rw[<- hblk id ob' ob h2];exact hb,by rw[<- h2.av];exact ha⟩
 (have hAX:∀b o,AvX A0 (E.pull σ) st'.os b o->AvX A0 E st.os b o:=fun b o ha=>ha.imp (fun h=>h) (hav b o));refine ⟨E.pull σ,?_⟩;refine {size:=by rw[hs.size,hl.length],sl:=fun i c u hc hu=>?_,os:=?_,nx:=fun id=>?_,defers:=hs.defers,ext:=?_,stp:=hs.stp,sub:=fun b o ha=>hs.sub b o (hav b o ha),base:=by rw[hn0];exact hs.base}
 ·obtain ⟨x,hx,hr⟩:=hl.get' i c hc
  have h1:=hs.sl i x u hx hu;have h2:=(hr (E.pull σ) (AvX A0 E st.os) w u).1 (by rw[hE];exact h1);exact h2.mono hAX
 ·refine ⟨fun id ob' hg=>?_,fun i j oi oj b hi hj hbi hbj=>?_,fun id ob' b hg hb=>?_,hs.os.bnd⟩
  ·obtain ⟨ob,h1,h2⟩:=ho id ob' hg
   obtain ⟨h3,h4⟩:=hs.os.ok (σ id) ob h1;refine ⟨h3,?_⟩;have h5:=(h2.ok (E.pull σ) (AvX A0 E st.os) w).1 (by rw[hE];exact h4);rw[hσ] at h5;exact Ob.ok_step h5 h3 (.refl _) (.refl _ w) (fun b o ha=>.inl (hAX b o ha)) rfl (fun _ _=>rfl)
  ·obtain ⟨ox,h1,h2⟩:=ho i oi hi
   obtain ⟨oy,h3,h4⟩:=ho j oj hj;have:=hs.os.inj (σ i) (σ j) ox oy b h1 h3 (by rw[<- hblk i oi ox h2];exact hbi) (by rw[<- hblk j oj oy h4];exact hbj);rw[<- hσ i,this,hσ]
  obtain ⟨ob,h1,h2⟩:=ho id ob' hg;exact hs.os.out (σ id) ob b h1 (by rw[<- hblk id ob' ob h2];exact hb)
 ·rw[hnx]
  (show E.valid (σ id)↔id<st.nx);rw[hs.nx (σ id)];exact ⟨fun h=>by have:=hn _ h;rwa [hσ] at this,fun h=>hn _ h⟩
 refine ⟨fun id hv=>?_,fun id hv=>?_,fun id hv=>?_,fun id hv=>?_⟩;(·show E.valid (σ id);rw[h0 id (hs.base id hv)];exact hs.ext.valid id hv);(·show E.blk (σ id)=E0.blk id;rw[h0 id (hs.base id hv)];exact hs.ext.blk id hv);(·show E0.cnt id<=E.cnt (σ id);rw[h0 id (hs.base id hv)];exact hs.ext.cnt id hv);show E.cnt (σ id)=E0.cnt id->E.cur (σ id)=E0.cur id;rw[h0 id (hs.base id hv)];exact hs.ext.cur id hv
def zde (i j k:Nat):Nat:=if k=i then j else if k=j then i else k
theorem zgM (i j k:Nat):zde i j (zde i j k)=k:=by
 unfold zde;(repeat' split);all_goals omega
theorem Data.eptr {cs:List AV} (h:DataL cs):Data (.eptr cs):=fun E E' A w u hr=>by
 cases hr with
 | eptr g hcell hr=>exact .eptr g hcell fun j c hj=>h c (zc hj) E E' A w _ (hr j c hj)
mutual
def zfu (σ:Nat->Nat):AV->AV->Bool
 | .any,.any=>true
 | .v x,.v y=>vEq x y
 | .agg l,.agg m=>zgv σ l m
 | .tup l,.tup m=>zgv σ l m
 | .clo f l,.clo g m=>f==g&&zgv σ l m
 | .sl n l,.sl k m=>n==k&&AV.dataLLB l&&AV.eqLLB l m
 | .osl i n l,.osl j k m=>σ i==j&&n==k&&AV.dataLLB l&&AV.eqLLB l m
 | .ptr i n,.ptr j k=>σ i==j&&n==k
 | .map i,.map j=>σ i==j
 | .own i n,.own j k=>σ i==j&&n==k
 | .eptr l,.eptr m=>AV.dataLB l&&AV.eqLB l m
 | _,_=>false
def zgv (σ:Nat->Nat):List AV->List AV->Bool
 | [],[]=>true
 | x::l,y::m=>zfu σ x y&&zgv σ l m
 | _,_=>false
end
mutual
theorem zlq (σ:Nat->Nat):∀x y:AV,zfu σ x y=true->RenV σ x y
 | .any,y,h=>by
  cases y with
  | any=>exact .any
  | _=>simp[zfu] at h
 | .v x,y,h=>by
  cases y with
  | v y=>rw[zfu] at h;rw[ziI h];exact .v y
  | _=>simp[zfu] at h
 | .agg l,y,h=>by
  cases y with
  | agg m=>rw[zfu] at h;exact .agg (zb2 σ l m h)
  | _=>simp[zfu] at h
 | .tup l,y,h=>by
  cases y with
  | tup m=>rw[zfu] at h;exact .tup (zb2 σ l m h)
  | _=>simp[zfu] at h
 | .clo f l,y,h=>by
  cases y with
  | clo g m=>simp only[zfu,zy,beq_iff_eq] at h;rw[h.1];exact .clo (zb2 σ l m h.2)
  | _=>simp[zfu] at h
 | .sl n l,y,h=>by
  cases y with
  | sl k m =>
   simp only[zfu,zy,beq_iff_eq] at h;rw[<- AV.eqLLB_sound l m h.2,h.1.1]
   exact .data (.sl (AV.dataLLB_sound l h.1.2))
  | _=>simp[zfu] at h
 | .osl i n l,y,h=>by
  cases y with
  | osl j k m =>
   simp only[zfu,zy,beq_iff_eq] at h;rw[<- AV.eqLLB_sound l m h.2,h.1.1.2]
   exact .osl h.1.1.1 (AV.dataLLB_sound l h.1.2)
  | _=>simp[zfu] at h
 | .ptr i n,y,h=>by
  cases y with
  | ptr j k=>simp only[zfu,zy,beq_iff_eq] at h;rw[h.2];exact .ptr h.1
  | _=>simp[zfu] at h
 | .map i,y,h=>by
  cases y with
  | map j=>simp only[zfu,beq_iff_eq] at h;exact .map h
  | _=>simp[zfu] at h
 | .own i n,y,h=>by
  cases y with
  | own j k=>simp only[zfu,zy,beq_iff_eq] at h;rw[h.2];exact .own h.1
  | _=>simp[zfu] at h
 | .rptr a b c d e,y,h=>by simp[zfu] at h
 | .eptr l,y,h=>by
  cases y with
  | eptr m =>
   simp only[zfu,zy] at h;rw[<- AV.eqLB_sound l m h.2]
   exact .data (.eptr (AV.dataLB_sound l h.1))
  | _=>simp[zfu] at h
theorem zb2 (σ:Nat->Nat):∀x y:List AV,zgv σ x y=true->RenL σ x y
 | [],[],_=>trivial
 | [],_::_,h=>by simp[zgv] at h
 | _::_,[],h=>by simp[zgv] at h
 | x::l,y::m,h=>by
  rw[zgv,zy] at h;exact ⟨zlq σ x y h.1,zb2 σ l m h.2⟩
end
def renOB (σ:Nat->Nat):Ob->Ob->Bool
 | .cells t l,.cells u m=>t==u&&zgv σ l m
 | .tok a b c,.tok a' b' c'=>a==a'&&b==b'&&c==c'
 | .row a b l,.row a' b' m=>a==a'&&b==b'&&AV.dataLLB l&&AV.eqLLB l m
 | .map l,.map m=>AV.dataLB (l.map (·.2))&&l.map (·.1)==m.map (·.1)&&AV.eqLB (l.map (·.2)) (m.map (·.2))
 | _,_=>false
theorem zkn {σ:Nat->Nat} {i:Nat} {x y:Ob} (h:renOB σ x y=true):RenO σ i x y:=by
 (cases x <;> cases y <;> simp only[renOB,zy,beq_iff_eq,zL] at h);(·rw[h.1];exact .cells (zb2 σ _ _ h.2));(·rw[h.1.1,h.1.2,h.2];exact .tok);(·rw[h.1.1.1,h.1.1.2,<- AV.eqLLB_sound _ _ h.2];exact .row (AV.dataLLB_sound _ h.1.2));rw[zhQ h.1.2 (AV.eqLB_sound _ _ h.2)];(rename_i m);refine .map fun p hp=>?_;have h1:=AV.dataLB_sound _ h.1.1;rw[AV.eqLB_sound _ _ h.2] at h1;exact h1 _ (List.mem_map_of_mem hp)
def zkQ (i j:Nat) (s t:St):Bool :=
 (i==j||decide (s.n0<=i/\s.n0<=j/\i<s.nx/\j<s.nx))&&zgv (zde i j) s.sl t.sl&&(t.os.all fun p=>match zav s.os (zde i j p.1) with | some ob=>renOB (zde i j) ob p.2 | none=>false)&&t.nx==s.nx&&t.n0==s.n0
theorem zla:∀{os:Os} {id:Nat} {ob:Ob},zav os id=some ob->(id,ob)∈os
 | (i,o)::os,id,ob,h=>by
  simp only[zav] at h;(split at h);(·rename_i e;cases h;subst e;simp);exact List.mem_cons_of_mem _ (zla h)
theorem ze8 {i j:Nat} {s t:St} (h:zkQ i j s t=true):Weak s t:=by
 simp only[zkQ,zy,Bool.or_eq_true,beq_iff_eq,zd] at h;obtain ⟨⟨⟨⟨h1,h2⟩,h3⟩,h4⟩,h5⟩:=h;refine Weak.ren (zde i j) (zgM i j) (fun k hk=>?_) (fun k hk=>?_) (zb2 _ _ _ h2) (fun id ob' hg=>?_) h4 h5
 ·unfold zde
  (repeat' split);all_goals omega
 ·unfold zde
  (repeat' split);all_goals omega
 have h6:=zV.1 h3 _ (zla hg);(simp only at h6);(split at h6);(·rename_i ob ho;exact ⟨ob,ho,zkn h6⟩);cases h6
def weakB (s t:St):Bool:=St.eqB s t||zkQ 0 0 s t||((List.range (s.nx-s.n0)).any fun i=>(List.range i).any fun j=>zkQ (s.n0+i) (s.n0+j) s t)
theorem zkf {s t:St} (h:weakB s t=true):Weak s t:=by
 simp only[weakB,Bool.or_eq_true,List.any_eq_true] at h;(rcases h with (h | h) | ⟨i,_,j,_,h⟩);(·rw[St.eqB_sound h];exact .refl _);(·exact ze8 h);exact ze8 h
mutual
def undB (n:Nat):AV->Bool
 | .any | .v _=>true
 | .agg cs | .tup cs | .clo _ cs=>zka n cs
 | .sl _ xs=>zgG n xs
 | .osl id _ xs=>decide (id<n)&&zgG n xs
 | .own id _ | .ptr id _ | .map id=>decide (id<n)
 | .rptr .. | .eptr ..=>false
def zka (n:Nat):List AV->Bool
 | []=>true
 | x::xs=>undB n x&&zka n xs
def zgG (n:Nat):List (List AV)->Bool
 | []=>true
 | x::xs=>zka n x&&zgG n xs
end
mutual
theorem zg0 (n:Nat):∀x:AV,undB n x=true->Und n x
 | .any,_=>.any n
 | .v x,_=>.v n x
 | .agg cs,h=>.agg (zbJ n cs (by rw[undB] at h;exact h))
 | .tup cs,h=>.tup (zbJ n cs (by rw[undB] at h;exact h))
 | .clo f cs,h=>.clo (zbJ n cs (by rw[undB] at h;exact h))
 | .sl sz xs,h=>.sl (zcI n xs (by rw[undB] at h;exact h))
 | .osl id sz xs,h=>by
  rw[undB,zy,zd] at h
  exact .osl h.1 (.sl (zcI n xs h.2))
 | .own id k,h=>.own (by simpa [undB] using h)
 | .ptr id k,h=>.ptr (by simpa [undB] using h)
 | .map id,h=>.map (by simpa [undB] using h)
 | .rptr ..,h | .eptr ..,h=>by simp[undB] at h
theorem zbJ (n:Nat):∀l:List AV,zka n l=true->UndL n l
 | [],_=>trivial
 | x::xs,h=>by
  rw[zka,zy] at h;exact ⟨zg0 n x h.1,zbJ n xs h.2⟩
theorem zcI (n:Nat):∀l:List (List AV),zgG n l=true->∀x∈l,UndL n x
 | [],_=>fun x h=>by cases h
 | y::ys,h=>fun x hx=>by
  rw[zgG,zy] at h;(rcases zE.1 hx with e | hx);(·rw[e];exact zbJ n y h.1);exact zcI n ys h.2 x hx
end
def zkT (n:Nat):Os->Bool
 | []=>true
 | (id,ob)::os=>decide (id<n)&&(match ob with | .cells _ cs=>zka n cs | .tok ..=>true | .row _ _ xs=>zgG n xs | .map es=>zka n (es.map (·.2)))&&zkT n os
theorem zfh {n:Nat}:∀{os:Os},zkT n os=true->UndOs n os
 | [],_=>trivial
 | (id,ob)::os,h=>by
  simp only[zkT,zy,zd] at h;refine ⟨h.1.1,?_,zfh h.2⟩;have h2:=h.1.2
  cases ob with
  | cells t cs=>exact zbJ n cs h2
  | tok=>trivial
  | row t sz xs=>exact zcI n xs h2
  | map es=>exact fun p hp=>(zbJ n _ h2).mem _ (List.mem_map_of_mem hp)
def zj4 (n:Nat):Os->Nat
 | []=>0
 | (id,_)::os=>if n<=id then zj4 n os+1 else 0
theorem zhn (n:Nat):∀os:Os,((os.take (zj4 n os)).all fun p=>decide (n<=p.1))=true
 | []=>rfl
 | (id,ob)::os=>by
  rw[zj4];split
  ·rename_i h
   rw[List.take_succ_cons,List.all_cons,zhn n os];simp[h]
  rfl
def zeu (n:Nat) (p:AV×Os×Nat):AV×Os×Nat :=
 if undB n p.1=true/\zkT n (p.2.1.drop (zj4 n p.2.1))=true/\n<=p.2.2 then (p.1,p.2.1.drop (zj4 n p.2.1),n) else p
theorem zit {P:Program} {f:Nat} {args:List AV} {os:Os} {nx:Nat} {p:AV×Os×Nat} (h:ACalls P f args os nx fun r1 os1 nx1=>r1=p.1/\os1=p.2.1/\nx1=p.2.2) :
  ACalls P f args os nx fun r1 os1 nx1=>r1=(zeu nx p).1/\os1=(zeu nx p).2.1/\nx1=(zeu nx p).2.2:=by
 unfold zeu;split
 ·rename_i hc
  have:=ACalls.clean (C:=fun r os=>r=p.1/\os=p.2.1.drop (zj4 nx p.2.1)) (h.mono fun r1 os1 nx1 hh=>by
   obtain ⟨rfl,rfl,rfl⟩:=hh
   exact ⟨p.1,_,⟨rfl,rfl⟩,zg0 _ _ hc.1,zfh hc.2.1,.refl _,⟨zj4 nx p.2.1,rfl,zhn nx p.2.1⟩,hc.2.2⟩)
  exact this.mono fun r1 os1 nx1 hh=>⟨hh.1.1,hh.1.2,hh.2⟩
 exact h
theorem zjo {P:Program} {l:List Oper} {Q:Exit->St->Prop} {H:Held} {fuel:Nat} {listed:Array Bool} {st st':St} (hw:Weak st st') (h:zcb P l Q H fuel listed st'):zcb P l Q H fuel listed st:=by
 intro A0 Er os0 w0 E a w hE hW hs;obtain ⟨E',hs'⟩:=hw _ _ _ _ _ _ _ hs;exact h A0 Er os0 w0 E' a w hE hW hs'
end Go.Proofs.YtpfiliamceimmaaGreatDoor
