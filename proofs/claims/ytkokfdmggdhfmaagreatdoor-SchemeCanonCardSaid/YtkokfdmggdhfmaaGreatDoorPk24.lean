/- packed, part 24 of 47. Conditions: none. -/
import Derived.Test.YtkokfdmggdhfmaaGreatDoorPk23
set_option linter.unusedVariables false
set_option linter.unusedSimpArgs false
set_option linter.unnecessarySimpa false
namespace Go.Proofs.YtkokfdmggdhfmaaGreatDoor
open Go Go.RowKit
theorem Weak.ren {st st':St} (σ:Nat->Nat) (hσ:∀i,σ (σ i)=i) (h0:∀i,i<st.n0->σ i=i) (hn:∀i,i<st.nx->σ i<st.nx) (hl:RenL σ st.sl st'.sl)
  (ho:∀id ob',zaa st'.os id=some ob'->∃ob,zaa st.os (σ id)=some ob/\RenO σ (σ id) ob ob') (hnx:st'.nx=st.nx) (hn0:st'.n0=st.n0):Weak st st':=by
 intro A0 E0 os0 w0 E a w hs
 have hE:(E.pull σ).pull σ=E:=by
  obtain ⟨v,b,c,n⟩:=E;simp only[Env.pull,hσ]
 have hblk:∀id ob' ob,RenO σ (σ id) ob ob'->ob'.blk (E.pull σ) id=ob.blk E (σ id):=fun id ob' ob h=>by
  have:=h.blk (E.pull σ)
  rwa [hσ,hE] at this
 have hav:∀b o,Av (E.pull σ) st'.os b o->Av E st.os b o:=by
  rintro b o ⟨id,ob',hg,hb,ha⟩;obtain ⟨ob,h1,h2⟩:=ho id ob' hg;exact ⟨σ id,ob,h1,by rw[<- hblk id ob' ob h2];exact hb,by rw[<- h2.av];exact ha⟩
 (have hAX:∀b o,AvX A0 (E.pull σ) st'.os b o->AvX A0 E st.os b o:=fun b o ha=>ha.imp (fun h=>h) (hav b o));refine ⟨E.pull σ,?_⟩;refine {size:=by rw[hs.size,hl.length],sl:=fun i c u hc hu=>?_,os:=?_,nx:=fun id=>?_,defers:=hs.defers,ext:=?_,stp:=hs.stp,sub:=fun b o ha=>hs.sub b o (hav b o ha),base:=by rw[hn0];exact hs.base}
 ·obtain ⟨x,hx,hr⟩:=hl.get' i c hc
  have h1:=hs.sl i x u hx hu;have h2:=(hr (E.pull σ) (AvX A0 E st.os) w u).1 (by rw[hE];exact h1);exact h2.mono hAX
 ·refine ⟨fun id ob' hg=>?_,fun i j oi oj b hi hj hbi hbj=>?_,fun id ob' b hg hb=>?_,hs.os.bnd,hs.os.gl.mono hAX⟩
  ·obtain ⟨ob,h1,h2⟩:=ho id ob' hg
   obtain ⟨h3,h4⟩:=hs.os.ok (σ id) ob h1;refine ⟨h3,?_⟩;have h5:=(h2.ok (E.pull σ) (AvX A0 E st.os) w).1 (by rw[hE];exact h4);rw[hσ] at h5;exact Ob.ok_step h5 h3 (.refl _) (.refl _ w) (fun b o ha=>.inl (hAX b o ha)) rfl (fun _ _=>rfl)
  ·obtain ⟨ox,h1,h2⟩:=ho i oi hi
   obtain ⟨oy,h3,h4⟩:=ho j oj hj;have:=hs.os.inj (σ i) (σ j) ox oy b h1 h3 (by rw[<- hblk i oi ox h2];exact hbi) (by rw[<- hblk j oj oy h4];exact hbj);rw[<- hσ i,this,hσ]
  obtain ⟨ob,h1,h2⟩:=ho id ob' hg;exact hs.os.out (σ id) ob b h1 (by rw[<- hblk id ob' ob h2];exact hb)
 ·rw[hnx]
  (show E.valid (σ id)↔id<st.nx);rw[hs.nx (σ id)];exact ⟨fun h=>by have:=hn _ h;rwa [hσ] at this,fun h=>hn _ h⟩
 refine ⟨fun id hv=>?_,fun id hv=>?_,fun id hv=>?_,fun id hv=>?_⟩;(·show E.valid (σ id);rw[h0 id (hs.base id hv)];exact hs.ext.valid id hv);(·show E.blk (σ id)=E0.blk id;rw[h0 id (hs.base id hv)];exact hs.ext.blk id hv);(·show E0.cnt id<=E.cnt (σ id);rw[h0 id (hs.base id hv)];exact hs.ext.cnt id hv);show E.cnt (σ id)=E0.cnt id->E.cur (σ id)=E0.cur id;rw[h0 id (hs.base id hv)];exact hs.ext.cur id hv
def zdi (i j k:Nat):Nat:=if k=i then j else if k=j then i else k
theorem zgg (i j k:Nat):zdi i j (zdi i j k)=k:=by
 unfold zdi;(repeat' split);all_goals omega
theorem Data.eptr {cs:List AV} (h:DataL cs):Data (.eptr cs):=fun E E' A w u hr=>by
 cases hr with
 | eptr g hcell hr=>exact .eptr g hcell fun j c hj=>h c (zg hj) E E' A w _ (hr j c hj)
mutual
def zeQ (σ:Nat->Nat):AV->AV->Bool
 | .any,.any=>true
 | .v x,.v y=>vEq x y
 | .agg l,.agg m=>zf4 σ l m
 | .tup l,.tup m=>zf4 σ l m
 | .clo f l,.clo g m=>f==g&&zf4 σ l m
 | .sl n l,.sl k m=>n==k&&AV.dataLLB l&&AV.eqLLB l m
 | .osl i n l,.osl j k m=>σ i==j&&n==k&&AV.dataLLB l&&AV.eqLLB l m
 | .ptr i n,.ptr j k=>σ i==j&&n==k
 | .map i,.map j=>σ i==j
 | .own i n,.own j k=>σ i==j&&n==k
 | .eptr l,.eptr m=>AV.dataLB l&&AV.eqLB l m
 | _,_=>false
def zf4 (σ:Nat->Nat):List AV->List AV->Bool
 | [],[]=>true
 | x::l,y::m=>zeQ σ x y&&zf4 σ l m
 | _,_=>false
end
mutual
theorem zk7 (σ:Nat->Nat):∀x y:AV,zeQ σ x y=true->RenV σ x y
 | .any,y,h=>by
  cases y with
  | any=>exact .any
  | _=>simp[zeQ] at h
 | .v x,y,h=>by
  cases y with
  | v y=>rw[zeQ] at h;rw[zhF h];exact .v y
  | _=>simp[zeQ] at h
 | .agg l,y,h=>by
  cases y with
  | agg m=>rw[zeQ] at h;exact .agg (zbq σ l m h)
  | _=>simp[zeQ] at h
 | .tup l,y,h=>by
  cases y with
  | tup m=>rw[zeQ] at h;exact .tup (zbq σ l m h)
  | _=>simp[zeQ] at h
 | .clo f l,y,h=>by
  cases y with
  | clo g m=>simp only[zeQ,zl,beq_iff_eq] at h;rw[h.1];exact .clo (zbq σ l m h.2)
  | _=>simp[zeQ] at h
 | .sl n l,y,h=>by
  cases y with
  | sl k m =>
   simp only[zeQ,zl,beq_iff_eq] at h;rw[<- AV.eqLLB_sound l m h.2,h.1.1]
   exact .data (.sl (AV.dataLLB_sound l h.1.2))
  | _=>simp[zeQ] at h
 | .osl i n l,y,h=>by
  cases y with
  | osl j k m =>
   simp only[zeQ,zl,beq_iff_eq] at h;rw[<- AV.eqLLB_sound l m h.2,h.1.1.2]
   exact .osl h.1.1.1 (AV.dataLLB_sound l h.1.2)
  | _=>simp[zeQ] at h
 | .ptr i n,y,h=>by
  cases y with
  | ptr j k=>simp only[zeQ,zl,beq_iff_eq] at h;rw[h.2];exact .ptr h.1
  | _=>simp[zeQ] at h
 | .map i,y,h=>by
  cases y with
  | map j=>simp only[zeQ,beq_iff_eq] at h;exact .map h
  | _=>simp[zeQ] at h
 | .own i n,y,h=>by
  cases y with
  | own j k=>simp only[zeQ,zl,beq_iff_eq] at h;rw[h.2];exact .own h.1
  | _=>simp[zeQ] at h
 | .rptr a b c d e,y,h=>by simp[zeQ] at h
 | .mth f l,y,h=>by simp[zeQ] at h
 | .eptr l,y,h=>by
  cases y with
  | eptr m =>
   simp only[zeQ,zl] at h;rw[<- AV.eqLB_sound l m h.2]
   exact .data (.eptr (AV.dataLB_sound l h.1))
  | _=>simp[zeQ] at h
theorem zbq (σ:Nat->Nat):∀x y:List AV,zf4 σ x y=true->RenL σ x y
 | [],[],_=>trivial
 | [],_::_,h=>by simp[zf4] at h
 | _::_,[],h=>by simp[zf4] at h
 | x::l,y::m,h=>by
  rw[zf4,zl] at h;exact ⟨zk7 σ x y h.1,zbq σ l m h.2⟩
end
def renOB (σ:Nat->Nat):Ob->Ob->Bool
 | .cells t l,.cells u m=>t==u&&zf4 σ l m
 | .tok a b c,.tok a' b' c'=>a==a'&&b==b'&&c==c'
 | .row a b l,.row a' b' m=>a==a'&&b==b'&&AV.dataLLB l&&AV.eqLLB l m
 | .map l,.map m=>AV.dataLB (l.map (·.2))&&l.map (·.1)==m.map (·.1)&&AV.eqLB (l.map (·.2)) (m.map (·.2))
 | _,_=>false
theorem zjY {σ:Nat->Nat} {i:Nat} {x y:Ob} (h:renOB σ x y=true):RenO σ i x y:=by
 (cases x <;> cases y <;> simp only[renOB,zl,beq_iff_eq,zr] at h);(·rw[h.1];exact .cells (zbq σ _ _ h.2));(·rw[h.1.1,h.1.2,h.2];exact .tok);(·rw[h.1.1.1,h.1.1.2,<- AV.eqLLB_sound _ _ h.2];exact .row (AV.dataLLB_sound _ h.1.2));rw[zg4 h.1.2 (AV.eqLB_sound _ _ h.2)];(rename_i m);refine .map fun p hp=>?_;have h1:=AV.dataLB_sound _ h.1.1;rw[AV.eqLB_sound _ _ h.2] at h1;exact h1 _ (List.mem_map_of_mem hp)
def zj6 (i j:Nat) (s t:St):Bool :=
 (i==j||decide (s.n0<=i/\s.n0<=j/\i<s.nx/\j<s.nx))&&zf4 (zdi i j) s.sl t.sl&&(t.os.all fun p=>match zaa s.os (zdi i j p.1) with | some ob=>renOB (zdi i j) ob p.2 | none=>false)&&t.nx==s.nx&&t.n0==s.n0
theorem zj2:∀{os:Os} {id:Nat} {ob:Ob},zaa os id=some ob->(id,ob)∈os
 | (i,o)::os,id,ob,h=>by
  simp only[zaa] at h;(split at h);(·rename_i e;cases h;subst e;simp);exact List.mem_cons_of_mem _ (zj2 h)
theorem zeF {i j:Nat} {s t:St} (h:zj6 i j s t=true):Weak s t:=by
 simp only[zj6,zl,Bool.or_eq_true,beq_iff_eq,ze] at h;obtain ⟨⟨⟨⟨h1,h2⟩,h3⟩,h4⟩,h5⟩:=h;refine Weak.ren (zdi i j) (zgg i j) (fun k hk=>?_) (fun k hk=>?_) (zbq _ _ _ h2) (fun id ob' hg=>?_) h4 h5
 ·unfold zdi
  (repeat' split);all_goals omega
 ·unfold zdi
  (repeat' split);all_goals omega
 have h6:=zB.1 h3 _ (zj2 hg);(simp only at h6);(split at h6);(·rename_i ob ho;exact ⟨ob,ho,zjY h6⟩);cases h6
def weakB (s t:St):Bool:=St.eqB s t||zj6 0 0 s t||((List.range (s.nx-s.n0)).any fun i=>(List.range i).any fun j=>zj6 (s.n0+i) (s.n0+j) s t)
theorem zj1 {s t:St} (h:weakB s t=true):Weak s t:=by
 simp only[weakB,Bool.or_eq_true,List.any_eq_true] at h;(rcases h with (h | h) | ⟨i,_,j,_,h⟩);(·rw[St.eqB_sound h];exact .refl _);(·exact zeF h);exact zeF h
mutual
def undB (n:Nat):AV->Bool
 | .any | .v _=>true
 | .agg cs | .tup cs | .clo _ cs=>zji n cs
 | .sl _ xs=>zgD n xs
 | .osl id _ xs=>decide (id<n)&&zgD n xs
 | .own id _ | .ptr id _ | .map id=>decide (id<n)
 | .rptr .. | .eptr .. | .mth ..=>false
def zji (n:Nat):List AV->Bool
 | []=>true
 | x::xs=>undB n x&&zji n xs
def zgD (n:Nat):List (List AV)->Bool
 | []=>true
 | x::xs=>zji n x&&zgD n xs
end
mutual
theorem zgr (n:Nat):∀x:AV,undB n x=true->Und n x
 | .any,_=>.any n
 | .v x,_=>.v n x
 | .agg cs,h=>.agg (zba n cs (by rw[undB] at h;exact h))
 | .tup cs,h=>.tup (zba n cs (by rw[undB] at h;exact h))
 | .clo f cs,h=>.clo (zba n cs (by rw[undB] at h;exact h))
 | .sl sz xs,h=>.sl (zca n xs (by rw[undB] at h;exact h))
 | .osl id sz xs,h=>by
  rw[undB,zl,ze] at h
  exact .osl h.1 (.sl (zca n xs h.2))
 | .own id k,h=>.own (by simpa [undB] using h)
 | .ptr id k,h=>.ptr (by simpa [undB] using h)
 | .map id,h=>.map (by simpa [undB] using h)
 | .rptr ..,h | .eptr ..,h | .mth ..,h=>by simp[undB] at h
theorem zba (n:Nat):∀l:List AV,zji n l=true->UndL n l
 | [],_=>trivial
 | x::xs,h=>by
  rw[zji,zl] at h;exact ⟨zgr n x h.1,zba n xs h.2⟩
theorem zca (n:Nat):∀l:List (List AV),zgD n l=true->∀x∈l,UndL n x
 | [],_=>fun x h=>by cases h
 | y::ys,h=>fun x hx=>by
  rw[zgD,zl] at h;(rcases zH.1 hx with e | hx);(·rw[e];exact zba n y h.1);exact zca n ys h.2 x hx
end
def zkF (n:Nat):Os->Bool
 | []=>true
 | (id,ob)::os=>decide (id<n)&&(match ob with | .cells _ cs=>zji n cs | .tok ..=>true | .row _ _ xs=>zgD n xs | .map es=>zji n (es.map (·.2)))&&zkF n os
theorem zeI {n:Nat}:∀{os:Os},zkF n os=true->UndOs n os
 | [],_=>trivial
 | (id,ob)::os,h=>by
  simp only[zkF,zl,ze] at h;refine ⟨h.1.1,?_,zeI h.2⟩;have h2:=h.1.2
  cases ob with
  | cells t cs=>exact zba n cs h2
  | tok=>trivial
  | row t sz xs=>exact zca n xs h2
  | map es=>exact fun p hp=>(zba n _ h2).mem _ (List.mem_map_of_mem hp)
def zjU (n:Nat):Os->Nat
 | []=>0
 | (id,_)::os=>if n<=id then zjU n os+1 else 0
theorem zgm (n:Nat):∀os:Os,((os.take (zjU n os)).all fun p=>decide (n<=p.1))=true
 | []=>rfl
 | (id,ob)::os=>by
  rw[zjU];split
  ·rename_i h
   rw[List.take_succ_cons,List.all_cons,zgm n os];simp[h]
  rfl
def zdY (n:Nat) (p:AV×Os×Nat):AV×Os×Nat :=
 if undB n p.1=true/\zkF n (p.2.1.drop (zjU n p.2.1))=true/\n<=p.2.2 then (p.1,p.2.1.drop (zjU n p.2.1),n) else p
theorem zhM {P:Program} {f:Nat} {args:List AV} {os:Os} {nx:Nat} {p:AV×Os×Nat} (h:ACalls P f args os nx fun r1 os1 nx1=>r1=p.1/\os1=p.2.1/\nx1=p.2.2) :
  ACalls P f args os nx fun r1 os1 nx1=>r1=(zdY nx p).1/\os1=(zdY nx p).2.1/\nx1=(zdY nx p).2.2:=by
 unfold zdY;split
 ·rename_i hc
  have:=ACalls.clean (C:=fun r os=>r=p.1/\os=p.2.1.drop (zjU nx p.2.1)) (h.mono fun r1 os1 nx1 hh=>by
   obtain ⟨rfl,rfl,rfl⟩:=hh
   exact ⟨p.1,_,⟨rfl,rfl⟩,zgr _ _ hc.1,zeI hc.2.1,.refl _,⟨zjU nx p.2.1,rfl,zgm nx p.2.1⟩,hc.2.2⟩)
  exact this.mono fun r1 os1 nx1 hh=>⟨hh.1.1,hh.1.2,hh.2⟩
 exact h
theorem zhU {P:Program} {l:List Oper} {Q:Exit->St->Prop} {H:Held} {fuel:Nat} {listed:Array Bool} {st st':St} (hw:Weak st st') (h:zb0 P l Q H fuel listed st'):zb0 P l Q H fuel listed st:=by
 intro A0 Er os0 w0 E a w hE hW hs;obtain ⟨E',hs'⟩:=hw _ _ _ _ _ _ _ hs;exact h A0 Er os0 w0 E' a w hE hW hs'
end Go.Proofs.YtkokfdmggdhfmaaGreatDoor
