/- packed, part 14 of 45. Conditions: none. -/
import Derived.Test.YtkokfdmggdhfmaaGreatDoorPk13
set_option linter.unusedVariables false
set_option linter.unusedSimpArgs false
namespace Go.Proofs.YtkokfdmggdhfmaaGreatDoor
open Go Go.RowKit
set_option linter.unnecessarySimpa false
theorem zaq {P:Program} {Q:Exit->St->Prop} {st:St} {x y:Code} (mask:List Bool) (upd:List (Nat×AV)) (osu:List (Nat×Ob))
  (h1:AWp P x (zD (fun st'=>Weak st' ⟨zcb (zbS mask st.sl) upd,zbR st.os osu,st.nx,st.n0⟩) Q) st)
  (h2:AWp P y Q ⟨zcb (zbS mask st.sl) upd,zbR st.os osu,st.nx,st.n0⟩):AWp P (.seq x y) Q st :=
 zc9 (h1.mono fun e st' q=>by
  cases e with
  | normal=>exact zaB q h2
  | _=>exact q)
def NilLe (id sz:Nat) (x y:AV):Prop:=Le x y\/(x=.v (.slice none 0 0)/\y=.osl id sz [])
def NilL (id sz:Nat):List AV->List AV->Prop
 | [],[]=>True
 | x::xs,y::ys=>NilLe id sz x y/\NilL id sz xs ys
 | _,_=>False
theorem NilL.len {id sz:Nat}:∀{l m:List AV},NilL id sz l m->m.length=l.length
 | [],[],_=>rfl
 | _::_,_::_,h=>by simp[NilL.len h.2]
theorem NilL.get {id sz:Nat}:∀{l m:List AV},NilL id sz l m->∀(i:Nat) (y:AV),m[i]?=some y->∃x,l[i]?=some x/\NilLe id sz x y
 | [],[],_,i,y,hy=>by simp at hy
 | x::xs,z::zs,h,0,y,hy=>by simp at hy;subst hy;exact ⟨x,rfl,h.1⟩
 | x::xs,z::zs,h,i+1,y,hy=>by simpa using NilL.get h.2 i y (by simpa using hy)
theorem NilLe.rp {E:Env} {A:Nat->Nat->Prop} {w:World} {id sz:Nat} {x y:AV} {u:Value} (h:NilLe id sz x y) (hv:E.valid id) (hc:E.cnt id=0) (hs:E.cur id=.slice none 0 0) (hr:Rp E A w x u):Rp E A w y u:=by
 (rcases h with h | ⟨rfl,rfl⟩);(·exact h E A w u hr);(cases hr);exact .osl hv (.sl0 (by simp[maxLen])) tz4 (fun _=>hs.symm)
section
variable {A0:Nat->Nat->Prop} {E0:Env} {os0:Os} {w0:World} {E:Env} {st:St} {a:Act} {w:World}
theorem SimC.recell (h:SimC A0 E0 os0 w0 E st a w) {id t:Nat} {cs cs':List AV} (hg:zJ st.os id=some (.cells t cs)) (hl:cs'.length=cs.length)
  (hr:∀(i:Nat) (c':AV) (u:Value),cs'[i]?=some c'->(∀c,cs[i]?=some c->Rp E (AvX A0 E st.os) w c u)->Rp E (AvX A0 E st.os) w c' u) :
  SimC A0 E0 os0 w0 E {st with os:=zQ st.os id (.cells t cs')} a w:=by
 have hget:∀j o,zJ (zQ st.os id (.cells t cs')) j=some o->(j=id/\o=.cells t cs')\/(j≠id/\zJ st.os j=some o):=by
  intro j o hj;rw[zam] at hj;(split at hj);(·rename_i he;cases hj;exact .inl ⟨he,rfl⟩);rename_i he;exact .inr ⟨he,hj⟩
 have hav:∀b o,Av E (zQ st.os id (.cells t cs')) b o->Av E st.os b o:=by
  rintro b o ⟨j,o',hj,hb,hav⟩;(rcases hget j o' hj with ⟨rfl,rfl⟩ | ⟨hn,hg'⟩);(·exact ⟨j,_,hg,hb,trivial⟩);exact ⟨j,o',hg',hb,hav⟩
 (have hA:∀b o,AvX A0 E (zQ st.os id (.cells t cs')) b o->AvX A0 E st.os b o:=fun b o ha=>ha.imp (fun h=>h) (hav b o));refine ⟨h.size,fun i c u hc hu=>(h.sl i c u hc hu).mono hA,⟨fun j ob hj=>?_,fun i j oi oj b hi hj hbi hbj=>?_,fun j ob b hj hb=>?_,h.os.bnd,h.os.gl.mono hA⟩,h.nx,h.defers,h.ext,h.stp,fun b o ha=>h.sub b o (hav b o ha),h.base⟩
 ·rcases hget j ob hj with ⟨rfl,rfl⟩ | ⟨hn,hg'⟩
  ·obtain ⟨hv,cur,hh,hsz,hrr⟩:=h.os.ok _ _ hg
   refine ⟨hv,cur,hh,by rw[hl];exact hsz,fun i c u hc hu=>(hr i c u hc fun c0 hc0=>hrr i c0 u hc0 hu).mono hA⟩
  obtain ⟨hv,ho⟩:=h.os.ok _ _ hg';exact ⟨hv,Ob.ok_step ho hv (.refl E) (.refl _ w) (fun b o ha=>.inl (hA b o ha)) rfl (fun _ _=>rfl)⟩
 ·have key:∀j oj,zJ (zQ st.os id (.cells t cs')) j=some oj->∃o',zJ st.os j=some o'/\o'.blk E j=oj.blk E j:=fun j oj hj=>by
   (rcases hget j oj hj with ⟨rfl,rfl⟩ | ⟨hn,hg'⟩);(·exact ⟨_,hg,rfl⟩);exact ⟨_,hg',rfl⟩
  obtain ⟨o1,h1,e1⟩:=key i oi hi;obtain ⟨o2,h2,e2⟩:=key j oj hj;exact h.os.inj i j o1 o2 b h1 h2 (e1.trans hbi) (e2.trans hbj)
 (rcases hget j ob hj with ⟨rfl,rfl⟩ | ⟨hn,hg'⟩);(·exact h.os.out _ _ b hg hb);exact h.os.out _ _ b hg' hb
theorem SimC.tok (h:SimC A0 E0 os0 w0 E st a w) (e sz:Nat):∃E',SimC A0 E0 os0 w0 E' {st with os:=(st.nx,.tok e sz 0)::st.os,nx:=st.nx+1} a w/\E'.valid st.nx/\E'.cnt st.nx=0/\E'.cur st.nx=.slice none 0 0 :=
 ⟨_,h.add (.refl _ w) 0 (.slice none 0 0) 0 (.tok e sz 0) (fun b hb=>by simp[Ob.blk,Env.add,Value.ownBlock] at hb) ⟨by simp[Env.add],.inl ⟨by simp[Env.add],rfl⟩⟩,.inr rfl,by simp[Env.add],by simp[Env.add]⟩
theorem SimC.resl (h:SimC A0 E0 os0 w0 E st a w) {sl':List AV} (hl:sl'.length=st.sl.length) (hr:∀(i:Nat) (c':AV) (u:Value),sl'[i]?=some c'->(∀c,st.sl[i]?=some c->Rp E (AvX A0 E st.os) w c u)->Rp E (AvX A0 E st.os) w c' u) :
  SimC A0 E0 os0 w0 E {st with sl:=sl'} a w :=
 {h with size:=by rw[h.size,hl],sl:=fun i c u hc hu=>hr i c u hc fun c0 hc0=>h.sl i c0 u hc0 hu}
end
theorem Weak.tokCell {st:St} (e sz:Nat) {id t:Nat} {cs:List AV} (cs':List AV) (hg:zJ st.os id=some (.cells t cs)) (h:NilL st.nx sz cs cs') :
  Weak st ⟨st.sl,zQ ((st.nx,.tok e sz 0)::st.os) id (.cells t cs'),st.nx+1,st.n0⟩:=by
 intro A0 E0 os0 w0 E a w hs;obtain ⟨E',h1,hv,hc,hcur⟩:=hs.tok e sz;have hid:id≠st.nx:=fun e=>by have:=(hs.nx id).1 (hs.os.ok id _ hg).1;omega
 exact ⟨E',h1.recell (id:=id) (t:=t) (cs:=cs) (by simp only[zJ,if_neg (Ne.symm hid)];exact hg) h.len fun i c' u hc' hr=>by
  obtain ⟨x,hx,hn⟩:=h.get i c' hc'
  exact hn.rp hv hc hcur (hr x hx)⟩
theorem Weak.recell {st:St} {id t:Nat} {cs:List AV} (cs':List AV) (hg:zJ st.os id=some (.cells t cs)) (h:LeL cs cs'):Weak st {st with os:=zQ st.os id (.cells t cs')}:=fun _ _ _ _ E _ _ hs =>
 ⟨E,hs.recell hg h.length.symm fun i c' u hc' hr=>by
  obtain ⟨x,hx,hn⟩:=h.get i c' hc'
  exact hn _ _ _ _ (hr x hx)⟩
theorem ACalls.res {P:Program} {f:Nat} {args:List AV} {os:Os} {nx:Nat} {Q Q':AV->Os->Nat->Prop} (h:ACalls P f args os nx Q) (hq:∀r os' nx',Q r os' nx'->∃r',Le r r'/\Q' r' os' nx'):ACalls P f args os nx Q' :=
 ⟨h.1,fun A0 E w vs h1 h2 h3=>(h.2 A0 E w vs h1 h2 h3).mono fun _ _ ⟨r,v,os',nx',E',he,q,hr,rest⟩ =>
  let ⟨r',hle,q'⟩:=hq _ _ _ q
  ⟨r',v,os',nx',E',he,q',hle _ _ _ _ hr,rest⟩⟩
theorem ACalls.args {P:Program} {f:Nat} {args args':List AV} {os:Os} {nx:Nat} {Q:AV->Os->Nat->Prop} (hl:LeL args args') (h:ACalls P f args' os nx Q):ACalls P f args os nx Q :=
 ⟨h.1,fun A0 E w vs h1 h2 h3=>h.2 A0 E w vs h1 h2 ⟨by rw[h3.1,hl.length],fun i c u hc hu=>by
  obtain ⟨x,hx,hle⟩:=hl.get i c hc
  exact hle _ _ _ _ (h3.2 i x u hx hu)⟩⟩
theorem APure.mkL {P:Program} {f:Nat} {args:List AV} {x:AV} (h1:DataL args) (h2:Data x) (h3:ACalls P f args [] 0 fun r _ _=>Le r x):APure P f args x:=⟨h1,h2,h3.res fun r _ _ hr=>⟨x,hr,rfl⟩⟩
theorem Le.oslL {id sz:Nat} {xs:List (List AV)}:Le (.osl id sz xs) (.sl sz xs):=Le.osl _ _ _
theorem Le.of_eq {x y:AV} (h:x=y):Le x y:=h▸.refl x
theorem Le.slNil (sz:Nat):Le (.v (.slice none 0 0)) (.sl sz []):=fun E A w u hr=>by cases hr;exact .sl0 (by simp[maxLen])
theorem zb0:(1 * 1<=2 ^ 24)=True:=eq_true tz3
theorem zfw:(2 * 1<=2 ^ 24)=True:=eq_true tz3
theorem bs3_1:(3 * 1<=2 ^ 24)=True:=eq_true tz3
theorem bs5_1:(5 * 1<=2 ^ 24)=True:=eq_true tz3
theorem zb4:(1 * 2<=2 ^ 24)=True:=eq_true tz3
theorem zfL:(2 * 2<=2 ^ 24)=True:=eq_true tz3
theorem bs3_2:(3 * 2<=2 ^ 24)=True:=eq_true tz3
theorem bs5_2:(5 * 2<=2 ^ 24)=True:=eq_true tz3
theorem zbY:(1 * 3<=2 ^ 24)=True:=eq_true tz3
theorem zfv:(2 * 3<=2 ^ 24)=True:=eq_true tz3
theorem bs3_3:(3 * 3<=2 ^ 24)=True:=eq_true tz3
theorem bs5_3:(5 * 3<=2 ^ 24)=True:=eq_true tz3
theorem zb1:(1 * 4<=2 ^ 24)=True:=eq_true tz3
theorem zfH:(2 * 4<=2 ^ 24)=True:=eq_true tz3
theorem bs3_4:(3 * 4<=2 ^ 24)=True:=eq_true tz3
theorem bs5_4:(5 * 4<=2 ^ 24)=True:=eq_true tz3
theorem zcg:(1 * 5<=2 ^ 24)=True:=eq_true tz3
theorem zfI:(2 * 5<=2 ^ 24)=True:=eq_true tz3
theorem bs3_5:(3 * 5<=2 ^ 24)=True:=eq_true tz3
theorem bs5_5:(5 * 5<=2 ^ 24)=True:=eq_true tz3
theorem zbV:(1 * 6<=2 ^ 24)=True:=eq_true tz3
theorem zfl:(2 * 6<=2 ^ 24)=True:=eq_true tz3
theorem bs3_6:(3 * 6<=2 ^ 24)=True:=eq_true tz3
theorem bs5_6:(5 * 6<=2 ^ 24)=True:=eq_true tz3
theorem zb9:(1 * 7<=2 ^ 24)=True:=eq_true tz3
theorem zfs:(2 * 7<=2 ^ 24)=True:=eq_true tz3
theorem bs3_7:(3 * 7<=2 ^ 24)=True:=eq_true tz3
theorem bs5_7:(5 * 7<=2 ^ 24)=True:=eq_true tz3
theorem zb2:(1 * 8<=2 ^ 24)=True:=eq_true tz3
theorem zfB:(2 * 8<=2 ^ 24)=True:=eq_true tz3
theorem bs3_8:(3 * 8<=2 ^ 24)=True:=eq_true tz3
theorem bs5_8:(5 * 8<=2 ^ 24)=True:=eq_true tz3
theorem zce:(1 * 9<=2 ^ 24)=True:=eq_true tz3
theorem zfz:(2 * 9<=2 ^ 24)=True:=eq_true tz3
theorem bs3_9:(3 * 9<=2 ^ 24)=True:=eq_true tz3
theorem bs5_9:(5 * 9<=2 ^ 24)=True:=eq_true tz3
theorem zaX:(1 * 10<=2 ^ 24)=True:=eq_true tz3
theorem zcX:(2 * 10<=2 ^ 24)=True:=eq_true tz3
theorem bs3_10:(3 * 10<=2 ^ 24)=True:=eq_true tz3
theorem bs5_10:(5 * 10<=2 ^ 24)=True:=eq_true tz3
theorem zaZ:(1 * 11<=2 ^ 24)=True:=eq_true tz3
theorem zdb:(2 * 11<=2 ^ 24)=True:=eq_true tz3
theorem bs3_11:(3 * 11<=2 ^ 24)=True:=eq_true tz3
theorem bs5_11:(5 * 11<=2 ^ 24)=True:=eq_true tz3
theorem za0:(1 * 12<=2 ^ 24)=True:=eq_true tz3
theorem zcW:(2 * 12<=2 ^ 24)=True:=eq_true tz3
theorem bs3_12:(3 * 12<=2 ^ 24)=True:=eq_true tz3
theorem bs5_12:(5 * 12<=2 ^ 24)=True:=eq_true tz3
end Go.Proofs.YtkokfdmggdhfmaaGreatDoor
