/- packed, part 37 of 47. Conditions: none. -/
import Derived.Test.YtkokfdmggdhfmaaGreatDoorPk36
set_option linter.unusedVariables false
set_option linter.unusedSimpArgs false
namespace Go.Proofs.YtkokfdmggdhfmaaGreatDoor
open Go Go.RowKit
set_option linter.unnecessarySimpa false
theorem ACalls.eats {P:Program} {f:Nat} {args args':List AV} {R:AV} {ob ob':Ob} {i nx':Nat} {os':Os} {Q':AV->Os->Nat->Prop}
  (h:ACalls P f args [(0,ob)] 1 fun r os n=>(r=R/\os=[])/\n=1) (hi:i<nx') (hargs:RenL (zbm [i] nx') args args') (hR:Data R) (hg:zaa os' i=some ob') (hob:RenO (zbm [i] nx') 0 ob ob') (hq:Q' R (zaY os' i) nx') :
  ACalls P f args' os' nx' Q':=by
 refine h.frame (zbm [i] nx') (ze7 tz4 (by simpa using hi)) (fun j hj=>?_) (fun j hj=>by rw[zcA (by simpa using hj)];rfl) hargs (fun j x hx=>?_) ?_
 ·rw[zbe (by simpa using hj)]
  (obtain rfl:j=0:=by omega);simpa using hi
 ·simp only[zaa] at hx
  split at hx
  ·rename_i e;cases hx;subst e
   exact ⟨ob',by rw[zbe tz4];simpa using hg,hob⟩
  cases hx
 rintro r os1 n1 ⟨⟨rfl,rfl⟩,rfl⟩;refine ⟨r,zaY os' i,.data hR,by simpa using hq,fun id ob2 hgo=>.inr ?_⟩;rw[zbd] at hgo;(split at hgo);(·cases hgo);(rename_i hne);refine ⟨hgo,?_⟩;rintro ⟨j,hj,hj1⟩;(obtain rfl:j=0:=by omega);rw[zbe tz4] at hj;exact hne (by simpa using hj.symm)
theorem LeR_any {os os':Os}:∀l:List AV,LeR os os' l (l.map fun _=>AV.any)
 | []=>trivial
 | _::l=>⟨.inl (.any _),LeR_any l⟩
theorem LeR_one {os:Os} {id n e sz:Nat} {xs:List (List AV)} (hg:zaa os id=some (.row e sz xs)) (hn:n=xs.length):∀(l:List AV) (k:Nat),l[k]?=some (.own id n)->LeR os [] l ((l.map fun _=>AV.any).set k (.sl sz xs))
 | [],k,h=>by simp at h
 | x::l,0,h=>by
  simp at h;subst h
  exact ⟨.inr ⟨id,n,e,sz,xs,rfl,rfl,hg,hn,rfl⟩,LeR_any l⟩
 | x::l,k+1,h=>⟨.inl (.any _),LeR_one hg hn l k (by simpa using h)⟩
theorem zkd {n:Nat}:∀l:List AV,UndL n (l.map fun _=>AV.any)
 | []=>trivial
 | _::l=>⟨.any _,zkd l⟩
theorem zkC {n:Nat} {x:AV} (hx:Und n x):∀(l:List AV) (k:Nat),UndL n ((l.map fun _=>AV.any).set k x)
 | [],_=>trivial
 | _::l,0=>⟨hx,zkd l⟩
 | _::l,k+1=>⟨.any _,zkC hx l k⟩
theorem Weak.freezeOne {st:St} (k:Nat) {id n e sz:Nat} {xs:List (List AV)} (hk:st.sl[k]?=some (.own id n)) (hg:zaa st.os id=some (.row e sz xs)) (hn:n=xs.length) (hd:∀x∈xs,DataL x) (h0:st.n0<=st.nx) :
  Weak st ⟨(st.sl.map fun _=>AV.any).set k (.sl sz xs),[],st.nx,st.n0⟩ :=
 Weak.freezeR (LeR_one hg hn _ _ hk) trivial (zw _) h0 (zkC (.data (.sl hd)) _ _) trivial
section
variable {P:Program} {l:List Oper} {Q:Exit->St->Prop} {os1:Os} {G:List Nat} {fuel:Nat} {listed:Array Bool} {st:St}
theorem zit {i j k:Nat} (hr:Region.ready .any l.toArray listed=[i,j,k]) {o1 o2 o3:Oper} (h1:l[i]?=some o1) (h2:l[j]?=some o2) (h3:l[k]?=some o3) (hd1:∀d,o1.dst=some d->G.contains d=false) (hd2:∀d,o2.dst=some d->G.contains d=false) (hd3:∀d,o3.dst=some d->G.contains d=false)
  (g1:aAt P l i st fun st'=>keepG st st' G/\zgo P l Q os1 G fuel (listed.setIfInBounds i true) st') (g2:aAt P l j st fun st'=>keepG st st' G/\zgo P l Q os1 G fuel (listed.setIfInBounds j true) st') (g3:aAt P l k st fun st'=>keepG st st' G/\zgo P l Q os1 G fuel (listed.setIfInBounds k true) st'):zgo P l Q os1 G (fuel+1) listed st :=
 zht hr tz4 (fun m hm o' ho'=>by
  simp only[zH,List.not_mem_nil,or_false] at hm;(rcases hm with rfl | rfl | rfl);(·rw[h1] at ho';cases ho';exact hd1);·rw[h2] at ho';cases ho';exact hd2
  ·rw[h3] at ho';cases ho';exact hd3) (fun m hm=>by
  simp only[zH,List.not_mem_nil,or_false] at hm;(rcases hm with rfl | rfl | rfl);(·exact g1);·exact g2
  exact g3)
end
end Go.Proofs.YtkokfdmggdhfmaaGreatDoor
