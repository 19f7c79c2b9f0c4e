/- packed, part 35 of 49. Conditions: none. -/
import Derived.Test.YtkokfdmggdhfmaaGreatDoorPk34
set_option linter.unusedVariables false
set_option linter.unusedSimpArgs false
set_option linter.unnecessarySimpa false
namespace Go.Proofs.YtkokfdmggdhfmaaGreatDoor
open Go Go.RowKit
theorem ACalls.eats {P:Program} {f:Nat} {args args':List AV} {R:AV} {ob ob':Ob} {i nx':Nat} {os':Os} {Q':AV->Os->Nat->Prop}
  (h:ACalls P f args [(0,ob)] 1 fun r os n=>(r=R/\os=[])/\n=1) (hi:i<nx') (hargs:RenL (zbB [i] nx') args args') (hR:Data R) (hg:zad os' i=some ob') (hob:RenO (zbB [i] nx') 0 ob ob') (hq:Q' R (zba os' i) nx') :
  ACalls P f args' os' nx' Q':=by
 refine h.frame (zbB [i] nx') (zgb tz4 (by simpa using hi)) (fun j hj=>?_) (fun j hj=>by rw[zcQ (by simpa using hj)];rfl) hargs (fun j x hx=>?_) ?_
 ·rw[zbt (by simpa using hj)]
  (obtain rfl:j=0:=by omega);simpa using hi
 ·simp only[zad] at hx
  split at hx
  ·rename_i e;cases hx;subst e
   exact ⟨ob',by rw[zbt tz4];simpa using hg,hob⟩
  cases hx
 rintro r os1 n1 ⟨⟨rfl,rfl⟩,rfl⟩;refine ⟨r,zba os' i,.data hR,by simpa using hq,fun id ob2 hgo=>.inr ?_⟩;rw[zbr] at hgo;(split at hgo);(·cases hgo);(rename_i hne);refine ⟨hgo,?_⟩;rintro ⟨j,hj,hj1⟩;(obtain rfl:j=0:=by omega);rw[zbt tz4] at hj;exact hne (by simpa using hj.symm)
theorem LeR_any {os os':Os}:∀l:List AV,LeR os os' l (l.map fun _=>AV.any)
 | []=>trivial
 | _::l=>⟨.inl (.any _),LeR_any l⟩
theorem LeR_one {os:Os} {id n e sz:Nat} {xs:List (List AV)} (hg:zad os id=some (.row e sz xs)) (hn:n=xs.length):∀(l:List AV) (k:Nat),l[k]?=some (.own id n)->LeR os [] l ((l.map fun _=>AV.any).set k (.sl sz xs))
 | [],k,h=>by simp at h
 | x::l,0,h=>by
  simp at h;subst h
  exact ⟨.inr ⟨id,n,e,sz,xs,rfl,rfl,hg,hn,rfl⟩,LeR_any l⟩
 | x::l,k+1,h=>⟨.inl (.any _),LeR_one hg hn l k (by simpa using h)⟩
theorem zkD {n:Nat}:∀l:List AV,UndL n (l.map fun _=>AV.any)
 | []=>trivial
 | _::l=>⟨.any _,zkD l⟩
theorem zlg {n:Nat} {x:AV} (hx:Und n x):∀(l:List AV) (k:Nat),UndL n ((l.map fun _=>AV.any).set k x)
 | [],_=>trivial
 | _::l,0=>⟨hx,zkD l⟩
 | _::l,k+1=>⟨.any _,zlg hx l k⟩
theorem Weak.freezeOne {st:St} (k:Nat) {id n e sz:Nat} {xs:List (List AV)} (hk:st.sl[k]?=some (.own id n)) (hg:zad st.os id=some (.row e sz xs)) (hn:n=xs.length) (hd:∀x∈xs,DataL x) (h0:st.n0<=st.nx) :
  Weak st ⟨(st.sl.map fun _=>AV.any).set k (.sl sz xs),[],st.nx,st.n0⟩ :=
 Weak.freezeR (LeR_one hg hn _ _ hk) trivial (zy _) h0 (zlg (.data (.sl hd)) _ _) trivial
section
variable {P:Program} {l:List Oper} {Q:Exit->St->Prop} {os1:Os} {G:List Nat} {fuel:Nat} {listed:Array Bool} {st:St}
end
end Go.Proofs.YtkokfdmggdhfmaaGreatDoor
