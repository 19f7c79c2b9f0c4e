/- packed, part 25 of 47. Conditions: none. -/
import Derived.Test.YtkokfdmggdhfmaaGreatDoorPk24
set_option linter.unusedVariables false
set_option linter.unusedSimpArgs false
namespace Go.Proofs.YtkokfdmggdhfmaaGreatDoor
open Go Go.RowKit
set_option linter.unnecessarySimpa false
def OsRen (ρ:Nat->Nat):Os->Os->Prop
 | [],[]=>True
 | (i,x)::xs,(k,y)::ys=>k=ρ i/\RenO ρ i x y/\OsRen ρ xs ys
 | _,_=>False
theorem OsRen.get {ρ:Nat->Nat}:∀{l m:Os},OsRen ρ l m->∀(id:Nat) (y:Ob),zaa m id=some y->∃i x,ρ i=id/\i∈l.map Prod.fst/\RenO ρ i x y/\(i,x)∈l
 | [],[],_,id,y,h=>by cases h
 | (i,x)::xs,(k,z)::ys,h,id,y,hy=>by
  obtain ⟨h1,h2,h3⟩:=h;simp only[zaa] at hy;split at hy
  ·rename_i e
   (cases hy);exact ⟨i,x,by rw[<- h1,e],by simp,h2,by simp⟩
  obtain ⟨i2,x2,e1,e2,e3,e4⟩:=OsRen.get h3 id y hy;exact ⟨i2,x2,e1,by simp at e2 ⊢;exact .inr e2,e3,by simp[e4]⟩
theorem zfz:∀{l:Os} {i:Nat} {x:Ob},(l.map Prod.fst).Nodup->(i,x)∈l->zaa l i=some x
 | (k,z)::l,i,x,hn,h=>by
  simp only[zo,List.nodup_cons] at hn;simp only[zaa];(rcases zH.1 h with e | h);·cases e;simp
  have:k≠i:=fun e=>by
   subst e;exact hn.1 (zA.2 ⟨(k,x),h,rfl⟩)
  rw[if_neg this];exact zfz hn.2 h
theorem zfm:∀(l m:Os) (i:Nat),zaa (l++m) i=match zaa l i with | some x=>some x | none=>zaa m i
 | [],m,i=>rfl
 | (k,z)::l,m,i=>by
  simp only[zC,zaa];split;(·rfl);exact zfm l m i
theorem ACalls.fresh {P:Program} {f:Nat} {args:List AV} {R R':AV} {os1 os1':Os} {k:Nat} {os':Os} {nx':Nat} {Q':AV->Os->Nat->Prop}
  (h:ACalls P f args [] 0 fun r os n=>(r=R/\os=os1)/\n=k) (hd:DataL args) (hR:RenV (fun i=>nx'+i) R R') (hnd:(os1.map Prod.fst).Nodup) (hos:OsRen (fun i=>nx'+i) os1 os1') (hq:Q' R' (os1'++os') (nx'+k)):ACalls P f args os' nx' Q':=by
 have same:∀(l:List AV),DataL l->RenL (fun i=>nx'+i) l l:=by
  intro l hl
  induction l with
  | nil=>trivial
  | cons x l ih=>exact ⟨.data (hl x tz4),ih fun y hy=>hl y (by simp[hy])⟩
 refine h.frame (fun i=>nx'+i) (fun i j e=>by simpa using e) (fun i hi=>by omega) (fun i _=>by simp) (same args hd) (fun i ob hg=>by cases hg) ?_;rintro r os1a n1 ⟨⟨rfl,rfl⟩,rfl⟩;refine ⟨R',os1'++os',hR,hq,fun id ob2 hg=>?_⟩;rw[zfm] at hg;split at hg
 ·rename_i x hx
  (cases hg);obtain ⟨i,x,e1,_,e3,e4⟩:=hos.get id _ hx;exact .inl ⟨i,x,e1,zfz hnd e4,e3⟩
 exact .inr ⟨hg,fun ⟨i,_,hi⟩=>by omega⟩
def OsFrom (σ:Nat->Nat) (os:Os):Os->Prop
 | []=>True
 | (k,y)::ys=>(∃x,zaa os (σ k)=some x/\RenO σ (σ k) x y)/\OsFrom σ os ys
theorem OsFrom.get {σ:Nat->Nat} {os:Os}:∀{l:Os},OsFrom σ os l->∀(id:Nat) (y:Ob),zaa l id=some y->∃x,zaa os (σ id)=some x/\RenO σ (σ id) x y
 | [],_,id,y,h=>by cases h
 | (k,z)::ys,h,id,y,hy=>by
  simp only[zaa] at hy;(split at hy);(·rename_i e;cases hy;subst e;exact h.1);exact OsFrom.get h.2 id y hy
theorem Weak.back {st:St} (i j:Nat) {sl1 sl':List AV} {os':Os} {n:Nat} (h1:LeL st.sl sl1) (hij:st.n0<=i/\st.n0<=j/\i<st.nx/\j<st.nx) (hl:RenL (zdi i j) sl1 sl') (ho:OsFrom (zdi i j) st.os os')
  (hn:n<=st.nx) (h0:st.n0<=n) (h6:UndL n sl') (h7:UndOs n os'):Weak st ⟨sl',os',n,st.n0⟩:=by
 refine (Weak.mk (st':=⟨sl1,st.os,st.nx,st.n0⟩) h1 (fun _ _ h=>h) rfl rfl).trans ?_;refine (Weak.ren (st:=⟨sl1,st.os,st.nx,st.n0⟩) (st':=⟨sl',os',st.nx,st.n0⟩) (zdi i j) (zgg i j) (fun k hk=>?_) (fun k hk=>?_) hl (fun id y hy=>ho.get id y hy) rfl rfl).trans ?_
 ·dsimp only at hk ⊢
  unfold zdi;(repeat' split);all_goals omega
 ·dsimp only at hk ⊢
  unfold zdi;(repeat' split);all_goals omega
 exact Weak.all (LeL.refl _) (fun _ _ h=>h) hn rfl h0 h6 h7
def OsSub (os:Os):Os->Prop
 | []=>True
 | (k,y)::ys=>zaa os k=some y/\OsSub os ys
theorem OsSub.get {os:Os}:∀{l:Os},OsSub os l->∀(id:Nat) (y:Ob),zaa l id=some y->zaa os id=some y
 | [],_,id,y,h=>by cases h
 | (k,z)::ys,h,id,y,hy=>by
  simp only[zaa] at hy;(split at hy);(·rename_i e;cases hy;subst e;exact h.1);exact OsSub.get h.2 id y hy
end Go.Proofs.YtkokfdmggdhfmaaGreatDoor
