/- packed, part 25 of 45. Conditions: none. -/
import Derived.Test.YtkokfdmggdhfmaaGreatDoorPk24
set_option linter.unusedVariables false
set_option linter.unusedSimpArgs false
namespace Go.Proofs.YtkokfdmggdhfmaaGreatDoor
open Go Go.RowKit
set_option linter.unnecessarySimpa false
def OsRen (ρ:Nat->Nat):Os->Os->Prop
 | [],[]=>True
 | (i,x)::xs,(k,y)::ys=>k=ρ i/\RenO ρ i x y/\OsRen ρ xs ys
 | _,_=>False
theorem zex {P:Program} {Q:Exit->St->Prop} {st:St} {x y:Code} {σ:Type} (mask:List Bool) (upd:σ->List (Nat×AV)) (osu:σ->Os) (nx:Nat) (C:σ->Prop)
  (h1:AWp P x (zD (fun st'=>∃s,C s/\Weak st' ⟨zcb (zbS mask st.sl) (upd s),osu s,nx,st.n0⟩) Q) st)
  (h2:∀s,C s->AWp P y Q ⟨zcb (zbS mask st.sl) (upd s),osu s,nx,st.n0⟩):AWp P (.seq x y) Q st :=
 zc9 (h1.mono fun e st' q=>by
  cases e with
  | normal =>
   obtain ⟨s,hC,hw⟩:=q
   exact zaB hw (h2 s hC)
  | _=>exact q)
def OsFrom (σ:Nat->Nat) (os:Os):Os->Prop
 | []=>True
 | (k,y)::ys=>(∃x,zJ os (σ k)=some x/\RenO σ (σ k) x y)/\OsFrom σ os ys
def OsSub (os:Os):Os->Prop
 | []=>True
 | (k,y)::ys=>zJ os k=some y/\OsSub os ys
theorem OsSub.get {os:Os}:∀{l:Os},OsSub os l->∀(id:Nat) (y:Ob),zJ l id=some y->zJ os id=some y
 | [],_,id,y,h=>by cases h
 | (k,z)::ys,h,id,y,hy=>by
  simp only[zJ] at hy;(split at hy);(·rename_i e;cases hy;subst e;exact h.1);exact OsSub.get h.2 id y hy
end Go.Proofs.YtkokfdmggdhfmaaGreatDoor
