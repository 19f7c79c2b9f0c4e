/- packed, part 28 of 47. Conditions: none. -/
import Derived.Test.YtkokfdmggdhfmaaGreatDoorPk27
set_option linter.unusedVariables false
set_option linter.unusedSimpArgs false
namespace Go.Proofs.YtkokfdmggdhfmaaGreatDoor
open Go Go.RowKit
set_option linter.unnecessarySimpa false
def isE:AV->Bool
 | .eptr _=>true
 | _=>false
section
variable {P:Program} {E:Env} {A0 A:Nat->Nat->Prop} {os:Os} {w:World}
theorem rLoad_det {t:Nat} {x:AV} {u:Value} {K:AV->Prop} (hos:OsOk A0 E os w) (hp:isE x=true) (hr:Rp E (AvX A0 E os) w x u) (h:zav P t x os K) :
  ∃a y v,u=.pointer (some a)/\(∀w',Stp (Av E os) w w'->(loadVar t a).run P w'=.ok v w')/\Rp E (AvX A0 E os) w y v/\K y:=by
 obtain ⟨a,y,v,rfl,h1,h2,h3⟩:=zdn (P:=P) hos hr h;refine ⟨a,y,v,rfl,fun w' hb=>?_,h2,h3⟩;unfold zav at h;(split at h);(·exact h.elim);(rename_i agg n ht);(split at h);(·cases hp);·cases hp
 ·rename_i cs
  obtain ⟨hle,hk⟩:=h
  cases hr with
  | @eptr cs b o g hcell hc =>
   (have hcj:∀j,j<(if agg then n else 1)->w.cell? ⟨b,o+j,none⟩=some (g j):=fun j hj=>(hcell j tz1).1);have e1:=zcQ (P:=P) ht b o g hcj;rw[e1] at h1;(cases h1);refine zcQ (P:=P) ht b o g fun j hj=>?_;have hlt:b<w.heap.size:=World.block_lt_of_cell? w _ (hcj j hj);exact (hb.cell b (o+j) hlt (fun ha=>(hcell j tz1).2 (.inr ha))).trans (hcj j hj)
 exact h.elim
end
section
variable {P:Program} {l:List Oper} {Q:Exit->St->Prop} {os1:Os} {fuel:Nat} {listed:Array Bool} {st:St}
end
end Go.Proofs.YtkokfdmggdhfmaaGreatDoor
