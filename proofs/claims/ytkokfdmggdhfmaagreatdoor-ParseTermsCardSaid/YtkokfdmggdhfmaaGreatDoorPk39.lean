/- packed, part 39 of 45. Conditions: none. -/
import Derived.Test.YtkokfdmggdhfmaaGreatDoorPk38
set_option linter.unusedVariables false
set_option linter.unusedSimpArgs false
namespace Go.Proofs.YtkokfdmggdhfmaaGreatDoor
open Go Go.RowKit
set_option linter.unnecessarySimpa false
section
variable {P:Program} {l:List Oper} {Q:Exit->St->Prop} {os1:Os} {G:List Nat} {fuel:Nat} {listed:Array Bool} {st:St}
theorem zaz (i:Nat) {o:Oper} (hi:l[i]?=some o) (hs:Region.noSelect l.toArray=true) (hf:Region.free .any l.toArray listed i=true) (hr:(Region.ready .any l.toArray listed).contains i=true)
  (hQ:∀c st,¬Q (.panic c) st) (hd:∀d,o.dst=some d->G.contains d=false) (h:∀K:St->Prop,(∀st',zgu P l Q os1 G fuel (listed.setIfInBounds i true) st'->K st')->zdj P o st.ev fun x=>K (st.put o.dst x)):zgu P l Q os1 G (fuel+1) listed st:=by
 intro A0 Er w1 E a w hok hsim hG;obtain ⟨x,v,hk,hrp,hy⟩:=zcJ (l:=l) hsim (h _ fun _ h=>h);refine wpAnyH_take (oi:=o) (v:=v) (by simpa using hi) hs hf hr ?_ hy.yieldsIf hsim.stp ?_;(·rintro c a w ⟨st',E',hq,_⟩;exact absurd hq (hQ c st'));exact hk A0 Er w1 E _ w hok (hsim.set hrp o.dst) (gKeep hG o.dst x v hd)
end
end Go.Proofs.YtkokfdmggdhfmaaGreatDoor
