/- packed, part 35 of 45. Conditions: none. -/
import Derived.Test.YtkokfdmggdhfmaaGreatDoorPk34
set_option linter.unusedVariables false
set_option linter.unusedSimpArgs false
namespace Go.Proofs.YtkokfdmggdhfmaaGreatDoor
open Go Go.RowKit
set_option linter.unnecessarySimpa false
section
variable {P:Program} {l:List Oper} {Q:Exit->St->Prop} {os1:Os} {G:List Nat} {fuel:Nat} {listed:Array Bool} {st:St}
theorem zbw {i j:Nat} (hr:Region.ready .any l.toArray listed=[i,j]) {o p:Oper} (hi:l[i]?=some o) (hj:l[j]?=some p) (hd:∀d,o.dst=some d->G.contains d=false) (hd2:∀d,p.dst=some d->G.contains d=false)
  (h:aAt P l i st fun st'=>keepG st st' G/\zgu P l Q os1 G fuel (listed.setIfInBounds i true) st') (h2:aAt P l j st fun st'=>keepG st st' G/\zgu P l Q os1 G fuel (listed.setIfInBounds j true) st'):zgu P l Q os1 G (fuel+1) listed st :=
 zfS hr tz4 (fun k hk o' ho'=>by
  simp only[List.mem_cons,List.not_mem_nil,or_false] at hk;(rcases hk with rfl | rfl);·rw[hi] at ho';cases ho';exact hd
  rw[hj] at ho';cases ho';exact hd2) (by simpa using ⟨h,h2⟩)
end
end Go.Proofs.YtkokfdmggdhfmaaGreatDoor
