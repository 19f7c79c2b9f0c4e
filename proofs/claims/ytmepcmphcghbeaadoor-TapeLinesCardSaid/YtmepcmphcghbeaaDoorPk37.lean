/- Texts of the abstract walk, of the contracts and of the plain laws, packed (part 37 of 43): Ab34. Conditions: none. -/
import Derived.Test.YtmepcmphcghbeaaDoorPk36
import Derived.Lib.Builder
import Derived.Laws.Externs
import Derived.Lib.AppendStr
namespace Go.Proofs.YtmepcmphcghbeaaDoor
open Go Go.RowKit
set_option linter.unnecessarySimpa false
def MidAt (P : Program) (l mid : List Oper) (st : St) (K : St → Prop) : Prop :=
  ∀ (A0 : Nat → Nat → Prop) (E0 : Env) (os0 : Os) (w0 : World) (E : Env) (a : Act) (w : World) (Q : Exit → Act → World → Prop) (rest : List Oper), SimC A0 E0 os0 w0 E st a w →
    (∀ st2 E2 a2 w2, K st2 → SimC A0 E0 os0 w0 E2 st2 a2 w2 → wpList P l.toArray Q rest a2 w2) → wpList P l.toArray Q (mid ++ rest) a w
theorem AWp_mid {ro : Option Nat} {P : Program} {Q : Exit → St → Prop} {st : St} {id : Nat} {l : List Oper} (n : Nat) (mid post : List Oper) (hl : l = l.take n ++ (mid ++ post)) (h : aops P l (l.take n) st fun st1 => MidAt P l mid st1 fun st2 => aops P l post st2 (Q .normal)) :
    AWp ro P (.region id l.toArray false) Q st := by
  intro hno hnd A0 E0 os0 w0 E a w hs
  refine rn_region_lit hnd (noOut hno) ?_
  have key := aops_soundK (P := P) (ops := l) (rest2 := mid ++ post) (Q := fun e a' w' => ∃ st' E', Q e st' ∧ SimC A0 E0 os0 w0 E' st' a' w') (A0 := A0) (E0 := E0) (os0 := os0) (w0 := w0)
    (K := fun st1 => MidAt P l mid st1 fun st2 => aops P l post st2 (Q .normal)) (fun st1 E1 a1 w1 hk hsim => ?_) (l.take n) st E a w hs h
  · rw [← hl] at key; exact key
  · exact hk A0 E0 os0 w0 E1 a1 w1 _ post hsim fun st2 E2 a2 w2 hk2 hs2 => aops_sound (fun st3 E3 _ _ q s => ⟨st3, E3, q, s⟩) post st2 E2 a2 w2 hs2 hk2
theorem AWp_midK {ro : Option Nat} {P : Program} {Q : Exit → St → Prop} {st : St} {id : Nat} {l : List Oper} (n : Nat) (mid post : List Oper) (hl : l = l.take n ++ (mid ++ post))
    (h : ∀ K : St → Prop, (∀ st1, MidAt P l mid st1 (fun st2 => aops P l post st2 (Q .normal)) → K st1) → aops P l (l.take n) st K) : AWp ro P (.region id l.toArray false) Q st :=
  AWp_mid n mid post hl (h _ fun _ h => h)
end Go.Proofs.YtmepcmphcghbeaaDoor
