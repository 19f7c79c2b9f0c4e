/- Texts of the abstract walk, of the contracts and of the plain laws, packed (part 37 of 48): Ab32. Conditions: none. -/
import Derived.Test.YtmepcmphcghbeaaDoorPk36
namespace Go.Proofs.YtmepcmphcghbeaaDoor
open Go Go.RowKit
set_option linter.unnecessarySimpa false
section
variable {P : Program} {A0 : Nat → Nat → Prop} {E0 : Env} {os0 : Os} {w0 : World} {E : Env} {st : St} {a : Act} {w : World}
theorem aops_soundK {ops rest2 : List Oper} {Q : Exit → Act → World → Prop} {K : St → Prop} (hQ : ∀ st' E' a' w', K st' → SimC A0 E0 os0 w0 E' st' a' w' → wpList P ops.toArray Q rest2 a' w') :
    ∀ (l : List Oper) (st : St) (E : Env) (a : Act) (w : World), SimC A0 E0 os0 w0 E st a w → aops P ops l st K → wpList P ops.toArray Q (l ++ rest2) a w
  | [], st, E, a, w, h, hk => hQ st E a w hk h
  | o :: rest, st, E, a, w, h, hk => by
    simp only [aops] at hk
    refine wpList_step fun K' hK' => ?_
    rcases aWant_sound h hk with ⟨h1, h2⟩ | ⟨h1, h2⟩
    · rw [if_pos h1]
      refine Oper.wp_mono (fun a' w' hh => ?_) (aop_sound (Q' := Q) h h2)
      obtain ⟨st', E', q, s⟩ := hh
      exact hK' a' w' (aops_soundK hQ rest st' E' a' w' s q)
    · rw [h1]
      simp only [Bool.false_eq_true, if_false]
      exact hK' _ _ (aops_soundK hQ rest _ E _ w (h.set (.v _) o.dst) h2)
end
end Go.Proofs.YtmepcmphcghbeaaDoor
