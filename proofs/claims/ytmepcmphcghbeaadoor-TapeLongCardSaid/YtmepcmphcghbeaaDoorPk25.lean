/- Texts of the abstract walk, of the contracts and of the plain laws, packed (part 25 of 48): Ab22. Conditions: none. -/
import Derived.Test.YtmepcmphcghbeaaDoorPk24
namespace Go.Proofs.YtmepcmphcghbeaaDoor
open Go Go.RowKit
set_option linter.unnecessarySimpa false
def OsRen (ρ : Nat → Nat) : Os → Os → Prop
  | [], [] => True
  | (i, x) :: xs, (k, y) :: ys => k = ρ i ∧ RenO ρ i x y ∧ OsRen ρ xs ys
  | _, _ => False
def OsFrom (σ : Nat → Nat) (os : Os) : Os → Prop
  | [] => True
  | (k, y) :: ys => (∃ x, getO os (σ k) = some x ∧ RenO σ (σ k) x y) ∧ OsFrom σ os ys
def OsSub (os : Os) : Os → Prop
  | [] => True
  | (k, y) :: ys => getO os k = some y ∧ OsSub os ys
theorem OsSub.get {os : Os} : ∀ {l : Os}, OsSub os l → ∀ (id : Nat) (y : Ob), getO l id = some y → getO os id = some y
  | [], _, id, y, h => by cases h
  | (k, z) :: ys, h, id, y, hy => by
    simp only [getO] at hy
    split at hy
    · rename_i e; cases hy; subst e; exact h.1
    · exact OsSub.get h.2 id y hy
end Go.Proofs.YtmepcmphcghbeaaDoor
