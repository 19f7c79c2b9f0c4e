/- Texts of the abstract walk, of the contracts and of the plain laws, packed (part 26 of 40): Ab22. Conditions: none. -/
import Derived.Test.YtkokfdmggdhfmaaDoorPk25
namespace Go.Proofs.YtkokfdmggdhfmaaDoor
open Go Go.RowKit
set_option linter.unnecessarySimpa false
def OsRen (ρ : Nat → Nat) : Os → Os → Prop
  | [], [] => True
  | (i, x) :: xs, (k, y) :: ys => k = ρ i ∧ RenO ρ i x y ∧ OsRen ρ xs ys
  | _, _ => False
def OsFrom (σ : Nat → Nat) (os : Os) : Os → Prop
  | [] => True
  | (k, y) :: ys => (∃ x, getO os (σ k) = some x ∧ RenO σ (σ k) x y) ∧ OsFrom σ os ys
def OsSub (os : Os) : Os → Prop
  | [] => True
  | (k, y) :: ys => getO os k = some y ∧ OsSub os ys
end Go.Proofs.YtkokfdmggdhfmaaDoor
