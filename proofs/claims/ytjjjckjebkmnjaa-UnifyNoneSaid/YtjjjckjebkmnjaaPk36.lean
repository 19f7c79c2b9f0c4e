/- Texts of the abstract walk, of the contracts and of the plain laws, packed (part 36 of 41): Ab24. Conditions: none. -/
import Derived.Test.YtjjjckjebkmnjaaPk35
namespace Go.Proofs.Ytjjjckjebkmnjaa
open Go Go.RowKit
def LeF1 (os os' : Os) (x y : AV) : Prop := Le x y ∨ ∃ id t cs, x = .ptr id 0 ∧ y = .eptr cs ∧ getO os id = some (.cells t cs) ∧ getO os' id = none
def LeF (os os' : Os) : List AV → List AV → Prop
  | [], [] => True
  | x :: xs, y :: ys => LeF1 os os' x y ∧ LeF os os' xs ys
  | _, _ => False
theorem LeF.length {os os' : Os} : ∀ {l m : List AV}, LeF os os' l m → l.length = m.length
  | [], [], _ => rfl
  | _ :: _, _ :: _, h => by simp [h.2.length]
theorem LeF.get {os os' : Os} : ∀ {l m : List AV}, LeF os os' l m → ∀ (i : Nat) (y : AV), m[i]? = some y → ∃ x, l[i]? = some x ∧ LeF1 os os' x y
  | [], [], _, i, y, h => by simp at h
  | x :: _, z :: _, h, 0, y, hy => by simp at hy; subst hy; exact ⟨x, rfl, h.1⟩
  | _ :: _, _ :: _, h, i + 1, y, hy => by simpa using h.2.get i y (by simpa using hy)
end Go.Proofs.Ytjjjckjebkmnjaa
