/- Texts of the abstract walk, of the contracts and of the plain laws, packed (part 40 of 44): Ab24. Conditions: none. -/
import Derived.Test.YtohdoloalolpfaaPk39
namespace Go.Proofs.Ytohdoloalolpfaa
open Go Go.RowKit
def LeF1 (os os' : Os) (x y : AV) : Prop := Le x y ∨ ∃ id t cs, x = .ptr id 0 ∧ y = .eptr cs ∧ getO os id = some (.cells t cs) ∧ getO os' id = none
def LeF (os os' : Os) : List AV → List AV → Prop
  | [], [] => True
  | x :: xs, y :: ys => LeF1 os os' x y ∧ LeF os os' xs ys
  | _, _ => False
theorem LeF.length {os os' : Os} : ∀ {l m : List AV}, LeF os os' l m → l.length = m.length
  | [], [], _ => rfl
  | _ :: _, _ :: _, h => by simp [h.2.length]
theorem LeF.get {os os' : Os} : ∀ {l m : List AV}, LeF os os' l m → ∀ (i : Nat) (y : AV), m[i]? = some y → ∃ x, l[i]? = some x ∧ LeF1 os os' x y
  | [], [], _, i, y, h => by simp at h
  | x :: _, z :: _, h, 0, y, hy => by simp at hy; subst hy; exact ⟨x, rfl, h.1⟩
  | _ :: _, _ :: _, h, i + 1, y, hy => by simpa using h.2.get i y (by simpa using hy)
def wantF (ops : List Oper) (o : Oper) (st : St) : Bool :=
  match o.guard with
  | none => false
  | some (j, w) => match ((ops[j]?).bind (·.dst)) with
    | none => true
    | some d => match st.get d with
      | .v (.bool b) => b != w
      | .v (.tuple _) => true
      | _ => false
theorem aWant_F {ops : List Oper} {o : Oper} {st : St} {T F : Prop} (h : wantF ops o st = true) (hF : F) : aWant ops o st T F := by
  unfold wantF at h
  unfold aWant
  split
  · rename_i hg; rw [hg] at h; cases h
  · rename_i j w hg
    rw [hg] at h
    simp only at h
    split
    · exact hF
    · rename_i d hd
      rw [hd] at h
      simp only at h
      split
      · rename_i b hb
        rw [hb] at h
        simp only at h
        rw [if_neg (by intro e; subst e; simp at h)]
        exact hF
      · exact hF
      · rename_i h1 h2
        split at h
        · rename_i b hb; exact absurd hb (h1 b)
        · rename_i vs hvs; exact absurd hvs (h2 vs)
        · cases h
end Go.Proofs.Ytohdoloalolpfaa
