/- Texts of the abstract walk, of the contracts and of the plain laws, packed (part 21 of 43): Arg. Conditions: none. -/
import Derived.Test.YtmepcmphcghbeaaDoorPk20
import Derived.ChangeArms
import Derived.ChangeSame
import Derived.ProofKit
namespace Go.Proofs.YtmepcmphcghbeaaDoor
open Go Go.RowKit Go.ChangeShapes Go.WideShapes
set_option linter.unnecessarySimpa false
section
variable {H : Type} {enc : TypeId × Value → H} {P : Program} {w : World} {base : Nat} {spare : Nat → Bool} {held : Bool} {E : Env}
def Rd (enc : TypeId × Value → H) (P : Program) (w : World) (base : Nat) (spare : Nat → Bool) (held : Bool) (E : Env) (fuel : Nat) (t : TypeId) {α : Type} (f : α → List AV) : Prop :=
  ∀ cs x, DataW.trod enc P w base spare held fuel t cs = some x → ∃ a : α, cs.length = (f a).length ∧ ∀ (i : Nat) (c : AV) (u : Value), (f a)[i]? = some c → cs[i]? = some u → Rp E (fun _ _ => False) w c u
theorem APure.calls {f : Nat} {args : List AV} {b : Bool} (h : APure P f args (.v (.bool b))) {vs : Array Value} (hs : vs.size = args.length) (hr : ∀ (i : Nat) (c : AV) (u : Value), args[i]? = some c → vs[i]? = some u → Rp Env.none (fun _ _ => False) w c u) (hgl : Gl (fun _ _ => False) w := by exact ⟨fun _ h => (by cases h), fun _ h => (by cases h), fun _ h => (by cases h)⟩) :
    Calls P f vs w fun e w' => e = .returned (.bool b) ∧ Below w.heap.size w w' := by
  have hno : ∀ b o, ¬ AvX (fun _ _ => False) Env.none [] b o := by rintro b o (h | ⟨id, ob, hg, _⟩); exact h; simp [getO] at hg
  refine (h.quiet (A0 := fun _ _ => False) (E := Env.none) (os := []) ⟨fun id ob hg => by simp [getO] at hg, fun i j oi oj b hg => by simp [getO] at hg, fun id ob b hg => by simp [getO] at hg, fun b o ha => ha.elim, hgl.mono fun b o ha => (hno b o ha).elim⟩ ⟨hs, fun i c u hc hu => (hr i c u hc hu).mono fun b o ha => (hno b o ha).elim⟩).mono ?_
  rintro e w' ⟨v, rfl, hb, hrv⟩
  cases hrv
  exact ⟨rfl, hb⟩
end
end Go.Proofs.YtmepcmphcghbeaaDoor
