/- Texts of the abstract walk, of the contracts and of the plain laws, packed (part 17 of 40): Ab15. Conditions: none. -/
import Derived.Test.YtmepcmphcghbeaaDoorPk16
namespace Go.Proofs.YtmepcmphcghbeaaDoor
open Go Go.RowKit
set_option linter.unnecessarySimpa false
def Env.pull (ρ : Nat → Nat) (E : Env) : Env := ⟨fun i => E.valid (ρ i), fun i => E.blk (ρ i), fun i => E.cur (ρ i), fun i => E.cnt (ρ i), E.hb⟩
def RenV (ρ : Nat → Nat) (x y : AV) : Prop := ∀ E A w u, Rp (E.pull ρ) A w x u ↔ Rp E A w y u
def RenL (ρ : Nat → Nat) : List AV → List AV → Prop
  | [], [] => True
  | x :: xs, y :: ys => RenV ρ x y ∧ RenL ρ xs ys
  | _, _ => False
structure RenO (ρ : Nat → Nat) (i : Nat) (x y : Ob) : Prop where
  blk : ∀ E, y.blk E (ρ i) = x.blk (E.pull ρ) i
  av : y.av = x.av
  ok : ∀ E A w, x.ok (E.pull ρ) A w i ↔ y.ok E A w (ρ i)
open Classical in
noncomputable def Env.push (ρ : Nat → Nat) (n1 nx2 : Nat) (E E1 : Env) : Env where
  valid id := id < nx2
  blk id := if h : ∃ i, ρ i = id ∧ i < n1 then E1.blk h.choose else E.blk id
  cur id := if h : ∃ i, ρ i = id ∧ i < n1 then E1.cur h.choose else E.cur id
  cnt id := if h : ∃ i, ρ i = id ∧ i < n1 then E1.cnt h.choose else E.cnt id
  hb := E.hb
section
variable {ρ : Nat → Nat} {n1 nx2 : Nat} {E E1 : Env}
end
def AvRest (A0 : Nat → Nat → Prop) (E : Env) (ρ : Nat → Nat) (os os' : Os) (b o : Nat) : Prop :=
  A0 b o ∨ ∃ id ob, getO os' id = some ob ∧ (¬ ∃ i ob', ρ i = id ∧ getO os i = some ob') ∧ ob.blk E id = some b ∧ ob.av o
def renOf (ids : List Nat) (nx : Nat) (i : Nat) : Nat := (ids[i]?).getD (nx + (i - ids.length))
def enumO : Nat → List Ob → Os
  | _, [] => []
  | i, ob :: obs => (i, ob) :: enumO (i + 1) obs
def RenOs (ρ : Nat → Nat) : Nat → List Ob → List Ob → Prop
  | _, [], [] => True
  | i, x :: xs, y :: ys => RenO ρ i x y ∧ RenOs ρ (i + 1) xs ys
  | _, _, _ => False
def GetsO (os : Os) : List Nat → List Ob → Prop
  | [], [] => True
  | i :: is, o :: obs => getO os i = some o ∧ GetsO os is obs
  | _, _ => False
end Go.Proofs.YtmepcmphcghbeaaDoor
