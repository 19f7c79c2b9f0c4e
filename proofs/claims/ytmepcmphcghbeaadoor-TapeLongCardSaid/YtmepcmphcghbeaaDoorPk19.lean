/- Texts of the abstract walk, of the contracts and of the plain laws, packed (part 19 of 48): Bs. Conditions: none. -/
import Derived.Test.YtmepcmphcghbeaaDoorPk18
namespace Go.Proofs.YtmepcmphcghbeaaDoor
open Go
set_option linter.unnecessarySimpa false
theorem bS : (∀ (st : St) (t : Nat), st.ev (.tmp t) = st.get t) ∧ (∀ (st : St) (v : Value), st.ev (.const v) = .v v) ∧ (∀ (st : St) (f : Nat), st.ev (.func f) = .clo f []) ∧ (∀ (st : St) (t : Nat), st.get t = st.sl.getD t .any) ∧
    (∀ (st : St) (d : Nat) (x : AV), st.put (some d) x = ⟨st.sl.set d x, st.os, st.nx, st.n0⟩) ∧ (∀ (st : St) (x : AV), st.put none x = st) ∧ (∀ (st : St) (ob : Ob), st.new ob = ⟨st.sl, (st.nx, ob) :: st.os, st.nx + 1, st.n0⟩) :=
  ⟨fun _ _ => rfl, fun _ _ => rfl, fun _ _ => rfl, fun _ _ => rfl, fun _ _ _ => rfl, fun _ _ => rfl, fun _ _ => rfl⟩
theorem bA : (∀ (α : Type) (x d : α) (l : List α), (x :: l).getD 0 d = x) ∧ (∀ (α : Type) (x d : α) (l : List α) (n : Nat), (x :: l).getD (n + 1) d = l.getD n d) ∧
    (∀ (α : Type) (x a : α) (l : List α), (x :: l).set 0 a = a :: l) ∧ (∀ (α : Type) (x a : α) (l : List α) (n : Nat), (x :: l).set (n + 1) a = x :: l.set n a) ∧
    (∀ p : Prop, (True ∧ p) = p) ∧ (∀ p : Prop, (p ∧ True) = p) ∧ (∀ (α : Type) (h : Decidable True) (t e : α), @ite α True h t e = t) ∧ (∀ (α : Type) (h : Decidable False) (t e : α), @ite α False h t e = e) ∧
    ((false = true) = False) ∧ ((!true) = false) ∧ ((!false) = true) :=
  ⟨fun _ _ _ _ => rfl, fun _ _ _ _ _ => rfl, fun _ _ _ _ => rfl, fun _ _ _ _ _ => rfl, true_and, and_true, fun _ h t e => by simp, fun _ h t e => by simp, by simp, rfl, rfl⟩
theorem bL : (∀ (α : Type) (n : Nat) (x : α) (l : List α), (x :: l).take (n + 1) = x :: l.take n) ∧ (∀ (α : Type) (l : List α), l.take 0 = []) ∧ (∀ (α : Type) (n : Nat) (x : α) (l : List α), (x :: l).drop (n + 1) = l.drop n) ∧ (∀ (α : Type) (l : List α), l.drop 0 = l) ∧
    (∀ (α : Type) (x : α) (l : List α), (x :: l).length = l.length + 1) ∧ (∀ (α : Type), ([] : List α).length = 0) ∧ (∀ (α β : Type) (f : α → β) (x : α) (l : List α), (x :: l).map f = f x :: l.map f) ∧ (∀ (α β : Type) (f : α → β), ([] : List α).map f = []) ∧
    (∀ (α : Type) (l : List α), [] ++ l = l) ∧ (∀ (α : Type) (x : α) (l m : List α), (x :: l) ++ m = x :: (l ++ m)) ∧ (∀ (α : Type) (l : List α), l ++ [] = l) ∧ (∀ n : Nat, 0 + n = n) ∧ (∀ n : Nat, n + 0 = n) ∧ (∀ n : Nat, (n ≤ n) = True) ∧
    (∀ (α : Type) (f : α → Bool) (x : α) (l : List α), (x :: l).all f = (f x && l.all f)) ∧ (∀ (α : Type) (f : α → Bool), ([] : List α).all f = true) ∧ (∀ b : Bool, (b && true) = b) ∧ (∀ b : Bool, (true && b) = b) ∧
    (∀ (α : Type) (x : α) (l : List α), (x :: l)[0]? = some x) ∧ (∀ (α : Type) (x : α) (l : List α) (n : Nat), (x :: l)[n + 1]? = l[n]?) ∧ (∀ (α β : Type) (x : α) (f : α → Option β), (some x).bind f = f x) ∧
    (∀ (α β : Type) (f : α → β) (a : Array α), (a.map f).toList = a.toList.map f) ∧ (∀ (α : Type) (p : α → Prop) (a : α), (∃ x, x = a ∧ p x) ↔ p a) ∧ (∀ (α : Type) (p : α → Prop) (a : α), (∃ x, a = x ∧ p x) ↔ p a) :=
  ⟨fun _ _ _ _ => rfl, fun _ _ => rfl, fun _ _ _ _ => rfl, fun _ _ => rfl, fun _ _ _ => rfl, fun _ => rfl, fun _ _ _ _ _ => rfl, fun _ _ _ => rfl, fun _ _ => rfl, fun _ _ _ _ => rfl, fun _ l => List.append_nil l, Nat.zero_add, fun _ => rfl, fun n => eq_true (Nat.le_refl n),
   fun _ _ _ _ => rfl, fun _ _ => rfl, Bool.and_true, Bool.true_and, fun _ _ _ => rfl, fun _ _ _ _ => rfl, fun _ _ _ _ => rfl, fun _ _ _ a => by simp, fun _ p a => by simp, fun _ p a => by simp⟩
end Go.Proofs.YtmepcmphcghbeaaDoor
