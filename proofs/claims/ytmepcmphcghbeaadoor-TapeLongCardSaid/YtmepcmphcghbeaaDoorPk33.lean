/- Texts of the abstract walk, of the contracts and of the plain laws, packed (part 33 of 48): Bx. Conditions: none. -/
import Derived.Test.YtmepcmphcghbeaaDoorPk32
namespace Go.Proofs.YtmepcmphcghbeaaDoor
open Go
set_option linter.unnecessarySimpa false
def mB : Nat → Nat → List Bool
  | 0, _ => []
  | n + 1, b => (b % 2 == 1) :: mB n (b / 2)
theorem bU : (∀ (α β : Type) (f : α → β) (l : List α), (l.map f).length = l.length) ∧ (∀ (α β : Type) (f : α → β) (x : α), (some x).map f = some (f x)) ∧ (∀ (α β : Type) (f : α → β), (none : Option α).map f = none) ∧ (∀ (α : Type) (l : List α), l.take l.length = l) ∧ (∀ (α β : Type) (f : α → β) (l : List α), (l.map f).take l.length = l.map f) :=
  ⟨fun _ _ _ _ => List.length_map _, fun _ _ _ _ => rfl, fun _ _ _ => rfl, fun _ _ => List.take_length, fun _ _ f l => by have h := List.take_length (l := l.map f); rwa [List.length_map] at h⟩
theorem bV : (∀ (α : Type) (p : α → Prop) (a : α) (l : List α), (∀ x, x ∈ a :: l → p x) ↔ p a ∧ ∀ x, x ∈ l → p x) ∧ (∀ (α : Type) (a : α), (a ∈ ([] : List α)) = False) ∧ (∀ p : Prop, (False → p) ↔ True) ∧ (∀ (α : Type), (α → True) ↔ True) ∧ (∀ (α : Type) (p : α → Prop) (a : α), (∀ x, x = a → p x) ↔ p a) ∧ (∀ (α : Type) (a b : α), (a ∈ [b]) ↔ a = b) :=
  ⟨fun _ _ _ _ => List.forall_mem_cons, fun _ _ => by simp, fun _ => by simp, fun _ => by simp, fun _ _ _ => by simp, fun _ _ _ => by simp⟩
theorem bO : type_of% (And.intro @aops.eq_1 (And.intro @aops.eq_2 (And.intro @aop.eq_1 (And.intro @aWant.eq_1 @aVal.eq_1)))) := And.intro @aops.eq_1 (And.intro @aops.eq_2 (And.intro @aop.eq_1 (And.intro @aWant.eq_1 @aVal.eq_1)))
attribute [go_sem] aExtract_next
attribute [go_sem] aLoad getO pack aStore putO splice aField aPart aBin aUn aBool aIndexA aExtract_tup aBuild aFill aBuildSl aMore aSlice aBnd aIndexS aConv aLookup valAV aMapUpd aLenX aLen aMinMax aAppend slIn slAt slOf aCallV AV.flat AV.cl AV.one Value.oneCell' thenQ blockQ noGotoQ undef mB maskL setsL putsO retQ aRes tupOf LeL UndL UndOs Ob.Und aQuiet aHeldLoad CurL CurOk
attribute [go_sem] bS bA bL bU bV tyX and_self and_true true_and Und.v Und.any Und.ptr Und.map Und.tys Und.tyAgg Und.oslTys Und.oslTys1 Und.clo0 Und.ty
attribute [go_sem] Int.natCast_nonneg Int.toNat_natCast Int.le_refl Int.toNat_zero Int.toNat_one Nat.zero_lt_succ Int.ofNat_lt Int.natCast_one Int.cast_ofNat_Int Nat.one_mul Nat.mul_one List.range_succ List.range_zero
end Go.Proofs.YtmepcmphcghbeaaDoor
