/- Texts of the abstract walk, of the contracts and of the plain laws, packed (part 22 of 50): Same. Conditions: none. -/
import Derived.Test.YtjjjckjebkmnjaaGreatPk21
set_option linter.unusedVariables false
set_option linter.unusedSimpArgs false
set_option maxRecDepth 100000
set_option maxHeartbeats 1000000
namespace Go.Proofs.YtjjjckjebkmnjaaGreat
open Go Go.RowKit
attribute [local irreducible] aops zaV
theorem Ty.ind {C:Ty→Prop} (h:∀T,(∀p∈T.ps,C p)→C T):∀T,C T:=by
  have key:∀n,∀T:Ty,SizeOf.sizeOf T≤n→C T:=by
    intro n
    induction n with
    | zero=>intro T hT;cases T;simp at hT
    | succ n ih =>
      intro T hT;refine h T (fun p hp=>ih p ?_)
      cases T with
      | mk k m ps =>
        have:=List.sizeOf_lt_of_mem (show p∈ps from hp);(simp at hT);omega
  exact fun T=>key _ T (zS _)
mutual
def Ty.same:Ty→Ty→Bool
  | .mk k n ps,.mk k' n' ps'=>k==k'&&n==n'&&Ty.sameL ps ps'
def Ty.sameL:List Ty→List Ty→Bool
  | [],[]=>true
  | p::ps,q::qs=>Ty.same p q&&Ty.sameL ps qs
  | _,_=>false
end
end Go.Proofs.YtjjjckjebkmnjaaGreat
