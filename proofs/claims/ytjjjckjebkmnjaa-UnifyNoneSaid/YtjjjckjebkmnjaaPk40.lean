/- Texts of the abstract walk, of the contracts and of the plain laws, packed (part 40 of 41): Ab26. Conditions: none. -/
import Derived.Test.YtjjjckjebkmnjaaPk39
namespace Go.Proofs.Ytjjjckjebkmnjaa
open Go Go.RowKit
section
variable {P : Program} {l : List Oper} {Q : Exit → St → Prop} {os1 : Os} {G : List Nat} {fuel : Nat} {listed : Array Bool} {st : St}
def keepG (st st' : St) : List Nat → Prop
  | [] => True
  | d :: G => st'.get d = st.get d ∧ keepG st st' G
theorem keepG.get {st st' : St} : ∀ {G : List Nat}, keepG st st' G → ∀ d ∈ G, st'.get d = st.get d
  | d :: G, h, e, he => by
    rcases List.mem_cons.1 he with rfl | he
    · exact h.1
    · exact keepG.get h.2 e he
end
end Go.Proofs.Ytjjjckjebkmnjaa
