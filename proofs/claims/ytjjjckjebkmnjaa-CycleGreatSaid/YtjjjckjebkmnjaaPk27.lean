/- Texts of the abstract walk, of the contracts and of the plain laws, packed (part 27 of 43): Ab26. Conditions: none. -/
import Derived.Test.YtjjjckjebkmnjaaPk26
namespace Go.Proofs.Ytjjjckjebkmnjaa
open Go Go.RowKit
def wantTB (ops : List Oper) (o : Oper) (st : St) : Bool :=
  match o.guard with
  | none => true
  | some (j, w) => match ((ops[j]?).bind (·.dst)) with
    | none => false
    | some d => match st.get d with
      | .v (.bool b) => b == w
      | _ => false
theorem aWant_T {ops : List Oper} {o : Oper} {st : St} {T F : Prop} (h : wantTB ops o st = true) (hT : T) : aWant ops o st T F := by
  unfold wantTB at h
  unfold aWant
  split
  · exact hT
  · rename_i j w hg
    rw [hg] at h
    simp only at h
    split
    · rename_i hd; rw [hd] at h; cases h
    · rename_i d hd
      rw [hd] at h
      simp only at h
      split
      · rename_i b hb
        rw [hb] at h
        simp only [beq_iff_eq] at h
        rw [if_pos h]; exact hT
      · rename_i vs hvs; rw [hvs] at h; cases h
      · rename_i h1 h2
        split at h
        · rename_i b hb; exact absurd hb (h1 b)
        · cases h
section
variable {P : Program} {l : List Oper} {Q : Exit → St → Prop} {os1 : Os} {G : List Nat} {fuel : Nat} {listed : Array Bool} {st : St}
def keepG (st st' : St) : List Nat → Prop
  | [] => True
  | d :: G => st'.get d = st.get d ∧ keepG st st' G
theorem keepG.get {st st' : St} : ∀ {G : List Nat}, keepG st st' G → ∀ d ∈ G, st'.get d = st.get d
  | d :: G, h, e, he => by
    rcases List.mem_cons.1 he with rfl | he
    · exact h.1
    · exact keepG.get h.2 e he
end
end Go.Proofs.Ytjjjckjebkmnjaa
