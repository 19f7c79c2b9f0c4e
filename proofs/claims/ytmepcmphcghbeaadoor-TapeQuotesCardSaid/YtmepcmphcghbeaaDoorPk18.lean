/- Texts of the abstract walk, of the contracts and of the plain laws, packed (part 18 of 40): Ab16. Conditions: none. -/
import Derived.Test.YtmepcmphcghbeaaDoorPk17
import Derived.Scope
namespace Go.Proofs.YtmepcmphcghbeaaDoor
open Go Go.RowKit
set_option linter.unnecessarySimpa false
theorem SimC.tokSlot {A0 : Nat → Nat → Prop} {E0 : Env} {os0 : Os} {w0 : World} {E : Env} {st : St} {a : Act} {w : World} (h : SimC A0 E0 os0 w0 E st a w) (i e sz : Nat) (hi : st.sl[i]? = some (.v (.slice none 0 0))) :
    ∃ E', SimC A0 E0 os0 w0 E' ⟨st.sl.set i (.osl st.nx sz []), (st.nx, .tok e sz 0) :: st.os, st.nx + 1, st.n0⟩ a w := by
  obtain ⟨E', h1, hv, hc, hcur⟩ := h.tok e sz
  refine ⟨E', h1.resl (sl' := st.sl.set i (.osl st.nx sz [])) (by simp) fun j c' u hc' hr => ?_⟩
  rw [List.getElem?_set] at hc'
  split at hc'
  · rename_i e1
    subst e1
    split at hc'
    · cases hc'
      exact NilLe.rp (.inr ⟨rfl, rfl⟩) hv hc hcur (hr _ hi)
    · cases hc'
  · exact hr _ hc'
theorem Weak.tokSlot {st : St} (i e sz : Nat) (hi : st.sl[i]? = some (.v (.slice none 0 0))) : Weak st ⟨st.sl.set i (.osl st.nx sz []), (st.nx, .tok e sz 0) :: st.os, st.nx + 1, st.n0⟩ := fun _ _ _ _ _ _ _ hs => hs.tokSlot i e sz hi
def noGotoQ (Q : Exit → St → Prop) : Exit → St → Prop
  | .goto _, _ => False
  | e, st => Q e st
theorem RenO.row {ρ : Nat → Nat} {i t sz : Nat} {xs : List (List AV)} (hd : ∀ x ∈ xs, DataL x) : RenO ρ i (.row t sz xs) (.row t sz xs) := by
  have hdf : ∀ c ∈ xs.flatten, Data c := fun c hc => by
    obtain ⟨x, hx, hcx⟩ := List.mem_flatten.1 hc
    exact hd x hx c hcx
  refine ⟨fun E => rfl, rfl, fun E A w => ⟨?_, ?_⟩⟩
  · rintro ⟨h1, h2, h3⟩
    refine ⟨h1, h2, ?_⟩
    rcases h3 with h3 | ⟨b, cap, cur, h3, h4, h5, h6, h7, h8⟩
    · exact .inl h3
    · exact .inr ⟨b, cap, cur, h3, h4, h5, h6, h7, fun j c u hc hu => hdf c (List.mem_of_getElem? hc) _ _ _ _ _ (h8 j c u hc hu)⟩
  · rintro ⟨h1, h2, h3⟩
    refine ⟨h1, h2, ?_⟩
    rcases h3 with h3 | ⟨b, cap, cur, h3, h4, h5, h6, h7, h8⟩
    · exact .inl h3
    · exact .inr ⟨b, cap, cur, h3, h4, h5, h6, h7, fun j c u hc hu => hdf c (List.mem_of_getElem? hc) _ _ _ _ _ (h8 j c u hc hu)⟩
end Go.Proofs.YtmepcmphcghbeaaDoor
