/- Texts of the abstract walk, of the contracts and of the plain laws, packed (part 26 of 48): Ab23. Conditions: none. -/
import Derived.Test.YtmepcmphcghbeaaDoorPk25
namespace Go.Proofs.YtmepcmphcghbeaaDoor
open Go Go.RowKit
set_option linter.unnecessarySimpa false
def isPE : AV → Bool
  | .ptr _ _ | .eptr _ => true
  | _ => false
def isSE : AV → Bool
  | .sl _ _ | .osl _ _ _ | .eptr _ => true
  | _ => false
section
variable {P : Program} {E : Env} {A0 A : Nat → Nat → Prop} {os : Os} {w : World}
theorem run_loadVar_val {t : Nat} {agg : Bool} {n : Nat} (ht : tinf P t = some (agg, n)) (b o : Nat) (g : Nat → Value) (hc : ∀ j, j < (if agg then n else 1) → w.cell? ⟨b, o + j, none⟩ = some (g j)) :
    (loadVar t ⟨b, o, none⟩).run P w = .ok (if agg then .agg ((List.range n).map g).toArray else g 0) w := by
  obtain ⟨h1, h2, _⟩ := tinf_spec ht
  cases agg with
  | true =>
    have h3 := run_loadCells (P := P) w ⟨b, o, none⟩ n g (fun j hj => by rw [addr_add]; exact hc j hj)
    simp [loadVar, h1, h2, h3]
  | false =>
    have h3 := hc 0 (by simp)
    simp only [Nat.add_zero] at h3
    simp [loadVar, h1, h3]
theorem aIndexA_det {t : Nat} {x i : AV} {u v : Value} {K : AV → Prop} (hos : OsOk A0 E os w) (hp : isSE x = true) (hr : Rp E (AvX A0 E os) w x u) (hi : Rp E (AvX A0 E os) w i v) (h : aIndexA P t x i os K) :
    ∃ y z, (∀ w' : World, (Instr.indexAt t u v).run P w' = .ok z w') ∧ Rp E (AvX A0 E os) w y z ∧ K y := by
  unfold aIndexA at h
  split at h
  case h_2 => exact h.elim
  rename_i k i
  cases hi
  have slc : ∀ (sz : Nat) (xs : List (List AV)), elemSz P t = some sz → Rp E (AvX A0 E os) w (.sl sz xs) u → 0 ≤ i → i < (xs.length : Int) →
      ∃ z, (∀ w' : World, (Instr.indexAt t u (.int k i)).run P w' = .ok z w') ∧ Rp E (AvX A0 E os) w (.eptr (xs.getD i.toNat [])) z := by
    intro sz xs he hx h0 h1
    obtain ⟨e, inf, hu, hinf, hsz⟩ := elemSz_spec he
    obtain ⟨b, o, cap, rfl, h2⟩ := hx.elem (i := i.toNat) (by omega)
    refine ⟨_, fun w' => ?_, h2⟩
    simp [Instr.indexAt, asIntOf, run_underlying hu, h0, h1, sizeOf, typeInfo, hinf, hsz, addr_add]
  split at h
  · rename_i sz he
    split at h
    · obtain ⟨rfl, h0, h1, hk⟩ := h
      obtain ⟨z, h2, h3⟩ := slc _ _ he hr h0 h1
      exact ⟨_, z, h2, h3, hk⟩
    · obtain ⟨rfl, h0, h1, hk⟩ := h
      obtain ⟨z, h2, h3⟩ := slc _ _ he (Le.osl _ _ _ _ _ _ _ hr) h0 h1
      exact ⟨_, z, h2, h3, hk⟩
    · cases hp
    · exact h.elim
  · split at h
    · rename_i len sz he
      obtain ⟨e, inf, hu, hinf, hsz⟩ := arrSz_spec he
      split at h
      · cases hp
      · obtain ⟨h0, h1, hk⟩ := h
        cases hr with
        | @eptr cs b o g hcell hc =>
          refine ⟨_, .pointer (some ⟨b, o + i.toNat * sz, none⟩), fun w' => ?_, ?_, hk⟩
          · simp [Instr.indexAt, asIntOf, run_underlying hu, h0, h1, sizeOf, typeInfo, hinf, hsz, addr_add, Instr.sureAddr]
          · exact .eptr (fun j => g (i.toNat * sz + j)) (fun j hj => by
              have := hcell (i.toNat * sz + j) (by simp at hj; omega)
              rwa [← Nat.add_assoc] at this) (fun j c hj => hc (i.toNat * sz + j) c (by rwa [List.getElem?_drop] at hj))
      · exact h.elim
    · exact h.elim
theorem aField_det {s f : Nat} {x : AV} {u : Value} {K : AV → Prop} (hp : isPE x = true) (hr : Rp E A w x u) (h : aField P s f x K) :
    ∃ y z, (∀ w' : World, (Instr.fieldAt s u f).run P w' = .ok z w') ∧ Rp E A w y z ∧ K y := by
  obtain ⟨y, z, h1, h2, h3⟩ := aField_sound (P := P) hr h
  unfold aField at h
  split at h
  · exact h.elim
  rename_i o ho
  have key : ∀ (a : Addr) (w' : World), (Instr.fieldAt s (.pointer (some a)) f).run P w' = .ok (.pointer (some (a.add o))) w' := by
    intro a w'
    unfold fieldOff at ho
    split at ho
    · rename_i fs hu
      cases hf : fs[f]? with
      | none => simp [hf] at ho
      | some fl =>
        simp only [hf, Option.bind_some] at ho
        split at ho
        · rename_i i hi
          split at ho
          · cases ho
          · rename_i hne
            cases ho
            simp [Instr.fieldAt, run_underlying hu, hf, Instr.sureAddr, fieldPlace, sizeOf, typeInfo, hi, hne]
        · cases ho
    · cases ho
  have hu : ∃ a, u = .pointer (some a) := by
    cases x with
    | ptr id off => cases hr; exact ⟨_, rfl⟩
    | eptr cs => cases hr; exact ⟨_, rfl⟩
    | _ => cases hp
  obtain ⟨a, rfl⟩ := hu
  rw [key a w] at h1
  cases h1
  exact ⟨y, _, fun w' => key a w', h2, h3⟩
end
section
variable {P : Program} {l : List Oper} {Q : Exit → St → Prop} {os1 : Os} {F : List Nat} {fuel : Nat} {listed : Array Bool} {st : St}
end
end Go.Proofs.YtmepcmphcghbeaaDoor
