/- Texts of the abstract walk, of the contracts and of the plain laws, packed (part 39 of 48): Ab37. Conditions: none. -/
import Derived.Test.YtmepcmphcghbeaaDoorPk38
namespace Go.Proofs.YtmepcmphcghbeaaDoor
open Go Go.RowKit
set_option linter.unusedSimpArgs false
set_option linter.unnecessarySimpa false
set_option linter.unusedVariables false
section
variable {P : Program} {A0 : Nat → Nat → Prop} {E0 : Env} {os0 : Os} {w0 : World} {E : Env} {st : St} {a : Act} {w : World}
theorem SimC.newTok (h : SimC A0 E0 os0 w0 E st a w) {e sz n : Nat} {xs : List (List AV)} {w' : World} (hb : Below w.heap.size w w') {cells : Array Value} (hn : n = xs.length) (hn0 : n ≤ maxLen) (hh : w'.heap[w.heap.size]? = some (.cells cells e (0, 0))) (hsz : cells.size = n * sz)
    (hxl : ∀ x ∈ xs, x.length = sz) (hr : ∀ (j : Nat) (c : AV) (u : Value), xs.flatten[j]? = some c → cells[j]? = some u → Rp E (AvX A0 E st.os) w c u) :
    ∃ E', SimC A0 E0 os0 w0 E' { st with os := (st.nx, .tok e sz n) :: st.os, nx := st.nx + 1 } a w' ∧ Rp E' (AvX A0 E' ((st.nx, .tok e sz n) :: st.os)) w' (.osl st.nx sz xs) (.slice (some ⟨w.heap.size, 0, none⟩) n n) := by
  have hne : ∀ j, E.valid j → j ≠ st.nx := fun j hv he => by have := (h.nx j).1 hv; omega
  have hext : Ext E (E.add st.nx 0 (.slice (some ⟨w.heap.size, 0, none⟩) n n) n) := ⟨rfl, fun _ hv => .inl hv, fun j hv => by simp [Env.add, hne j hv], fun j hv => by simp [Env.add, hne j hv], fun j hv _ => by simp [Env.add, hne j hv]⟩
  have hs := h.add hb 0 (.slice (some ⟨w.heap.size, 0, none⟩) n n) n (.tok e sz n) (fun b hb => by simp [Ob.blk, Env.add, Value.ownBlock] at hb; omega)
    ⟨by simp [Env.add], .inr ⟨w.heap.size, n, cells, by simp [Env.add], by omega, hn0, hh, hsz, trivial⟩⟩
  have hfl : xs.flatten.length = n * sz := by rw [flatten_len sz xs hxl, hn]
  have hA : ∀ b o, AvX A0 (E.add st.nx 0 (.slice (some ⟨w.heap.size, 0, none⟩) n n) n) ((st.nx, .tok e sz n) :: st.os) b o → AvX A0 E st.os b o ∨ (b = w.heap.size ∧ n * sz ≤ o) := by
    rintro b o (ha | ⟨id, o', hg, hbk, hav⟩)
    · exact .inl (.inl ha)
    · simp only [getO] at hg
      split at hg
      · rename_i he; cases hg; subst he; simp [Ob.blk, Env.add, Value.ownBlock] at hbk
        exact .inr ⟨hbk.symm, hav⟩
      · rename_i he
        rw [Ob.blk_add (fun e => he e.symm)] at hbk
        exact .inl (.inr ⟨id, o', hg, hbk, hav⟩)
  refine ⟨_, hs, .osl (.inr rfl) (.sl (fun j => cells.getD j undef) hn (Nat.le_refl _) hn0 hxl (fun j hj => ⟨?_, fun ha => ?_⟩) fun j c hj => ?_) (by simp [Env.add, hn]) (fun _ => by simp [Env.add])⟩
  · have hlt : j < cells.size := by omega
    rw [Nat.zero_add, cell_of_row w' _ _ cells e (0, 0) hh]
    simp [Array.getD, hlt]
  · rcases hA _ _ ha with h1 | ⟨_, h1⟩
    · have := h.os.lt h1; omega
    · omega
  · have hlt : j < cells.size := by rw [hsz, ← hfl]; exact (List.getElem?_eq_some_iff.1 hj).1
    refine (hr j c _ hj (by simp [Array.getD, hlt])).step (.of_below hb) hext fun b o ha => ?_
    rcases hA b o ha with h1 | ⟨h1, _⟩
    · exact .inl h1
    · exact .inr (by omega)
theorem MidAt_lit {P : Program} {l : List Oper} {st : St} {K : St → Prop} {d : Option Nat} {t n ty : Nat} {pos : String} {after : Array Edge} {parts : Array (Nat × Operand)}
    {e sz bytes : Nat} (he : elemInf P t = some (e, sz, bytes)) (hle : n * sz ≤ 2 ^ 24) (hord : parts.toList.map (·.1) = List.range n) (hn : n ≠ 0) (hall : ∀ p ∈ parts.toList, (st.ev p.2).flat = true ∧ (st.ev p.2).cl.length = sz)
    (hK : K ((st.new (.tok e sz n)).put d (.osl st.nx sz (parts.toList.map fun p => (st.ev p.2).cl)))) :
    MidAt P l [{ dst := d, op := .buildSlice t n parts, type := ty, pos := pos, after := after, guard := none }] st K := by
  have val : ∀ (s : Sem Value) (v : Value) (w w' : World), s.run P w = .ok v w' → ((do pure (.value (← s))) : Sem Next).run P w = .ok (.value v) w' := fun s v w w' h => by
    simp only [Sem.run_bind, h, Result.andThen_ok, Sem.run_pure]
  intro A0 E0 os0 w0 E a w Q rest h hq
  obtain ⟨i, zv, ht, hi, hzero, rfl, rfl, hzs, hsz0⟩ := elemInf_spec he
  have hpl : parts.size = n := by have := congrArg List.length hord; simpa using this
  obtain ⟨z, w', cells, h1, h2, h3, hz, hnm, hh, hcs, hcr⟩ := buildSl_sound (P := P) h.os (ev := st.ev) (ρ := a.eval) (fun p _ => h.ev p.2) he hle hord hn (fun p hp => hall p hp)
  obtain ⟨E', h4, h5⟩ := h.newTok (e := e) (sz := i.size) (n := n) (xs := parts.toList.map fun p => (st.ev p.2).cl) h2 (by simp [hpl]) hnm hh hcs (fun x hx => by
    obtain ⟨p, hp, rfl⟩ := List.mem_map.1 hx
    exact (hall p hp).2) hcr
  refine wpList_step fun K1 hK1 => ?_
  rw [if_pos (by simp [Region.wanted])]
  unfold Oper.wp
  simp only [execOp, val _ _ _ _ h1, Oper.upon_value]
  rw [← hz] at h5
  exact hK1 _ _ (hq _ E' _ _ hK (h4.set h5 d))
end
end Go.Proofs.YtmepcmphcghbeaaDoor
