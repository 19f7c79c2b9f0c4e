/- Texts of the abstract walk, of the contracts and of the plain laws, packed (part 30 of 48): Ab36. Conditions: none. -/
import Derived.Test.YtmepcmphcghbeaaDoorPk29
import Derived.Lib.LaidTab
namespace Go.Proofs.YtmepcmphcghbeaaDoor
open Go Go.RowKit
set_option linter.unusedSimpArgs false
set_option linter.unnecessarySimpa false
set_option linter.unusedVariables false
abbrev Ora := Nat → List AV → Option AV
section
variable {P : Program} {o : Ora}
theorem APure.ofCalls {f : Nat} {args : List AV} {x : AV} (hb : HasBody P f) (hd : DataL args) (hx : Data x)
    (h : ∀ (E : Env) (A : Nat → Nat → Prop) (w : World) (vs : Array Value), Gl A w → (∀ b o, A b o → b < w.heap.size) → RpL E A w args vs → Calls P f vs w fun e w' => ∃ v, e = .returned v ∧ Below w.heap.size w w' ∧ Rp E A w' x v) : APure P f args x := by
  refine ⟨hd, hx, hb, fun A0 E w vs hos hnx hr => (h E (AvX A0 E []) w vs hos.gl (fun b o ha => hos.lt ha) hr).mono ?_⟩
  rintro e w' ⟨v, rfl, hbl, hrv⟩
  exact ⟨x, v, [], 0, E, rfl, rfl, hrv, hos.keep hbl, hnx, .refl E, .of_below hbl, fun b o ha => .inl ha⟩
theorem Gl.tab {A : Nat → Nat → Prop} {w : World} (h : Gl A w) {g : Nat} {cs : List AV} (hg : (g, cs) ∈ GL) {name : String} (hn : P.globalNamed name = some g) {k : IntKind} {zs : List Int} (hz : cs = zs.map fun z => AV.v (.int k z)) : Lib.TabIs P w name k zs := by
  obtain ⟨_, us, t, z, h2, h3, h4⟩ := h.1 _ hg
  unfold Lib.TabIs World.var?
  rw [hn]
  simp only [Option.bind_some, h2]
  congr 1
  apply Array.ext
  · simp only at h3
    simp [h3, hz]
  · intro i h5 h6
    simp only [List.size_toArray, List.length_map] at h6
    have h7 := h4 i (.v (.int k zs[i])) us[i] (by simp [hz, h6]) (by simp [h5])
    simpa [AV.isV] using h7
theorem gl_one {W : World} {name : String} {k : IntKind} {zs : List Int} {g : Nat} {cs : List AV} (h : Lib.TabIs P W name k zs) (hg : P.globalNamed name = some g) (hz : cs = zs.map fun z => AV.v (.int k z)) :
    (∀ o : Nat, ¬ (fun (_ _ : Nat) => False) g o) ∧ ∃ us t z, W.heap[g]? = some (.cells us t z) ∧ us.size = cs.length ∧ ∀ (i : Nat) (c : AV) (u : Value), cs[i]? = some c → us[i]? = some u → c.isV u := by
  unfold Lib.TabIs World.var? at h
  rw [hg] at h
  simp only [Option.bind_some] at h
  split at h
  · rename_i us t z hh
    cases h
    refine ⟨fun _ h => h, _, t, z, hh, by simp [hz], fun i c u hc hu => ?_⟩
    subst hz
    simp only [List.getElem?_map, List.getElem?_toArray] at hc hu
    cases hx : zs[i]? with
    | none => rw [hx] at hc; cases hc
    | some x => rw [hx] at hc hu; cases hc; cases hu; rfl
  · cases h
theorem Gl.err {A : Nat → Nat → Prop} {w : World} (h : Gl A w) {g : Nat} (hg : g ∈ GE) {name : String} (hn : P.globalNamed name = some g) : ∃ tp p, w.var? P name = some #[.iface tp p] := by
  obtain ⟨_, tp, p, t, z, h2⟩ := h.2.1 _ hg
  refine ⟨tp, p, ?_⟩
  unfold World.var?
  rw [hn]
  simp only [Option.bind_some, h2]
theorem Gl.has {A : Nat → Nat → Prop} {w : World} (h : Gl A w) {p : World → Prop} (hp : p ∈ GW) : p w := h.2.2 p hp w (.refl A w)
theorem glE_one {W : World} {name : String} {g : Nat} {tp : TypeId} {p : Value} (h : W.var? P name = some #[.iface tp p]) (hg : P.globalNamed name = some g) :
    (∀ o : Nat, ¬ (fun (_ _ : Nat) => False) g o) ∧ ∃ tp p t z, W.heap[g]? = some (.cells #[.iface tp p] t z) := by
  unfold World.var? at h
  rw [hg] at h
  simp only [Option.bind_some] at h
  split at h
  · rename_i us t z hh
    cases h
    exact ⟨fun _ h => h, tp, p, t, z, hh⟩
  · cases h
theorem RpL.one {E : Env} {A : Nat → Nat → Prop} {w : World} {x : AV} {vs : Array Value} (h : RpL E A w [x] vs) : ∃ u, vs = #[u] ∧ Rp E A w x u := by
  obtain ⟨hs, hr⟩ := h
  have h0 : vs[0]? = some (vs[0]'(by simp [hs])) := Array.getElem?_eq_getElem (by simp [hs])
  refine ⟨vs[0]'(by simp [hs]), ?_, hr 0 _ _ rfl h0⟩
  apply Array.ext
  · simpa using hs
  · intro i h1 h2
    have : i = 0 := by simp at h2; omega
    subst this; rfl
theorem RpL.two {E : Env} {A : Nat → Nat → Prop} {w : World} {x y : AV} {vs : Array Value} (h : RpL E A w [x, y] vs) : ∃ u v, vs = #[u, v] ∧ Rp E A w x u ∧ Rp E A w y v := by
  obtain ⟨hs, hr⟩ := h
  have h0 : vs[0]? = some (vs[0]'(by simp [hs])) := Array.getElem?_eq_getElem (by simp [hs])
  have h1 : vs[1]? = some (vs[1]'(by simp [hs])) := Array.getElem?_eq_getElem (by simp [hs])
  refine ⟨vs[0]'(by simp [hs]), vs[1]'(by simp [hs]), ?_, hr 0 _ _ rfl h0, hr 1 _ _ rfl h1⟩
  apply Array.ext
  · simpa using hs
  · intro i h1 h2
    have : i = 0 ∨ i = 1 := by simp at h2; omega
    rcases this with rfl | rfl <;> rfl
theorem Rp.str {E : Env} {A : Nat → Nat → Prop} {w : World} {s : ByteArray} {u : Value} (h : Rp E A w (.v (.string s)) u) : u = .string s := by cases h; rfl
def strC (s : ByteArray) : List AV := [.v (.string s)]
theorem dataStrs (l : List ByteArray) : Data (.sl 1 (l.map strC)) := .sl fun x hx => by
  obtain ⟨y, _, rfl⟩ := List.mem_map.1 hx; exact .cons (.v _) .nil
theorem strC_flat (l : List ByteArray) : (l.map strC).flatten = l.map fun s => AV.v (.string s) := by
  induction l with
  | nil => rfl
  | cons x l ih => simp [strC, ih]
theorem strs_new {E : Env} {A : Nat → Nat → Prop} {w : World} (l : List ByteArray) (hA : ∀ b o, A b o → b < w.heap.size) (t : Nat) (hl : l.length ≤ maxLen) :
    Rp E A (w.alloc (.cells (l.map Value.string).toArray t)) (.sl 1 (l.map strC)) (.slice (some ⟨w.heap.size, 0, none⟩) l.length l.length) := by
  have hfl : (l.map strC).flatten.length = l.length := by rw [strC_flat, List.length_map]
  refine .sl (fun j => ((l.map Value.string).toArray).getD j undef) (by rw [List.length_map]) (Nat.le_refl _) hl (fun x hx => by obtain ⟨y, _, rfl⟩ := List.mem_map.1 hx; rfl) (fun j hj => ⟨?_, fun ha => ?_⟩) fun j c hj => ?_
  · rw [hfl] at hj
    rw [Nat.zero_add, cell_of_row _ _ _ ((l.map Value.string).toArray) t (0, 0) (heap_alloc_new w _)]
    simp [Array.getD, hj]
  · have := hA _ _ ha; omega
  · rw [strC_flat, List.getElem?_map] at hj
    cases hx : l[j]? with
    | none => rw [hx] at hj; cases hj
    | some y =>
      rw [hx] at hj
      have hlt := (List.getElem?_eq_some_iff.1 hx).1
      have hv := (List.getElem?_eq_some_iff.1 hx).2
      cases hj
      have : ((l.map Value.string).toArray).getD j undef = .string y := by simp [Array.getD, hlt, hv]
      rw [this]; exact .v _
end
end Go.Proofs.YtmepcmphcghbeaaDoor
