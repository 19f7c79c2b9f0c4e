/- Texts of the abstract walk, of the contracts and of the plain laws, packed (part 29 of 40): Ab36. Conditions: none. -/
import Derived.Test.YtkokfdmggdhfmaaDoorPk28
import Derived.Lib.LaidTab
namespace Go.Proofs.YtkokfdmggdhfmaaDoor
open Go Go.RowKit
set_option linter.unusedSimpArgs false
set_option linter.unnecessarySimpa false
set_option linter.unusedVariables false
abbrev Ora := Nat → List AV → Option AV
def Ora.Ok (P : Program) (o : Ora) : Prop := ∀ f args x, o f args = some x → APure P f args x
def AV.soft : AV → AV
  | .osl _ sz xs => .sl sz xs
  | x => x
theorem AV.soft_le : ∀ x : AV, Le x x.soft
  | .osl i n xs => Le.osl i n xs
  | .any => .refl _
  | .v _ => .refl _
  | .agg _ => .refl _
  | .tup _ => .refl _
  | .sl _ _ => .refl _
  | .own _ _ => .refl _
  | .ptr _ _ => .refl _
  | .rptr .. => .refl _
  | .eptr _ => .refl _
  | .map _ => .refl _
  | .clo _ _ => .refl _
  | .mth _ _ => .refl _
theorem AV.soft_leL : ∀ l : List AV, LeL l (l.map AV.soft)
  | [] => trivial
  | x :: l => ⟨x.soft_le, AV.soft_leL l⟩
def AV.soft2 : AV → AV
  | .tup l => .tup (l.map AV.soft)
  | x => x.soft
theorem AV.soft2_le (x : AV) : Le x x.soft2 := by
  cases x with
  | tup l => exact Le.tup (AV.soft_leL l)
  | _ => exact AV.soft_le _
def eCallO (P : Program) (o : Ora) (pol : Pol) (fuel : Nat) : Nat → CallE
  | 0 => fun _ _ _ _ => none
  | n + 1 => fun f args os nx => match o f (args.map AV.soft) with
    | some x => some (x, os, nx)
    | none => match P.funcs[f]? with
      | some fn => (eBody P (eCallO P o pol fuel n) pol fuel fn args os nx).map (eClean nx)
      | none => none
def ePureO (P : Program) (o : Ora) (pol : Pol) (fuel n f : Nat) (args : List AV) (x : AV) : Bool :=
  AV.dataLB args && x.dataB && match eCallO P o pol fuel n f args [] 0 with
    | some (r, _, _) => AV.eqB r.soft2 x
    | none => false
section
variable {P : Program} {o : Ora}
theorem eCallO_sound (hm : P.follows .mixedOrders = true) (ho : o.Ok P) (pol : Pol) (fuel : Nat) : ∀ n, CallE.Ok P (eCallO P o pol fuel n) := by
  intro n
  induction n with
  | zero => intro f args os nx r os' nx' h; cases h
  | succ n ih =>
    intro f args os nx r os' nx' h
    rw [eCallO] at h
    dsimp only at h
    split at h
    · rename_i x hx
      cases h
      exact (APure.call (ho _ _ _ hx) ⟨rfl, rfl, rfl⟩).args (AV.soft_leL args)
    split at h
    · rename_i fn hf
      cases hb9 : eBody P (eCallO P o pol fuel n) pol fuel fn args os nx with
      | none => rw [hb9] at h; cases h
      | some p9 =>
      rw [hb9] at h
      have e9 : eClean nx p9 = (r, os', nx') := by simpa using h
      clear h
      have e10 : r = (eClean nx p9).1 ∧ os' = (eClean nx p9).2.1 ∧ nx' = (eClean nx p9).2.2 := by rw [e9]; exact ⟨rfl, rfl, rfl⟩
      rw [e10.1, e10.2.1, e10.2.2]
      refine eClean_sound ?_
      clear e9 e10
      obtain ⟨r, os', nx'⟩ := p9
      have h := hb9
      unfold eBody at h
      split at h
      · rename_i hn
        split at h
        · rename_i code hb
          have fin : ∀ st, (eRes P fn.results.toList st).map (fun l => (tupOf l, st.os, st.nx)) = some (r, os', nx') → aRes P fn.results.toList st fun l => tupOf l = r ∧ st.os = os' ∧ st.nx = nx' := fun st h => by
            cases he : eRes P fn.results.toList st with
            | none => rw [he] at h; cases h
            | some m => rw [he] at h; cases h; exact eRes_sound _ he ⟨rfl, rfl, rfl⟩
          refine ACalls_intro hf hn.1 hb hn.2 fun _ => ?_
          split at h
          · rename_i st1 he
            refine (eCode_sound hm ih code _ _ _ he).2.mono fun e1 s1 hh => ?_
            obtain ⟨rfl, rfl⟩ := hh
            exact fin _ h
          · rename_i st1 he
            refine (eCode_sound hm ih code _ _ _ he).2.mono fun e1 s1 hh => ?_
            obtain ⟨rfl, rfl⟩ := hh
            exact fin _ h
          · cases h
        · cases h
      · cases h
    · cases h
theorem ePureO_sound (hm : P.follows .mixedOrders = true) (ho : o.Ok P) {pol : Pol} {fuel n f : Nat} {args : List AV} {x : AV} (h : ePureO P o pol fuel n f args x = true) : APure P f args x := by
  simp only [ePureO, Bool.and_eq_true] at h
  obtain ⟨⟨h1, h2⟩, h3⟩ := h
  split at h3
  · rename_i r os nx he
    have hx := AV.eqB_sound _ _ h3
    refine ⟨AV.dataLB_sound _ h1, AV.dataB_sound _ h2, ACalls.res (Q := fun r1 _ _ => r1 = r) ?_ fun r1 _ _ hh => ⟨x, ?_, rfl⟩⟩
    · exact (eCallO_sound hm ho pol fuel n _ _ _ _ _ _ _ he).mono fun _ _ _ hh => hh.1
    · rw [hh, ← hx]; exact AV.soft2_le r
  · cases h3
theorem APure.ofCalls {f : Nat} {args : List AV} {x : AV} (hb : HasBody P f) (hd : DataL args) (hx : Data x)
    (h : ∀ (E : Env) (A : Nat → Nat → Prop) (w : World) (vs : Array Value), Gl A w → (∀ b o, A b o → b < w.heap.size) → RpL E A w args vs → Calls P f vs w fun e w' => ∃ v, e = .returned v ∧ Below w.heap.size w w' ∧ Rp E A w' x v) : APure P f args x := by
  refine ⟨hd, hx, hb, fun A0 E w vs hos hnx hr => (h E (AvX A0 E []) w vs hos.gl (fun b o ha => hos.lt ha) hr).mono ?_⟩
  rintro e w' ⟨v, rfl, hbl, hrv⟩
  exact ⟨x, v, [], 0, E, rfl, rfl, hrv, hos.keep hbl, hnx, .refl E, .of_below hbl, fun b o ha => .inl ha⟩
theorem Gl.tab {A : Nat → Nat → Prop} {w : World} (h : Gl A w) {g : Nat} {cs : List AV} (hg : (g, cs) ∈ GL) {name : String} (hn : P.globalNamed name = some g) {k : IntKind} {zs : List Int} (hz : cs = zs.map fun z => AV.v (.int k z)) : Lib.TabIs P w name k zs := by
  obtain ⟨_, us, t, z, h2, h3, h4⟩ := h.1 _ hg
  unfold Lib.TabIs World.var?
  rw [hn]
  simp only [Option.bind_some, h2]
  congr 1
  apply Array.ext
  · simp only at h3
    simp [h3, hz]
  · intro i h5 h6
    simp only [List.size_toArray, List.length_map] at h6
    have h7 := h4 i (.v (.int k zs[i])) us[i] (by simp [hz, h6]) (by simp [h5])
    simpa [AV.isV] using h7
theorem gl_one {W : World} {name : String} {k : IntKind} {zs : List Int} {g : Nat} {cs : List AV} (h : Lib.TabIs P W name k zs) (hg : P.globalNamed name = some g) (hz : cs = zs.map fun z => AV.v (.int k z)) :
    (∀ o : Nat, ¬ (fun (_ _ : Nat) => False) g o) ∧ ∃ us t z, W.heap[g]? = some (.cells us t z) ∧ us.size = cs.length ∧ ∀ (i : Nat) (c : AV) (u : Value), cs[i]? = some c → us[i]? = some u → c.isV u := by
  unfold Lib.TabIs World.var? at h
  rw [hg] at h
  simp only [Option.bind_some] at h
  split at h
  · rename_i us t z hh
    cases h
    refine ⟨fun _ h => h, _, t, z, hh, by simp [hz], fun i c u hc hu => ?_⟩
    subst hz
    simp only [List.getElem?_map, List.getElem?_toArray] at hc hu
    cases hx : zs[i]? with
    | none => rw [hx] at hc; cases hc
    | some x => rw [hx] at hc hu; cases hc; cases hu; rfl
  · cases h
theorem Gl.err {A : Nat → Nat → Prop} {w : World} (h : Gl A w) {g : Nat} (hg : g ∈ GE) {name : String} (hn : P.globalNamed name = some g) : ∃ tp p, w.var? P name = some #[.iface tp p] := by
  obtain ⟨_, tp, p, t, z, h2⟩ := h.2 _ hg
  refine ⟨tp, p, ?_⟩
  unfold World.var?
  rw [hn]
  simp only [Option.bind_some, h2]
theorem glE_one {W : World} {name : String} {g : Nat} {tp : TypeId} {p : Value} (h : W.var? P name = some #[.iface tp p]) (hg : P.globalNamed name = some g) :
    (∀ o : Nat, ¬ (fun (_ _ : Nat) => False) g o) ∧ ∃ tp p t z, W.heap[g]? = some (.cells #[.iface tp p] t z) := by
  unfold World.var? at h
  rw [hg] at h
  simp only [Option.bind_some] at h
  split at h
  · rename_i us t z hh
    cases h
    exact ⟨fun _ h => h, tp, p, t, z, hh⟩
  · cases h
theorem RpL.one {E : Env} {A : Nat → Nat → Prop} {w : World} {x : AV} {vs : Array Value} (h : RpL E A w [x] vs) : ∃ u, vs = #[u] ∧ Rp E A w x u := by
  obtain ⟨hs, hr⟩ := h
  have h0 : vs[0]? = some (vs[0]'(by simp [hs])) := Array.getElem?_eq_getElem (by simp [hs])
  refine ⟨vs[0]'(by simp [hs]), ?_, hr 0 _ _ rfl h0⟩
  apply Array.ext
  · simpa using hs
  · intro i h1 h2
    have : i = 0 := by simp at h2; omega
    subst this; rfl
theorem RpL.two {E : Env} {A : Nat → Nat → Prop} {w : World} {x y : AV} {vs : Array Value} (h : RpL E A w [x, y] vs) : ∃ u v, vs = #[u, v] ∧ Rp E A w x u ∧ Rp E A w y v := by
  obtain ⟨hs, hr⟩ := h
  have h0 : vs[0]? = some (vs[0]'(by simp [hs])) := Array.getElem?_eq_getElem (by simp [hs])
  have h1 : vs[1]? = some (vs[1]'(by simp [hs])) := Array.getElem?_eq_getElem (by simp [hs])
  refine ⟨vs[0]'(by simp [hs]), vs[1]'(by simp [hs]), ?_, hr 0 _ _ rfl h0, hr 1 _ _ rfl h1⟩
  apply Array.ext
  · simpa using hs
  · intro i h1 h2
    have : i = 0 ∨ i = 1 := by simp at h2; omega
    rcases this with rfl | rfl <;> rfl
theorem Rp.str {E : Env} {A : Nat → Nat → Prop} {w : World} {s : ByteArray} {u : Value} (h : Rp E A w (.v (.string s)) u) : u = .string s := by cases h; rfl
def strC (s : ByteArray) : List AV := [.v (.string s)]
theorem dataStrs (l : List ByteArray) : Data (.sl 1 (l.map strC)) := .sl fun x hx => by
  obtain ⟨y, _, rfl⟩ := List.mem_map.1 hx; exact .cons (.v _) .nil
theorem strC_flat (l : List ByteArray) : (l.map strC).flatten = l.map fun s => AV.v (.string s) := by
  induction l with
  | nil => rfl
  | cons x l ih => simp [strC, ih]
def strsOf : List (List AV) → Option (List ByteArray)
  | [] => some []
  | [.v (.string s)] :: xs => (strsOf xs).map fun l => s :: l
  | _ => none
theorem strsOf_spec : ∀ {xs : List (List AV)} {l : List ByteArray}, strsOf xs = some l → xs = l.map strC
  | [], l, h => by cases h; rfl
  | x :: xs, l, h => by
    unfold strsOf at h
    split at h
    · rename_i e; cases e
    · rename_i s ys e
      cases e
      cases hy : strsOf xs with
      | none => rw [hy] at h; cases h
      | some m => rw [hy] at h; cases h; rw [strsOf_spec hy]; rfl
    · cases h
theorem Rp.strs {E : Env} {A : Nat → Nat → Prop} {w : World} {l : List ByteArray} {u : Value} (h : Rp E A w (.sl 1 (l.map strC)) u) :
    (l = [] ∧ ∃ a cap, u = .slice a 0 cap) ∨ ∃ b o cap, u = .slice (some ⟨b, o, none⟩) l.length cap ∧ l.length ≤ cap ∧ cap ≤ maxLen ∧ ∀ (j : Nat) x, l[j]? = some x → w.cell? ⟨b, o + j, none⟩ = some (.string x) := by
  generalize hX : l.map strC = X at h
  cases h with
  | sl0 hc => exact .inl ⟨by simpa using hX, _, _, rfl⟩
  | sl g hn hcap hc hsz hcell hh =>
    subst hX
    refine .inr ⟨_, _, _, by rw [hn, List.length_map], by rw [hn, List.length_map] at hcap; exact hcap, hc, fun j x hj => ?_⟩
    have hjl := (List.getElem?_eq_some_iff.1 hj).1
    have h1 := hh j (.v (.string x)) (by rw [strC_flat, List.getElem?_map, hj]; rfl)
    rw [(hcell j (by rw [strC_flat, List.length_map]; exact hjl)).1, h1.str]
theorem strs_new {E : Env} {A : Nat → Nat → Prop} {w : World} (l : List ByteArray) (hA : ∀ b o, A b o → b < w.heap.size) (t : Nat) (hl : l.length ≤ maxLen) :
    Rp E A (w.alloc (.cells (l.map Value.string).toArray t)) (.sl 1 (l.map strC)) (.slice (some ⟨w.heap.size, 0, none⟩) l.length l.length) := by
  have hfl : (l.map strC).flatten.length = l.length := by rw [strC_flat, List.length_map]
  refine .sl (fun j => ((l.map Value.string).toArray).getD j undef) (by rw [List.length_map]) (Nat.le_refl _) hl (fun x hx => by obtain ⟨y, _, rfl⟩ := List.mem_map.1 hx; rfl) (fun j hj => ⟨?_, fun ha => ?_⟩) fun j c hj => ?_
  · rw [hfl] at hj
    rw [Nat.zero_add, cell_of_row _ _ _ ((l.map Value.string).toArray) t (0, 0) (heap_alloc_new w _)]
    simp [Array.getD, hj]
  · have := hA _ _ ha; omega
  · rw [strC_flat, List.getElem?_map] at hj
    cases hx : l[j]? with
    | none => rw [hx] at hj; cases hj
    | some y =>
      rw [hx] at hj
      have hlt := (List.getElem?_eq_some_iff.1 hx).1
      have hv := (List.getElem?_eq_some_iff.1 hx).2
      cases hj
      have : ((l.map Value.string).toArray).getD j undef = .string y := by simp [Array.getD, hlt, hv]
      rw [this]; exact .v _
end
end Go.Proofs.YtkokfdmggdhfmaaDoor
