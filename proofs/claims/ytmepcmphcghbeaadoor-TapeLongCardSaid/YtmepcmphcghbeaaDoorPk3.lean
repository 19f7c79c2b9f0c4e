/- Texts of the abstract walk, of the contracts and of the plain laws, packed (part 3 of 48): Ab2. Conditions: none. -/
import Derived.Test.YtmepcmphcghbeaaDoorPk2
namespace Go.Proofs.YtmepcmphcghbeaaDoor
open Go Go.RowKit
set_option linter.unnecessarySimpa false
structure St where
  sl : List AV
  os : Os
  nx : Nat
  n0 : Nat
def St.get (st : St) (t : Nat) : AV := st.sl.getD t .any
def St.ev (st : St) : Operand → AV
  | .tmp t => st.get t
  | .const v => .v v
  | .func f => .clo f []
  | .global g => glEv g
def St.put (st : St) (d : Option Nat) (x : AV) : St :=
  match d with
  | some d => { st with sl := st.sl.set d x }
  | none => st
abbrev mark (D : Nat) : Deferred := { target := .collected D, args := #[] }
def DefOk (n : Nat) (w : World) (l : List Deferred) : Prop :=
  ∃ Ds : List Nat, Ds.Nodup ∧ l = Ds.map mark ∧ ∀ D ∈ Ds, w.heap[D]? = some (.deferred (some [])) ∧ n ≤ D
theorem DefOk.nil (n : Nat) (w : World) : DefOk n w [] := ⟨[], List.nodup_nil, rfl, fun _ h => by cases h⟩
theorem DefOk.keep {n : Nat} {w w' : World} {l : List Deferred} (h : DefOk n w l) (hb : Below w.heap.size w w') : DefOk n w' l := by
  obtain ⟨Ds, h1, h2, h3⟩ := h
  exact ⟨Ds, h1, h2, fun D hD => ⟨(hb.block D (Array.getElem?_eq_some_iff.1 (h3 D hD).1).1).trans (h3 D hD).1, (h3 D hD).2⟩⟩
def ValidN (E : Env) (nx : Nat) : Prop := ∀ id, E.valid id ↔ id < nx
structure SimC (A0 : Nat → Nat → Prop) (E0 : Env) (os0 : Os) (w0 : World) (E : Env) (st : St) (a : Act) (w : World) : Prop where
  size : a.tmps.size = st.sl.length
  sl : ∀ (i : Nat) (c : AV) (u : Value), st.sl[i]? = some c → a.tmps[i]? = some u → Rp E (AvX A0 E st.os) w c u
  os : OsOk A0 E st.os w
  nx : ValidN E st.nx
  defers : DefOk E.hb w a.defers
  hbl : E.hb ≤ w.heap.size
  ext : Ext E0 E
  stp : Stp (Av E0 os0) w0 w
  sub : ∀ b o, Av E st.os b o → Av E0 os0 b o ∨ w0.heap.size ≤ b
  base : ∀ id, E0.valid id → id < st.n0
theorem Ob.ok_gen {E E' : Env} {A A' : Nat → Nat → Prop} {w w' : World} {id : Nat} {ob : Ob} (h : ob.ok E A w id) (hv : E.valid id) (he : Ext E E')
    (kc : ∀ b o y, w.cell? ⟨b, o, none⟩ = some y ∧ ¬ A b o → w'.cell? ⟨b, o, none⟩ = some y ∧ ¬ A' b o) (hc : E'.cnt id = E.cnt id) (hb : ∀ b, ob.blk E id = some b → w'.heap[b]? = w.heap[b]?) : ob.ok E' A' w' id := by
  have hcur := he.cur id hv hc
  have hrow : ∀ (t sz n : Nat) (C C' : Array Value → Prop), ob.blk E id = (E.cur id).ownBlock → (∀ cur, C cur → C' cur) → RowAt w (E.cur id) t sz n C → RowAt w' (E'.cur id) t sz n C' := by
    intro t sz n C C' hbe hC hr
    rw [hcur]
    rcases hr with h0 | ⟨b, cap, cur, hs', hn, hcap, hh, hsz, hCC⟩
    · exact .inl h0
    · exact .inr ⟨b, cap, cur, hs', hn, hcap, by rw [hb b (by rw [hbe, hs']; rfl)]; exact hh, hsz, hC _ hCC⟩
  cases ob with
  | cells t cs =>
    obtain ⟨cur, hh, hsz, hr⟩ := h
    exact ⟨cur, by rw [he.blk id hv, hb _ rfl]; exact hh, hsz, fun i c u hc hu => (hr i c u hc hu).gen he kc⟩
  | tok t sz n => exact ⟨by rw [hc]; exact h.1, hrow t sz n _ _ rfl (fun _ h => h) h.2⟩
  | row t sz xs =>
    exact ⟨by rw [hc]; exact h.1, h.2.1, hrow t sz _ _ _ rfl (fun _ h j c u hc hu => (h j c u hc hu).gen he kc) h.2.2⟩
  | map es =>
    obtain ⟨ents, clock, hh, hsz, hr, hst⟩ := h
    exact ⟨ents, clock, by rw [he.blk id hv, hb _ rfl]; exact hh, hsz, fun i p e hp hee => ⟨(hr i p e hp hee).1, (hr i p e hp hee).2.gen he kc⟩, hst⟩
  | raw o => exact ⟨h.1, by rw [he.blk id hv, hb _ rfl]; exact h.2⟩
  | loop r sl => exact ⟨by rw [he.blk id hv, hb _ rfl]; exact h.1, h.2.1, fun i c u hc hu => (h.2.2 i c u hc hu).gen he kc⟩
theorem Ob.ok_step {E E' : Env} {A A' : Nat → Nat → Prop} {w w' : World} {id : Nat} {ob : Ob} (h : ob.ok E A w id) (hv : E.valid id) (he : Ext E E') (hs : Stp A w w')
    (hA : ∀ b o, A' b o → A b o ∨ w.heap.size ≤ b) (hc : E'.cnt id = E.cnt id) (hb : ∀ b, ob.blk E id = some b → w'.heap[b]? = w.heap[b]?) : ob.ok E' A' w' id :=
  Ob.ok_gen h hv he (fun b o y ⟨hc, hn⟩ => by
    have hb : b < w.heap.size := World.block_lt_of_cell? w _ hc
    exact ⟨(hs.cell b o hb hn).trans hc, fun ha => (hA b o ha).elim hn (fun hh => by omega)⟩) hc hb
theorem OsOk.no_def {A0 : Nat → Nat → Prop} {E : Env} {os : Os} {w : World} (h : OsOk A0 E os w) {D : Nat} {x : Option (List Deferred)} (hD : w.heap[D]? = some (.deferred x)) (o : Nat) : ¬ Av E os D o := by
  rintro ⟨id, ob, hg, hb, _⟩
  have ho := (h.ok id ob hg).2
  have hrow : ∀ (t sz n : Nat) (C : Array Value → Prop), (E.cur id).ownBlock = some D → ¬ RowAt w (E.cur id) t sz n C := by
    rintro t sz n C hbe (h0 | ⟨b', cap, cur, hs', _, _, hh, _⟩)
    · rw [h0.1] at hbe; cases hbe
    · rw [hs'] at hbe; cases hbe; rw [hD] at hh; cases hh
  cases ob with
  | cells t cs => obtain ⟨cur, hh, _⟩ := ho; cases hb; rw [hD] at hh; cases hh
  | tok t sz n => exact hrow t sz n _ hb ho.2
  | row t sz xs => exact hrow t sz _ _ hb ho.2.2
  | map es => obtain ⟨ents, clock, hh, _⟩ := ho; cases hb; rw [hD] at hh; cases hh
  | raw o => obtain ⟨hw, hh⟩ := ho; cases hb; rw [hD] at hh; cases hh; cases hw
  | loop r sl => obtain ⟨hh, _⟩ := ho; cases hb; rw [hD] at hh; cases hh
theorem DefOk.step {n : Nat} {A0 : Nat → Nat → Prop} {E : Env} {os : Os} {w w' : World} {l : List Deferred} (h : DefOk n w l) (hos : OsOk A0 E os w) (hs : Stp (Av E os) w w') : DefOk n w' l := by
  obtain ⟨Ds, h1, h2, h3⟩ := h
  exact ⟨Ds, h1, h2, fun D hD => ⟨(hs.block D (Array.getElem?_eq_some_iff.1 (h3 D hD).1).1 (hos.no_def (h3 D hD).1)).trans (h3 D hD).1, (h3 D hD).2⟩⟩
theorem Ob.blk_lt {E : Env} {A : Nat → Nat → Prop} {w : World} {id b : Nat} {ob : Ob} (h : ob.ok E A w id) (hb : ob.blk E id = some b) : b < w.heap.size := by
  have lt : ∀ {k : Nat} {o : Obj}, w.heap[k]? = some o → k < w.heap.size := fun h => (Array.getElem?_eq_some_iff.1 h).1
  have hrow : ∀ (t sz n : Nat) (C : Array Value → Prop), (E.cur id).ownBlock = some b → RowAt w (E.cur id) t sz n C → b < w.heap.size := by
    intro t sz n C hbe hr
    rcases hr with h0 | ⟨b', cap, cur, hs', hn, hcap, hh, hsz, hCC⟩
    · rw [h0.1] at hbe; cases hbe
    · rw [hs'] at hbe; cases hbe; exact lt hh
  cases ob with
  | cells t cs => obtain ⟨cur, hh, _⟩ := h; cases hb; exact lt hh
  | tok t sz n => exact hrow t sz n _ hb h.2
  | row t sz xs => exact hrow t sz _ _ hb h.2.2
  | map es => obtain ⟨ents, clock, hh, _⟩ := h; cases hb; exact lt hh
  | raw o => obtain ⟨_, hh⟩ := h; cases hb; exact lt hh
  | loop r sl => obtain ⟨hh, _⟩ := h; cases hb; exact lt hh
theorem OsOk.lt {A0 : Nat → Nat → Prop} {E : Env} {os : Os} {w : World} (h : OsOk A0 E os w) {b o : Nat} (ha : AvX A0 E os b o) : b < w.heap.size := by
  rcases ha with ha | ⟨id, ob, hg, hb, _⟩
  · exact h.bnd b o ha
  · exact Ob.blk_lt (h.ok id ob hg).2 hb
theorem OsOk.keep {A0 : Nat → Nat → Prop} {E : Env} {os : Os} {w w' : World} (h : OsOk A0 E os w) (hb : Below w.heap.size w w') : OsOk A0 E os w' where
  ok id ob hg := by
    obtain ⟨hv, ho⟩ := h.ok id ob hg
    exact ⟨hv, Ob.ok_step ho hv (.refl E) (.of_below hb) (fun _ _ h => .inl h) rfl (fun b hbb => hb.block b (Ob.blk_lt ho hbb))⟩
  inj := h.inj
  out := h.out
  bnd b o ha := Nat.lt_of_lt_of_le (h.bnd b o ha) hb.size
  gl := h.gl.step (.of_below hb) (fun _ _ h => .inl h)
theorem RpGet {E : Env} {A : Nat → Nat → Prop} {w : World} {l : List AV} {us : Array Value} (hs : us.size = l.length) (h : ∀ (i : Nat) (c : AV) (u : Value), l[i]? = some c → us[i]? = some u → Rp E A w c u) (t : Nat) :
    Rp E A w (l.getD t .any) (us.getD t undef) := by
  rcases Nat.lt_or_ge t l.length with hlt | hge
  · have h1 : l[t]? = some l[t] := List.getElem?_eq_getElem hlt
    have h2 : us[t]? = some us[t] := Array.getElem?_eq_getElem (by omega)
    have h3 := h t _ _ h1 h2
    have h4 : us.getD t undef = us[t] := by simp [Array.getD, show t < us.size by omega]
    rw [List.getD_eq_getElem?_getD, h1, h4]
    exact h3
  · rw [List.getD_eq_getElem?_getD, List.getElem?_eq_none hge]
    exact .any _
section
variable {A0 : Nat → Nat → Prop} {E0 : Env} {os0 : Os} {w0 : World} {E : Env} {st : St} {a : Act} {w : World}
theorem SimC.ev (h : SimC A0 E0 os0 w0 E st a w) (y : Operand) : Rp E (AvX A0 E st.os) w (st.ev y) (a.eval y) := by
  cases y with
  | tmp t => exact RpGet h.size h.sl t
  | const v => exact .v v
  | global g => exact h.os.gl.ev E g
  | func f => exact .clo (by simp) (fun i c u hc _ => by simp at hc)
theorem SimC.upd (h : SimC A0 E0 os0 w0 E st a w) {E' : Env} {os' : Os} {nx' : Nat} {w' : World} (he : Ext E E') (hs : Stp (Av E st.os) w w')
    (hsub : ∀ b o, Av E' os' b o → Av E st.os b o ∨ w.heap.size ≤ b) (hok : OsOk A0 E' os' w') (hnx : ValidN E' nx') : SimC A0 E0 os0 w0 E' { st with os := os', nx := nx' } a w' where
  size := h.size
  sl i c u hc hu := (h.sl i c u hc hu).step (hs.mono fun b o _ ha => .inr ha) he (fun b o ha => by
    rcases ha with ha | ha
    · exact .inl (.inl ha)
    · exact (hsub b o ha).imp .inr id)
  os := hok
  nx := hnx
  defers := by rw [he.hb]; exact h.defers.step h.os hs
  hbl := by rw [he.hb]; exact Nat.le_trans h.hbl hs.size
  ext := h.ext.trans he
  stp := h.stp.trans hs h.sub
  sub b o ha := by
    rcases hsub b o ha with h1 | h1
    · exact h.sub b o h1
    · exact .inr (Nat.le_trans h.stp.size h1)
  base := h.base
theorem SimC.set (h : SimC A0 E0 os0 w0 E st a w) {x : AV} {v : Value} (hr : Rp E (AvX A0 E st.os) w x v) (d : Option Nat) : SimC A0 E0 os0 w0 E (st.put d x) (a.put d v) w := by
  cases d with
  | none => exact h
  | some d =>
    refine { h with size := by simp [St.put, Act.put, h.size], sl := fun i c u hc hu => ?_ }
    simp only [St.put, Act.put] at hc hu
    rw [List.getElem?_set] at hc
    rw [Array.getElem?_setIfInBounds] at hu
    by_cases hd : d = i
    · subst hd
      rw [if_pos rfl] at hc hu
      split at hc
      · split at hu
        · cases hc; cases hu; exact hr
        · cases hu
      · cases hc
    · rw [if_neg hd] at hc hu
      exact h.sl i c u hc hu
end
def AWp (ro : Option Nat) (P : Program) (c : Code) (Q : Exit → St → Prop) (st : St) : Prop :=
  (∀ st, ¬ Q .outgrown st) → noDefC c = true → ∀ A0 E0 os0 w0 E a w, SimC A0 E0 os0 w0 E st a w → c.wpIn (rnd ro) 0 P (fun e a' w' => ∃ st' E', Q e st' ∧ SimC A0 E0 os0 w0 E' st' a' w') a w
def thenQ (N : St → Prop) (Q : Exit → St → Prop) : Exit → St → Prop
  | .normal, st => N st
  | e, st => Q e st
def blockQ (id : Nat) (Q : Exit → St → Prop) : Exit → St → Prop
  | .exit i, st => if i = id then Q .normal st else Q (.exit i) st
  | e, st => Q e st
section
variable {ro : Option Nat} {P : Program} {Q : Exit → St → Prop} {st : St}
theorem noOut {A0 : Nat → Nat → Prop} {E0 : Env} {os0 : Os} {w0 : World} (h : ∀ st, ¬ Q .outgrown st) : ¬ LetsOut (fun e a' w' => ∃ st' E', Q e st' ∧ SimC A0 E0 os0 w0 E' st' a' w') := fun ⟨_, _, st, _, q, _⟩ => h st q
theorem AWp.mono {c : Code} {Q' : Exit → St → Prop} (h : AWp ro P c Q st) (hq : ∀ e st, Q e st → Q' e st) : AWp ro P c Q' st :=
  fun hno hnd A0 E0 os0 w0 E a w hs => wpIn_mono (h (fun st q => hno st (hq _ _ q)) hnd A0 E0 os0 w0 E a w hs) fun _ _ _ ⟨st', E', q, s⟩ => ⟨st', E', hq _ _ q, s⟩
theorem AWp_skip (h : Q .normal st) : AWp ro P .skip Q st := fun _ _ _ _ _ _ E _ _ hs => wpIn_skip ⟨st, E, h, hs⟩
theorem AWp_ret (h : Q .ret st) : AWp ro P .ret Q st := fun _ _ _ _ _ _ E _ _ hs => wpIn_ret ⟨st, E, h, hs⟩
theorem AWp_exit {id : Nat} (h : Q (.exit id) st) : AWp ro P (.exit id) Q st := fun _ _ _ _ _ _ E _ _ hs => wpIn_exit ⟨st, E, h, hs⟩
theorem AWp_seq {x y : Code} (h : AWp ro P x (thenQ (AWp ro P y Q) Q) st) : AWp ro P (.seq x y) Q st := fun hno hnd A0 E0 os0 w0 E a w hs =>
  have hnd2 : noDefC x = true ∧ noDefC y = true := by simpa [noDefC] using hnd
  wpIn_seq (wpIn_mono (h hno hnd2.1 A0 E0 os0 w0 E a w hs) fun e a' w' ⟨st', E', q, s⟩ => by
    cases e with
    | normal => exact q hno hnd2.2 A0 E0 os0 w0 E' a' w' s
    | _ => exact ⟨st', E', q, s⟩)
theorem AWp_block {id : Nat} {c : Code} (h : AWp ro P c (blockQ id Q) st) : AWp ro P (.block id c) Q st := fun hno hnd A0 E0 os0 w0 E a w hs =>
  wpIn_block (wpIn_mono (h hno hnd A0 E0 os0 w0 E a w hs) fun e a' w' ⟨st', E', q, s⟩ => by
    cases e with
    | exit i =>
      simp only [blockQ] at q
      simp only [Exit.inBlock]
      split at q
      · rename_i hi; rw [if_pos hi]; exact ⟨st', E', q, s⟩
      · rename_i hi; rw [if_neg hi]; exact ⟨st', E', q, s⟩
    | _ => exact ⟨st', E', q, s⟩)
theorem AWp_cond {c : Operand} {x y : Code} {b : Bool} (hc : st.ev c = .v (.bool b)) (ht : b = true → AWp ro P x Q st) (hf : b = false → AWp ro P y Q st) : AWp ro P (.cond c x y) Q st :=
  fun hno hnd A0 E0 os0 w0 E a w hs => by
    have hnd2 : noDefC x = true ∧ noDefC y = true := by simpa [noDefC] using hnd
    have h1 := hs.ev c
    rw [hc] at h1
    have h2 : a.eval c = .bool b := by
      generalize hv : a.eval c = v at h1
      cases h1; rfl
    exact wpIn_cond_split h2 (fun hb => ht hb hno hnd2.1 A0 E0 os0 w0 E a w hs) (fun hb => hf hb hno hnd2.2 A0 E0 os0 w0 E a w hs)
def Weak (st st' : St) : Prop := ∀ A0 E0 os0 w0 E a w, SimC A0 E0 os0 w0 E st a w → ∃ E', SimC A0 E0 os0 w0 E' st' a w
theorem AWp_weak {c : Code} {st' : St} (hw : Weak st st') (h : AWp ro P c Q st') : AWp ro P c Q st := fun hno hnd A0 E0 os0 w0 E a w hs =>
  let ⟨E', hs'⟩ := hw A0 E0 os0 w0 E a w hs
  h hno hnd A0 E0 os0 w0 E' a w hs'
theorem Weak.trans {s t u : St} (h : Weak s t) (k : Weak t u) : Weak s u := fun A0 E0 os0 w0 E a w hs =>
  let ⟨E', hs'⟩ := h A0 E0 os0 w0 E a w hs
  k A0 E0 os0 w0 E' a w hs'
theorem AWp_loop {σ : Type} {c : Code} (pre : σ → Prop) (J : σ → St) (μ : σ → Nat) (s0 : σ) (h0 : pre s0) (hw : Weak st (J s0))
    (round : ∀ s, pre s → AWp ro P c (thenQ (fun st' => ∃ s', pre s' ∧ μ s' < μ s ∧ Weak st' (J s')) Q) (J s)) : AWp ro P (.loop c) Q st := by
  intro hno hnd A0 E0 os0 w0 E a w hs
  let I : Act → World → Prop := fun a w => ∃ s E, pre s ∧ SimC A0 E0 os0 w0 E (J s) a w
  let L : Act → World → Nat → Prop := fun a w n => ∃ s E, pre s ∧ μ s = n ∧ SimC A0 E0 os0 w0 E (J s) a w
  have least : ∀ a w, I a w → ∃ n, L a w n ∧ ∀ m, L a w m → n ≤ m := by
    intro a w ⟨s, E, hp, hsim⟩
    have key : ∀ k n, n ≤ k → L a w n → ∃ n, L a w n ∧ ∀ m, L a w m → n ≤ m := by
      intro k
      induction k with
      | zero => intro n hn hl; exact ⟨n, hl, fun m _ => by omega⟩
      | succ k ih =>
        intro n hn hl
        by_cases hm : ∃ m, L a w m ∧ m < n
        · obtain ⟨m, hm1, hm2⟩ := hm; exact ih m (by omega) hm1
        · exact ⟨n, hl, fun m hm' => by
            rcases Nat.lt_or_ge m n with h | h
            · exact absurd ⟨m, hm', h⟩ hm
            · exact h⟩
    exact key (μ s) (μ s) (Nat.le_refl _) ⟨s, E, hp, rfl, hsim⟩
  have hdec : ∀ a w, Decidable (∃ n, L a w n ∧ ∀ m, L a w m → n ≤ m) := fun _ _ => Classical.propDecidable _
  let M : Act → World → Nat := fun a w => if h : ∃ n, L a w n ∧ ∀ m, L a w m → n ≤ m then h.choose else 0
  have hM : ∀ a w, I a w → L a w (M a w) ∧ ∀ m, L a w m → M a w ≤ m := by
    intro a w hi
    have h := least a w hi
    simp only [M, dif_pos h]
    exact h.choose_spec
  refine wpIn_loop I M ?_ ?_
  · obtain ⟨E', hs'⟩ := hw A0 E0 os0 w0 E a w hs
    exact ⟨s0, E', h0, hs'⟩
  · intro a w hi
    obtain ⟨⟨s, E, hp, hmu, hsim⟩, _⟩ := hM a w hi
    refine wpIn_mono (round s hp hno hnd A0 E0 os0 w0 E a w hsim) ?_
    intro e a' w' ⟨st', E', q, hs'⟩
    cases e with
    | normal =>
      obtain ⟨s', hp', hlt, hw'⟩ := q
      obtain ⟨E'', hs''⟩ := hw' A0 E0 os0 w0 E' a' w' hs'
      have hi' : I a' w' := ⟨s', E'', hp', hs''⟩
      refine ⟨hi', ?_⟩
      have := (hM a' w' hi').2 (μ s') ⟨s', E'', hp', rfl, hs''⟩
      omega
    | _ => exact ⟨st', E', q, hs'⟩
end
theorem Weak.mk {st st' : St} (h1 : LeL st.sl st'.sl) (h2 : ∀ id ob, getO st'.os id = some ob → getO st.os id = some ob) (h3 : st'.nx = st.nx) (h4 : st'.n0 = st.n0) : Weak st st' := by
  intro A0 E0 os0 w0 E a w hs
  have hA : ∀ b o, AvX A0 E st'.os b o → AvX A0 E st.os b o := fun b o ha => by
    rcases ha with ha | ⟨id, ob, hg, hr⟩
    · exact .inl ha
    · exact .inr ⟨id, ob, h2 id ob hg, hr⟩
  refine ⟨E, ?_⟩
  refine { size := by rw [hs.size, h1.length], sl := fun i c u hc hu => ?_, os := ?_, nx := by rw [h3]; exact hs.nx, defers := hs.defers, hbl := hs.hbl, ext := hs.ext, stp := hs.stp, sub := fun b o ⟨id, ob, hg, hr⟩ => hs.sub b o ⟨id, ob, h2 id ob hg, hr⟩, base := by rw [h4]; exact hs.base }
  · obtain ⟨x, hx, hle⟩ := h1.get i c hc
    exact (hle E _ w u (hs.sl i x u hx hu)).mono hA
  · refine ⟨fun id ob hg => ?_, fun i j oi oj b hi hj => hs.os.inj i j oi oj b (h2 _ _ hi) (h2 _ _ hj), fun id ob b hg => hs.os.out id ob b (h2 _ _ hg), hs.os.bnd, hs.os.gl.mono hA⟩
    obtain ⟨hv, ho⟩ := hs.os.ok id ob (h2 _ _ hg)
    exact ⟨hv, Ob.ok_step ho hv (.refl E) (.refl _ w) (fun b o h => .inl (hA b o h)) rfl (fun _ _ => rfl)⟩
def HasBody (P : Program) (f : Nat) : Prop := ∃ fn, P.funcs[f]? = some fn ∧ (fn.name == "runtime.NumGoroutine") = false ∧ fn.body.isNone = false
def RpL (E : Env) (A : Nat → Nat → Prop) (w : World) (l : List AV) (us : Array Value) : Prop :=
  us.size = l.length ∧ ∀ (i : Nat) (c : AV) (u : Value), l[i]? = some c → us[i]? = some u → Rp E A w c u
def Ret (A0 : Nat → Nat → Prop) (E : Env) (os : Os) (w : World) (Q : AV → Os → Nat → Prop) : Ending → World → Prop := fun e w' =>
  ∃ r v os' nx' E', e = .returned v ∧ Q r os' nx' ∧ Rp E' (AvX A0 E' os') w' r v ∧ OsOk A0 E' os' w' ∧ ValidN E' nx' ∧ Ext E E' ∧ Stp (Av E os) w w' ∧ ∀ b o, Av E' os' b o → Av E os b o ∨ w.heap.size ≤ b
def ACalls (P : Program) (f : Nat) (args : List AV) (os : Os) (nx : Nat) (Q : AV → Os → Nat → Prop) : Prop :=
  HasBody P f ∧ ∀ A0 E w (vs : Array Value), OsOk A0 E os w → ValidN E nx → RpL E (AvX A0 E os) w args vs → Calls P f vs w (Ret A0 E os w Q)
def AGen (S : Env → Array Value → World → (Ending → World → Prop) → Prop) (args : List AV) (os : Os) (nx : Nat) (Q : AV → Os → Nat → Prop) : Prop :=
  ∀ A0 E w (vs : Array Value), OsOk A0 E os w → ValidN E nx → RpL E (AvX A0 E os) w args vs → S E vs w (Ret A0 E os w Q)
theorem ACalls.mono {P : Program} {f : Nat} {args : List AV} {os : Os} {nx : Nat} {Q Q' : AV → Os → Nat → Prop} (h : ACalls P f args os nx Q) (hq : ∀ r os' nx', Q r os' nx' → Q' r os' nx') :
    ACalls P f args os nx Q' :=
  ⟨h.1, fun A0 E w vs h1 h2 h3 => (h.2 A0 E w vs h1 h2 h3).mono fun _ _ ⟨r, v, os', nx', E', he, q, rest⟩ => ⟨r, v, os', nx', E', he, hq _ _ _ q, rest⟩⟩
def Met (args : List AV) : Prop := ∃ E A w us, RpL E A w args us
def tinf (P : Program) (t : Nat) : Option (Bool × Nat) :=
  match P.underlying t, P.info? t with
  | some (.struct _), some i => some (true, i.size)
  | some (.array ..), some i => some (true, i.size)
  | some _, some i => some (false, i.size)
  | _, _ => none
def pack : Bool → List AV → AV
  | true, cs => .agg cs
  | false, [c] => c
  | false, _ => .any
def aLoad (P : Program) (t : Nat) (x : AV) (os : Os) (K : AV → Prop) : Prop :=
  match tinf P t with
  | none => False
  | some (agg, n) =>
    match x with
    | .ptr id off =>
      match getO os id with
      | some (.cells _ cs) => off + (if agg then n else 1) ≤ cs.length ∧ K (pack agg ((cs.drop off).take (if agg then n else 1)))
      | _ => False
    | .rptr id n' sz i off =>
      match getO os id with
      | some (.row _ sz' xs) => sz = sz' ∧ n' = xs.length ∧ i < xs.length ∧ off + (if agg then n else 1) ≤ sz ∧ K (pack agg (((xs.getD i []).drop off).take (if agg then n else 1)))
      | _ => False
    | .eptr cs => (if agg then n else 1) ≤ cs.length ∧ K (pack agg (cs.take (if agg then n else 1)))
    | _ => False
def aRes (P : Program) : List ResultVar → St → (List AV → Prop) → Prop
  | [], _, K => K []
  | .tmp t :: rest, st, K => aRes P rest st fun l => K (st.get t :: l)
  | .cell a t :: rest, st, K => aLoad P t (st.get a) st.os fun x => aRes P rest st fun l => K (x :: l)
def tupOf : List AV → AV
  | [x] => x
  | l => .tup l
def retQ (P : Program) (rs : List ResultVar) (Q : AV → Os → Nat → Prop) : Exit → St → Prop
  | .normal, st | .ret, st => aRes P rs st fun l => Q (tupOf l) st.os st.nx
  | _, _ => False
end Go.Proofs.YtmepcmphcghbeaaDoor
