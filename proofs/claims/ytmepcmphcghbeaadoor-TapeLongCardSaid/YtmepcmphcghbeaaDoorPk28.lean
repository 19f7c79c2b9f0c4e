/- Texts of the abstract walk, of the contracts and of the plain laws, packed (part 28 of 48): Ab25. Conditions: none. -/
import Derived.Test.YtmepcmphcghbeaaDoorPk27
namespace Go.Proofs.YtmepcmphcghbeaaDoor
open Go Go.RowKit
set_option linter.unnecessarySimpa false
def isE : AV → Bool
  | .eptr _ => true
  | _ => false
def isSl : AV → Bool
  | .sl _ _ | .osl _ _ _ => true
  | _ => false
def rHead (P : Program) (o : Oper) (ev : Operand → AV) (os : Os) (K : AV → Prop) : Prop :=
  o.guard = none ∧ match o.op with
  | .move y => K (ev y)
  | .load t x => isE (ev x) = true ∧ aLoad P t (ev x) os K
  | .indexAddr t x i => isSE (ev x) = true ∧ aIndexA P t (ev x) (ev i) os K
  | .fieldAddr s x f => isPE (ev x) = true ∧ aField P s f (ev x) K
  | .slice t x lo hi none => isSl (ev x) = true ∧ aSlice P t (ev x) (lo.map ev) (hi.map ev) K
  | _ => False
section
variable {P : Program} {E : Env} {A0 A : Nat → Nat → Prop} {os : Os} {w : World}
theorem rLoad_det {t : Nat} {x : AV} {u : Value} {K : AV → Prop} (hos : OsOk A0 E os w) (hp : isE x = true) (hr : Rp E (AvX A0 E os) w x u) (h : aLoad P t x os K) :
    ∃ a y v, u = .pointer (some a) ∧ (∀ w', Stp (Av E os) w w' → (loadVar t a).run P w' = .ok v w') ∧ Rp E (AvX A0 E os) w y v ∧ K y := by
  obtain ⟨a, y, v, rfl, h1, h2, h3⟩ := aLoad_sound (P := P) hos hr h
  refine ⟨a, y, v, rfl, fun w' hb => ?_, h2, h3⟩
  unfold aLoad at h
  split at h
  · exact h.elim
  rename_i agg n ht
  split at h
  · cases hp
  · cases hp
  · rename_i cs
    obtain ⟨hle, hk⟩ := h
    cases hr with
    | @eptr cs b o g hcell hc =>
      have hcj : ∀ j, j < (if agg then n else 1) → w.cell? ⟨b, o + j, none⟩ = some (g j) := fun j hj => (hcell j (by omega)).1
      have e1 := run_loadVar_val (P := P) ht b o g hcj
      rw [e1] at h1
      cases h1
      refine run_loadVar_val (P := P) ht b o g fun j hj => ?_
      have hlt : b < w.heap.size := World.block_lt_of_cell? w _ (hcj j hj)
      exact (hb.cell b (o + j) hlt (fun ha => (hcell j (by omega)).2 (.inr ha))).trans (hcj j hj)
  · exact h.elim
theorem rSlice_det {t : Nat} {x : AV} {u : Value} {lo hi : Option Operand} {ev : Operand → AV} {ρ : Operand → Value} {K : AV → Prop} (hr : ∀ y, Rp E A w (ev y) (ρ y)) (hx : Rp E A w x u) (hp : isSl x = true) (h : aSlice P t x (lo.map ev) (hi.map ev) K) :
    ∃ y z, (∀ w' : World, (Instr.sliceAt t u (lo.map ρ) (hi.map ρ) (Option.map ρ none)).run P w' = .ok z w') ∧ Rp E A w y z ∧ K y := by
  have conv : ∀ (v : Option Operand) (d : Nat) (l : Int), ((v = none ∧ l = d) ∨ ∃ k y, v = some y ∧ ρ y = .int k l) → ((v.map ρ = none ∧ l = d) ∨ ∃ k, v.map ρ = some (.int k l)) := by
    rintro v d l (⟨rfl, rfl⟩ | ⟨k, y, rfl, hy⟩)
    · exact .inl ⟨rfl, rfl⟩
    · exact .inr ⟨k, by simp [hy]⟩
  have slc : ∀ (sz : Nat) (xs : List (List AV)) (l h : Int), aBnd 0 (lo.map ev) = some l → aBnd xs.length (hi.map ev) = some h → elemSz P t = some sz → 0 ≤ l → l ≤ h → h ≤ (xs.length : Int) → Rp E A w (.sl sz xs) u →
      ∃ z, (∀ w' : World, (Instr.sliceAt t u (lo.map ρ) (hi.map ρ) (Option.map ρ none)).run P w' = .ok z w') ∧ Rp E A w (.sl sz ((xs.take h.toNat).drop l.toNat)) z := by
    intro sz xs l h hl hh he h0 h1 h2 hrx
    obtain ⟨e, inf, hu, hinf, hsz⟩ := elemSz_spec he
    obtain ⟨a, cap, hv, hcap, hres⟩ := hrx.cut (l := l.toNat) (h := h.toNat) (by omega) (by omega)
    refine ⟨_, fun w' => ?_, hres⟩
    have hb := sliceBounds_run (P := P) (w := w') (isS := true) (n := xs.length) (cap := cap) (conv lo 0 l (bnd_sound hr hl)) (conv hi _ h (bnd_sound hr hh)) h0 h1 h2 hcap
    simp only [Option.map_none]
    simp only [Instr.sliceAt, run_underlying hu, Sem.run_bind, Result.andThen_ok, Instr.slice, hv, hb, sizeOf, typeInfo, run_program, hinf, Sem.run_pure, hsz]
  unfold aSlice at h
  split at h
  · split at h
    case h_2 => exact h.elim
    rename_i hl hh
    obtain ⟨he, h0, h1, h2, hk⟩ := h
    obtain ⟨z, h3, h4⟩ := slc _ _ _ _ hl hh he h0 h1 h2 hx
    exact ⟨_, z, h3, h4, hk⟩
  · split at h
    case h_2 => exact h.elim
    rename_i hl hh
    obtain ⟨he, h0, h1, h2, hk⟩ := h
    obtain ⟨z, h3, h4⟩ := slc _ _ _ _ hl hh he h0 h1 h2 (Le.osl _ _ _ _ _ _ _ hx)
    exact ⟨_, z, h3, h4, hk⟩
  · cases hp
  · exact h.elim
end
theorem rHead_sound {P : Program} {l : List Oper} {A0 : Nat → Nat → Prop} {E0 : Env} {os0 : Os} {w0 : World} {E : Env} {st : St} {a : Act} {w : World} {o : Oper} {K : AV → Prop} (h : SimC A0 E0 os0 w0 E st a w) (hq : rHead P o st.ev st.os K) :
    ∃ x v, K x ∧ Rp E (AvX A0 E st.os) w x v ∧ YieldsIf P l.toArray (Stp (Av E st.os) w) o v a := by
  obtain ⟨dst, op, ty, pos, after, guard⟩ := o
  obtain ⟨hg, hq⟩ := hq
  simp only at hg hq
  subst hg
  have wanted : ∀ v, (∀ w', Stp (Av E st.os) w w' → (execOp a.eval { dst := dst, op := op, type := ty, pos := pos, after := after, guard := none }).run P w' = .ok (.value v) w') → YieldsIf P l.toArray (Stp (Av E st.os) w) { dst := dst, op := op, type := ty, pos := pos, after := after, guard := none } v a := fun v hv =>
    .inl ⟨by simp [Region.wanted], hv⟩
  have val : ∀ (s : Sem Value) (v : Value) (w' : World), s.run P w' = .ok v w' → ((do pure (.value (← s))) : Sem Next).run P w' = .ok (.value v) w' := fun s v w' h => by
    simp only [Sem.run_bind, h, Result.andThen_ok, Sem.run_pure]
  split at hq
  · rename_i y; exact ⟨_, _, hq, h.ev y, wanted _ fun w _ => by simp [execOp]⟩
  · rename_i t x
    obtain ⟨ad, y, v, hu, h1, h2, h3⟩ := rLoad_det (P := P) h.os hq.1 (h.ev x) hq.2
    refine ⟨y, v, h3, h2, wanted _ fun w' hb => ?_⟩
    have hr : (Instr.loadAt t (a.eval x)).run P w' = .ok v w' := by
      rw [hu]
      simp only [Instr.loadAt, Instr.sureAddr, Sem.run_bind, Sem.run_pure, Result.andThen_ok, h1 w' hb]
    simp only [execOp, val _ _ _ hr]
  · rename_i t x i
    obtain ⟨y, z, h1, h2, h3⟩ := aIndexA_det (P := P) h.os hq.1 (h.ev x) (h.ev i) hq.2
    exact ⟨y, z, h3, h2, wanted _ fun w' _ => by simp only [execOp, val _ _ _ (h1 w')]⟩
  · rename_i s x f
    obtain ⟨y, z, h1, h2, h3⟩ := aField_det (P := P) hq.1 (h.ev x) hq.2
    exact ⟨y, z, h3, h2, wanted _ fun w' _ => by simp only [execOp, val _ _ _ (h1 w')]⟩
  · rename_i t x lo hi
    obtain ⟨y, z, h1, h2, h3⟩ := rSlice_det (P := P) h.ev (h.ev x) hq.1 hq.2
    exact ⟨y, z, h3, h2, wanted _ fun w' _ => by simp only [execOp, val _ _ _ (h1 w')]⟩
  · exact hq.elim
def RAny (P : Program) (l : List Oper) (Q : Exit → St → Prop) (fuel : Nat) (listed : Array Bool) (st : St) : Prop :=
  ∀ A0 E a w, SimC A0 E st.os w E st a w →
    wpAnyH P .any l.toArray (fun e a' w' => ∃ st' E', Q e st' ∧ SimC A0 E st.os w E' st' a' w') (Stp (Av E st.os) w) fuel listed a w
def LAny (P : Program) (l : List Oper) (Q : Exit → St → Prop) (os1 : Os) (fuel : Nat) (listed : Array Bool) (st : St) : Prop :=
  ∀ A0 Er w1 E a w, SimC A0 Er os1 w1 E st a w →
    wpAnyH P .any l.toArray (fun e a' w' => ∃ st' E', Q e st' ∧ SimC A0 Er os1 w1 E' st' a' w') (Stp (Av Er os1) w1) fuel listed a w
section
variable {P : Program} {l : List Oper} {Q : Exit → St → Prop} {os1 : Os} {fuel : Nat} {listed : Array Bool} {st : St}
theorem RAny_start {ro : Option Nat} {id : Nat} (n : Nat) (hn : l.length = n) (hm : P.follows .mixedOrders = true)
    (h : RAny P l (fun e st' => Q e { st' with n0 := st.n0 }) n (Array.replicate n false) { st with n0 := st.nx }) :
    AWp ro P (.region id l.toArray true) Q st := fun hno hnd A0 E0 os0 w0 E a w hsim => by
  subst hn
  have h0 := hsim.drew
  have h1 := h0.rebase
  have h2 := h A0 E a _ h1
  have h3 : l.toArray.size = l.length := by simp
  rw [← h3] at h2
  refine wpIn_mono (rn_region_held hm hnd ?_ h2) ?_
  · rintro ⟨_, _, _, _, q, _⟩
    exact hno _ q
  rintro e a' w' ⟨st', E', hq, hs'⟩
  exact ⟨_, E', hq, h0.over hs'⟩
theorem RAny_takeK (i : Nat) {o : Oper} (hi : l[i]? = some o) (hs : Region.noSelect l.toArray = true) (hf : Region.free .any l.toArray listed i = true) (hr : (Region.ready .any l.toArray listed).contains i = true)
    (hQ : ∀ c st, ¬ Q (.panic c) st) (h : ∀ K : St → Prop, (∀ st', RAny P l Q fuel (listed.setIfInBounds i true) st' → K st') → rHead P o st.ev st.os fun x => K (st.put o.dst x)) : RAny P l Q (fuel + 1) listed st := by
  intro A0 E a w hsim
  obtain ⟨x, v, hk, hrp, hy⟩ := rHead_sound (l := l) hsim (h _ fun _ h => h)
  refine wpAnyH_take (oi := o) (v := v) (by simpa using hi) hs hf hr ?_ hy (.refl _ w) ?_
  · rintro c a w ⟨st', E', hq, _⟩; exact absurd hq (hQ c st')
  · have hos : (st.put o.dst x).os = st.os := by cases o.dst <;> rfl
    have := hk A0 E _ w (by rw [hos]; exact hsim.set hrp o.dst)
    rw [hos] at this
    exact this
theorem RAny_rest (h : LAny P l Q st.os fuel listed st) : RAny P l Q fuel listed st := fun A0 E a w hsim => h A0 E w E a w hsim
theorem LAny_done (hr : Region.ready .any l.toArray listed = []) (h : Q .normal st) : LAny P l Q os1 fuel listed st := fun _ _ _ E _ _ hsim => wpAnyH_done hr ⟨st, E, h, hsim⟩ fuel
theorem LAny_all {rs : List Nat} (hr : Region.ready .any l.toArray listed = rs) (hne : rs ≠ []) (h : ∀ i ∈ rs, aAt P l i st fun st' => LAny P l Q os1 fuel (listed.setIfInBounds i true) st') : LAny P l Q os1 (fuel + 1) listed st := by
  intro A0 Er w1 E a w hsim
  refine wpAnyH_all hr hne fun i hi => ?_
  have h1 := h i hi
  unfold aAt at h1
  split at h1
  · exact h1.elim
  rename_i o ho
  unfold wpOp
  simp only [List.getElem?_toArray, ho]
  rcases aWant_sound hsim h1 with ⟨hw, hop⟩ | ⟨hw, hk⟩
  · rw [if_pos hw]
    refine .inl (Oper.wp_mono (fun a' w' hh => ?_) (aop_sound hsim hop))
    obtain ⟨st', E', q, s⟩ := hh
    exact ⟨s.stp, q A0 Er w1 _ _ _ s⟩
  · rw [hw]
    simp only [Bool.false_eq_true, if_false]
    have s := hsim.set (x := .v undef) (.v _) o.dst
    exact ⟨s.stp, hk A0 Er w1 _ _ _ s⟩
theorem LAny_all1 {i : Nat} (hr : Region.ready .any l.toArray listed = [i]) (h : aAt P l i st fun st' => LAny P l Q os1 fuel (listed.setIfInBounds i true) st') : LAny P l Q os1 (fuel + 1) listed st :=
  LAny_all hr (by simp) (by simpa using h)
end
end Go.Proofs.YtmepcmphcghbeaaDoor
