/- Texts of the abstract walk, of the contracts and of the plain laws, packed (part 11 of 48): Ab9. Conditions: none. -/
import Derived.Test.YtmepcmphcghbeaaDoorPk10
namespace Go.Proofs.YtmepcmphcghbeaaDoor
open Go Go.RowKit
set_option linter.unnecessarySimpa false
def APure (P : Program) (f : Nat) (args : List AV) (x : AV) : Prop := DataL args ∧ Data x ∧ ACalls P f args [] 0 fun r _ _ => r = x
theorem APure.quiet {P : Program} {f : Nat} {args : List AV} {x : AV} (h : APure P f args x) {A0 : Nat → Nat → Prop} {E : Env} {os : Os} {w : World} {vs : Array Value} (hos : OsOk A0 E os w) (hr : RpL E (AvX A0 E os) w args vs) :
    Calls P f vs w fun e w' => ∃ v, e = .returned v ∧ Below w.heap.size w w' ∧ Rp E (AvX A0 E os) w' x v := by
  obtain ⟨hd, hx, hb, hc⟩ := h
  have hno : ∀ b o, ¬ Av Env.none [] b o := by rintro b o ⟨id, ob, hg, _⟩; simp [getO] at hg
  refine (hc (AvX A0 E os) Env.none w vs ⟨fun id ob hg => by simp [getO] at hg, fun i j oi oj b hg => by simp [getO] at hg, fun id ob b hg => by simp [getO] at hg, fun b o ha => hos.lt ha, hos.gl.mono fun b o ha => ha.elim (fun h => h) (fun h => absurd h (hno b o))⟩
    (fun id => by simp [Env.none]) ⟨hr.1, fun i c u hi hu => ((hd c (List.mem_of_getElem? hi)) E Env.none _ _ _ (hr.2 i c u hi hu)).mono (fun b o ha => ha.elim (fun h => h) (fun h => absurd h (hno b o)))⟩).mono ?_
  rintro e w' ⟨r, v, os', nx', E', rfl, rfl, h1, h2, h3, h4, h5, h6⟩
  exact ⟨v, rfl, (h5.mono (A' := fun _ _ => False) fun b o _ ha => (hno b o ha).elim).below, (hx _ E _ _ _ h1).mono (fun b o ha => .inl ha)⟩
theorem APure.call {P : Program} {f : Nat} {args : List AV} {x : AV} (h : APure P f args x) {os : Os} {nx : Nat} {Q : AV → Os → Nat → Prop} (hq : Q x os nx) : ACalls P f args os nx Q := by
  refine ⟨h.2.2.1, fun A0 E w vs hos hnx hr => (h.quiet hos hr).mono ?_⟩
  rintro e w' ⟨v, rfl, hb, hr⟩
  exact ⟨x, v, os, nx, E, rfl, hq, hr, hos.keep hb, hnx, .refl E, .of_below hb, fun b o ha => .inl ha⟩
theorem aVal_congr {P : Program} {o : Oper} {ev ev' : Operand → AV} {os : Os} {K : AV → Prop} (h : ∀ y ∈ o.op.operands, ev y = ev' y) (hk : aVal P o ev os K) : aVal P o ev' os K := by
  obtain ⟨dst, op, ty, pos, after, guard⟩ := o
  unfold aVal at hk ⊢
  simp only at h hk ⊢
  cases op with
  | move y => simp only at hk ⊢; rw [← h y (by simp [Op.operands])]; exact hk
  | assign y => simp only at hk ⊢; rw [← h y (by simp [Op.operands])]; exact hk
  | pick c x y => simp only at hk ⊢; rw [← h c (by simp [Op.operands]), ← h x (by simp [Op.operands]), ← h y (by simp [Op.operands])]; exact hk
  | fieldAddr s x f => simp only at hk ⊢; rw [← h x (by simp [Op.operands])]; exact hk
  | field s x f => simp only at hk ⊢; rw [← h x (by simp [Op.operands])]; exact hk
  | load t x => simp only at hk ⊢; rw [← h x (by simp [Op.operands])]; exact hk
  | nilCheck x => simp only at hk ⊢; rw [← h x (by simp [Op.operands])]; exact hk
  | binOp op t x y t2 => simp only at hk ⊢; rw [← h x (by simp [Op.operands]), ← h y (by simp [Op.operands])]; exact hk
  | unOp op t x => simp only at hk ⊢; rw [← h x (by simp [Op.operands])]; exact hk
  | indexAddr t x i => simp only at hk ⊢; rw [← h x (by simp [Op.operands]), ← h i (by simp [Op.operands])]; exact hk
  | extract x i => simp only at hk ⊢; rw [← h x (by simp [Op.operands])]; exact hk
  | lookup t x i ok => simp only at hk ⊢; rw [← h x (by simp [Op.operands]), ← h i (by simp [Op.operands])]; exact hk
  | build t parts =>
    have e : (parts.toList.map fun p => (p.1, ev' p.2)) = parts.toList.map fun p => (p.1, ev p.2) := List.map_congr_left fun p hp => by
      rw [h p.2 (by simp only [Op.operands, List.mem_toArray]; exact List.mem_map.2 ⟨p, hp, rfl⟩)]
    simp only at hk ⊢; rw [e]; exact hk
  | makeFunc fn first caps =>
    cases fn with
    | func f =>
      obtain ⟨first⟩ := first
      match first with
      | [] =>
        have e : caps.toList.map ev' = caps.toList.map ev := List.map_congr_left fun p hp => by rw [h p (by simp only [Op.operands, Array.mem_append]; exact .inr (by simpa using hp))]
        simp only at hk ⊢; rw [e]; exact hk
      | x :: l =>
        obtain ⟨caps⟩ := caps
        match caps with
        | [] =>
          have e : (x :: l).map ev' = (x :: l).map ev := List.map_congr_left fun p hp => by rw [h p (by simp only [Op.operands, Array.mem_append]; exact .inl (by simpa using hp))]
          simp only at hk ⊢; rw [e]; exact hk
        | _ :: _ => exact hk
    | _ => exact hk
  | call c =>
    obtain ⟨callee, args, tys⟩ := c
    cases callee with
    | builtin b =>
      cases b with
      | len =>
        obtain ⟨args⟩ := args
        obtain ⟨tys⟩ := tys
        match args, tys with
        | [x], [t] => simp only at hk ⊢; rw [← h x (by simp [Op.operands, Call.operands])]; exact hk
        | [], _ => exact hk.elim
        | _ :: _ :: _, _ => exact hk.elim
        | [_], [] => exact hk.elim
        | [_], _ :: _ :: _ => exact hk.elim
      | _ => exact aMore_congr (o := .call { callee := .builtin _, args := args, argTypes := tys }) h hk
    | _ => exact hk.elim
  | slice t x lo hi mx => exact aMore_congr (o := .slice t x lo hi mx) h hk
  | index t x i => exact aMore_congr (o := .index t x i) h hk
  | convert s t x => exact aMore_congr (o := .convert s t x) h hk
  | _ => exact hk.elim
def AvBeside (A0 : Nat → Nat → Prop) (E : Env) (os os' : Os) (b o : Nat) : Prop := A0 b o ∨ ∃ id ob, getO os id = some ob ∧ getO os' id = none ∧ ob.blk E id = some b ∧ ob.av o
theorem AvBeside_iff {A0 : Nat → Nat → Prop} {E : Env} {os os' : Os} (h : ∀ id ob, getO os' id = some ob → getO os id = some ob) (b o : Nat) : AvX (AvBeside A0 E os os') E os' b o ↔ AvX A0 E os b o := by
  constructor
  · rintro ((ha | ⟨id, ob, hg, _, hb, hav⟩) | ⟨id, ob, hg, hb, hav⟩)
    · exact .inl ha
    · exact .inr ⟨id, ob, hg, hb, hav⟩
    · exact .inr ⟨id, ob, h id ob hg, hb, hav⟩
  · rintro (ha | ⟨id, ob, hg, hb, hav⟩)
    · exact .inl (.inl ha)
    · cases h' : getO os' id with
      | none => exact .inl (.inr ⟨id, ob, hg, h', hb, hav⟩)
      | some ob' =>
        have := h id ob' h'
        rw [hg] at this
        cases this
        exact .inr ⟨id, ob, h', hb, hav⟩
theorem OsOk.beside {A0 : Nat → Nat → Prop} {E : Env} {os os' : Os} {w : World} (hos : OsOk A0 E os w) (h : ∀ id ob, getO os' id = some ob → getO os id = some ob) : OsOk (AvBeside A0 E os os') E os' w where
  ok id ob hg := by
    obtain ⟨hv, ho⟩ := hos.ok id ob (h id ob hg)
    exact ⟨hv, Ob.ok_step ho hv (.refl E) (.refl _ w) (fun b o ha => .inl ((AvBeside_iff h b o).1 ha)) rfl (fun _ _ => rfl)⟩
  inj i j oi oj b hi hj := hos.inj i j oi oj b (h _ _ hi) (h _ _ hj)
  out id ob b hg hb o := by
    rintro (ha | ⟨id', ob', hg', hn, hb', hav⟩)
    · exact hos.out id ob b (h _ _ hg) hb o ha
    · have := hos.inj id id' ob ob' b (h _ _ hg) hg' hb hb'
      subst this
      rw [hg] at hn; cases hn
  bnd b o ha := hos.lt ((AvBeside_iff h b o).1 (.inl ha))
  gl := hos.gl.mono fun b o ha => (AvBeside_iff h b o).1 ha
end Go.Proofs.YtmepcmphcghbeaaDoor
