/- Texts of the abstract walk, of the contracts and of the plain laws, packed (part 17 of 48): Ab15. Conditions: none. -/
import Derived.Test.YtmepcmphcghbeaaDoorPk16
namespace Go.Proofs.YtmepcmphcghbeaaDoor
open Go Go.RowKit
set_option linter.unnecessarySimpa false
def Env.pull (ρ : Nat → Nat) (E : Env) : Env := ⟨fun i => E.valid (ρ i), fun i => E.blk (ρ i), fun i => E.cur (ρ i), fun i => E.cnt (ρ i), E.hb⟩
def RenV (ρ : Nat → Nat) (x y : AV) : Prop := ∀ E A w u, Rp (E.pull ρ) A w x u ↔ Rp E A w y u
def RenL (ρ : Nat → Nat) : List AV → List AV → Prop
  | [], [] => True
  | x :: xs, y :: ys => RenV ρ x y ∧ RenL ρ xs ys
  | _, _ => False
theorem RenL.length {ρ : Nat → Nat} : ∀ {l m : List AV}, RenL ρ l m → l.length = m.length
  | [], [], _ => rfl
  | _ :: _, _ :: _, h => by simp [RenL.length h.2]
theorem RenL.get {ρ : Nat → Nat} : ∀ {l m : List AV}, RenL ρ l m → ∀ (i : Nat) (x : AV), l[i]? = some x → ∃ y, m[i]? = some y ∧ RenV ρ x y
  | [], [], _, i, y, h => by simp at h
  | x :: xs, z :: zs, h, 0, y, hy => by simp at hy; subst hy; exact ⟨z, rfl, h.1⟩
  | x :: xs, z :: zs, h, i + 1, y, hy => by simpa using RenL.get h.2 i y (by simpa using hy)
theorem RenL.get' {ρ : Nat → Nat} : ∀ {l m : List AV}, RenL ρ l m → ∀ (i : Nat) (y : AV), m[i]? = some y → ∃ x, l[i]? = some x ∧ RenV ρ x y
  | [], [], _, i, y, h => by simp at h
  | x :: xs, z :: zs, h, 0, y, hy => by simp at hy; subst hy; exact ⟨x, rfl, h.1⟩
  | x :: xs, z :: zs, h, i + 1, y, hy => by simpa using RenL.get' h.2 i y (by simpa using hy)
theorem RenV.data {ρ : Nat → Nat} {x : AV} (h : Data x) : RenV ρ x x := fun E A w u => ⟨h _ _ A w u, h _ _ A w u⟩
theorem RenV.v {ρ : Nat → Nat} (x : Value) : RenV ρ (.v x) (.v x) := .data (.v x)
theorem RenV.ptr {ρ : Nat → Nat} {i j off : Nat} (h : ρ i = j) : RenV ρ (.ptr i off) (.ptr j off) := fun E A w u => by
  subst h
  constructor
  · intro hr; cases hr with | ptr hv => exact .ptr (E := E) hv
  · intro hr; cases hr with | ptr hv => exact .ptr (E := E.pull ρ) (id := i) hv
structure RenO (ρ : Nat → Nat) (i : Nat) (x y : Ob) : Prop where
  blk : ∀ E, y.blk E (ρ i) = x.blk (E.pull ρ) i
  av : y.av = x.av
  ok : ∀ E A w, x.ok (E.pull ρ) A w i ↔ y.ok E A w (ρ i)
theorem RenO.cells {ρ : Nat → Nat} {i t : Nat} {l m : List AV} (h : RenL ρ l m) : RenO ρ i (.cells t l) (.cells t m) := by
  refine ⟨fun E => rfl, rfl, fun E A w => ⟨?_, ?_⟩⟩
  · rintro ⟨cur, hh, hs, hr⟩
    exact ⟨cur, hh, by rw [hs, h.length], fun k c u hc hu => by
      obtain ⟨x, hx, hv⟩ := h.get' k c hc
      exact (hv E A w u).1 (hr k x u hx hu)⟩
  · rintro ⟨cur, hh, hs, hr⟩
    exact ⟨cur, hh, by rw [hs, h.length], fun k c u hc hu => by
      obtain ⟨x, hx, hv⟩ := h.get k c hc
      exact (hv E A w u).2 (hr k x u hx hu)⟩
open Classical in
noncomputable def Env.push (ρ : Nat → Nat) (n1 nx2 : Nat) (E E1 : Env) : Env where
  valid id := id < nx2
  blk id := if h : ∃ i, ρ i = id ∧ i < n1 then E1.blk h.choose else E.blk id
  cur id := if h : ∃ i, ρ i = id ∧ i < n1 then E1.cur h.choose else E.cur id
  cnt id := if h : ∃ i, ρ i = id ∧ i < n1 then E1.cnt h.choose else E.cnt id
  hb := E.hb
section
variable {ρ : Nat → Nat} {n1 nx2 : Nat} {E E1 : Env}
theorem Env.push_in (hinj : ∀ i j, ρ i = ρ j → i = j) {i : Nat} (hi : i < n1) :
    (E.push ρ n1 nx2 E1).blk (ρ i) = E1.blk i ∧ (E.push ρ n1 nx2 E1).cur (ρ i) = E1.cur i ∧ (E.push ρ n1 nx2 E1).cnt (ρ i) = E1.cnt i := by
  have h : ∃ k, ρ k = ρ i ∧ k < n1 := ⟨i, rfl, hi⟩
  have e : h.choose = i := hinj _ _ h.choose_spec.1
  refine ⟨?_, ?_, ?_⟩ <;> simp only [Env.push] <;> rw [dif_pos h, e]
theorem Env.push_out {id : Nat} (h : ¬ ∃ i, ρ i = id ∧ i < n1) :
    (E.push ρ n1 nx2 E1).blk id = E.blk id ∧ (E.push ρ n1 nx2 E1).cur id = E.cur id ∧ (E.push ρ n1 nx2 E1).cnt id = E.cnt id := by
  refine ⟨?_, ?_, ?_⟩ <;> simp only [Env.push] <;> rw [dif_neg h]
end
theorem Ob.blk_congr {E F : Env} {i : Nat} {ob : Ob} (h1 : F.blk i = E.blk i) (h2 : F.cur i = E.cur i) : ob.blk F i = ob.blk E i := by cases ob <;> simp only [Ob.blk, h1, h2]
theorem Ob.av_ex (ob : Ob) : ∃ o, ob.av o := by
  cases ob with
  | tok t sz n => exact ⟨n * sz, Nat.le_refl _⟩
  | _ => exact ⟨0, trivial⟩
def AvRest (A0 : Nat → Nat → Prop) (E : Env) (ρ : Nat → Nat) (os os' : Os) (b o : Nat) : Prop :=
  A0 b o ∨ ∃ id ob, getO os' id = some ob ∧ (¬ ∃ i ob', ρ i = id ∧ getO os i = some ob') ∧ ob.blk E id = some b ∧ ob.av o
theorem AGen.frame {S S' : Env → Array Value → World → (Ending → World → Prop) → Prop} {args args' : List AV} {os os' : Os} {n0 nx' : Nat} {Q Q' : AV → Os → Nat → Prop} (h : AGen S args os n0 Q)
    (ρ : Nat → Nat) (hS : ∀ E vs w R R', (∀ i, E.valid (ρ i) ↔ i < n0) → S (E.pull ρ) vs w R → (∀ e w', R e w' → R' e w') → S' E vs w R') (hinj : ∀ i j, ρ i = ρ j → i = j) (hlt : ∀ i, i < n0 → ρ i < nx') (hnew : ∀ i, n0 ≤ i → ρ i = nx' + (i - n0))
    (hargs : RenL ρ args args')
    (hos : ∀ i ob, getO os i = some ob → ∃ ob', getO os' (ρ i) = some ob' ∧ RenO ρ i ob ob')
    (hq : ∀ r os1 n1, Q r os1 n1 → ∃ r' os2, RenV ρ r r' ∧ Q' r' os2 (nx' + (n1 - n0)) ∧
      ∀ id ob2, getO os2 id = some ob2 → (∃ i ob1, ρ i = id ∧ getO os1 i = some ob1 ∧ RenO ρ i ob1 ob2) ∨ (getO os' id = some ob2 ∧ ¬ ∃ i, ρ i = id ∧ i < n0)) :
    AGen S' args' os' nx' Q' := by
  intro A0 E w vs hok hnx hr
  have hval : ∀ i, E.valid (ρ i) ↔ i < n0 := fun i => by
    rw [hnx (ρ i)]
    rcases Nat.lt_or_ge i n0 with hi | hi
    · exact ⟨fun _ => hi, fun _ => hlt i hi⟩
    · have := hnew i hi; omega
  have hdom : ∀ i ob, getO os i = some ob → i < n0 := fun i ob hg => by
    obtain ⟨ob', hg', _⟩ := hos i ob hg
    exact (hval i).1 (hok.ok _ _ hg').1
  have key : ∀ b o, Av (E.pull ρ) os b o → Av E os' b o := by
    rintro b o ⟨i, ob, hg, hb, hav⟩
    obtain ⟨ob', hg', ro⟩ := hos i ob hg
    exact ⟨ρ i, ob', hg', by rw [ro.blk]; exact hb, by rw [ro.av]; exact hav⟩
  have hAX : ∀ b o, AvX (AvRest A0 E ρ os os') (E.pull ρ) os b o ↔ AvX A0 E os' b o := by
    intro b o
    constructor
    · rintro ((ha | ⟨id, ob, hg, _, hb, hav⟩) | ha)
      · exact .inl ha
      · exact .inr ⟨id, ob, hg, hb, hav⟩
      · exact .inr (key b o ha)
    · rintro (ha | ⟨id, ob, hg, hb, hav⟩)
      · exact .inl (.inl ha)
      · by_cases hx : ∃ i ob', ρ i = id ∧ getO os i = some ob'
        · obtain ⟨i, ob0, rfl, hg0⟩ := hx
          obtain ⟨ob', hg', ro⟩ := hos i ob0 hg0
          rw [hg] at hg'; cases hg'
          exact .inr ⟨i, ob0, hg0, by rw [← ro.blk]; exact hb, by rw [← ro.av]; exact hav⟩
        · exact .inl (.inr ⟨id, ob, hg, hx, hb, hav⟩)
  have hok' : OsOk (AvRest A0 E ρ os os') (E.pull ρ) os w := by
    refine ⟨fun i ob hg => ?_, fun i j oi oj b hi hj hbi hbj => ?_, fun id ob b hg hb o => ?_, fun b o ha => ?_, hok.gl.mono fun b o ha => (hAX b o).1 ha⟩
    · obtain ⟨ob', hg', ro⟩ := hos i ob hg
      obtain ⟨hv, ho⟩ := hok.ok _ _ hg'
      exact ⟨hv, (ro.ok E _ w).2 (Ob.ok_step ho hv (.refl E) (.refl _ w) (fun b o ha => .inl ((hAX b o).1 ha)) rfl (fun _ _ => rfl))⟩
    · obtain ⟨oi', hgi, ri⟩ := hos i oi hi
      obtain ⟨oj', hgj, rj⟩ := hos j oj hj
      exact hinj _ _ (hok.inj _ _ _ _ b hgi hgj (by rw [ri.blk]; exact hbi) (by rw [rj.blk]; exact hbj))
    · obtain ⟨ob', hg', ro⟩ := hos id ob hg
      have hb' : ob'.blk E (ρ id) = some b := by rw [ro.blk]; exact hb
      rintro (ha | ⟨id', ob2, hg2, hn, hb2, _⟩)
      · exact hok.out _ _ b hg' hb' o ha
      · have := hok.inj _ _ _ _ b hg' hg2 hb' hb2
        exact hn ⟨id, ob, this, hg⟩
    · rcases ha with ha | ⟨id', ob2, hg2, _, hb2, _⟩
      · exact hok.bnd b o ha
      · exact Ob.blk_lt (hok.ok _ _ hg2).2 hb2
  have hrp : RpL (E.pull ρ) (AvX (AvRest A0 E ρ os os') (E.pull ρ) os) w args vs := ⟨by rw [hr.1, hargs.length], fun i c u hc hu => by
    obtain ⟨y, hy, hv⟩ := hargs.get i c hc
    exact (hv E _ w u).2 ((hr.2 i y u hy hu).mono fun b o ha => (hAX b o).1 ha)⟩
  refine hS E vs w _ _ hval (h _ _ w vs hok' hval hrp) ?_
  rintro e w' ⟨r, v, os1, n1, E1, rfl, hQ, hrv, hok1, hnx1, hext, hstp, hsub⟩
  obtain ⟨r', os2, hren, hQ', hos2⟩ := hq r os1 n1 hQ
  have hn : n0 ≤ n1 := by
    rcases Nat.lt_or_ge n1 n0 with hlt' | hge
    · have := (hnx1 n1).1 (hext.valid n1 ((hval n1).2 hlt'))
      omega
    · exact hge
  have hrho : ∀ i, i < n1 → ρ i < nx' + (n1 - n0) := fun i hi => by
    rcases Nat.lt_or_ge i n0 with h0 | h0
    · have := hlt i h0; omega
    · have := hnew i h0; omega
  have hold : ∀ i, ρ i < nx' → i < n0 := fun i hi => by
    rcases Nat.lt_or_ge i n0 with h0 | h0
    · exact h0
    · have := hnew i h0; omega
  have pin : ∀ i, i < n1 → _ := fun i hi => Env.push_in (n1 := n1) (nx2 := nx' + (n1 - n0)) (E := E) (E1 := E1) hinj hi
  have pout : ∀ id, (¬ ∃ i, ρ i = id ∧ i < n1) → _ := fun id hx => Env.push_out (n1 := n1) (nx2 := nx' + (n1 - n0)) (E := E) (E1 := E1) (id := id) hx
  have hpull : Ext E1 ((E.push ρ n1 (nx' + (n1 - n0)) E1).pull ρ) := by
    refine ⟨hext.hb.symm, fun i hv => hrho i ((hnx1 i).1 hv), fun i hv => (pin _ ((hnx1 i).1 hv)).1, fun i hv => Nat.le_of_eq (pin _ ((hnx1 i).1 hv)).2.2.symm, fun i hv _ => (pin _ ((hnx1 i).1 hv)).2.1⟩
  have hext2 : Ext E (E.push ρ n1 (nx' + (n1 - n0)) E1) := by
    have split : ∀ id, E.valid id → (∃ i, ρ i = id ∧ i < n0) ∨ ¬ ∃ i, ρ i = id ∧ i < n1 := fun id hv => by
      by_cases hx : ∃ i, ρ i = id ∧ i < n1
      · obtain ⟨i, rfl, _⟩ := hx
        exact .inl ⟨i, rfl, (hval i).1 hv⟩
      · exact .inr hx
    refine ⟨rfl, fun id hv => by have := (hnx id).1 hv; simp only [Env.push]; omega, fun id hv => ?_, fun id hv => ?_, fun id hv => ?_⟩
    · rcases split id hv with ⟨i, rfl, hi⟩ | hx
      · rw [(pin _ (by omega)).1]; exact hext.blk i ((hval i).2 hi)
      · exact (pout _ hx).1
    · rcases split id hv with ⟨i, rfl, hi⟩ | hx
      · rw [(pin _ (by omega)).2.2]; exact hext.cnt i ((hval i).2 hi)
      · exact Nat.le_of_eq (pout _ hx).2.2.symm
    · rcases split id hv with ⟨i, rfl, hi⟩ | hx
      · rw [(pin _ (by omega)).2.2, (pin _ (by omega)).2.1]; exact hext.cur i ((hval i).2 hi)
      · intro _; exact (pout _ hx).2.1
  have hout : ∀ id ob2, getO os' id = some ob2 → (¬ ∃ i, ρ i = id ∧ i < n0) → ¬ ∃ i, ρ i = id ∧ i < n1 := fun id ob2 hg hx => by
    rintro ⟨i, rfl, _⟩
    exact hx ⟨i, rfl, hold i ((hnx _).1 (hok.ok _ _ hg).1)⟩
  have hcase : ∀ b o, Av (E.push ρ n1 (nx' + (n1 - n0)) E1) os2 b o → Av E1 os1 b o ∨ ∃ id ob, getO os' id = some ob ∧ (¬ ∃ i ob', ρ i = id ∧ getO os i = some ob') ∧ ob.blk E id = some b ∧ ob.av o := by
    rintro b o ⟨id, ob2, hg, hb, hav⟩
    rcases hos2 id ob2 hg with ⟨i, ob1, rfl, hg1, ro⟩ | ⟨hg', hx⟩
    · have hi := (hnx1 i).1 (hok1.ok _ _ hg1).1
      refine .inl ⟨i, ob1, hg1, ?_, by rw [← ro.av]; exact hav⟩
      rw [ro.blk] at hb
      rw [← hb]
      exact (Ob.blk_congr (pin _ hi).1 (pin _ hi).2.1).symm
    · have hx1 := hout id ob2 hg' hx
      refine .inr ⟨id, ob2, hg', ?_, ?_, hav⟩
      · rintro ⟨i, ob', he, hgi⟩
        exact hx ⟨i, he, hdom i ob' hgi⟩
      · rw [← hb]
        exact (Ob.blk_congr (pout _ hx1).1 (pout _ hx1).2.1).symm
  have hA2 : ∀ b o, AvX A0 (E.push ρ n1 (nx' + (n1 - n0)) E1) os2 b o → AvX (AvRest A0 E ρ os os') E1 os1 b o := by
    rintro b o (ha | ha)
    · exact .inl (.inl ha)
    · rcases hcase b o ha with h1 | h1
      · exact .inr h1
      · exact .inl (.inr h1)
  have hsub2 : ∀ b o, Av (E.push ρ n1 (nx' + (n1 - n0)) E1) os2 b o → Av E os' b o ∨ w.heap.size ≤ b := by
    intro b o ha
    rcases hcase b o ha with h1 | ⟨id, ob, hg, _, hb, hav⟩
    · exact (hsub b o h1).imp (key b o) id
    · exact .inl ⟨id, ob, hg, hb, hav⟩
  have hstp2 : Stp (Av E os') w w' := hstp.mono fun b o _ ha => key b o ha
  refine ⟨r', v, os2, _, E.push ρ n1 (nx' + (n1 - n0)) E1, rfl, hQ', (hren _ _ w' v).1 (hrv.step (.refl _ w') hpull fun b o ha => .inl (hA2 b o ha)), ?_, fun id => Iff.rfl, hext2, hstp2, hsub2⟩
  refine ⟨fun id ob2 hg => ?_, fun i j oi oj b hi hj hbi hbj => ?_, fun id ob2 b hg hb o ha => ?_, fun b o ha => Nat.lt_of_lt_of_le (hok.bnd b o ha) hstp.size, hok1.gl.mono hA2⟩
  · rcases hos2 id ob2 hg with ⟨i, ob1, rfl, hg1, ro⟩ | ⟨hg', hx⟩
    · obtain ⟨hv1, ho1⟩ := hok1.ok i ob1 hg1
      exact ⟨hpull.valid i hv1, (ro.ok _ _ w').1 (Ob.ok_step ho1 hv1 hpull (.refl _ w') (fun b o ha => .inl (hA2 b o ha)) (pin _ ((hnx1 i).1 hv1)).2.2 (fun _ _ => rfl))⟩
    · obtain ⟨hv, ho⟩ := hok.ok id ob2 hg'
      refine ⟨hext2.valid id hv, Ob.ok_step ho hv hext2 (hstp2.mono fun b o _ ha => .inr ha) (fun b o ha => ?_) (pout _ (hout id ob2 hg' hx)).2.2 (fun b hb => ?_)⟩
      · rcases ha with ha | ha
        · exact .inl (.inl ha)
        · exact (hsub2 b o ha).imp .inr fun h => h
      · refine hstp.block b (Ob.blk_lt ho hb) fun o => ?_
        rintro ⟨i, ob0, hg0, hb0, _⟩
        obtain ⟨ob', hgi, ro⟩ := hos i ob0 hg0
        have := hok.inj _ _ _ _ b hgi hg' (by rw [ro.blk]; exact hb0) hb
        exact hx ⟨i, this, hdom i ob0 hg0⟩
  · have mixed : ∀ {i id : Nat} {ob1 oj : Ob}, getO os1 i = some ob1 → ob1.blk E1 i = some b → getO os' id = some oj → oj.blk E id = some b → (¬ ∃ i, ρ i = id ∧ i < n0) → False := by
      intro i id ob1 oj hg1 hb1 hgj hbj hx
      obtain ⟨o, ho⟩ := oj.av_ex
      refine hok1.out i ob1 b hg1 hb1 o (.inr ⟨id, oj, hgj, ?_, hbj, ho⟩)
      rintro ⟨k, ob', he, hgk⟩
      exact hx ⟨k, he, hdom k ob' hgk⟩
    have b1 : ∀ {i : Nat} {ob1 ob2 : Ob}, getO os1 i = some ob1 → RenO ρ i ob1 ob2 → ob2.blk (E.push ρ n1 (nx' + (n1 - n0)) E1) (ρ i) = some b → ob1.blk E1 i = some b := by
      intro i ob1 ob2 hg1 ro hb
      have hi := (hnx1 i).1 (hok1.ok _ _ hg1).1
      rw [ro.blk] at hb
      rw [← hb]
      exact (Ob.blk_congr (pin _ hi).1 (pin _ hi).2.1).symm
    have b2 : ∀ {id : Nat} {ob2 : Ob}, getO os' id = some ob2 → (¬ ∃ i, ρ i = id ∧ i < n0) → ob2.blk (E.push ρ n1 (nx' + (n1 - n0)) E1) id = some b → ob2.blk E id = some b := by
      intro id ob2 hg' hx hb
      have hx1 := hout id ob2 hg' hx
      rw [← hb]
      exact (Ob.blk_congr (pout _ hx1).1 (pout _ hx1).2.1).symm
    rcases hos2 i oi hi with ⟨i1, o1, rfl, hg1, r1⟩ | ⟨hg1, hx1⟩ <;> rcases hos2 j oj hj with ⟨j1, o2, rfl, hg2, r2⟩ | ⟨hg2, hx2⟩
    · rw [hok1.inj _ _ _ _ b hg1 hg2 (b1 hg1 r1 hbi) (b1 hg2 r2 hbj)]
    · exact (mixed hg1 (b1 hg1 r1 hbi) hg2 (b2 hg2 hx2 hbj) hx2).elim
    · exact (mixed hg2 (b1 hg2 r2 hbj) hg1 (b2 hg1 hx1 hbi) hx1).elim
    · exact hok.inj _ _ _ _ b hg1 hg2 (b2 hg1 hx1 hbi) (b2 hg2 hx2 hbj)
  · rcases hos2 id ob2 hg with ⟨i, ob1, rfl, hg1, ro⟩ | ⟨hg', hx⟩
    · have hi := (hnx1 i).1 (hok1.ok _ _ hg1).1
      refine hok1.out i ob1 b hg1 ?_ o (.inl ha)
      rw [ro.blk] at hb
      rw [← hb]
      exact (Ob.blk_congr (pin _ hi).1 (pin _ hi).2.1).symm
    · have hx1 := hout id ob2 hg' hx
      refine hok.out id ob2 b hg' ?_ o ha
      rw [← hb]
      exact (Ob.blk_congr (pout _ hx1).1 (pout _ hx1).2.1).symm
theorem ACalls.frame {P : Program} {f : Nat} {args args' : List AV} {os os' : Os} {n0 nx' : Nat} {Q Q' : AV → Os → Nat → Prop} (h : ACalls P f args os n0 Q)
    (ρ : Nat → Nat) (hinj : ∀ i j, ρ i = ρ j → i = j) (hlt : ∀ i, i < n0 → ρ i < nx') (hnew : ∀ i, n0 ≤ i → ρ i = nx' + (i - n0))
    (hargs : RenL ρ args args')
    (hos : ∀ i ob, getO os i = some ob → ∃ ob', getO os' (ρ i) = some ob' ∧ RenO ρ i ob ob')
    (hq : ∀ r os1 n1, Q r os1 n1 → ∃ r' os2, RenV ρ r r' ∧ Q' r' os2 (nx' + (n1 - n0)) ∧
      ∀ id ob2, getO os2 id = some ob2 → (∃ i ob1, ρ i = id ∧ getO os1 i = some ob1 ∧ RenO ρ i ob1 ob2) ∨ (getO os' id = some ob2 ∧ ¬ ∃ i, ρ i = id ∧ i < n0)) :
    ACalls P f args' os' nx' Q' :=
  ⟨h.1, AGen.frame (S := fun _ vs w R => Calls P f vs w R) (S' := fun _ vs w R => Calls P f vs w R) h.2 ρ (fun _ _ _ _ _ _ hc hr => Calls.mono hc hr) hinj hlt hnew hargs hos hq⟩
def renOf (ids : List Nat) (nx : Nat) (i : Nat) : Nat := (ids[i]?).getD (nx + (i - ids.length))
theorem renOf_lt {ids : List Nat} {nx i : Nat} (h : i < ids.length) : renOf ids nx i = ids[i] := by simp [renOf, h]
theorem renOf_ge {ids : List Nat} {nx i : Nat} (h : ids.length ≤ i) : renOf ids nx i = nx + (i - ids.length) := by simp [renOf, h]
theorem renOf_inj {ids : List Nat} {nx : Nat} (hnd : ids.Nodup) (hlt : ∀ x ∈ ids, x < nx) (i j : Nat) (h : renOf ids nx i = renOf ids nx j) : i = j := by
  rcases Nat.lt_or_ge i ids.length with hi | hi <;> rcases Nat.lt_or_ge j ids.length with hj | hj
  · rw [renOf_lt hi, renOf_lt hj] at h
    have hp := List.pairwise_iff_getElem.1 hnd
    rcases Nat.lt_trichotomy i j with hij | hij | hij
    · exact absurd h (hp i j hi hj hij)
    · exact hij
    · exact absurd h.symm (hp j i hj hi hij)
  · rw [renOf_lt hi, renOf_ge hj] at h
    have := hlt _ (List.getElem_mem hi)
    omega
  · rw [renOf_ge hi, renOf_lt hj] at h
    have := hlt _ (List.getElem_mem hj)
    omega
  · rw [renOf_ge hi, renOf_ge hj] at h; omega
def enumO : Nat → List Ob → Os
  | _, [] => []
  | i, ob :: obs => (i, ob) :: enumO (i + 1) obs
theorem getO_enumO : ∀ (obs : List Ob) (k i : Nat), getO (enumO k obs) i = if k ≤ i then obs[i - k]? else none
  | [], k, i => by simp [enumO, getO]
  | ob :: obs, k, i => by
    simp only [enumO, getO]
    by_cases h : k = i
    · subst h; simp
    · rw [if_neg h, getO_enumO obs (k + 1) i]
      by_cases h2 : k ≤ i
      · rw [if_pos (by omega), if_pos h2, show i - k = (i - (k + 1)) + 1 by omega, List.getElem?_cons_succ]
      · rw [if_neg (by omega), if_neg h2]
def RenOs (ρ : Nat → Nat) : Nat → List Ob → List Ob → Prop
  | _, [], [] => True
  | i, x :: xs, y :: ys => RenO ρ i x y ∧ RenOs ρ (i + 1) xs ys
  | _, _, _ => False
theorem RenOs.length {ρ : Nat → Nat} : ∀ {k : Nat} {l m : List Ob}, RenOs ρ k l m → m.length = l.length
  | _, [], [], _ => rfl
  | _, _ :: _, _ :: _, h => by simp [RenOs.length h.2]
theorem RenOs.get {ρ : Nat → Nat} : ∀ {k : Nat} {l m : List Ob}, RenOs ρ k l m → ∀ (i : Nat) (x : Ob), l[i]? = some x → ∃ y, m[i]? = some y ∧ RenO ρ (k + i) x y
  | _, [], [], _, i, y, h => by simp at h
  | _, x :: xs, z :: zs, h, 0, y, hy => by simp at hy; subst hy; exact ⟨z, rfl, h.1⟩
  | k, x :: xs, z :: zs, h, i + 1, y, hy => by
    obtain ⟨u, h1, h2⟩ := RenOs.get h.2 i y (by simpa using hy)
    exact ⟨u, by simpa using h1, by rw [show k + (i + 1) = k + 1 + i by omega]; exact h2⟩
def GetsO (os : Os) : List Nat → List Ob → Prop
  | [], [] => True
  | i :: is, o :: obs => getO os i = some o ∧ GetsO os is obs
  | _, _ => False
theorem GetsO.get {os : Os} : ∀ {l : List Nat} {m : List Ob}, GetsO os l m → ∀ (i : Nat) (o : Ob), m[i]? = some o → ∃ id, l[i]? = some id ∧ getO os id = some o
  | [], [], _, i, y, h => by simp at h
  | x :: xs, z :: zs, h, 0, y, hy => by simp at hy; subst hy; exact ⟨x, rfl, h.1⟩
  | x :: xs, z :: zs, h, i + 1, y, hy => by simpa using GetsO.get h.2 i y (by simpa using hy)
theorem getO_putsO : ∀ (l : List Nat) (m : List Ob) (os : Os) (id : Nat) (ob : Ob), l.Nodup → l.length = m.length → getO (putsO os (l.zip m)) id = some ob →
    (∃ i : Nat, l[i]? = some id ∧ m[i]? = some ob) ∨ (id ∉ l ∧ getO os id = some ob)
  | [], m, os, id, ob, _, _, h => .inr ⟨by simp, by simpa [putsO] using h⟩
  | x :: xs, [], os, id, ob, _, hl, h => by simp at hl
  | x :: xs, z :: zs, os, id, ob, hnd, hl, h => by
    simp only [List.zip_cons_cons, putsO] at h
    obtain ⟨h1, h2⟩ := List.nodup_cons.1 hnd
    rcases getO_putsO xs zs (putO os x z) id ob h2 (by simpa using hl) h with ⟨i, hi, hm⟩ | ⟨hn, hg⟩
    · exact .inl ⟨i + 1, by simpa using hi, by simpa using hm⟩
    · rw [getO_putO] at hg
      split at hg
      · rename_i e; cases hg; subst e; exact .inl ⟨0, rfl, rfl⟩
      · rename_i e; exact .inr ⟨by simp [e, hn], hg⟩
theorem ACalls.at {P : Program} {f : Nat} {args args' : List AV} {obs obs1 obs' obs1' : List Ob} {R R' : AV} {os' : Os} {nx' : Nat} {Q' : AV → Os → Nat → Prop} (ids : List Nat)
    (h : ACalls P f args (enumO 0 obs) obs.length fun r os n => r = R ∧ os = enumO 0 obs1 ∧ n = obs.length)
    (hl : ids.length = obs.length) (hl1 : obs1.length = obs.length) (hnd : ids.Nodup) (hlt : ∀ x ∈ ids, x < nx')
    (hargs : RenL (renOf ids nx') args args') (hR : RenV (renOf ids nx') R R') (hobs : RenOs (renOf ids nx') 0 obs obs') (hget : GetsO os' ids obs')
    (hobs1 : RenOs (renOf ids nx') 0 obs1 obs1') (hq : Q' R' (putsO os' (ids.zip obs1')) nx') : ACalls P f args' os' nx' Q' := by
  refine h.frame (renOf ids nx') (renOf_inj hnd hlt) (fun i hi => ?_) (fun i hi => by rw [renOf_ge (by omega), hl]) hargs (fun i ob hg => ?_) ?_
  · rw [renOf_lt (by omega)]; exact hlt _ (List.getElem_mem _)
  · rw [getO_enumO, if_pos (Nat.zero_le _), Nat.sub_zero] at hg
    obtain ⟨y, hy, hr⟩ := hobs.get i ob hg
    obtain ⟨id, hi, hgo⟩ := hget.get i y hy
    have hlt' : i < ids.length := (List.getElem?_eq_some_iff.1 hi).1
    rw [List.getElem?_eq_getElem hlt'] at hi
    cases hi
    rw [Nat.zero_add] at hr
    exact ⟨y, by rw [renOf_lt hlt']; exact hgo, hr⟩
  · rintro r os1 n1 ⟨rfl, rfl, rfl⟩
    refine ⟨R', _, hR, by rw [Nat.sub_self, Nat.add_zero]; exact hq, fun id ob2 hg => ?_⟩
    have hl1' := hobs1.length
    rcases getO_putsO ids obs1' os' id ob2 hnd (by omega) hg with ⟨i, hi, hm⟩ | ⟨hn, hg⟩
    · have hlt' : i < ids.length := (List.getElem?_eq_some_iff.1 hi).1
      have hx : obs1[i]? = some (obs1[i]'(by omega)) := List.getElem?_eq_getElem (by omega)
      obtain ⟨y, hy, hr⟩ := hobs1.get i _ hx
      rw [hm] at hy; cases hy
      rw [Nat.zero_add] at hr
      rw [List.getElem?_eq_getElem hlt'] at hi
      refine .inl ⟨i, _, by rw [renOf_lt hlt']; exact Option.some.inj hi, ?_, hr⟩
      rw [getO_enumO, if_pos (Nat.zero_le _), Nat.sub_zero]; exact hx
    · refine .inr ⟨hg, ?_⟩
      rintro ⟨i, rfl, hi⟩
      rw [renOf_lt (by omega)] at hn
      exact hn (List.getElem_mem _)
end Go.Proofs.YtmepcmphcghbeaaDoor
