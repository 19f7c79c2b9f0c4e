/- Texts of the abstract walk, of the contracts and of the plain laws, packed (part 15 of 48): Ab13. Conditions: none. -/
import Derived.Test.YtmepcmphcghbeaaDoorPk14
namespace Go.Proofs.YtmepcmphcghbeaaDoor
open Go Go.RowKit
set_option linter.unnecessarySimpa false
theorem AWp_joinM {ro : Option Nat} {P : Program} {Q : Exit → St → Prop} {st : St} {x y : Code} (mask : List Bool) (upd : List (Nat × AV)) (osu : List (Nat × Ob))
    (h1 : AWp ro P x (thenQ (fun st' => Weak st' ⟨setsL (maskL mask st.sl) upd, putsO st.os osu, st.nx, st.n0⟩) Q) st)
    (h2 : AWp ro P y Q ⟨setsL (maskL mask st.sl) upd, putsO st.os osu, st.nx, st.n0⟩) : AWp ro P (.seq x y) Q st :=
  AWp_seq (h1.mono fun e st' q => by
    cases e with
    | normal => exact AWp_weak q h2
    | _ => exact q)
def NilLe (id sz : Nat) (x y : AV) : Prop := Le x y ∨ (x = .v (.slice none 0 0) ∧ y = .osl id sz [])
def NilL (id sz : Nat) : List AV → List AV → Prop
  | [], [] => True
  | x :: xs, y :: ys => NilLe id sz x y ∧ NilL id sz xs ys
  | _, _ => False
theorem NilLe.rp {E : Env} {A : Nat → Nat → Prop} {w : World} {id sz : Nat} {x y : AV} {u : Value} (h : NilLe id sz x y) (hv : E.valid id) (hc : E.cnt id = 0) (hs : E.cur id = .slice none 0 0) (hr : Rp E A w x u) : Rp E A w y u := by
  rcases h with h | ⟨rfl, rfl⟩
  · exact h E A w u hr
  · cases hr
    exact .osl hv (.sl0 (by simp [maxLen])) (by simp) (fun _ => hs.symm)
section
variable {A0 : Nat → Nat → Prop} {E0 : Env} {os0 : Os} {w0 : World} {E : Env} {st : St} {a : Act} {w : World}
theorem SimC.recell (h : SimC A0 E0 os0 w0 E st a w) {id t : Nat} {cs cs' : List AV} (hg : getO st.os id = some (.cells t cs)) (hl : cs'.length = cs.length)
    (hr : ∀ (i : Nat) (c' : AV) (u : Value), cs'[i]? = some c' → (∀ c, cs[i]? = some c → Rp E (AvX A0 E st.os) w c u) → Rp E (AvX A0 E st.os) w c' u) :
    SimC A0 E0 os0 w0 E { st with os := putO st.os id (.cells t cs') } a w := by
  have hget : ∀ j o, getO (putO st.os id (.cells t cs')) j = some o → (j = id ∧ o = .cells t cs') ∨ (j ≠ id ∧ getO st.os j = some o) := by
    intro j o hj
    rw [getO_putO] at hj
    split at hj
    · rename_i he; cases hj; exact .inl ⟨he, rfl⟩
    · rename_i he; exact .inr ⟨he, hj⟩
  have hav : ∀ b o, Av E (putO st.os id (.cells t cs')) b o → Av E st.os b o := by
    rintro b o ⟨j, o', hj, hb, hav⟩
    rcases hget j o' hj with ⟨rfl, rfl⟩ | ⟨hn, hg'⟩
    · exact ⟨j, _, hg, hb, trivial⟩
    · exact ⟨j, o', hg', hb, hav⟩
  have hA : ∀ b o, AvX A0 E (putO st.os id (.cells t cs')) b o → AvX A0 E st.os b o := fun b o ha => ha.imp (fun h => h) (hav b o)
  refine ⟨h.size, fun i c u hc hu => (h.sl i c u hc hu).mono hA, ⟨fun j ob hj => ?_, fun i j oi oj b hi hj hbi hbj => ?_, fun j ob b hj hb => ?_, h.os.bnd, h.os.gl.mono hA⟩, h.nx, h.defers, h.hbl, h.ext, h.stp, fun b o ha => h.sub b o (hav b o ha), h.base⟩
  · rcases hget j ob hj with ⟨rfl, rfl⟩ | ⟨hn, hg'⟩
    · obtain ⟨hv, cur, hh, hsz, hrr⟩ := h.os.ok _ _ hg
      refine ⟨hv, cur, hh, by rw [hl]; exact hsz, fun i c u hc hu => (hr i c u hc fun c0 hc0 => hrr i c0 u hc0 hu).mono hA⟩
    · obtain ⟨hv, ho⟩ := h.os.ok _ _ hg'
      exact ⟨hv, Ob.ok_step ho hv (.refl E) (.refl _ w) (fun b o ha => .inl (hA b o ha)) rfl (fun _ _ => rfl)⟩
  · have key : ∀ j oj, getO (putO st.os id (.cells t cs')) j = some oj → ∃ o', getO st.os j = some o' ∧ o'.blk E j = oj.blk E j := fun j oj hj => by
      rcases hget j oj hj with ⟨rfl, rfl⟩ | ⟨hn, hg'⟩
      · exact ⟨_, hg, rfl⟩
      · exact ⟨_, hg', rfl⟩
    obtain ⟨o1, h1, e1⟩ := key i oi hi
    obtain ⟨o2, h2, e2⟩ := key j oj hj
    exact h.os.inj i j o1 o2 b h1 h2 (e1.trans hbi) (e2.trans hbj)
  · rcases hget j ob hj with ⟨rfl, rfl⟩ | ⟨hn, hg'⟩
    · exact h.os.out _ _ b hg hb
    · exact h.os.out _ _ b hg' hb
theorem SimC.tok (h : SimC A0 E0 os0 w0 E st a w) (e sz : Nat) : ∃ E', SimC A0 E0 os0 w0 E' { st with os := (st.nx, .tok e sz 0) :: st.os, nx := st.nx + 1 } a w ∧ E'.valid st.nx ∧ E'.cnt st.nx = 0 ∧ E'.cur st.nx = .slice none 0 0 :=
  ⟨_, h.add (.refl _ w) 0 (.slice none 0 0) 0 (.tok e sz 0) (fun b hb => by simp [Ob.blk, Env.add, Value.ownBlock] at hb) ⟨by simp [Env.add], .inl ⟨by simp [Env.add], rfl⟩⟩, .inr rfl, by simp [Env.add], by simp [Env.add]⟩
theorem SimC.resl (h : SimC A0 E0 os0 w0 E st a w) {sl' : List AV} (hl : sl'.length = st.sl.length) (hr : ∀ (i : Nat) (c' : AV) (u : Value), sl'[i]? = some c' → (∀ c, st.sl[i]? = some c → Rp E (AvX A0 E st.os) w c u) → Rp E (AvX A0 E st.os) w c' u) :
    SimC A0 E0 os0 w0 E { st with sl := sl' } a w :=
  { h with size := by rw [h.size, hl], sl := fun i c u hc hu => hr i c u hc fun c0 hc0 => h.sl i c0 u hc0 hu }
end
theorem ACalls.res {P : Program} {f : Nat} {args : List AV} {os : Os} {nx : Nat} {Q Q' : AV → Os → Nat → Prop} (h : ACalls P f args os nx Q) (hq : ∀ r os' nx', Q r os' nx' → ∃ r', Le r r' ∧ Q' r' os' nx') : ACalls P f args os nx Q' :=
  ⟨h.1, fun A0 E w vs h1 h2 h3 => (h.2 A0 E w vs h1 h2 h3).mono fun _ _ ⟨r, v, os', nx', E', he, q, hr, rest⟩ =>
    let ⟨r', hle, q'⟩ := hq _ _ _ q
    ⟨r', v, os', nx', E', he, q', hle _ _ _ _ hr, rest⟩⟩
theorem ACalls.args {P : Program} {f : Nat} {args args' : List AV} {os : Os} {nx : Nat} {Q : AV → Os → Nat → Prop} (hl : LeL args args') (h : ACalls P f args' os nx Q) : ACalls P f args os nx Q :=
  ⟨h.1, fun A0 E w vs h1 h2 h3 => h.2 A0 E w vs h1 h2 ⟨by rw [h3.1, hl.length], fun i c u hc hu => by
    obtain ⟨x, hx, hle⟩ := hl.get i c hc
    exact hle _ _ _ _ (h3.2 i x u hx hu)⟩⟩
theorem APure.mkL {P : Program} {f : Nat} {args : List AV} {x : AV} (h1 : DataL args) (h2 : Data x) (h3 : ACalls P f args [] 0 fun r _ _ => Le r x) : APure P f args x := ⟨h1, h2, h3.res fun r _ _ hr => ⟨x, hr, rfl⟩⟩
theorem Le.oslL {id sz : Nat} {xs : List (List AV)} : Le (.osl id sz xs) (.sl sz xs) := Le.osl _ _ _
theorem Le.of_eq {x y : AV} (h : x = y) : Le x y := h ▸ .refl x
theorem Le.slNil (sz : Nat) : Le (.v (.slice none 0 0)) (.sl sz []) := fun E A w u hr => by cases hr; exact .sl0 (by simp [maxLen])
theorem bs0_1 : (0 * 1 ≤ 2 ^ 24) = True := eq_true (by decide)
theorem bs1_1 : (1 * 1 ≤ 2 ^ 24) = True := eq_true (by decide)
theorem bs3_1 : (3 * 1 ≤ 2 ^ 24) = True := eq_true (by decide)
theorem bs0_2 : (0 * 2 ≤ 2 ^ 24) = True := eq_true (by decide)
theorem bs1_2 : (1 * 2 ≤ 2 ^ 24) = True := eq_true (by decide)
theorem bs3_2 : (3 * 2 ≤ 2 ^ 24) = True := eq_true (by decide)
theorem bs0_3 : (0 * 3 ≤ 2 ^ 24) = True := eq_true (by decide)
theorem bs1_3 : (1 * 3 ≤ 2 ^ 24) = True := eq_true (by decide)
theorem bs3_3 : (3 * 3 ≤ 2 ^ 24) = True := eq_true (by decide)
theorem bs0_4 : (0 * 4 ≤ 2 ^ 24) = True := eq_true (by decide)
theorem bs1_4 : (1 * 4 ≤ 2 ^ 24) = True := eq_true (by decide)
theorem bs3_4 : (3 * 4 ≤ 2 ^ 24) = True := eq_true (by decide)
theorem bs0_5 : (0 * 5 ≤ 2 ^ 24) = True := eq_true (by decide)
theorem bs1_5 : (1 * 5 ≤ 2 ^ 24) = True := eq_true (by decide)
theorem bs3_5 : (3 * 5 ≤ 2 ^ 24) = True := eq_true (by decide)
theorem bs0_6 : (0 * 6 ≤ 2 ^ 24) = True := eq_true (by decide)
theorem bs1_6 : (1 * 6 ≤ 2 ^ 24) = True := eq_true (by decide)
theorem bs3_6 : (3 * 6 ≤ 2 ^ 24) = True := eq_true (by decide)
theorem bs0_7 : (0 * 7 ≤ 2 ^ 24) = True := eq_true (by decide)
theorem bs1_7 : (1 * 7 ≤ 2 ^ 24) = True := eq_true (by decide)
theorem bs3_7 : (3 * 7 ≤ 2 ^ 24) = True := eq_true (by decide)
theorem bs0_8 : (0 * 8 ≤ 2 ^ 24) = True := eq_true (by decide)
theorem bs1_8 : (1 * 8 ≤ 2 ^ 24) = True := eq_true (by decide)
theorem bs3_8 : (3 * 8 ≤ 2 ^ 24) = True := eq_true (by decide)
theorem bs0_9 : (0 * 9 ≤ 2 ^ 24) = True := eq_true (by decide)
theorem bs1_9 : (1 * 9 ≤ 2 ^ 24) = True := eq_true (by decide)
theorem bs3_9 : (3 * 9 ≤ 2 ^ 24) = True := eq_true (by decide)
theorem bs0_10 : (0 * 10 ≤ 2 ^ 24) = True := eq_true (by decide)
theorem bs1_10 : (1 * 10 ≤ 2 ^ 24) = True := eq_true (by decide)
theorem bs3_10 : (3 * 10 ≤ 2 ^ 24) = True := eq_true (by decide)
theorem bs0_11 : (0 * 11 ≤ 2 ^ 24) = True := eq_true (by decide)
theorem bs1_11 : (1 * 11 ≤ 2 ^ 24) = True := eq_true (by decide)
theorem bs3_11 : (3 * 11 ≤ 2 ^ 24) = True := eq_true (by decide)
theorem bs0_12 : (0 * 12 ≤ 2 ^ 24) = True := eq_true (by decide)
theorem bs1_12 : (1 * 12 ≤ 2 ^ 24) = True := eq_true (by decide)
theorem bs3_12 : (3 * 12 ≤ 2 ^ 24) = True := eq_true (by decide)
end Go.Proofs.YtmepcmphcghbeaaDoor
