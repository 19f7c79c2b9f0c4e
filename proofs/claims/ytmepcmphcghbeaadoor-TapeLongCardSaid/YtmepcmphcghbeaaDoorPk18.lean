/- Texts of the abstract walk, of the contracts and of the plain laws, packed (part 18 of 48): Ab16. Conditions: none. -/
import Derived.Test.YtmepcmphcghbeaaDoorPk17
import Derived.Scope
namespace Go.Proofs.YtmepcmphcghbeaaDoor
open Go Go.RowKit
set_option linter.unnecessarySimpa false
theorem getO_drop {n : Nat} : ∀ (m : Nat) {os : Os} {id : Nat} {ob : Ob}, ((os.take m).all fun p => decide (n ≤ p.1)) = true → id < n → getO (os.drop m) id = some ob → getO os id = some ob
  | 0, os, id, ob, _, _, h => h
  | m + 1, [], id, ob, _, _, h => h
  | m + 1, (i, o) :: os, id, ob, hk, hid, h => by
    simp only [List.take_succ_cons, List.all_cons, Bool.and_eq_true, decide_eq_true_eq] at hk
    simp only [getO]
    rw [if_neg (by omega)]
    exact getO_drop m hk.2 hid h
theorem Weak.drops {st : St} (m n : Nat) {sl' : List AV} {os' : Os} (hos : st.os.drop m = os') (hk : ((st.os.take m).all fun p => decide (n ≤ p.1)) = true) (hn : n ≤ st.nx) (h0 : st.n0 ≤ n)
    (h1 : LeL st.sl sl') (h6 : UndL n sl') (h7 : UndOs n os') : Weak st ⟨sl', os', n, st.n0⟩ :=
  Weak.all h1 (fun id ob hg => by
    subst hos
    exact getO_drop m hk (h7.get id ob hg).1 hg) hn rfl h0 h6 h7
theorem SimC.tokSlot {A0 : Nat → Nat → Prop} {E0 : Env} {os0 : Os} {w0 : World} {E : Env} {st : St} {a : Act} {w : World} (h : SimC A0 E0 os0 w0 E st a w) (i e sz : Nat) (hi : st.sl[i]? = some (.v (.slice none 0 0))) :
    ∃ E', SimC A0 E0 os0 w0 E' ⟨st.sl.set i (.osl st.nx sz []), (st.nx, .tok e sz 0) :: st.os, st.nx + 1, st.n0⟩ a w := by
  obtain ⟨E', h1, hv, hc, hcur⟩ := h.tok e sz
  refine ⟨E', h1.resl (sl' := st.sl.set i (.osl st.nx sz [])) (by simp) fun j c' u hc' hr => ?_⟩
  rw [List.getElem?_set] at hc'
  split at hc'
  · rename_i e1
    subst e1
    split at hc'
    · cases hc'
      exact NilLe.rp (.inr ⟨rfl, rfl⟩) hv hc hcur (hr _ hi)
    · cases hc'
  · exact hr _ hc'
theorem Weak.tokSlot {st : St} (i e sz : Nat) (hi : st.sl[i]? = some (.v (.slice none 0 0))) : Weak st ⟨st.sl.set i (.osl st.nx sz []), (st.nx, .tok e sz 0) :: st.os, st.nx + 1, st.n0⟩ := fun _ _ _ _ _ _ _ hs => hs.tokSlot i e sz hi
def Clean (R : AV) (os1 : Os) (n : Nat) (r : AV) (os' : Os) (nx' : Nat) : Prop := Le r R ∧ (∃ m, os'.drop m = os1 ∧ ((os'.take m).all fun p => decide (n ≤ p.1)) = true) ∧ n ≤ nx'
theorem ACalls.cleanN {P : Program} {f : Nat} {args : List AV} {os : Os} {nx n : Nat} {C : AV → Os → Prop} (hn0 : nx ≤ n) (h : ACalls P f args os nx fun r os' nx' => ∃ R os1, C R os1 ∧ Und n R ∧ UndOs n os1 ∧ Clean R os1 n r os' nx') :
    ACalls P f args os nx fun r os' nx' => C r os' ∧ nx' = n := by
  refine ⟨h.1, fun A0 E w vs hok hnx hr => (h.2 A0 E w vs hok hnx hr).mono ?_⟩
  rintro e w' ⟨r, v, os', nx', E', rfl, ⟨R, os1, hC, hu, huo, hle, ⟨m, rfl, hk⟩, hn⟩, hrv, hok1, hnx1, hext, hstp, hsub⟩
  have hget : ∀ id ob, getO (os'.drop m) id = some ob → getO os' id = some ob := fun id ob hg => getO_drop m hk (huo.get id ob hg).1 hg
  have hblk : ∀ id (ob : Ob), ob.blk (E'.cut n) id = ob.blk E' id := fun id ob => by cases ob <;> rfl
  have hav : ∀ b o, Av (E'.cut n) (os'.drop m) b o → Av E' os' b o := by
    rintro b o ⟨id, ob, hg, hb, ha⟩
    exact ⟨id, ob, hget id ob hg, by rw [← hblk]; exact hb, ha⟩
  have hAX : ∀ b o, AvX A0 (E'.cut n) (os'.drop m) b o → AvX A0 E' os' b o := fun b o ha => ha.imp (fun h => h) (hav b o)
  refine ⟨R, v, os'.drop m, n, E'.cut n, rfl, ⟨hC, rfl⟩, (hu E' _ w' v (hle _ _ _ _ hrv)).mono hAX, ?_, fun id => ?_, ?_, hstp, fun b o ha => hsub b o (hav b o ha)⟩
  · refine ⟨fun id ob hg => ?_, fun i j oi oj b hi hj hbi hbj => ?_, fun id ob b hg hb => ?_, hok1.bnd, hok1.gl.mono hAX⟩
    · obtain ⟨h3, h4⟩ := huo.get id ob hg
      obtain ⟨h5, h6⟩ := hok1.ok id ob (hget id ob hg)
      refine ⟨⟨h5, h3⟩, Ob.ok_cut ?_ h4⟩
      exact Ob.ok_step h6 h5 (.refl E') (.refl _ w') (fun b o ha => .inl (hAX b o ha)) rfl (fun _ _ => rfl)
    · exact hok1.inj i j oi oj b (hget _ _ hi) (hget _ _ hj) (by rw [← hblk]; exact hbi) (by rw [← hblk]; exact hbj)
    · exact hok1.out id ob b (hget _ _ hg) (by rw [← hblk]; exact hb)
  · have := hnx1 id
    simp only [Env.cut, this]
    omega
  · exact ⟨hext.hb, fun id hv => ⟨hext.valid id hv, Nat.lt_of_lt_of_le ((hnx id).1 hv) hn0⟩, hext.blk, hext.cnt, hext.cur⟩
theorem ACalls.clean {P : Program} {f : Nat} {args : List AV} {os : Os} {nx : Nat} {C : AV → Os → Prop} (h : ACalls P f args os nx fun r os' nx' => ∃ R os1, C R os1 ∧ Und nx R ∧ UndOs nx os1 ∧ Clean R os1 nx r os' nx') :
    ACalls P f args os nx fun r os' nx' => C r os' ∧ nx' = nx := ACalls.cleanN (Nat.le_refl nx) h
def noGotoQ (Q : Exit → St → Prop) : Exit → St → Prop
  | .goto _, _ => False
  | e, st => Q e st
theorem SimC.rowNil {A0 : Nat → Nat → Prop} {E0 : Env} {os0 : Os} {w0 : World} {E : Env} {st : St} {a : Act} {w : World} (h : SimC A0 E0 os0 w0 E st a w) (e sz : Nat) :
    ∃ E', SimC A0 E0 os0 w0 E' { st with os := (st.nx, .row e sz []) :: st.os, nx := st.nx + 1 } a w ∧ E'.valid st.nx ∧ E'.cnt st.nx = 0 ∧ E'.cur st.nx = .slice none 0 0 :=
  ⟨_, h.add (.refl _ w) 0 (.slice none 0 0) 0 (.row e sz []) (fun b hb => by simp [Ob.blk, Env.add, Value.ownBlock] at hb) ⟨by simp [Env.add], fun x hx => (by cases hx), .inl ⟨by simp [Env.add], rfl⟩⟩, .inr rfl, by simp [Env.add], by simp [Env.add]⟩
theorem ownNil {E : Env} {A : Nat → Nat → Prop} {w : World} {id : Nat} {u : Value} (hv : E.valid id) (hcnt : E.cnt id = 0) (hcur : E.cur id = .slice none 0 0) (hr : Rp E A w (.v (.slice none 0 0)) u) : Rp E A w (.own id 0) u := by
  cases hr
  exact .own hv (by omega) (fun _ => hcur.symm) rfl
theorem Weak.rowCell {st : St} (e sz i : Nat) {id t : Nat} {cs : List AV} (hg : getO st.os id = some (.cells t cs)) (hi : cs[i]? = some (.v (.slice none 0 0))) :
    Weak st ⟨st.sl, putO ((st.nx, .row e sz []) :: st.os) id (.cells t (cs.set i (.own st.nx 0))), st.nx + 1, st.n0⟩ := by
  intro A0 E0 os0 w0 E a w hs
  obtain ⟨E', h1, hv, hc, hcur⟩ := hs.rowNil e sz
  have hid : id ≠ st.nx := fun e => by have := (hs.nx id).1 (hs.os.ok id _ hg).1; omega
  exact ⟨E', h1.recell (id := id) (t := t) (cs := cs) (by simp only [getO, if_neg (Ne.symm hid)]; exact hg) (by simp) fun j c' u hc' hr => by
    rw [List.getElem?_set] at hc'
    split at hc'
    · rename_i hj
      subst hj
      split at hc'
      · cases hc'; exact ownNil hv hc hcur (hr _ hi)
      · cases hc'
    · exact hr _ hc'⟩
theorem RenV.own {ρ : Nat → Nat} {i j n : Nat} (h : ρ i = j) : RenV ρ (.own i n) (.own j n) := fun E A w u => by
  subst h
  constructor
  · intro hr; cases hr with | own hv hl hc h1 => exact .own hv hl hc h1
  · intro hr; cases hr with | own hv hl hc h1 => exact .own (E := E.pull ρ) hv hl hc h1
theorem RenO.row {ρ : Nat → Nat} {i t sz : Nat} {xs : List (List AV)} (hd : ∀ x ∈ xs, DataL x) : RenO ρ i (.row t sz xs) (.row t sz xs) := by
  have hdf : ∀ c ∈ xs.flatten, Data c := fun c hc => by
    obtain ⟨x, hx, hcx⟩ := List.mem_flatten.1 hc
    exact hd x hx c hcx
  refine ⟨fun E => rfl, rfl, fun E A w => ⟨?_, ?_⟩⟩
  · rintro ⟨h1, h2, h3⟩
    refine ⟨h1, h2, ?_⟩
    rcases h3 with h3 | ⟨b, cap, cur, h3, h4, h5, h6, h7, h8⟩
    · exact .inl h3
    · exact .inr ⟨b, cap, cur, h3, h4, h5, h6, h7, fun j c u hc hu => hdf c (List.mem_of_getElem? hc) _ _ _ _ _ (h8 j c u hc hu)⟩
  · rintro ⟨h1, h2, h3⟩
    refine ⟨h1, h2, ?_⟩
    rcases h3 with h3 | ⟨b, cap, cur, h3, h4, h5, h6, h7, h8⟩
    · exact .inl h3
    · exact .inr ⟨b, cap, cur, h3, h4, h5, h6, h7, fun j c u hc hu => hdf c (List.mem_of_getElem? hc) _ _ _ _ _ (h8 j c u hc hu)⟩
theorem AWp_joinE {ro : Option Nat} {P : Program} {Q : Exit → St → Prop} {st : St} {x y : Code} {σ : Type} (mask : List Bool) (upd : σ → List (Nat × AV)) (osu : σ → List (Nat × Ob)) (C : σ → Prop)
    (h1 : AWp ro P x (thenQ (fun st' => ∃ s, C s ∧ Weak st' ⟨setsL (maskL mask st.sl) (upd s), putsO st.os (osu s), st.nx, st.n0⟩) Q) st)
    (h2 : ∀ s, C s → AWp ro P y Q ⟨setsL (maskL mask st.sl) (upd s), putsO st.os (osu s), st.nx, st.n0⟩) : AWp ro P (.seq x y) Q st :=
  AWp_seq (h1.mono fun e st' q => by
    cases e with
    | normal =>
      obtain ⟨s, hC, hw⟩ := q
      exact AWp_weak hw (h2 s hC)
    | _ => exact q)
end Go.Proofs.YtmepcmphcghbeaaDoor
