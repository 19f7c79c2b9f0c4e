/- Texts of the abstract walk, of the contracts and of the plain laws, packed (part 27 of 48): Ab24. Conditions: none. -/
import Derived.Test.YtmepcmphcghbeaaDoorPk26
namespace Go.Proofs.YtmepcmphcghbeaaDoor
open Go Go.RowKit
set_option linter.unnecessarySimpa false
def LeF1 (os os' : Os) (x y : AV) : Prop := Le x y ∨ ∃ id t cs, x = .ptr id 0 ∧ y = .eptr cs ∧ getO os id = some (.cells t cs) ∧ getO os' id = none
def LeF (os os' : Os) : List AV → List AV → Prop
  | [], [] => True
  | x :: xs, y :: ys => LeF1 os os' x y ∧ LeF os os' xs ys
  | _, _ => False
theorem LeF.length {os os' : Os} : ∀ {l m : List AV}, LeF os os' l m → l.length = m.length
  | [], [], _ => rfl
  | _ :: _, _ :: _, h => by simp [h.2.length]
theorem LeF.get {os os' : Os} : ∀ {l m : List AV}, LeF os os' l m → ∀ (i : Nat) (y : AV), m[i]? = some y → ∃ x, l[i]? = some x ∧ LeF1 os os' x y
  | [], [], _, i, y, h => by simp at h
  | x :: _, z :: _, h, 0, y, hy => by simp at hy; subst hy; exact ⟨x, rfl, h.1⟩
  | _ :: _, _ :: _, h, i + 1, y, hy => by simpa using h.2.get i y (by simpa using hy)
theorem Weak.freeze {st : St} {sl' : List AV} {os' : Os} {n : Nat} (h1 : LeF st.os os' st.sl sl') (ho : OsSub st.os os') (hn : n ≤ st.nx) (h0 : st.n0 ≤ n) (h6 : UndL n sl') (h7 : UndOs n os') : Weak st ⟨sl', os', n, st.n0⟩ := by
  refine Weak.trans (t := ⟨sl', os', st.nx, st.n0⟩) (fun A0 E0 os0 w0 E a w hs => ⟨E, ?_⟩) (Weak.all (st := ⟨sl', os', st.nx, st.n0⟩) (st' := ⟨sl', os', n, st.n0⟩) (LeL.refl _) (fun _ _ h => h) hn rfl h0 h6 h7)
  have hget : ∀ id ob, getO os' id = some ob → getO st.os id = some ob := fun id ob h => ho.get id ob h
  have hav : ∀ b o, Av E os' b o → Av E st.os b o := by
    rintro b o ⟨id, ob, hg, hb, ha⟩
    exact ⟨id, ob, hget _ _ hg, hb, ha⟩
  have hAX : ∀ b o, AvX A0 E os' b o → AvX A0 E st.os b o := fun b o ha => ha.imp (fun h => h) (hav b o)
  refine ⟨by rw [hs.size]; exact h1.length, fun i c u hc hu => ?_, ⟨fun id ob hg => ?_, fun i j oi oj b hi hj hbi hbj => hs.os.inj i j oi oj b (hget _ _ hi) (hget _ _ hj) hbi hbj, fun id ob b hg hb => hs.os.out id ob b (hget _ _ hg) hb, hs.os.bnd, hs.os.gl.mono hAX⟩, hs.nx, hs.defers, hs.hbl, hs.ext, hs.stp, fun b o ha => hs.sub b o (hav b o ha), hs.base⟩
  · obtain ⟨x, hx, hxc⟩ := h1.get i c hc
    have hr := hs.sl i x u hx hu
    rcases hxc with hle | ⟨id, t, cs, rfl, rfl, hg, hno⟩
    · exact hle _ _ _ _ (hr.mono hAX)
    · obtain ⟨hv, cur, hh, hsz, hcc⟩ := hs.os.ok id _ hg
      cases hr with
      | ptr hv' =>
        refine .eptr (fun j => cur.getD j undef) (fun j hj => ⟨?_, ?_⟩) fun j c hj => ?_
        · have hlt : j < cur.size := by omega
          rw [Nat.zero_add, cell_of_row w _ _ cur t (0, 0) hh]
          simp [Array.getD, hlt]
        · rintro (ha | ⟨id', ob', hg', hb', _⟩)
          · exact hs.os.out id _ _ hg rfl _ ha
          · have := hs.os.inj id' id ob' _ _ (hget _ _ hg') hg hb' rfl
            subst this
            rw [hno] at hg'; cases hg'
        · have hlt : j < cur.size := by rw [hsz]; exact (List.getElem?_eq_some_iff.1 hj).1
          have h2 : cur[j]? = some (cur.getD j undef) := by simp [Array.getD, hlt]
          exact (hcc j c _ hj h2).mono hAX
  · obtain ⟨hv, hok⟩ := hs.os.ok id ob (hget _ _ hg)
    exact ⟨hv, Ob.ok_step hok hv (.refl E) (.refl _ w) (fun b o ha => .inl (hAX b o ha)) rfl (fun _ _ => rfl)⟩
end Go.Proofs.YtmepcmphcghbeaaDoor
