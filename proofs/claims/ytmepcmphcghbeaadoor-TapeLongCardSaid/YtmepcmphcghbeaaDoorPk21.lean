/- Texts of the abstract walk, of the contracts and of the plain laws, packed (part 21 of 48): Arg. Conditions: none. -/
import Derived.Test.YtmepcmphcghbeaaDoorPk20
import Derived.ChangeArms
import Derived.ChangeSame
import Derived.ProofKit
namespace Go.Proofs.YtmepcmphcghbeaaDoor
open Go Go.RowKit Go.ChangeShapes Go.WideShapes
set_option linter.unnecessarySimpa false
section
variable {H : Type} {enc : TypeId × Value → H} {P : Program} {w : World} {base : Nat} {spare : Nat → Bool} {held : Bool} {E : Env}
def Rd (enc : TypeId × Value → H) (P : Program) (w : World) (base : Nat) (spare : Nat → Bool) (held : Bool) (E : Env) (fuel : Nat) (t : TypeId) {α : Type} (f : α → List AV) : Prop :=
  ∀ cs x, DataW.trod enc P w base spare held fuel t cs = some x → ∃ a : α, cs.length = (f a).length ∧ ∀ (i : Nat) (c : AV) (u : Value), (f a)[i]? = some c → cs[i]? = some u → Rp E (fun _ _ => False) w c u
theorem rd_slice {fuel t e sz : Nat} {α : Type} {f : α → List AV} (ht : P.underlying t = some (.slice e)) (hsz : P.cellsOf e = sz) (h0 : 0 < sz) (hf : ∀ a, (f a).length = sz) (hel : ∀ n, fuel = n + 1 → Rd enc P w base spare held E n e f) :
    Rd enc P w base spare held E fuel t (fun xs : List α => [.sl sz (xs.map f)]) := fun cs x h => by
  have one : ∀ (xs : List α) (v : Value), Rp E (fun _ _ => False) w (.sl sz (xs.map f)) v → ∃ a : List α, [v].length = ([AV.sl sz (a.map f)]).length ∧ ∀ (i : Nat) (c : AV) (u : Value), ([AV.sl sz (a.map f)])[i]? = some c → [v][i]? = some u → Rp E (fun _ _ => False) w c u := by
    intro xs v hr
    refine ⟨xs, rfl, fun i c u hc hu => ?_⟩
    cases i with
    | zero => simp at hc hu; subst hc; subst hu; exact hr
    | succ i => simp at hc
  rcases DataW.trod_slice ht h with ⟨rfl, _⟩ | ⟨a, len, cap, elems, rest, n, hn, rfl, _, _, hl, hm, hlen, hi, _, _⟩
  · exact one [] _ (.sl0 (by simp [maxLen]))
  · have hE := hel n hn
    have cell : ∀ i, i < len → ∃ (cs : List Value) (y : DataW H × List MemPlace), (∀ j, j < sz → w.cell? ((a.add (i * sz)).add j) = cs[j]?) ∧ cs.length = sz ∧ DataW.trod enc P w base spare held n e cs = some y := by
      intro i hil
      have h1 := hi i hil
      rw [hsz, List.getElem?_eq_getElem (by omega)] at h1
      obtain ⟨cs, h2, h3⟩ := Option.bind_eq_some_iff.1 h1
      unfold World.cells? at h2
      split at h2
      · have h4 : ∀ (l : List Nat) (cs : List Value), l.mapM (fun i_1 => w.cell? ((a.add (i * sz)).add i_1)) = some cs → cs.length = l.length ∧ ∀ (j k : Nat), l[j]? = some k → w.cell? ((a.add (i * sz)).add k) = cs[j]? := by
          intro l
          induction l with
          | nil => intro cs h; simp at h; subst h; simp
          | cons x l ih =>
            intro cs h
            simp only [List.mapM_cons] at h
            obtain ⟨y, hy, h⟩ := Option.bind_eq_some_iff.1 h
            obtain ⟨ys, hys, h⟩ := Option.bind_eq_some_iff.1 h
            simp at h; subst h
            obtain ⟨h5, h6⟩ := ih ys hys
            refine ⟨by simp [h5], fun j k hk => ?_⟩
            cases j with
            | zero => simp at hk; subst hk; simpa using hy
            | succ j => simpa using h6 j k (by simpa using hk)
        obtain ⟨h5, h6⟩ := h4 _ _ h2
        exact ⟨cs, _, fun j hj => h6 j j (by simp [hj]), by simpa using h5, h3⟩
      · cases h2
    have elt : ∀ i, i < len → ∃ x : α, ∀ (j : Nat), j < sz → ∃ u, w.cell? ((a.add (i * sz)).add j) = some u ∧ ∀ c, (f x)[j]? = some c → Rp E (fun _ _ => False) w c u := by
      intro i hil
      obtain ⟨cs, y, h1, h2, h3⟩ := cell i hil
      obtain ⟨x, h4, h5⟩ := hE cs y h3
      refine ⟨x, fun j hj => ⟨cs[j]'(by omega), ?_, fun c hc => h5 j c _ hc (List.getElem?_eq_getElem (by omega))⟩⟩
      rw [h1 j hj]; exact List.getElem?_eq_getElem (by omega)
    rcases Nat.eq_zero_or_pos len with h9 | hpos
    · subst h9
      exact one [] _ (.sl0 hm)
    have hspot : a.spot = none := by
      obtain ⟨x, hx⟩ := elt 0 hpos
      obtain ⟨u, hu, _⟩ := hx 0 h0
      simp only [Nat.zero_mul] at hu
      have e1 : (a.add 0).add 0 = a := by simp [Addr.add]
      rw [e1] at hu
      unfold World.cell? at hu
      split at hu
      · cases hs : a.spot with
        | none => rfl
        | some s => rw [hs] at hu; simp at hu
      · cases hu
    obtain ⟨b, o, sp⟩ := a
    simp only at hspot
    subst hspot
    have elt' : ∀ i, i < len → ∃ x : α, ∀ (j : Nat), j < sz → ∃ u, w.cell? ⟨b, o + (i * sz + j), none⟩ = some u ∧ ∀ c, (f x)[j]? = some c → Rp E (fun _ _ => False) w c u := by
      intro i hil
      obtain ⟨x, hx⟩ := elt i hil
      refine ⟨x, fun j hj => ?_⟩
      obtain ⟨u, hu, hc⟩ := hx j hj
      rw [addr_add, addr_add] at hu
      exact ⟨u, by rw [← Nat.add_assoc]; exact hu, hc⟩
    have list : ∀ k, k ≤ len → ∃ xs : List α, xs.length = k ∧ ∀ i, i < k → ∃ x, xs[i]? = some x ∧ ∀ (j : Nat), j < sz → ∃ u, w.cell? ⟨b, o + (i * sz + j), none⟩ = some u ∧ ∀ c, (f x)[j]? = some c → Rp E (fun _ _ => False) w c u := by
      intro k
      induction k with
      | zero => exact fun _ => ⟨[], rfl, fun i hi => by omega⟩
      | succ k ih =>
        intro hk
        obtain ⟨xs, hxl, hx⟩ := ih (by omega)
        obtain ⟨x, hx'⟩ := elt' k (by omega)
        refine ⟨xs ++ [x], by simp [hxl], fun i hi => ?_⟩
        rcases Nat.lt_or_ge i k with h1 | h1
        · obtain ⟨y, hy, hy'⟩ := hx i h1
          exact ⟨y, by rw [List.getElem?_append_left (by omega)]; exact hy, hy'⟩
        · obtain rfl : i = k := by omega
          exact ⟨x, by rw [List.getElem?_append_right (by omega), hxl]; simp, hx'⟩
    obtain ⟨xs, hxl, hx⟩ := list len (Nat.le_refl _)
    have hmapl : ∀ y ∈ xs.map f, y.length = sz := fun y hy => by
      obtain ⟨z, _, rfl⟩ := List.mem_map.1 hy
      exact hf z
    have hfl := flatten_len sz (xs.map f) hmapl
    have at' : ∀ j, j < (xs.map f).flatten.length → ∃ u, w.cell? ⟨b, o + j, none⟩ = some u ∧ ∀ c, (xs.map f).flatten[j]? = some c → Rp E (fun _ _ => False) w c u := by
      intro j hj
      rw [hfl, List.length_map, hxl] at hj
      have hdiv : j / sz < len := (Nat.div_lt_iff_lt_mul h0).2 hj
      have hmod := Nat.mod_lt j h0
      have hj' : j / sz * sz + j % sz = j := by rw [Nat.mul_comm]; exact Nat.div_add_mod j sz
      obtain ⟨x, hxi, hxc⟩ := hx (j / sz) hdiv
      obtain ⟨u, hu, hc⟩ := hxc (j % sz) hmod
      rw [hj'] at hu
      refine ⟨u, hu, fun c hcc => hc c ?_⟩
      have h7 := flatten_get sz (xs.map f) hmapl (j / sz) (j % sz) hmod
      rw [hj'] at h7
      rw [h7] at hcc
      have h8 : (xs.map f).getD (j / sz) [] = f x := by simp [List.getD_eq_getElem?_getD, hxi]
      rwa [h8] at hcc
    refine one xs _ ?_
    refine .sl (fun j => (w.cell? ⟨b, o + j, none⟩).getD undef) (by simp [hxl]) hl hm hmapl (fun j hj => ?_) (fun j c hc => ?_)
    · obtain ⟨u, hu, _⟩ := at' j hj
      exact ⟨by simp [hu], fun h => h⟩
    · obtain ⟨u, hu, hcc⟩ := at' j (List.getElem?_eq_some_iff.1 hc).1
      simp only [hu, Option.getD_some]
      exact hcc c hc
theorem APure.calls {f : Nat} {args : List AV} {b : Bool} (h : APure P f args (.v (.bool b))) {vs : Array Value} (hs : vs.size = args.length) (hr : ∀ (i : Nat) (c : AV) (u : Value), args[i]? = some c → vs[i]? = some u → Rp Env.none (fun _ _ => False) w c u) (hgl : Gl (fun _ _ => False) w := by exact ⟨fun _ h => (by cases h), fun _ h => (by cases h), fun _ h => (by cases h)⟩) :
    Calls P f vs w fun e w' => e = .returned (.bool b) ∧ Below w.heap.size w w' := by
  have hno : ∀ b o, ¬ AvX (fun _ _ => False) Env.none [] b o := by rintro b o (h | ⟨id, ob, hg, _⟩); exact h; simp [getO] at hg
  refine (h.quiet (A0 := fun _ _ => False) (E := Env.none) (os := []) ⟨fun id ob hg => by simp [getO] at hg, fun i j oi oj b hg => by simp [getO] at hg, fun id ob b hg => by simp [getO] at hg, fun b o ha => ha.elim, hgl.mono fun b o ha => (hno b o ha).elim⟩ ⟨hs, fun i c u hc hu => (hr i c u hc hu).mono fun b o ha => (hno b o ha).elim⟩).mono ?_
  rintro e w' ⟨v, rfl, hb, hrv⟩
  cases hrv
  exact ⟨rfl, hb⟩
end
end Go.Proofs.YtmepcmphcghbeaaDoor
