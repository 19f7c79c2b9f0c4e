/- Texts of the abstract walk, of the contracts and of the plain laws, packed (part 43 of 47): UniL4. Conditions: none. -/
import Derived.Test.YtjjjckjebkmnjaaPk42
namespace Go.Proofs.Ytjjjckjebkmnjaa
open Go Go.RowKit
theorem One.congr {up up' : List Nat} (h : ∀ i q, Rt up' i q ↔ Rt up i q) {i k : Nat} : One up' i k ↔ One up i k := by
  unfold One
  simp only [h]
theorem WInv.fsame {E : List (Nat × Nat)} {S : CS} {F' : FS} (h : WInv E S []) (k : FSame S.F F') : WInv E { S with F := F' } [] := by
  have hc := h.c
  refine ⟨⟨hc.g, k.inv, k.len.trans hc.fl, hc.wl, hc.wr, hc.pl, hc.pr⟩, by simp, fun i j hij => h.sub i j ((One.congr k.rt).1 hij), by simp, fun e he => Qv.one ((One.congr k.rt).2 (h.ex e he).nil), ?_, ?_⟩
  · intro r i x c ps h1 h2 h3 h4
    exact h.neg r i x c ps h1 h2 ((k.rt _ _).1 h3) h4
  · intro r x h1 h2 h3
    obtain ⟨h4, c, ps, h5, h6, h7⟩ := h.pos r x ((k.rt _ _).1 h1) h2 h3
    refine ⟨(k.rt _ _).2 h4, c, ps, h5, h6, fun i d qs h8 h9 h10 => ?_⟩
    obtain ⟨h11, h12, h13⟩ := h7 i d qs ((k.rt _ _).1 h8) h9 h10
    exact ⟨h11, h12, fun j p q hp hq => Qv.one ((One.congr k.rt).2 (h13 j p q hp hq).nil)⟩
theorem Good.fsame {E : List (Nat × Nat)} {m : List RNode} {S : CS} {F' : FS} (h : Good E m S) (k : FSame S.F F') : Good E m { S with F := F' } := ⟨h.w.fsame k, h.rel⟩
theorem Holds.fsame {l : List (Ty × Ty)} {S S1 : CS} (h : Holds l S) (k : FSame S.F S1.F) (e : S1 = { S with F := S1.F }) : Holds l S1 := by
  rw [e]
  exact ⟨h.1, h.2.fsame k⟩
def KindIs (sh : Sh) (E : List (Nat × Nat)) (i : Nat) (k : Int) : Prop :=
  (k = 0 ∧ ∀ (j : Nat) (c : Int) (qs : List Int), Cl sh E i j → sh j = some (c, qs) → c = 1) ∨ (k ≠ 1 ∧ ∃ (j : Nat) (qs : List Int), Cl sh E i j ∧ sh j = some (k, qs))
theorem One.rt {up : List Nat} {i k r : Nat} (h : One up i k) (hr : Rt up i r) : Rt up k r := by
  rcases h with rfl | ⟨q, h1, h2⟩
  · exact hr
  · cases Rt.det hr h1; exact h2
theorem Good.kind {E : List (Nat × Nat)} {m : List RNode} {S : CS} (h : Good E m S) {i r : Nat} {x k : Int} (hr : Rt S.F.up i r) (hx : S.W[r]? = some x)
    (hk : (x < 0 ∧ k = 0) ∨ (0 ≤ x ∧ ∃ g, S.G.N[x.toNat]? = some g ∧ k = g.k)) : KindIs (shR m) E i k := by
  have hsh := h.rel.sh
  rcases hk with ⟨h1, h2⟩ | ⟨h1, g, hg, h2⟩
  · refine .inl ⟨h2, fun j c qs hc hs => ?_⟩
    rw [← hsh] at hc hs
    exact h.w.neg r j x c qs hx h1 (((h.w.iff i j).2 hc).rt hr) hs
  · obtain ⟨h3, c, ps, h4, h5, _⟩ := h.w.pos r x (.base hr.root) hx h1
    have h6 := shG_of hg
    rw [h4] at h6
    have e : c = g.k := by cases h6; rfl
    refine .inr ⟨by rw [h2, ← e]; exact h5, x.toNat, ps, ?_, ?_⟩
    · rw [← hsh]; exact h.w.sub _ _ (.inr ⟨r, hr, h3⟩)
    · rw [← hsh, h4, h2, e]
theorem KindIs.of_node {sh : Sh} {E : List (Nat × Nat)} {i j : Nat} {k c : Int} {qs : List Int} (h : KindIs sh E i k) (hn : ¬ Clash sh E) (hj : Cl sh E i j) (hs : sh j = some (c, qs)) (hc : c ≠ 1) : k = c := by
  rcases h with ⟨_, h⟩ | ⟨hk, a, ps, ha, hsa⟩
  · exact absurd (h j c qs hj hs) hc
  · rcases Decidable.em (k = c) with e | e
    · exact e
    · exact absurd ⟨a, j, ha.symm.trans hj, k, c, ps, qs, hsa, hs, hk, hc, .inl e⟩ hn
def clsOk (m : List RNode) (E : List (Nat × Nat)) (cls : Nat → Nat) : Bool :=
  (E.all fun e => cls e.1 == cls e.2) && (List.range m.length).all fun i => (List.range m.length).all fun k => cls i != cls k || (match m[i]?, m[k]? with
    | some x, some y => decide (x.t.k = 1) || decide (y.t.k = 1) || (decide (x.t.k = y.t.k) && decide (x.parts.length = y.parts.length) && (x.parts.zip y.parts).all fun p => cls p.1.toNat == cls p.2.toNat)
    | _, _ => true)
theorem clsOk_at {m : List RNode} {E : List (Nat × Nat)} {cls : Nat → Nat} (h : clsOk m E cls = true) {i k : Nat} {x y : RNode} (hx : m[i]? = some x) (hy : m[k]? = some y) (hc : cls i = cls k) (h1 : x.t.k ≠ 1) (h2 : y.t.k ≠ 1) :
    x.t.k = y.t.k ∧ x.parts.length = y.parts.length ∧ ∀ p ∈ x.parts.zip y.parts, cls p.1.toNat = cls p.2.toNat := by
  simp only [clsOk, Bool.and_eq_true, List.all_eq_true, List.mem_range] at h
  have h3 := h.2 i (List.getElem?_eq_some_iff.1 hx).1 k (List.getElem?_eq_some_iff.1 hy).1
  rw [hx, hy] at h3
  simp only [hc, bne_self_eq_false, Bool.false_or, Bool.or_eq_true, decide_eq_true_eq, Bool.and_eq_true, List.all_eq_true, beq_iff_eq] at h3
  rcases h3 with (h3 | h3) | ⟨⟨h3, h4⟩, h5⟩
  · exact absurd h3 h1
  · exact absurd h3 h2
  · exact ⟨h3, h4, h5⟩
theorem clsOk_closed {m : List RNode} {E : List (Nat × Nat)} {cls : Nat → Nat} (h : clsOk m E cls = true) : Closed (shR m) E (fun i k => cls i = cls k) := by
  refine ⟨fun e he => ?_, fun _ => rfl, fun _ _ h => h.symm, fun _ _ _ h k => h.trans k, fun i k j c p q ps qs hc hi hk h1 _ hp hq => ?_⟩
  · simp only [clsOk, Bool.and_eq_true, List.all_eq_true, beq_iff_eq] at h
    exact h.1 e he
  · obtain ⟨x, hx, rfl, rfl⟩ := shR_at hi
    obtain ⟨y, hy, hyk, rfl⟩ := shR_at hk
    exact (clsOk_at h hx hy hc h1 (by rw [hyk]; exact h1)).2.2 _ (zip_at hp hq)
theorem clsOk_noClash {m : List RNode} {E : List (Nat × Nat)} {cls : Nat → Nat} (h : clsOk m E cls = true) : ¬ Clash (shR m) E := by
  rintro ⟨i, k, hc, c, d, ps, qs, hi, hk, h1, h2, h3⟩
  have hcc := Cl.least (clsOk_closed h) hc
  obtain ⟨x, hx, rfl, rfl⟩ := shR_at hi
  obtain ⟨y, hy, rfl, rfl⟩ := shR_at hk
  obtain ⟨h4, h5, _⟩ := clsOk_at h hx hy hcc h1 h2
  rcases h3 with h3 | h3
  · exact h3 h4
  · exact h3 h5
def aw1 : Ty × Ty := (.mk 1 0 [], arrowL [.mk 2 0 [], .mk 1 1 []])
def aw2 : Ty × Ty := (.mk 1 0 [], arrowL [.mk 1 2 [], .mk 3 0 []])
def awM : List RNode := [⟨.mk 1 0 [], []⟩, ⟨.mk 2 0 [], []⟩, ⟨.mk 1 1 [], []⟩, ⟨.mk 4 0 [.mk 2 0 [], .mk 1 1 []], [1, 2]⟩, ⟨.mk 1 2 [], []⟩, ⟨.mk 3 0 [], []⟩, ⟨.mk 4 0 [.mk 1 2 [], .mk 3 0 []], [4, 5]⟩]
theorem aw_eqF : eqF [aw1, aw2] = (awM, [(0, 3), (0, 6)]) := by
  simp [eqF, eqStep, aw1, aw2, arrowL, Ty.radd, Ty.raddL, idxI, RNode.isVar, Ty.k, Ty.n, awM, List.findIdx_cons, List.findIdx_nil]
theorem aw_eqF1 : eqF [aw1] = (awM.take 4, [(0, 3)]) := by
  simp [eqF, eqStep, aw1, arrowL, Ty.radd, Ty.raddL, idxI, RNode.isVar, Ty.k, Ty.n, awM, List.findIdx_cons, List.findIdx_nil]
def awC (i : Nat) : Nat := if i = 3 ∨ i = 6 then 0 else if i = 4 then 1 else if i = 5 then 2 else i
theorem aw_ok : clsOk awM [(0, 3), (0, 6)] awC = true := by rfl
theorem aw_ok1 : clsOk (awM.take 4) [(0, 3)] awC = true := by rfl
theorem aw_no : ¬ Clashes [aw1, aw2] := by unfold Clashes; rw [aw_eqF]; exact clsOk_noClash aw_ok
theorem aw_no1 : ¬ Clashes [aw1] := by unfold Clashes; rw [aw_eqF1]; exact clsOk_noClash aw_ok1
theorem aw_36 : Cl (shR awM) [(0, 3), (0, 6)] 3 6 := .trans (k := 0) (.symm (.base (by simp))) (.base (by simp))
theorem aw_14 : Cl (shR awM) [(0, 3), (0, 6)] 1 4 := Cl.part (j := 0) (p := 1) (q := 4) (c := 4) (ps := [1, 2]) (qs := [4, 5]) aw_36 rfl rfl (by decide) rfl rfl rfl
theorem aw_25 : Cl (shR awM) [(0, 3), (0, 6)] 2 5 := Cl.part (j := 1) (p := 2) (q := 5) (c := 4) (ps := [1, 2]) (qs := [4, 5]) aw_36 rfl rfl (by decide) rfl rfl rfl
theorem aw_12 : ¬ Cl (shR awM) [(0, 3), (0, 6)] 2 4 := fun h => absurd (Cl.least (clsOk_closed aw_ok) h) (by decide)
theorem Holds.aw {S : CS} (h : Holds [aw1, aw2] S) : S.clash = false ∧ Good [(0, 3), (0, 6)] awM S := by
  obtain ⟨h1, h2⟩ := h
  rw [aw_eqF] at h2
  exact ⟨h1, h2⟩
theorem Good.var {E : List (Nat × Nat)} {m : List RNode} {S : CS} (h : Good E m S) {n k : Int} (hi : idxI (RNode.isVar n) m = k) (h0 : 0 ≤ k) : vfind S.G.V n = some k := by
  rcases h.rel.vars n with ⟨_, h1⟩ | ⟨j, h1, h2, _⟩
  · omega
  · rw [h1, ← hi, h2]
theorem aw_v1 : idxI (RNode.isVar 1) awM = 2 := by simp [idxI, RNode.isVar, Ty.k, Ty.n, awM, List.findIdx_cons, List.findIdx_nil]
theorem aw_v2 : idxI (RNode.isVar 2) awM = 4 := by simp [idxI, RNode.isVar, Ty.k, Ty.n, awM, List.findIdx_cons, List.findIdx_nil]
theorem Good.vin {E : List (Nat × Nat)} {m : List RNode} {S : CS} (h : Good E m S) : ∀ n k, vfind S.G.V n = some k → 0 ≤ k ∧ k < (S.F.up.length : Int) := fun n k hv => by
  have := h.w.c.g.vars _ (vfind_mem hv)
  have h1 := h.w.c.fl
  have h2 := h.w.c.wl
  simp only at this
  omega
theorem aw_step1 {s : CS × Int} (hs : EqR CS0 (nat2 (eqF []).2) (eqF []).1 (.mk 1 0 []) (arrowL [.mk 2 0 [], .mk 1 1 []]) s) : s.2 = 0 ∧ Holds [aw1] s.1 ∧ s.1.G.N.length ≤ 10 := by
  rcases Holds.none.step (e := aw1) hs with ⟨h, _⟩ | ⟨_, h, _⟩ | ⟨_, _, h, h2, h3⟩
  · exact absurd h (by decide)
  · exact absurd h aw_no1
  · exact ⟨h, h2, Nat.le_trans h3 (by decide)⟩
theorem aw_step2 {S : CS} {s : CS × Int} (h : Holds [aw1] S) (hs : EqR S (nat2 (eqF [aw1]).2) (eqF [aw1]).1 (.mk 1 0 []) (arrowL [.mk 1 2 [], .mk 3 0 []]) s) : s.2 = 0 ∧ Holds [aw1, aw2] s.1 := by
  rcases h.step (e := aw2) hs with ⟨h, _⟩ | ⟨_, h, _⟩ | ⟨_, _, h, h2, h3⟩
  · exact absurd h (by decide)
  · exact absurd h aw_no
  · exact ⟨h, h2⟩
theorem aw_kind {S : CS} {s : CS × Int} {n i : Int} (h : Holds [aw1, aw2] S) (hi : idxI (RNode.isVar n) awM = i) (h0 : 0 ≤ i) {j : Nat} {c : Int} {qs : List Int} (hj : Cl (shR awM) [(0, 3), (0, 6)] i.toNat j) (hsj : shR awM j = some (c, qs)) (hc1 : c ≠ 1)
    (hs : FSame S.F s.1.F ∧ s.1 = { S with F := s.1.F } ∧ (((S.clash = true ∨ vfind S.G.V n = none) ∧ s.2 = 0) ∨ (S.clash = false ∧ ∃ (i : Int) (r : Nat) (x : Int), vfind S.G.V n = some i ∧ Rt S.F.up i.toNat r ∧ S.W[r]? = some x ∧ ((x < 0 ∧ s.2 = 0) ∨ (0 ≤ x ∧ ∃ g, S.G.N[x.toNat]? = some g ∧ s.2 = g.k))))) :
    s.2 = c ∧ Holds [aw1, aw2] s.1 := by
  obtain ⟨hc, hG⟩ := h.aw
  have hv := hG.var hi h0
  refine ⟨?_, h.fsame hs.1 hs.2.1⟩
  rcases hs.2.2 with ⟨h1 | h1, _⟩ | ⟨_, i', r, x, h1, h2, h3, h4⟩
  · rw [hc] at h1; cases h1
  · rw [hv] at h1; cases h1
  · rw [hv] at h1; cases h1
    exact (hG.kind h2 h3 h4).of_node (clsOk_noClash aw_ok) hj hsj hc1
theorem aw_same {S : CS} {s : CS × Bool} (h : Holds [aw1, aw2] S)
    (hs : FSame S.F s.1.F ∧ s.1 = { S with F := s.1.F } ∧ (s.2 = true ↔ S.clash = false ∧ ∃ i k, vfind S.G.V 1 = some i ∧ vfind S.G.V 2 = some k ∧ One S.F.up i.toNat k.toNat)) : s.2 = false := by
  obtain ⟨hc, hG⟩ := h.aw
  cases hb : s.2 with
  | false => rfl
  | true =>
    obtain ⟨_, i, k, h1, h2, h3⟩ := hs.2.2.1 hb
    rw [hG.var aw_v1 (by omega)] at h1
    rw [hG.var aw_v2 (by omega)] at h2
    cases h1; cases h2
    have := (hG.w.iff 2 4).1 h3
    rw [hG.rel.sh] at this
    exact absurd this aw_12
end Go.Proofs.Ytjjjckjebkmnjaa
