/- Texts of the abstract walk, of the contracts and of the plain laws, packed (part 45 of 45): Um2 UoL UoL2 Uo1 Uo2 Uorder. Conditions: none. -/
import Derived.Test.YtohdoloalolpfaaPk44
import Derived.Test.YtohdoloalolpfaaRows
import Derived.OpenShut
import Derived.ChangeOld
import Derived.Below
namespace Go.Proofs.Ytohdoloalolpfaa
open Go Go.RowKit
set_option maxRecDepth 100000
set_option maxHeartbeats 1000000
set_option linter.unusedSimpArgs false
set_option linter.unusedVariables false
attribute [local irreducible] aops dRun
theorem vns_len (m : List RNode) : (vns m).length ≤ m.length := by unfold vns; rw [List.length_map]; exact List.length_filter_le _ _
theorem rights_okE (es : List EqT) (h : sumP (es.map EqT.p) ≤ 160) : sumP ((rightsE es).map EqT.p) ≤ 160 ∧ OkE ((rightsE es).map EqT.p) := by
  have key : ∀ l : List EqT, sumP ((rightsE l).map EqT.p) ≤ sumP (l.map EqT.p) := fun l => by
    induction l with
    | nil => simp [rightsE]
    | cons e l ih =>
      unfold rightsE at ih ⊢
      rw [List.filter_cons]
      split
      · simp only [List.map_cons, sumP]; omega
      · simp only [List.map_cons, sumP]; omega
  have h1 := key es
  refine ⟨by omega, fun e he => ?_⟩
  have h2 := sumP_mem he
  obtain ⟨x, hx, rfl⟩ := List.mem_map.1 he
  have h3 := (List.mem_filter.1 hx).2
  simp only [EqT.ok, Bool.and_eq_true] at h3
  exact ⟨h3.1, h3.2, by omega, by omega⟩
end Go.Proofs.Ytohdoloalolpfaa
namespace Go.Proofs.Ytohdoloalolpfaa
open Go Go.RowKit
structure Hom (m : List RNode) (E : List (Nat × Nat)) (m' : List RNode) (E' : List (Nat × Nat)) (f : Nat → Nat) : Prop where
  node : ∀ (i : Nat) (r : RNode), m[i]? = some r → ∃ r', m'[f i]? = some r' ∧ r'.t = r.t ∧ r'.parts.length = r.parts.length ∧ ∀ (j : Nat) (p p' : Int), r.parts[j]? = some p → r'.parts[j]? = some p' → p'.toNat = f p.toNat
  eqs : ∀ e ∈ E, Cl (shR m') E' (f e.1) (f e.2)
theorem Hom.cl {m m' : List RNode} {E E' : List (Nat × Nat)} {f : Nat → Nat} (h : Hom m E m' E' f) {i k : Nat} (hc : Cl (shR m) E i k) : Cl (shR m') E' (f i) (f k) := by
  refine Cl.least (R := fun i k => Cl (shR m') E' (f i) (f k)) ⟨h.eqs, fun _ => .refl _, fun _ _ h => .symm h, fun _ _ _ h k => .trans h k, ?_⟩ hc
  intro i k j c p q ps qs hik hi hk h1 hl hp hq
  obtain ⟨x, hx, rfl, rfl⟩ := shR_at hi
  obtain ⟨y, hy, hyk, rfl⟩ := shR_at hk
  obtain ⟨x', hx', hxt, hxl, hxp⟩ := h.node i x hx
  obtain ⟨y', hy', hyt, hyl, hyp⟩ := h.node k y hy
  have hj := (List.getElem?_eq_some_iff.1 hp).1
  have hp' : x'.parts[j]? = some (x'.parts[j]'(by omega)) := List.getElem?_eq_getElem (by omega)
  have hq' : y'.parts[j]? = some (y'.parts[j]'(by omega)) := List.getElem?_eq_getElem (by omega)
  rw [← hxp j p _ hp hp', ← hyp j q _ hq hq']
  exact Cl.part hik (shR_of hx') (by rw [shR_of hy', hyt, hyk, ← hxt]) (by rw [hxt]; exact h1) (by omega) hp' hq'
theorem Hom.clash {m m' : List RNode} {E E' : List (Nat × Nat)} {f : Nat → Nat} (h : Hom m E m' E' f) (hc : Clash (shR m) E) : Clash (shR m') E' := by
  obtain ⟨i, k, hik, c, d, ps, qs, hi, hk, h1, h2, h3⟩ := hc
  obtain ⟨x, hx, rfl, rfl⟩ := shR_at hi
  obtain ⟨y, hy, rfl, rfl⟩ := shR_at hk
  obtain ⟨x', hx', hxt, hxl, _⟩ := h.node i x hx
  obtain ⟨y', hy', hyt, hyl, _⟩ := h.node k y hy
  refine ⟨f i, f k, h.cl hik, _, _, _, _, shR_of hx', shR_of hy', by rw [hxt]; exact h1, by rw [hyt]; exact h2, ?_⟩
  rw [hxt, hyt, hxl, hyl]
  exact h3
def HomN (m m' : List RNode) (f : Nat → Nat) : Prop :=
  ∀ (i : Nat) (r : RNode), m[i]? = some r → ∃ r', m'[f i]? = some r' ∧ r'.t = r.t ∧ r'.parts.length = r.parts.length ∧ ∀ (j : Nat) (p p' : Int), r.parts[j]? = some p → r'.parts[j]? = some p' → p'.toNat = f p.toNat
def VarU (m : List RNode) : Prop := ∀ (i j : Nat) (r s : RNode), m[i]? = some r → m[j]? = some s → r.t.k = 1 → s.t.k = 1 → r.t.n = s.t.n → i = j
theorem HomN.ext {G : GS} {m m' : List RNode} {f g : Nat → Nat} (hR : Rel G m) (h : HomN m m' f) (e : ∀ i, i < m.length → g i = f i) : HomN m m' g := fun i r hr => by
  have hil := (List.getElem?_eq_some_iff.1 hr).1
  obtain ⟨r', h1, h2, h3, h4⟩ := h i r hr
  refine ⟨r', by rw [e i hil]; exact h1, h2, h3, fun j p p' hp hp' => ?_⟩
  have hm := hR.mok r (List.mem_of_getElem? hr) p (List.mem_of_getElem? hp)
  rw [h4 j p p' hp hp', e _ (by omega)]
theorem HomN.snoc {G : GS} {m m' : List RNode} {f : Nat → Nat} (hR : Rel G m) (h : HomN m m' f) {x : RNode} (hx : ∀ p ∈ x.parts, 0 ≤ p ∧ p < (m.length : Int)) {a : Nat} {y : RNode} (hy : m'[a]? = some y) (ht : y.t = x.t) (hl : y.parts.length = x.parts.length)
    (hp : ∀ (j : Nat) (p p' : Int), x.parts[j]? = some p → y.parts[j]? = some p' → p'.toNat = f p.toNat) : HomN (m ++ [x]) m' (fun i => if i = m.length then a else f i) := by
  have h' := HomN.ext (g := fun i => if i = m.length then a else f i) hR h (fun i hi => by rw [if_neg (by omega)])
  intro i r hr
  rcases Nat.lt_or_ge i m.length with hi | hi
  · rw [List.getElem?_append_left hi] at hr
    exact h' i r hr
  · have hi2 : i = m.length := by
      have := (List.getElem?_eq_some_iff.1 hr).1
      simp only [List.length_append, List.length_cons, List.length_nil] at this
      omega
    subst hi2
    rw [List.getElem?_append_right (Nat.le_refl _), Nat.sub_self] at hr
    simp only [List.getElem?_cons_zero, Option.some.injEq] at hr
    subst hr
    refine ⟨y, by simp only [if_true]; exact hy, ht, hl, fun j p p' h1 h2 => ?_⟩
    have h5 := hx p (List.mem_of_getElem? h1)
    have h6 : ¬ p.toNat = m.length := by omega
    simp only [if_neg h6]
    exact hp j p p' h1 h2
end Go.Proofs.Ytohdoloalolpfaa
namespace Go.Proofs.Ytohdoloalolpfaa
open Go Go.RowKit
theorem idxI_no {g : RNode → Bool} {m : List RNode} (h : idxI g m = -1) {i : Nat} {r : RNode} (hr : m[i]? = some r) : g r = false := by
  cases hg : g r with
  | false => rfl
  | true =>
    have ha : m.any g = true := List.any_eq_true.2 ⟨r, List.mem_of_getElem? hr, hg⟩
    unfold idxI at h
    rw [if_pos ha] at h
    omega
theorem idxI_neg (g : RNode → Bool) (m : List RNode) (h : idxI g m < 0) : idxI g m = -1 := by
  unfold idxI at h ⊢
  split at h
  · omega
  · rename_i hn; rw [if_neg hn]
theorem VarU.empty : VarU [] := by intro i j r s h; simp at h
theorem snoc_at {m : List RNode} {x r : RNode} {i : Nat} (h : (m ++ [x])[i]? = some r) : (i < m.length ∧ m[i]? = some r) ∨ (i = m.length ∧ r = x) := by
  rcases Nat.lt_or_ge i m.length with hi | hi
  · rw [List.getElem?_append_left hi] at h
    exact .inl ⟨hi, h⟩
  · have hi2 : i = m.length := by
      have := (List.getElem?_eq_some_iff.1 h).1
      simp only [List.length_append, List.length_cons, List.length_nil] at this
      omega
    subst hi2
    rw [List.getElem?_append_right (Nat.le_refl _), Nat.sub_self] at h
    simp only [List.getElem?_cons_zero, Option.some.injEq] at h
    exact .inr ⟨rfl, h.symm⟩
theorem VarU.snoc {m : List RNode} (h : VarU m) {x : RNode} (hx : x.t.k = 1 → idxI (RNode.isVar x.t.n) m = -1) : VarU (m ++ [x]) := by
  intro i j r s hr hs h1 h2 h3
  rcases snoc_at hr with ⟨_, hr2⟩ | ⟨hi, rfl⟩ <;> rcases snoc_at hs with ⟨_, hs2⟩ | ⟨hj, rfl⟩
  · exact h i j r s hr2 hs2 h1 h2 h3
  · have := idxI_no (hx h2) hr2
    simp [RNode.isVar, h1, h3] at this
  · have := idxI_no (hx h1) hs2
    simp [RNode.isVar, h2, h3] at this
  · omega
theorem varU_addL : ∀ (ps : List Ty) (_ : ∀ p ∈ ps, ∀ (m : List RNode), VarU m → VarU (p.radd m).1) (m : List RNode) (l : List Int), VarU m → VarU (Ty.raddL ps m l).1
  | [], _, m, l, h => by simpa [Ty.raddL] using h
  | p :: ps, hp, m, l, h => by
    simp only [Ty.raddL]
    exact varU_addL ps (fun q hq => hp q (by simp [hq])) _ _ (hp p (by simp) m h)
theorem varU_add : ∀ (T : Ty), T.right = true → ∀ (m : List RNode), VarU m → VarU (T.radd m).1 := by
  refine Ty.ind fun T ih => ?_
  intro hr m h
  obtain ⟨hok, hps⟩ := T.right_ok hr
  rw [Ty.radd_eq]
  split
  · exact h
  · rename_i hn
    refine (varU_addL T.ps (fun p hp => ih p hp (hps p hp)) m [] h).snoc fun h1 => ?_
    simp only at h1
    have hps0 : T.ps = [] := by rw [T.var_eq hr h1]; rfl
    rw [hps0]
    simp only [Ty.raddL]
    exact idxI_neg _ _ (by omega)
theorem Rel.nodeT {G : GS} {m : List RNode} (h : Rel G m) {i : Nat} {r : RNode} (hr : m[i]? = some r) : r.t.right = true ∧ r.parts.length = r.t.ps.length ∧
    ∀ (j : Nat) (p : Int) (q : Ty), r.parts[j]? = some p → r.t.ps[j]? = some q → (m[p.toNat]?).map RNode.t = some q := by
  have hl := (List.getElem?_eq_some_iff.1 hr).1
  have hGi : G.N[i]? = some (G.N[i]'(by have := h.len; omega)) := List.getElem?_eq_getElem (by have := h.len; omega)
  obtain ⟨_, _, _, _, _, h6, h7, h8⟩ := h.node i _ _ hGi hr
  exact ⟨h6, h7, fun j p q hp hq => (h8 j p q hp hq).2.2⟩
theorem map_t {m : List RNode} {i : Nat} {T : Ty} (h : (m[i]?).map RNode.t = some T) : ∃ r, m[i]? = some r ∧ r.t = T ∧ i < m.length := by
  cases hm : m[i]? with
  | none => rw [hm] at h; cases h
  | some r => rw [hm] at h; exact ⟨r, rfl, Option.some.inj h, (List.getElem?_eq_some_iff.1 hm).1⟩
theorem hom_addL {m' : List RNode} : ∀ (ps : List Ty) (_ : ∀ p ∈ ps, ∀ (G : GS) (m : List RNode) (f : Nat → Nat) (a' : Nat), Rel G m → HomN m m' f → (m'[a']?).map RNode.t = some p → RelStep p G m ∧ ∃ g, HomN (p.radd m).1 m' g ∧ g (p.radd m).2.toNat = a' ∧ ∀ i, i < m.length → g i = f i)
    (G : GS) (m : List RNode) (f : Nat → Nat) (l cs : List Int), Rel G m → HomN m m' f → cs.length = ps.length → (∀ (j : Nat) (a : Int) (q : Ty), cs[j]? = some a → ps[j]? = some q → (m'[a.toNat]?).map RNode.t = some q) →
    ∃ g l', HomN (Ty.raddL ps m l).1 m' g ∧ (Ty.raddL ps m l).2 = l ++ l' ∧ (∀ (j : Nat) (p a : Int), l'[j]? = some p → cs[j]? = some a → g p.toNat = a.toNat) ∧ ∀ i, i < m.length → g i = f i
  | [], _, G, m, f, l, cs, hR, h, hl, _ => ⟨f, [], by simpa [Ty.raddL] using h, by simp [Ty.raddL], by simp, fun _ _ => rfl⟩
  | p :: ps, hp, G, m, f, l, [], _, _, hl, _ => by simp at hl
  | p :: ps, hp, G, m, f, l, a :: cs, hR, h, hl, ha => by
    obtain ⟨s, g1, h1, h2, h3⟩ := hp p (by simp) G m f a.toNat hR h (ha 0 a p rfl rfl)
    obtain ⟨g2, l', h4, h5, h6, h7⟩ := hom_addL ps (fun q hq => hp q (by simp [hq])) (p.gadd G).1 (p.radd m).1 g1 (l ++ [(p.radd m).2]) cs s.rel h1 (by simpa using hl) (fun j a q h8 h9 => ha (j + 1) a q (by simpa using h8) (by simpa using h9))
    have hlen := s.pre.len
    obtain ⟨_, _, _, h10⟩ := map_t s.at'
    simp only [Ty.raddL]
    refine ⟨g2, (p.radd m).2 :: l', h4, by rw [h5]; simp, fun j b c hb hc => ?_, fun i hi => by rw [h7 i (by omega), h3 i hi]⟩
    cases j with
    | zero => simp at hb hc; subst hb; subst hc; rw [h7 _ h10, h2]
    | succ j => exact h6 j b c (by simpa using hb) (by simpa using hc)
theorem hom_add {G' : GS} {m' : List RNode} (hR' : Rel G' m') (hV : VarU m') : ∀ (T : Ty), T.right = true → T.cnt ≤ 400 → ∀ (G : GS) (m : List RNode) (f : Nat → Nat) (a' : Nat), Rel G m → HomN m m' f → (m'[a']?).map RNode.t = some T →
    ∃ g, HomN (T.radd m).1 m' g ∧ g (T.radd m).2.toNat = a' ∧ ∀ i, i < m.length → g i = f i := by
  refine Ty.ind fun T ih => ?_
  intro hr hc G m f a' h hf ha
  obtain ⟨hok, hps⟩ := T.right_ok hr
  obtain ⟨y, hy, hyt, _⟩ := map_t ha
  obtain ⟨_, hyl, hyp⟩ := hR'.nodeT hy
  rw [hyt] at hyl hyp
  by_cases hk : T.k = 1
  · have hT := T.var_eq hr hk
    have hps0 : T.ps = [] := by rw [hT]; rfl
    rcases h.vars T.n with ⟨hv, hi⟩ | ⟨k, hv, hi, h0⟩
    · have em : T.radd m = (m ++ [⟨T, []⟩], (m.length : Int)) := by rw [Ty.radd_eq, if_neg (by omega), hps0]; rfl
      rw [em]
      refine ⟨_, HomN.snoc h hf (x := ⟨T, []⟩) (by simp) hy hyt (by rw [hyl, hps0]; rfl) (by simp), ?_, fun i hi => ?_⟩
      · simp
      · simp only [if_neg (show ¬ i = m.length by omega)]
    · have em : T.radd m = (m, k) := by rw [Ty.radd_eq, hi, if_pos ⟨hk, h0⟩]
      rw [em]
      refine ⟨f, hf, ?_, fun _ _ => rfl⟩
      obtain ⟨r, hr1, hr2⟩ := idxI_at (g := RNode.isVar T.n) (l := m) (by omega)
      rw [hi] at hr1
      simp only [RNode.isVar, Bool.and_eq_true, beq_iff_eq] at hr2
      obtain ⟨r', h1, h2, _⟩ := hf _ r hr1
      exact hV _ _ r' y h1 hy (by rw [h2]; exact hr2.1) (by rw [hyt]; exact hk) (by rw [h2, hyt]; exact hr2.2)
  · have ih' : ∀ p ∈ T.ps, ∀ (G : GS) (m : List RNode) (f : Nat → Nat) (a' : Nat), Rel G m → HomN m m' f → (m'[a']?).map RNode.t = some p → RelStep p G m ∧ ∃ g, HomN (p.radd m).1 m' g ∧ g (p.radd m).2.toNat = a' ∧ ∀ i, i < m.length → g i = f i := fun p hp G m f a' hR hf ha =>
      ⟨rel_add p (hps p hp) (Nat.le_trans (Ty.cnt_le_mem hp) hc) G m hR, ih p hp (hps p hp) (Nat.le_trans (Ty.cnt_le_mem hp) hc) G m f a' hR hf ha⟩
    obtain ⟨g, l', h1, h2, h3, h4⟩ := hom_addL T.ps ih' G m f [] y.parts h hf hyl hyp
    obtain ⟨h5, h6, h7, l2, h8, h9, h10⟩ := rel_addL T.ps (fun p hp => rel_add p (hps p hp) (Nat.le_trans (Ty.cnt_le_mem hp) hc)) G m [] h
    simp only [List.nil_append] at h2 h8
    obtain rfl : l' = l2 := h2.symm.trans h8
    have em : T.radd m = ((Ty.raddL T.ps m []).1 ++ [⟨T, l'⟩], ((Ty.raddL T.ps m []).1.length : Int)) := by rw [Ty.radd_eq, if_neg (by omega), h2]
    rw [em]
    have hlen := h7.len
    refine ⟨_, HomN.snoc h5 h1 (x := ⟨T, l'⟩) (fun p hp => ?_) hy hyt (by rw [hyl, h9]) (fun j p p' hp hp' => (h3 j p p' hp hp').symm), ?_, fun i hi => ?_⟩
    · obtain ⟨j, hj⟩ := List.mem_iff_getElem?.1 hp
      have hjl := (List.getElem?_eq_some_iff.1 hj).1
      simp only at hjl
      obtain ⟨h11, h12⟩ := h10 j p _ hj (List.getElem?_eq_getElem (by omega))
      obtain ⟨_, _, _, h13⟩ := map_t h12
      omega
    · simp
    · simp only [if_neg (show ¬ i = (Ty.raddL T.ps m []).1.length by omega)]
      exact h4 i hi
def Tgt (m' : List RNode) (E' : List (Nat × Nat)) (e : Ty × Ty) : Prop := ∃ a b, (m'[a]?).map RNode.t = some e.1 ∧ (m'[b]?).map RNode.t = some e.2 ∧ Cl (shR m') E' a b
theorem Tgt.swap {m' : List RNode} {E' : List (Nat × Nat)} {e : Ty × Ty} (h : Tgt m' E' e) : Tgt m' E' (e.2, e.1) := by
  obtain ⟨a, b, h1, h2, h3⟩ := h
  exact ⟨b, a, h2, h1, h3.symm⟩
theorem eqF_ind {P : List (Ty × Ty) → Prop} (h0 : P []) (h1 : ∀ d e, OkE (d ++ [e]) → OkE d → P d → P (d ++ [e])) : ∀ l, OkE l → P l := by
  suffices h : ∀ (n : Nat) (l : List (Ty × Ty)), l.length = n → OkE l → P l from fun l => h l.length l rfl
  intro n
  induction n with
  | zero => intro l hl _; rw [List.length_eq_zero_iff.1 hl]; exact h0
  | succ n ih =>
    intro l hl hr
    have hne : l ≠ [] := fun e => by rw [e] at hl; simp at hl
    obtain ⟨d, e, rfl⟩ : ∃ d e, l = d ++ [e] := ⟨l.dropLast, l.getLast hne, (List.dropLast_concat_getLast hne).symm⟩
    have hd : OkE d := fun x hx => hr x (by simp [hx])
    exact h1 d e hr hd (ih d (by simp at hl; omega) hd)
theorem eqF_varU : ∀ l, OkE l → VarU (eqF l).1 := eqF_ind (by simpa [eqF] using VarU.empty) fun d e h _ ih => by
  obtain ⟨h1, h2, h3, h4⟩ := h e (by simp)
  rw [eqF_snoc]
  exact varU_add e.2 h2 _ (varU_add e.1 h1 _ ih)
theorem eqF_tgt : ∀ l, OkE l → ∀ e ∈ l, Tgt (eqF l).1 (nat2 (eqF l).2) e := eqF_ind (fun e he => by cases he) fun d e h hd ih x hx => by
  rcases List.mem_append.1 hx with hx | hx
  · obtain ⟨a, b, h1, h2, h3⟩ := ih x hx
    have hp := eqF_pre1 h
    exact ⟨a, b, hp.get h1, hp.get h2, h3.mono hp.sh (eqF_nat2 d e)⟩
  · simp at hx; subst hx
    obtain ⟨⟨G, hG⟩, _⟩ := eqF_ok d fun x hx => hd x hx
    obtain ⟨h1, h2, h3, h4⟩ := h x (by simp)
    have s1 := rel_add x.1 h1 h3 G _ hG
    have s2 := rel_add x.2 h2 h4 _ _ s1.rel
    refine ⟨(x.1.radd (eqF d).1).2.toNat, (x.2.radd (x.1.radd (eqF d).1).1).2.toNat, ?_, ?_, .base ?_⟩
    rotate_left 2
    · rw [eqF_snoc]
      simp only [eqStep, nat2, List.map_append, List.mem_append, List.map_cons, List.map_nil]
      exact .inr (List.mem_singleton.2 rfl)
    · rw [eqF_snoc]; exact s2.pre.get s1.at'
    · rw [eqF_snoc]; exact s2.at'
theorem hom_eqF {G' : GS} {m' : List RNode} {E' : List (Nat × Nat)} (hR' : Rel G' m') (hV : VarU m') : ∀ l, OkE l → (∀ e ∈ l, Tgt m' E' e) → ∃ f, Hom (eqF l).1 (nat2 (eqF l).2) m' E' f := by
  refine eqF_ind (P := fun l => (∀ e ∈ l, Tgt m' E' e) → ∃ f, Hom (eqF l).1 (nat2 (eqF l).2) m' E' f) ?_ ?_
  · intro _
    exact ⟨fun i => i, fun i r hr => by simp [eqF] at hr, fun e he => by simp [eqF, nat2] at he⟩
  · intro d e h hd ih ht
    obtain ⟨f, hf⟩ := ih fun x hx => ht x (by simp [hx])
    obtain ⟨⟨G, hG⟩, hok⟩ := eqF_ok d fun x hx => hd x hx
    obtain ⟨h1, h2, h3, h4⟩ := h e (by simp)
    have s1 := rel_add e.1 h1 h3 G _ hG
    have s2 := rel_add e.2 h2 h4 _ _ s1.rel
    obtain ⟨a, b, ha, hb, hab⟩ := ht e (by simp)
    obtain ⟨g1, k1, k2, k3⟩ := hom_add hR' hV e.1 h1 h3 G _ f a hG hf.node ha
    obtain ⟨g2, k4, k5, k6⟩ := hom_add hR' hV e.2 h2 h4 _ _ g1 b s1.rel k1 hb
    obtain ⟨_, _, _, l1⟩ := map_t s1.at'
    have l2 := s1.pre.len
    rw [eqF_snoc]
    refine ⟨g2, k4, fun x hx => ?_⟩
    simp only [eqStep, nat2, List.map_append, List.mem_append, List.map_cons, List.map_nil] at hx
    rcases hx with hx | hx
    · obtain ⟨p, hp, rfl⟩ := List.mem_map.1 hx
      have hp2 := hok p hp
      have hq := hf.eqs _ (List.mem_map.2 ⟨p, hp, rfl⟩)
      simp only at hq ⊢
      rw [k6 _ (by omega), k6 _ (by omega), k3 _ (by omega), k3 _ (by omega)]
      exact hq
    · obtain rfl := List.mem_singleton.1 hx
      simp only
      rw [k6 _ l1, k2, k5]
      exact hab
def SubE (l l' : List (Ty × Ty)) : Prop := ∀ e ∈ l, e ∈ l' ∨ (e.2, e.1) ∈ l'
theorem SubE.hom {l l' : List (Ty × Ty)} (h : SubE l l') (ho : OkE l) (ho' : OkE l') : ∃ f, Hom (eqF l).1 (nat2 (eqF l).2) (eqF l').1 (nat2 (eqF l').2) f := by
  obtain ⟨⟨G', hG'⟩, _⟩ := eqF_ok l' fun x hx => ho' x hx
  refine hom_eqF hG' (eqF_varU l' ho') l ho fun e he => ?_
  rcases h e he with h1 | h1
  · exact eqF_tgt l' ho' e h1
  · exact (eqF_tgt l' ho' _ h1).swap
theorem SubE.clashes {l l' : List (Ty × Ty)} (h : SubE l l') (ho : OkE l) (ho' : OkE l') (hc : Clashes l) : Clashes l' := by
  obtain ⟨f, hf⟩ := h.hom ho ho'
  exact hf.clash hc
theorem mem_vns {m : List RNode} {n : Int} : n ∈ vns m ↔ ∃ (i : Nat) (r : RNode), m[i]? = some r ∧ r.t.k = 1 ∧ r.t.n = n := by
  unfold vns
  constructor
  · intro h
    obtain ⟨r, hr, rfl⟩ := List.mem_map.1 h
    obtain ⟨hrm, hk⟩ := List.mem_filter.1 hr
    obtain ⟨i, hi⟩ := List.mem_iff_getElem?.1 hrm
    exact ⟨i, r, hi, by simpa using hk, rfl⟩
  · rintro ⟨i, r, hi, hk, rfl⟩
    exact List.mem_map.2 ⟨r, List.mem_filter.2 ⟨List.mem_of_getElem? hi, by simpa using hk⟩, rfl⟩
theorem vns_nodup : ∀ {m : List RNode}, VarU m → (vns m).Nodup
  | [], _ => by simp [vns]
  | r :: m, h => by
    have hm : VarU m := fun i j r s hr hs h1 h2 h3 => by
      have := h (i + 1) (j + 1) r s (by simpa using hr) (by simpa using hs) h1 h2 h3
      omega
    by_cases hk : r.t.k = 1
    · have e : vns (r :: m) = r.t.n :: vns m := by simp [vns, hk]
      rw [e, List.nodup_cons]
      refine ⟨fun hn => ?_, vns_nodup hm⟩
      obtain ⟨i, s, hs, h1, h2⟩ := mem_vns.1 hn
      have := h 0 (i + 1) r s rfl (by simpa using hs) hk h1 h2.symm
      omega
    · have e : vns (r :: m) = vns m := by simp [vns, hk]
      rw [e]
      exact vns_nodup hm
theorem Hom.vns {m m' : List RNode} {E E' : List (Nat × Nat)} {f : Nat → Nat} (h : Hom m E m' E' f) {n : Int} (hn : n ∈ vns m) : n ∈ Go.Proofs.Ytohdoloalolpfaa.vns m' := by
  obtain ⟨i, r, hr, h1, h2⟩ := mem_vns.1 hn
  obtain ⟨r', h3, h4, _⟩ := h.node i r hr
  exact mem_vns.2 ⟨_, r', h3, by rw [h4]; exact h1, by rw [h4]; exact h2⟩
theorem sortI_perm {a b : List Int} (h : a.Perm b) : sortI a = sortI b := by
  have tr : ∀ a b c : Int, decide (a ≤ b) = true → decide (b ≤ c) = true → decide (a ≤ c) = true := fun a b c h1 h2 => by simp only [decide_eq_true_eq] at *; omega
  have to : ∀ a b : Int, (decide (a ≤ b) || decide (b ≤ a)) = true := fun a b => by simp only [Bool.or_eq_true, decide_eq_true_eq]; omega
  have h1 := List.pairwise_mergeSort (le := fun x y : Int => decide (x ≤ y)) tr to a
  have h2 := List.pairwise_mergeSort (le := fun x y : Int => decide (x ≤ y)) tr to b
  exact List.Perm.eq_of_pairwise (le := fun a b : Int => a ≤ b) (fun a b _ _ h1 h2 => by omega) (h1.imp fun h => by simpa using h) (h2.imp fun h => by simpa using h) ((List.mergeSort_perm _ _).trans (h.trans (List.mergeSort_perm _ _).symm))
theorem SubE.vars {l l' : List (Ty × Ty)} (h : SubE l l') (h' : SubE l' l) (ho : OkE l) (ho' : OkE l') : sortI (vns (eqF l).1) = sortI (vns (eqF l').1) := by
  obtain ⟨f, hf⟩ := h.hom ho ho'
  obtain ⟨f', hf'⟩ := h'.hom ho' ho
  refine sortI_perm (List.perm_iff_count.2 fun a => ?_)
  have n1 := vns_nodup (eqF_varU l ho)
  have n2 := vns_nodup (eqF_varU l' ho')
  by_cases ha : a ∈ Go.Proofs.Ytohdoloalolpfaa.vns (eqF l).1
  · rw [n1.count, n2.count, if_pos ha, if_pos (hf.vns ha)]
  · rw [List.count_eq_zero_of_not_mem ha, List.count_eq_zero_of_not_mem fun hb => ha (hf'.vns hb)]
theorem VarU.idx {m : List RNode} (h : VarU m) {i : Nat} {r : RNode} (hr : m[i]? = some r) (hk : r.t.k = 1) : idxI (RNode.isVar r.t.n) m = i := by
  refine idxI_some (p := r) hr (by simp [RNode.isVar, hk]) fun j q hj hq => ?_
  cases hg : RNode.isVar r.t.n q with
  | false => rfl
  | true =>
    simp only [RNode.isVar, Bool.and_eq_true, beq_iff_eq] at hg
    have := h j i q r hq hr hg.1 hk hg.2
    omega
theorem Holds.var_hom {l l' : List (Ty × Ty)} {S T : CS} {f : Nat → Nat} (hS : Holds l S) (hT : Holds l' T) (ho' : OkE l') (hf : Hom (eqF l).1 (nat2 (eqF l).2) (eqF l').1 (nat2 (eqF l').2) f) {n i : Int} (h : vfind S.G.V n = some i) : vfind T.G.V n = some ((f i.toNat : Nat) : Int) ∧ 0 ≤ i := by
  rcases hS.2.rel.vars n with ⟨h2, _⟩ | ⟨j, h2, h3, h4⟩
  · rw [h2] at h; cases h
  · rw [h2] at h; cases h
    refine ⟨?_, h4⟩
    obtain ⟨r, hr1, hr2⟩ := idxI_at (g := RNode.isVar n) (l := (eqF l).1) (by omega)
    rw [h3] at hr1
    simp only [RNode.isVar, Bool.and_eq_true, beq_iff_eq] at hr2
    obtain ⟨r', h5, h6, _⟩ := hf.node _ r hr1
    have h7 := (eqF_varU l' ho').idx h5 (by rw [h6]; exact hr2.1)
    rw [h6, hr2.2] at h7
    exact hT.2.var h7 (by omega)
theorem Holds.one_hom {l l' : List (Ty × Ty)} {S T : CS} {f : Nat → Nat} (hS : Holds l S) (hT : Holds l' T) (hf : Hom (eqF l).1 (nat2 (eqF l).2) (eqF l').1 (nat2 (eqF l').2) f) {i j : Nat} (h : One S.F.up i j) : One T.F.up (f i) (f j) := by
  have h3 := (hS.2.w.iff i j).1 h
  rw [hS.2.rel.sh] at h3
  refine (hT.2.w.iff _ _).2 ?_
  rw [hT.2.rel.sh]
  exact hf.cl h3
theorem SubE.same1 {l l' : List (Ty × Ty)} {S T : CS} (h : SubE l l') (hS : Holds l S) (hT : Holds l' T) (ho : OkE l) (ho' : OkE l') {a b : Int} {r t : Bool} (h1 : SameR S a b r) (h2 : SameR T a b t) (hr : r = true) : t = true := by
  obtain ⟨f, hf⟩ := h.hom ho ho'
  obtain ⟨_, i, j, h3, h4, h5⟩ := h1.1 hr
  refine h2.2 ⟨hT.1, _, _, (hS.var_hom hT ho' hf h3).1, (hS.var_hom hT ho' hf h4).1, ?_⟩
  simp only [Int.toNat_natCast]
  exact hS.one_hom hT hf h5
theorem SubE.same {l l' : List (Ty × Ty)} {S T : CS} (h : SubE l l') (h' : SubE l' l) (hS : Holds l S) (hT : Holds l' T) (ho : OkE l) (ho' : OkE l') {a b : Int} {r t : Bool} (h1 : SameR S a b r) (h2 : SameR T a b t) : r = t := by
  cases r with
  | true => exact (h.same1 hS hT ho ho' h1 h2 rfl).symm
  | false =>
    cases t with
    | false => rfl
    | true => exact h'.same1 hT hS ho' ho h2 h1 rfl
theorem SubE.kind1 {l l' : List (Ty × Ty)} {S T : CS} (h : SubE l l') (hS : Holds l S) (hT : Holds l' T) (ho : OkE l) (ho' : OkE l') {n a b : Int} (h1 : KindR S n a) (h2 : KindR T n b) (ha : a ≠ 0) : b = a := by
  obtain ⟨f, hf⟩ := h.hom ho ho'
  rcases h1 with ⟨_, h3⟩ | ⟨_, i, r, x, hv, hr, hx, hk1⟩
  · exact absurd h3 ha
  have hv2 := (hS.var_hom hT ho' hf hv).1
  rcases h2 with ⟨h3 | h3, _⟩ | ⟨_, i2, r2, x2, hw, hr2, hx2, hk2⟩
  · rw [hT.1] at h3; cases h3
  · rw [hv2] at h3; cases h3
  rw [hv2] at hw
  cases hw
  have K1 := hS.2.kind hr hx hk1
  have K2 := hT.2.kind hr2 hx2 hk2
  rw [Int.toNat_natCast] at K2
  rcases K1 with ⟨h3, _⟩ | ⟨h3, j, qs, h4, h5⟩
  · exact absurd h3 ha
  · obtain ⟨y, hy, rfl, rfl⟩ := shR_at h5
    obtain ⟨y', hy', ht, _⟩ := hf.node j y hy
    refine K2.of_node hT.noClash (hf.cl h4) (c := y.t.k) (qs := y'.parts) ?_ h3
    rw [shR_of hy', ht]
theorem SubE.kind {l l' : List (Ty × Ty)} {S T : CS} (h : SubE l l') (h' : SubE l' l) (hS : Holds l S) (hT : Holds l' T) (ho : OkE l) (ho' : OkE l') {n a b : Int} (h1 : KindR S n a) (h2 : KindR T n b) : a = b := by
  by_cases ha : a = 0
  · by_cases hb : b = 0
    · rw [ha, hb]
    · exact h'.kind1 hT hS ho' ho h2 h1 hb
  · exact (h.kind1 hS hT ho ho' h1 h2 ha).symm
open Classical in
noncomputable def sameS (S : CS) (a b : Int) : Bool := decide (S.clash = false ∧ ∃ i k, vfind S.G.V a = some i ∧ vfind S.G.V b = some k ∧ One S.F.up i.toNat k.toNat)
theorem sameS_spec (S : CS) (a b : Int) : SameR S a b (sameS S a b) := by
  classical
  unfold SameR sameS
  rw [decide_eq_true_eq]
theorem SameR.eq {S : CS} {a b : Int} {r : Bool} (h : SameR S a b r) : r = sameS S a b := by
  have h1 := h.trans (sameS_spec S a b).symm
  cases r with
  | true => exact (h1.1 rfl).symm
  | false =>
    cases hs : sameS S a b with
    | false => rfl
    | true => exact h1.2 hs
theorem SameR.fsame {S S1 : CS} {a b : Int} {r : Bool} (k : FSame S.F S1.F) (e : S1 = { S with F := S1.F }) (h : SameR S1 a b r) : SameR S a b r := by
  have e1 : S1.G = S.G := by rw [e]
  have e2 : S1.clash = S.clash := by rw [e]
  unfold SameR at h ⊢
  rw [e1, e2] at h
  simp only [One.congr k.rt] at h
  exact h
theorem SubE.sameS {l l' : List (Ty × Ty)} {S T : CS} (h : SubE l l') (h' : SubE l' l) (hS : Holds l S) (hT : Holds l' T) (ho : OkE l) (ho' : OkE l') (a b : Int) : Go.Proofs.Ytohdoloalolpfaa.sameS S a b = Go.Proofs.Ytohdoloalolpfaa.sameS T a b := h.same h' hS hT ho ho' (sameS_spec S a b) (sameS_spec T a b)
theorem CSt.clash_iff {l : List (Ty × Ty)} {S : CS} (h : CSt l S) : S.clash = true ↔ Clashes l := by
  rcases h.st with ⟨h1, _⟩ | ⟨h1, h2⟩
  · rw [h1.1]
    exact ⟨fun h => (by cases h), fun h => absurd h h1.noClash⟩
  · exact ⟨fun _ => h2, fun _ => h1⟩
theorem SubE.clash {l l' : List (Ty × Ty)} {S T : CS} (h : SubE l l') (h' : SubE l' l) (hS : CSt l S) (hT : CSt l' T) : T.clash = S.clash := by
  have h1 := hS.clash_iff
  have h2 := hT.clash_iff
  rw [Bool.eq_iff_iff, h1, h2]
  exact ⟨h'.clashes hT.ok hS.ok, h.clashes hS.ok hT.ok⟩
theorem SubE.list {l l' : List (Ty × Ty)} {S T : CS} (h : SubE l l') (h' : SubE l' l) (hS : CSt l S) (hT : CSt l' T) : (if T.clash = true then [] else sortI (T.G.V.map Prod.fst)) = if S.clash = true then [] else sortI (S.G.V.map Prod.fst) := by
  rw [h.clash h' hS hT]
  split
  · rfl
  · rename_i hc
    have hc2 : S.clash = false := by simpa using hc
    have hc3 : T.clash = false := by rw [h.clash h' hS hT]; exact hc2
    rw [(hS.good hc2).2, (hT.good hc3).2, h.vars h' hS.ok hT.ok]
theorem SubE.nil (l : List (Ty × Ty)) : SubE [] l := fun _ h => by cases h
theorem SubE.snoc {d l : List (Ty × Ty)} (h : SubE d l) {e : Ty × Ty} (he : e ∈ l ∨ (e.2, e.1) ∈ l) : SubE (d ++ [e]) l := fun x hx => by
  rcases List.mem_append.1 hx with hx | hx
  · exact h x hx
  · obtain rfl := List.mem_singleton.1 hx
    exact he
noncomputable def clsF (S : CS) (v : Int) (L : List Int) : List Int := L.filter (sameS S v)
theorem clsF_yes {S : CS} {v : Int} {L : List Int} {s : Nat} {w : Int} (h : L[s]? = some w) (hr : sameS S v w = true) : clsF S v (L.take (s + 1)) = clsF S v (L.take s) ++ [w] := by
  rw [List.take_add_one, h, clsF, List.filter_append]; simp [clsF, hr]
theorem clsF_no {S : CS} {v : Int} {L : List Int} {s : Nat} {w : Int} (h : L[s]? = some w) (hr : sameS S v w = false) : clsF S v (L.take (s + 1)) = clsF S v (L.take s) := by
  rw [List.take_add_one, h, clsF, List.filter_append]; simp [clsF, hr]
theorem clsF_len (S : CS) (v : Int) (L : List Int) : (clsF S v L).length ≤ L.length := List.length_filter_le _ _
theorem SubE.clsF {l l' : List (Ty × Ty)} {S T : CS} (h : SubE l l') (h' : SubE l' l) (hS : Holds l S) (hT : Holds l' T) (ho : OkE l) (ho' : OkE l') (v : Int) (L : List Int) : Go.Proofs.Ytohdoloalolpfaa.clsF S v L = Go.Proofs.Ytohdoloalolpfaa.clsF T v L := by
  unfold Go.Proofs.Ytohdoloalolpfaa.clsF
  congr 1
  funext w
  exact h.sameS h' hS hT ho ho' v w
end Go.Proofs.Ytohdoloalolpfaa
namespace Go.Proofs.Ytohdoloalolpfaa
open Go Go.RowKit
set_option maxRecDepth 100000
set_option maxHeartbeats 1000000
set_option linter.unusedSimpArgs false
set_option linter.unusedVariables false
attribute [local irreducible] aops dRun
theorem CVars2_c (S : CS) (h64 : S.clash = false → ∀ q ∈ S.G.V, is64 q.1) (hl : S.clash = false → S.G.V.length ≤ 1099511627776) : CCalls (σ := Unit) 43 [.ptr 0 0] (S) (fun s => s.1 = S) (fun s => .sl 1 ((if S.clash = true then [] else sortI (S.G.V.map Prod.fst)).map intC)) := by
 refine ACalls.clean (C := fun r os => ∃ s : CS × Unit, (s.1 = S) ∧ r = (fun s : Unit => .sl 1 ((if S.clash = true then [] else sortI (S.G.V.map Prod.fst)).map intC)) s.2 ∧ os = enumO 0 (cObs s.1)) ?_
 refine ACalls_intro Try.func43 (by kernel_rfl) rfl (by rw [Try.ntmps43]; simp) (fun hm => ?_)
 simp only [Try.ntmps43, Try.results43, List.length_cons, List.length_nil, Nat.reduceAdd, Nat.reduceSub, List.replicate_succ, List.replicate_zero, List.cons_append, List.nil_append]
 simp only [cObs, enumO, Nat.reduceAdd]
 refine AWp_seqK fun K1 hK1 => ?_
 refine AWp_region ?_
 simp only [↓bO, bS, bA, bF, ↓reduceIte, Nat.reduceEqDiff, reduceCtorEq, List.length_map, bL, Nat.reduceAdd, Nat.reduceLeDiff, Int.toNat_natCast, Int.natCast_nonneg]
 refine hK1 _ ?_; try clear hK1 K1
 refine AWp_seqK fun K2 hK2 => ?_
 refine AWp_seqK fun K3 hK3 => ?_
 refine AWp_region ?_
 refine aops_chunk 1 fun C4 hC4 => ?_
 simp only [bL, ↓bO, bS, bA, bF, ↓reduceIte, Nat.reduceEqDiff, reduceCtorEq, List.length_map, Nat.reduceAdd, Nat.reduceLeDiff, Int.toNat_natCast, Int.natCast_nonneg]
 refine hC4 _ ?_; clear hC4 C4
 simp only [bL]
 refine aops_chunk 1 fun C5 hC5 => ?_
 simp only [bL, ↓bO, bS, bA, bF, ↓reduceIte, Nat.reduceEqDiff, reduceCtorEq, aCallV, List.length_map, Nat.reduceAdd, Nat.reduceLeDiff, Int.toNat_natCast, Int.natCast_nonneg]
 refine CCalls.at (Err_c S) (.nil) (fun _ => .v _) (i0 := 0) (i1 := 1) (i2 := 2) (i3 := 3) (i4 := 4) (i5 := 5) (i6 := 6) (i7 := 7) (by decide) (by simp) ⟨rfl, rfl, rfl, rfl, rfl, rfl, rfl, rfl, trivial⟩ (fun Z9 u9 hZ9 => ?_)
 try dsimp only at hZ9
 simp only [cObsAt, List.zip_cons_cons, List.zip_nil_left, List.zip_nil_right, putsO, putO, Nat.reduceEqDiff, ↓reduceIte]
 obtain rfl : S = Z9 := hZ9.symm
 try simp only [bS, bA, bF]
 refine hC5 _ ?_; clear hC5 C5
 simp only [bL]
 simp only [↓bO, bS, bA, bF, ↓reduceIte, Nat.reduceEqDiff, reduceCtorEq, aBin, List.length_map, bL, Nat.reduceAdd, Nat.reduceLeDiff, Int.toNat_natCast, Int.natCast_nonneg]
 refine hK3 _ ?_; try clear hK3 K3
 refine AWp_cond rfl (fun hb5 => ?_) (fun hb5 => ?_)
 ·
  have hcs : S.clash = true := by (have h9 := hb5; cases hc : S.clash <;> simp [hc] at h9 ⊢)
  refine AWp_seqK fun K6 hK6 => ?_
  refine AWp_region ?_
  simp only [↓bO, bS, bA, bF, ↓reduceIte, Nat.reduceEqDiff, reduceCtorEq, List.length_map, bL, Nat.reduceAdd, Nat.reduceLeDiff, Int.toNat_natCast, Int.natCast_nonneg]
  refine hK6 _ ?_; try clear hK6 K6
  refine AWp_ret ?_
  try simp only [bF, retQ, aRes, tupOf, bS, bA]
  refine ⟨_, enumO 0 (cObs (S)), ⟨(S, ()), ?_, rfl, rfl⟩, Und.data (dataInts _), cUnd (by omega) _, ?_, ?_, by omega⟩
  · exact rfl
  ·
   rw [if_pos hcs]; exact Le.slNil 1
  · first | (refine ⟨0, rfl, rfl⟩) | (refine ⟨0, by simp only [cObs, enumO, List.drop_zero, List.drop_succ_cons, Nat.reduceAdd], rfl⟩)
 ·
  have hcs : S.clash = false := by (have h9 := hb5; cases hc : S.clash <;> simp [hc] at h9 ⊢)
  refine AWp_skip ?_
  try simp only [bF]
  refine hK2 _ ?_; try clear hK2 K2
  refine AWp_seqK fun K7 hK7 => ?_
  refine AWp_region ?_
  refine aops_chunk 1 fun C8 hC8 => ?_
  simp only [bL, ↓bO, bS, bA, bF, ↓reduceIte, Nat.reduceEqDiff, reduceCtorEq, List.length_map, Nat.reduceAdd, Nat.reduceLeDiff, Int.toNat_natCast, Int.natCast_nonneg]
  refine hC8 _ ?_; clear hC8 C8
  simp only [bL]
  refine aops_chunk 1 fun C9 hC9 => ?_
  simp only [bL, ↓bO, bS, bA, bF, ↓reduceIte, Nat.reduceEqDiff, reduceCtorEq, List.length_map, Nat.reduceAdd, Nat.reduceLeDiff, Int.toNat_natCast, Int.natCast_nonneg]
  refine hC9 _ ?_; clear hC9 C9
  simp only [bL]
  refine aops_chunk 1 fun C10 hC10 => ?_
  simp only [bL, ↓bO, bS, bA, bF, ↓reduceIte, Nat.reduceEqDiff, reduceCtorEq, aField, fo119_1, Nat.reduceAdd, List.length_map, Nat.reduceLeDiff, Int.toNat_natCast, Int.natCast_nonneg]
  refine hC10 _ ?_; clear hC10 C10
  simp only [bL]
  refine aops_chunk 1 fun C11 hC11 => ?_
  simp only [bL, ↓bO, bS, bA, bF, ↓reduceIte, Nat.reduceEqDiff, reduceCtorEq, aLoad, ti25, getO, pack, Nat.reduceAdd, Nat.reduceLeDiff, List.length_map, Int.toNat_natCast, Int.natCast_nonneg]
  refine hC11 _ ?_; clear hC11 C11
  simp only [bL]
  refine aops_chunk 1 fun C12 hC12 => ?_
  simp only [bL, ↓bO, bS, bA, bF, ↓reduceIte, Nat.reduceEqDiff, reduceCtorEq, aCallV, List.length_map, Nat.reduceAdd, Nat.reduceLeDiff, Int.toNat_natCast, Int.natCast_nonneg]
  refine GCalls.at (GVars_calls S.G (h64 hcs) (hl hcs)) (.nil) (dataInts _) (i := 1) (j := 2) (k := 3) rfl rfl rfl (by decide) (by decide) (by decide) (by first | omega | (simp only; omega)) (by first | omega | (simp only; omega)) (by first | omega | (simp only; omega)) ?_
  simp only [putO, Nat.reduceEqDiff, ↓reduceIte]
  try simp only [bS, bA, bF]
  refine hC12 _ ?_; clear hC12 C12
  simp only [bL]
  simp only [↓bO, bS, bA, bF, ↓reduceIte, Nat.reduceEqDiff, reduceCtorEq, List.length_map, bL, Nat.reduceAdd, Nat.reduceLeDiff, Int.toNat_natCast, Int.natCast_nonneg]
  refine hK7 _ ?_; try clear hK7 K7
  refine AWp_ret ?_
  try simp only [bF, retQ, aRes, tupOf, bS, bA]
  refine ⟨_, enumO 0 (cObs (S)), ⟨(S, ()), ?_, rfl, rfl⟩, Und.data (dataInts _), cUnd (by omega) _, ?_, ?_, by omega⟩
  · exact rfl
  ·
   rw [if_neg (by rw [hcs]; decide)]; exact Le.refl _
  · first | (refine ⟨0, rfl, rfl⟩) | (refine ⟨0, by simp only [cObs, enumO, List.drop_zero, List.drop_succ_cons, Nat.reduceAdd], rfl⟩)
theorem Class_c (S : CS) (hF : FInv S.F) (hc : S.clash = false) (hv : ∀ n k, vfind S.G.V n = some k → 0 ≤ k ∧ k < (S.F.up.length : Int)) (h64 : ∀ q ∈ S.G.V, is64 q.1) (hl : S.G.V.length ≤ 1048576) (v : Int) : CCalls (σ := Unit) 46 [.ptr 0 0, .v (.int .i64 v)] (S) (fun s => FSame S.F s.1.F ∧ s.1 = { S with F := s.1.F }) (fun s => .sl 1 ((clsF S v (sortI (S.G.V.map Prod.fst))).map intC)) := by
 refine ACalls.clean (C := fun r os => ∃ s : CS × Unit, (FSame S.F s.1.F ∧ s.1 = { S with F := s.1.F }) ∧ r = (fun s : Unit => .sl 1 ((clsF S v (sortI (S.G.V.map Prod.fst))).map intC)) s.2 ∧ os = enumO 0 (cObs s.1)) ?_
 refine ACalls_intro Try.func46 (by kernel_rfl) rfl (by rw [Try.ntmps46]; simp) (fun hm => ?_)
 simp only [Try.ntmps46, Try.results46, List.length_cons, List.length_nil, Nat.reduceAdd, Nat.reduceSub, List.replicate_succ, List.replicate_zero, List.cons_append, List.nil_append]
 simp only [cObs, enumO, Nat.reduceAdd]
 refine AWp_seqK fun K1 hK1 => ?_
 refine AWp_region ?_
 simp only [↓bO, bS, bA, bF, ↓reduceIte, Nat.reduceEqDiff, reduceCtorEq, List.length_map, bL, Nat.reduceAdd, Nat.reduceLeDiff, Int.toNat_natCast, Int.natCast_nonneg]
 refine hK1 _ ?_; try clear hK1 K1
 refine AWp_seqK fun K2 hK2 => ?_
 refine AWp_region ?_
 simp only [↓bO, bS, bA, bF, ↓reduceIte, Nat.reduceEqDiff, reduceCtorEq, List.length_map, bL, Nat.reduceAdd, Nat.reduceLeDiff, Int.toNat_natCast, Int.natCast_nonneg]
 refine hK2 _ ?_; try clear hK2 K2
 refine AWp_seqK fun K3 hK3 => ?_
 refine AWp_seqK fun K4 hK4 => ?_
 refine AWp_region ?_
 refine aops_chunk 1 fun C5 hC5 => ?_
 simp only [bL, ↓bO, bS, bA, bF, ↓reduceIte, Nat.reduceEqDiff, reduceCtorEq, List.length_map, Nat.reduceAdd, Nat.reduceLeDiff, Int.toNat_natCast, Int.natCast_nonneg]
 refine hC5 _ ?_; clear hC5 C5
 simp only [bL]
 refine aops_chunk 1 fun C6 hC6 => ?_
 simp only [bL, ↓bO, bS, bA, bF, ↓reduceIte, Nat.reduceEqDiff, reduceCtorEq, aCallV, List.length_map, Nat.reduceAdd, Nat.reduceLeDiff, Int.toNat_natCast, Int.natCast_nonneg]
 refine CCalls.at (CVars2_c S (fun _ => h64) (fun _ => by omega)) (.nil) (fun _ => dataInts _) (i0 := 0) (i1 := 1) (i2 := 2) (i3 := 3) (i4 := 4) (i5 := 5) (i6 := 6) (i7 := 7) (by decide) (by simp) ⟨rfl, rfl, rfl, rfl, rfl, rfl, rfl, rfl, trivial⟩ (fun Z9 u9 hZ9 => ?_)
 try dsimp only at hZ9
 simp only [cObsAt, List.zip_cons_cons, List.zip_nil_left, List.zip_nil_right, putsO, putO, Nat.reduceEqDiff, ↓reduceIte]
 obtain rfl : S = Z9 := hZ9.symm
 rw [if_neg (show ¬ (S.clash = true) from by rw [hc]; decide)]
 obtain ⟨L, hL⟩ : ∃ L, L = sortI (S.G.V.map Prod.fst) := ⟨_, rfl⟩
 rw [← hL]
 have hLl : L.length ≤ 1048576 := by (rw [hL, List.length_mergeSort, List.length_map]; exact hl)
 try simp only [bS, bA, bF]
 refine hC6 _ ?_; clear hC6 C6
 simp only [bL]
 refine aops_chunk 1 fun C7 hC7 => ?_
 simp only [bL, ↓bO, bS, bA, bF, ↓reduceIte, Nat.reduceEqDiff, reduceCtorEq, getO, aLenX, aLen, ln28, List.length_map, Nat.reduceAdd, Nat.reduceLeDiff, Int.toNat_natCast, Int.natCast_nonneg]
 refine hC7 _ ?_; clear hC7 C7
 simp only [bL]
 simp only [↓bO, bS, bA, bF, ↓reduceIte, Nat.reduceEqDiff, reduceCtorEq, List.length_map, bL, Nat.reduceAdd, Nat.reduceLeDiff, Int.toNat_natCast, Int.natCast_nonneg]
 refine hK4 _ ?_; try clear hK4 K4
 refine AWp_block ?_
 refine AWp_weak (Weak.tokSlot 5 3 1 rfl) ?_
 simp only [List.set_cons_zero, List.set_cons_succ]
 refine AWp_loopM (σ := FS × Nat) [true, true, false, false, false, true, false, false, false, true, true, true, false, false, false, false, false, false, false, false, false, false, false, false, false] (fun s => FSame S.F s.1 ∧ s.2 ≤ L.length) (fun s => [(5, .osl 8 1 ((clsF S v (L.take s.2)).map intC)), (11, .v (.int .i64 (s.2 : Int)))]) (fun s => [(4, .cells 137 [.own 5 s.1.up.length, .own 6 s.1.rank.length, .v (.int .i64 s.1.sets), .v (.int .i64 s.1.steps)]), (5, .row 3 1 (s.1.up.map nC)), (6, .row 3 1 (s.1.rank.map intC)), (8, .tok 3 1 (clsF S v (L.take s.2)).length)]) (fun s => L.length - s.2) (S.F, 0) (⟨FSame.refl hF, Nat.zero_le _⟩) ?_ (fun s hs => ?_)
 ·
  simp only [maskL, setsL, putsO, putO, bA, Nat.reduceEqDiff, ↓reduceIte, bL, clsF, List.filter_nil]
  exact Weak.mk (by simp only [LeL, Le.refl, Le.any, Le.slNil, and_self, Int.natCast_add, Int.cast_ofNat_Int, Int.natCast_one]) (fun _ _ h => h) rfl rfl
 simp only [maskL, setsL, putsO, putO, bA, Nat.reduceEqDiff, ↓reduceIte]
 refine AWp_seqK fun K8 hK8 => ?_
 refine AWp_region ?_
 simp only [↓bO, bS, bA, bF, ↓reduceIte, Nat.reduceEqDiff, reduceCtorEq, aBin, List.length_map, bL, Nat.reduceAdd, Nat.reduceLeDiff, Int.toNat_natCast, Int.natCast_nonneg]
 refine hK8 _ ?_; try clear hK8 K8
 refine AWp_seqK fun K9 hK9 => ?_
 refine AWp_cond rfl (fun hb12 => ?_) (fun hb12 => ?_)
 ·
  have hk : s.2 < L.length := by simpa using hb12
  obtain ⟨w, he⟩ : ∃ w, L[s.2]? = some w := ⟨_, List.getElem?_eq_getElem hk⟩
  have hw : IntKind.i64.wrap ((s.2 : Int) + 1) = (s.2 : Int) + 1 := wrap_in (by omega) (by omega)
  have hrl := clsF_len S v (L.take s.2)
  have hrt : (L.take s.2).length ≤ s.2 := by simp; omega
  have hb1 : ((clsF S v (L.take s.2)).length + 1) * 8 ≤ 140737488355328 := by omega
  have hb2 : (clsF S v (L.take s.2)).length + 1 ≤ maxLen := by simp only [maxLen]; omega
  refine AWp_skip ?_
  try simp only [bF]
  refine hK9 _ ?_; try clear hK9 K9
  refine AWp_seqK fun K10 hK10 => ?_
  refine AWp_block ?_
  refine AWp_seqK fun K11 hK11 => ?_
  refine AWp_region ?_
  refine aops_chunk 1 fun C12 hC12 => ?_
  simp only [bL, ↓bO, bS, bA, bF, ↓reduceIte, Nat.reduceEqDiff, reduceCtorEq, getO, aIndexA, es28, Int.natCast_nonneg, Int.ofNat_lt, Int.toNat_natCast, List.length_map, Int.le_refl, Int.toNat_zero, Int.toNat_one, Int.reduceLE, Nat.reduceAdd, Nat.reduceLeDiff, hk, gM he, intC, hw, hb1, hb2, Int.natCast_add, Int.natCast_one, Int.cast_ofNat_Int]
  refine hC12 _ ?_; clear hC12 C12
  simp only [bL]
  refine aops_chunk 1 fun C13 hC13 => ?_
  simp only [bL, ↓bO, bS, bA, bF, ↓reduceIte, Nat.reduceEqDiff, reduceCtorEq, aLoad, ti3, getO, pack, Nat.reduceAdd, Nat.reduceLeDiff, List.length_map, Int.toNat_natCast, Int.natCast_nonneg, hk, gM he, intC, hw, hb1, hb2, Int.natCast_add, Int.natCast_one, Int.cast_ofNat_Int]
  refine hC13 _ ?_; clear hC13 C13
  simp only [bL]
  simp only [↓bO, bS, bA, bF, ↓reduceIte, Nat.reduceEqDiff, reduceCtorEq, List.length_map, bL, Nat.reduceAdd, Nat.reduceLeDiff, Int.toNat_natCast, Int.natCast_nonneg, hk, gM he, intC, hw, hb1, hb2, Int.natCast_add, Int.natCast_one, Int.cast_ofNat_Int]
  refine hK11 _ ?_; try clear hK11 K11
  refine AWp_seqK fun K14 hK14 => ?_
  refine AWp_region ?_
  refine aops_chunk 1 fun C15 hC15 => ?_
  simp only [bL, ↓bO, bS, bA, bF, ↓reduceIte, Nat.reduceEqDiff, reduceCtorEq, List.length_map, Nat.reduceAdd, Nat.reduceLeDiff, Int.toNat_natCast, Int.natCast_nonneg, hk, gM he, intC, hw, hb1, hb2, Int.natCast_add, Int.natCast_one, Int.cast_ofNat_Int]
  refine hC15 _ ?_; clear hC15 C15
  simp only [bL]
  refine aops_chunk 1 fun C16 hC16 => ?_
  simp only [bL, ↓bO, bS, bA, bF, ↓reduceIte, Nat.reduceEqDiff, reduceCtorEq, List.length_map, Nat.reduceAdd, Nat.reduceLeDiff, Int.toNat_natCast, Int.natCast_nonneg, hk, gM he, intC, hw, hb1, hb2, Int.natCast_add, Int.natCast_one, Int.cast_ofNat_Int]
  refine hC16 _ ?_; clear hC16 C16
  simp only [bL]
  refine aops_chunk 1 fun C17 hC17 => ?_
  simp only [bL, ↓bO, bS, bA, bF, ↓reduceIte, Nat.reduceEqDiff, reduceCtorEq, List.length_map, Nat.reduceAdd, Nat.reduceLeDiff, Int.toNat_natCast, Int.natCast_nonneg, hk, gM he, intC, hw, hb1, hb2, Int.natCast_add, Int.natCast_one, Int.cast_ofNat_Int]
  refine hC17 _ ?_; clear hC17 C17
  simp only [bL]
  simp only [↓bO, bS, bA, bF, ↓reduceIte, Nat.reduceEqDiff, reduceCtorEq, aCallV, bL, List.length_map, Nat.reduceAdd, Nat.reduceLeDiff, Int.toNat_natCast, Int.natCast_nonneg, hk, gM he, intC, hw, hb1, hb2, Int.natCast_add, Int.natCast_one, Int.cast_ofNat_Int]
  refine CCalls.at (CSame_c { S with F := s.1 } hs.1.inv (by dsimp only; rw [hs.1.len]; exact hv) v w) (.cons (.v _) (.cons (.v _) .nil)) (fun _ => .v _) (i0 := 0) (i1 := 1) (i2 := 2) (i3 := 3) (i4 := 4) (i5 := 5) (i6 := 6) (i7 := 7) (by decide) (by simp) ⟨rfl, rfl, rfl, rfl, rfl, rfl, rfl, rfl, trivial⟩ (fun S1 r1 hX => ?_)
  try dsimp only at hX
  simp only [cObsAt, List.zip_cons_cons, List.zip_nil_left, List.zip_nil_right, putsO, putO, Nat.reduceEqDiff, ↓reduceIte]
  obtain ⟨F1, rfl⟩ : ∃ F1, S1 = { S with F := F1 } := ⟨S1.F, hX.2.1⟩
  dsimp only at hX
  have hr0 : SameR { S with F := s.1 } v w r1 := hX.2.2
  have hr1 : r1 = sameS S v w := (hr0.fsame (S := S) hs.1 rfl).eq
  have hF1 : FSame S.F F1 := hs.1.trans hX.1
  try simp only [bS, bA, bF]
  refine hK14 _ ?_; try clear hK14 K14
  refine AWp_cond rfl (fun hb18 => ?_) (fun hb18 => ?_)
  ·
   have hyes : sameS S v w = true := by rw [← hr1]; exact hb18
   have hst := clsF_yes he hyes
   refine AWp_region ?_
   refine aops_chunk 1 fun C18 hC18 => ?_
   simp only [bL, ↓bO, bS, bA, bF, ↓reduceIte, Nat.reduceEqDiff, reduceCtorEq, List.length_map, Nat.reduceAdd, Nat.reduceLeDiff, Int.toNat_natCast, Int.natCast_nonneg, hk, gM he, intC, hw, hb1, hb2, Int.natCast_add, Int.natCast_one, Int.cast_ofNat_Int, hst, List.map_append, List.length_append]
   refine hC18 _ ?_; clear hC18 C18
   simp only [bL]
   refine aops_chunk 1 fun C19 hC19 => ?_
   simp only [bL, ↓bO, bS, bA, bF, ↓reduceIte, Nat.reduceEqDiff, reduceCtorEq, List.length_map, Nat.reduceAdd, Nat.reduceLeDiff, Int.toNat_natCast, Int.natCast_nonneg, hk, gM he, intC, hw, hb1, hb2, Int.natCast_add, Int.natCast_one, Int.cast_ofNat_Int, hst, List.map_append, List.length_append]
   refine hC19 _ ?_; clear hC19 C19
   simp only [bL]
   refine aops_chunk 1 fun C20 hC20 => ?_
   simp only [bL, ↓bO, bS, bA, bF, ↓reduceIte, Nat.reduceEqDiff, reduceCtorEq, ↓bs1_1, ↓bs1_2, ↓bs1_3, ↓bs1_4, ↓bs1_5, ↓bs1_6, ↓bs1_7, ↓bs1_8, ↓bs1_9, ↓bs1_10, ↓bs1_11, ↓bs1_12, aBuildSl, ei28, ia3, List.range_succ, List.range_zero, List.forall_mem_cons, List.not_mem_nil, false_imp_iff, implies_true, Nat.reduceAdd, Nat.reduceLeDiff, forall_eq, List.mem_singleton, List.length_map, Int.toNat_natCast, Int.natCast_nonneg, hk, gM he, intC, hw, hb1, hb2, Int.natCast_add, Int.natCast_one, Int.cast_ofNat_Int, hst, List.map_append, List.length_append]
   refine hC20 _ ?_; clear hC20 C20
   simp only [bL]
   refine aops_chunk 1 fun C21 hC21 => ?_
   simp only [bL, ↓bO, bS, bA, bF, ↓reduceIte, Nat.reduceEqDiff, reduceCtorEq, aAppend, ei28, slIn, slAt, slOf, List.length_map, getO, putO, Nat.reduceAdd, Nat.reduceLeDiff, Int.toNat_natCast, Int.natCast_nonneg, hk, gM he, intC, hw, hb1, hb2, Int.natCast_add, Int.natCast_one, Int.cast_ofNat_Int, hst, List.map_append, List.length_append]
   refine hC21 _ ?_; clear hC21 C21
   simp only [bL]
   simp only [↓bO, bS, bA, bF, ↓reduceIte, Nat.reduceEqDiff, reduceCtorEq, List.length_map, bL, Nat.reduceAdd, Nat.reduceLeDiff, Int.toNat_natCast, Int.natCast_nonneg, hk, gM he, intC, hw, hb1, hb2, Int.natCast_add, Int.natCast_one, Int.cast_ofNat_Int, hst, List.map_append, List.length_append]
   refine hK10 _ ?_; try clear hK10 K10
   refine AWp_region ?_
   refine aops_chunk 1 fun C22 hC22 => ?_
   simp only [bL, ↓bO, bS, bA, bF, ↓reduceIte, Nat.reduceEqDiff, reduceCtorEq, aBin, List.length_map, Nat.reduceAdd, Nat.reduceLeDiff, Int.toNat_natCast, Int.natCast_nonneg, hk, gM he, intC, hw, hb1, hb2, Int.natCast_add, Int.natCast_one, Int.cast_ofNat_Int, hst, List.map_append, List.length_append]
   refine hC22 _ ?_; clear hC22 C22
   simp only [bL]
   simp only [↓bO, bS, bA, bF, ↓reduceIte, Nat.reduceEqDiff, reduceCtorEq, List.length_map, bL, Nat.reduceAdd, Nat.reduceLeDiff, Int.toNat_natCast, Int.natCast_nonneg, hk, gM he, intC, hw, hb1, hb2, Int.natCast_add, Int.natCast_one, Int.cast_ofNat_Int, hst, List.map_append, List.length_append]
   refine ⟨(F1, s.2 + 1), ⟨hF1, by simp only; omega⟩, (by simp only; omega), ?_⟩
   simp only [maskL, setsL, putsO, putO, bA, Nat.reduceEqDiff, ↓reduceIte, hk, gM he, intC, hw, hb1, hb2, Int.natCast_add, Int.natCast_one, Int.cast_ofNat_Int, hst, List.map_append, bL, List.length_append]
   exact Weak.mk (by simp only [LeL, Le.refl, Le.any, Le.slNil, and_self, Int.natCast_add, Int.cast_ofNat_Int, Int.natCast_one]) (fun _ _ h => h) rfl rfl
  ·
   have hno : sameS S v w = false := by rw [← hr1]; simpa using hb18
   have hst := clsF_no he hno
   refine AWp_skip ?_
   try simp only [bF]
   refine hK10 _ ?_; try clear hK10 K10
   refine AWp_region ?_
   refine aops_chunk 1 fun C23 hC23 => ?_
   simp only [bL, ↓bO, bS, bA, bF, ↓reduceIte, Nat.reduceEqDiff, reduceCtorEq, aBin, List.length_map, Nat.reduceAdd, Nat.reduceLeDiff, Int.toNat_natCast, Int.natCast_nonneg, hk, gM he, intC, hw, hb1, hb2, Int.natCast_add, Int.natCast_one, Int.cast_ofNat_Int, hst]
   refine hC23 _ ?_; clear hC23 C23
   simp only [bL]
   simp only [↓bO, bS, bA, bF, ↓reduceIte, Nat.reduceEqDiff, reduceCtorEq, List.length_map, bL, Nat.reduceAdd, Nat.reduceLeDiff, Int.toNat_natCast, Int.natCast_nonneg, hk, gM he, intC, hw, hb1, hb2, Int.natCast_add, Int.natCast_one, Int.cast_ofNat_Int, hst]
   refine ⟨(F1, s.2 + 1), ⟨hF1, by simp only; omega⟩, (by simp only; omega), ?_⟩
   simp only [maskL, setsL, putsO, putO, bA, Nat.reduceEqDiff, ↓reduceIte, hk, gM he, intC, hw, hb1, hb2, Int.natCast_add, Int.natCast_one, Int.cast_ofNat_Int, hst]
   exact Weak.mk (by simp only [LeL, Le.refl, Le.any, Le.slNil, and_self, Int.natCast_add, Int.cast_ofNat_Int, Int.natCast_one]) (fun _ _ h => h) rfl rfl
 ·
  have hk : s.2 = L.length := by (have h9 := hb12; simp at h9; have := hs.2; omega)
  refine AWp_exit ?_
  simp only [bF, bA, Nat.reduceEqDiff, ↓reduceIte]
  refine hK3 _ ?_; try clear hK3 K3
  refine AWp_seqK fun K24 hK24 => ?_
  refine AWp_region ?_
  refine aops_chunk 1 fun C25 hC25 => ?_
  simp only [bL, ↓bO, bS, bA, bF, ↓reduceIte, Nat.reduceEqDiff, reduceCtorEq, List.length_map, Nat.reduceAdd, Nat.reduceLeDiff, Int.toNat_natCast, Int.natCast_nonneg]
  refine hC25 _ ?_; clear hC25 C25
  simp only [bL]
  simp only [↓bO, bS, bA, bF, ↓reduceIte, Nat.reduceEqDiff, reduceCtorEq, List.length_map, bL, Nat.reduceAdd, Nat.reduceLeDiff, Int.toNat_natCast, Int.natCast_nonneg]
  refine hK24 _ ?_; try clear hK24 K24
  refine AWp_ret ?_
  try simp only [bF, retQ, aRes, tupOf, bS, bA]
  refine ⟨_, enumO 0 (cObs ({ S with F := s.1 })), ⟨({ S with F := s.1 }, ()), ?_, rfl, rfl⟩, Und.data (dataInts _), cUnd (by omega) _, ?_, ?_, by omega⟩
  · exact ⟨hs.1, rfl⟩
  ·
   rw [hk, List.take_length, hL]
   exact Le.oslL
  · first | (refine ⟨1, rfl, rfl⟩) | (refine ⟨1, by simp only [cObs, enumO, List.drop_zero, List.drop_succ_cons, Nat.reduceAdd], rfl⟩)
end Go.Proofs.Ytohdoloalolpfaa
namespace Go.Proofs.Ytohdoloalolpfaa
open Go Go.RowKit
set_option maxRecDepth 100000
set_option maxHeartbeats 1000000
set_option linter.unusedSimpArgs false
set_option linter.unusedVariables false
attribute [local irreducible] aops dRun
theorem Ty.len_app (t : Ty) (l : List AV) : (t.cells ++ l).length = 3 + l.length := by rw [List.length_append, Ty.cells_len]
theorem Ty.take3_app (t : Ty) (l : List AV) : (t.cells ++ l).take 3 = t.cells := by rw [List.take_append_of_le_length (by rw [Ty.cells_len]; exact Nat.le_refl _), List.take_of_length_le (by rw [Ty.cells_len]; exact Nat.le_refl _)]
theorem Ty.drop3_app (t : Ty) (l : List AV) : (t.cells ++ l).drop 3 = l := by rw [List.drop_append, List.drop_of_length_le (by rw [Ty.cells_len]; exact Nat.le_refl _), Ty.cells_len]; rfl
theorem Ty.drop6_app (t : Ty) (l : List AV) : (t.cells ++ l).drop 6 = l.drop 3 := by rw [List.drop_append, List.drop_of_length_le (by rw [Ty.cells_len]; omega), Ty.cells_len]; rfl
theorem ifSort_len {S : CS} {n : Nat} (h : S.clash = false → S.G.V.length ≤ n) : (if S.clash = true then [] else sortI (S.G.V.map Prod.fst)).length ≤ n := by
  split
  · simp
  · rename_i hc
    rw [List.length_mergeSort, List.length_map]
    exact h (by simpa using hc)
theorem more_snoc {l d : List (Ty × Ty)} {k j : Nat} {e : Ty × Ty} (hk : k = j + 1) (h : ∀ (i : Nat) (x : Ty × Ty), k ≤ i → l[i]? = some x → (x.2, x.1) ∈ d) (he : l[j]? = some e) : ∀ (i : Nat) (x : Ty × Ty), j ≤ i → l[i]? = some x → (x.2, x.1) ∈ d ++ [(e.2, e.1)] := fun i x h1 h2 => by
  rcases Nat.lt_or_ge j i with h3 | h3
  · exact List.mem_append_left _ (h i x (by omega) h2)
  · obtain rfl : i = j := by omega
    rw [he] at h2
    cases h2
    exact List.mem_append_right _ (List.mem_singleton.2 rfl)
theorem UnifyOrder_pure (es : List EqT) (bs : List (Fin 256)) : APure Try.prog 10 [.sl 8 (es.map EqT.cells), .sl 1 (bs.map byC)] (.v (.bool true)) := by
 refine APure.mkL (.cons (EqT.dataSl es) (.cons (dataBy bs) .nil)) (.v _) ?_
 refine ACalls_intro Try.func10 (by kernel_rfl) rfl (by rw [Try.ntmps10]; simp) (fun hm => ?_)
 simp only [Try.ntmps10, Try.results10, List.length_cons, List.length_nil, Nat.reduceAdd, Nat.reduceSub, List.replicate_succ, List.replicate_zero, List.cons_append, List.nil_append]
 refine AWp_seqK fun K1 hK1 => ?_
 refine AWp_region ?_
 simp only [↓bO, bS, bA, bF, ↓reduceIte, Nat.reduceEqDiff, reduceCtorEq, tyX, List.length_map]
 refine hK1 _ ?_; try clear hK1 K1
 refine AWp_seqK fun K2 hK2 => ?_
 refine AWp_seqK fun K3 hK3 => ?_
 refine AWp_region ?_
 refine aops_chunk 1 fun C4 hC4 => ?_
 simp only [bL, ↓bO, bS, bA, bF, ↓reduceIte, Nat.reduceEqDiff, reduceCtorEq, tyX, List.length_map]
 refine hC4 _ ?_; clear hC4 C4
 simp only [bL]
 refine aops_chunk 1 fun C5 hC5 => ?_
 simp only [bL, ↓bO, bS, bA, bF, ↓reduceIte, Nat.reduceEqDiff, reduceCtorEq, aCallV, tyX, List.length_map]
 refine APure.call (Great12_pure es) ?_
 try simp only [bS, bA, bF]
 refine hC5 _ ?_; clear hC5 C5
 simp only [bL]
 refine aops_chunk 1 fun C6 hC6 => ?_
 simp only [bL, ↓bO, bS, bA, bF, ↓reduceIte, Nat.reduceEqDiff, reduceCtorEq, tyX, List.length_map]
 refine hC6 _ ?_; clear hC6 C6
 simp only [bL]
 refine aops_case 15 rfl (fun hc15 => ?_) (fun hc15 => ?_)
 ·
  simp only [List.set_cons_zero, List.set_cons_succ]
  refine aops_chunk 1 fun C7 hC7 => ?_
  simp only [bL, ↓bO, bS, bA, bF, ↓reduceIte, Nat.reduceEqDiff, reduceCtorEq, undef, tyX, List.length_map]
  refine hC7 _ ?_; clear hC7 C7
  simp only [bL]
  refine aops_chunk 1 fun C8 hC8 => ?_
  simp only [bL, ↓bO, bS, bA, bF, ↓reduceIte, Nat.reduceEqDiff, reduceCtorEq, undef, getO, aLenX, aLen, ln77, List.length_map, tyX]
  refine hC8 _ ?_; clear hC8 C8
  simp only [bL]
  refine aops_chunk 1 fun C9 hC9 => ?_
  simp only [bL, ↓bO, bS, bA, bF, ↓reduceIte, Nat.reduceEqDiff, reduceCtorEq, undef, aBin, tyX, List.length_map]
  refine hC9 _ ?_; clear hC9 C9
  simp only [bL]
  simp only [↓bO, bS, bA, bF, ↓reduceIte, Nat.reduceEqDiff, reduceCtorEq, aBool, tyX, List.length_map]
  refine hK3 _ ?_; try clear hK3 K3
  refine AWp_cond (b := true) (by first | exact rfl | exact congrArg (fun b => AV.v (.bool b)) hb19) (fun _ => ?_) (fun h => (by cases h))
  refine AWp_seqK fun K10 hK10 => ?_
  refine AWp_region ?_
  refine aops_chunk 1 fun C11 hC11 => ?_
  simp only [bL, ↓bO, bS, bA, bF, ↓reduceIte, Nat.reduceEqDiff, reduceCtorEq, aCallV, tyX, List.length_map]
  refine APure.call (awake12_pure) ?_
  try simp only [bS, bA, bF]
  refine hC11 _ ?_; clear hC11 C11
  simp only [bL]
  simp only [↓bO, bS, bA, bF, ↓reduceIte, Nat.reduceEqDiff, reduceCtorEq, tyX, List.length_map]
  refine hK10 _ ?_; try clear hK10 K10
  refine AWp_ret ?_
  try simp only [bF, retQ, aRes, tupOf, bS, bA]
  exact Le.refl _
 ·
  simp only [List.set_cons_zero, List.set_cons_succ]
  have hgl := greatE_spec hc15
  refine aops_chunk 1 fun C12 hC12 => ?_
  simp only [bL, ↓bO, bS, bA, bF, ↓reduceIte, Nat.reduceEqDiff, reduceCtorEq, undef, tyX, List.length_map]
  refine hC12 _ ?_; clear hC12 C12
  simp only [bL]
  refine aops_chunk 1 fun C13 hC13 => ?_
  simp only [bL, ↓bO, bS, bA, bF, ↓reduceIte, Nat.reduceEqDiff, reduceCtorEq, undef, getO, aLenX, aLen, ln77, List.length_map, tyX]
  refine hC13 _ ?_; clear hC13 C13
  simp only [bL]
  refine aops_chunk 1 fun C14 hC14 => ?_
  simp only [bL, ↓bO, bS, bA, bF, ↓reduceIte, Nat.reduceEqDiff, reduceCtorEq, undef, aBin, tyX, List.length_map]
  refine hC14 _ ?_; clear hC14 C14
  simp only [bL]
  simp only [↓bO, bS, bA, bF, ↓reduceIte, Nat.reduceEqDiff, reduceCtorEq, aBool, tyX, List.length_map]
  refine hK3 _ ?_; try clear hK3 K3
  refine AWp_cond rfl (fun hb19 => ?_) (fun hb19 => ?_)
  ·
   refine AWp_seqK fun K15 hK15 => ?_
   refine AWp_region ?_
   refine aops_chunk 1 fun C16 hC16 => ?_
   simp only [bL, ↓bO, bS, bA, bF, ↓reduceIte, Nat.reduceEqDiff, reduceCtorEq, aCallV, tyX, List.length_map]
   refine APure.call (awake12_pure) ?_
   try simp only [bS, bA, bF]
   refine hC16 _ ?_; clear hC16 C16
   simp only [bL]
   simp only [↓bO, bS, bA, bF, ↓reduceIte, Nat.reduceEqDiff, reduceCtorEq, tyX, List.length_map]
   refine hK15 _ ?_; try clear hK15 K15
   refine AWp_ret ?_
   try simp only [bF, retQ, aRes, tupOf, bS, bA]
   exact Le.refl _
  ·
   have hbl : bs.length ≤ 40 := by (have h9 := hb19; simp at h9; omega)
   rw [List.length_map] at hgl
   obtain ⟨hsl, hol⟩ := rights_okE es hgl.2
   have hll := rightsE_len es
   refine AWp_skip ?_
   try simp only [bF]
   refine hK2 _ ?_; try clear hK2 K2
   refine AWp_seqK fun K17 hK17 => ?_
   refine AWp_region ?_
   refine aops_chunk 1 fun C18 hC18 => ?_
   simp only [bL, ↓bO, bS, bA, bF, ↓reduceIte, Nat.reduceEqDiff, reduceCtorEq, tyX, List.length_map]
   refine hC18 _ ?_; clear hC18 C18
   simp only [bL]
   refine aops_chunk 1 fun C19 hC19 => ?_
   simp only [bL, ↓bO, bS, bA, bF, ↓reduceIte, Nat.reduceEqDiff, reduceCtorEq, aCallV, tyX, List.length_map]
   refine APure.call (Rights12_pure es (by omega)) ?_
   try simp only [bS, bA, bF]
   refine hC19 _ ?_; clear hC19 C19
   simp only [bL]
   simp only [↓bO, bS, bA, bF, ↓reduceIte, Nat.reduceEqDiff, reduceCtorEq, tyX, List.length_map]
   refine hK17 _ ?_; try clear hK17 K17
   refine AWp_seqK fun K20 hK20 => ?_
   refine AWp_region ?_
   refine aops_chunk 1 fun C21 hC21 => ?_
   simp only [bL, ↓bO, bS, bA, bF, ↓reduceIte, Nat.reduceEqDiff, reduceCtorEq, aCallV, tyX, List.length_map]
   refine VNew_calls.mono ?_
   rintro r os' nx' ⟨⟨rfl, rfl⟩, rfl⟩
   try simp only [bS, bA, bF]
   refine hC21 _ ?_; clear hC21 C21
   simp only [bL]
   refine aops_chunk 1 fun C22 hC22 => ?_
   simp only [bL, ↓bO, bS, bA, bF, ↓reduceIte, Nat.reduceEqDiff, reduceCtorEq, aCallV, tyX, List.length_map]
   refine ACalls.fresh (R' := .ptr 7 0) (os1' := newOs 4 5 6 7) VNew_calls .nil (.ptr rfl) (by decide) ⟨rfl, .cells ⟨.v _, .ptr rfl, .ptr rfl, .v _, .v _, trivial⟩, rfl, .cells ⟨.v _, .map rfl, trivial⟩, rfl, .map (by intro p hp; cases hp), rfl, .cells ⟨.v _, .v _, .v _, .v _, trivial⟩, trivial⟩ ?_
   simp only [newOs, List.cons_append, List.nil_append]
   try simp only [bS, bA, bF]
   refine hC22 _ ?_; clear hC22 C22
   simp only [bL]
   refine aops_chunk 1 fun C23 hC23 => ?_
   simp only [bL, ↓bO, bS, bA, bF, ↓reduceIte, Nat.reduceEqDiff, reduceCtorEq, tyX, List.length_map]
   refine hC23 _ ?_; clear hC23 C23
   simp only [bL]
   simp only [↓bO, bS, bA, bF, ↓reduceIte, Nat.reduceEqDiff, reduceCtorEq, tyX, List.length_map]
   refine hK20 _ ?_; try clear hK20 K20
   refine AWp_seqK fun K24 hK24 => ?_
   refine AWp_weak (Weak.rowCell 3 1 0 (id := 0) rfl rfl) ?_
   simp only [newOs, putO, Nat.reduceEqDiff, ↓reduceIte, List.set_cons_zero, List.set_cons_succ, List.cons_append, List.nil_append]
   refine AWp_weak (Weak.rowCell 3 1 1 (id := 0) rfl rfl) ?_
   simp only [newOs, putO, Nat.reduceEqDiff, ↓reduceIte, List.set_cons_zero, List.set_cons_succ, List.cons_append, List.nil_append]
   refine AWp_weak (Weak.rowCell 3 1 3 (id := 3) rfl rfl) ?_
   simp only [newOs, putO, Nat.reduceEqDiff, ↓reduceIte, List.set_cons_zero, List.set_cons_succ, List.cons_append, List.nil_append]
   refine AWp_weak (Weak.tokCell 87 4 (id := 2) (t := 91) [.osl 11 4 ([].map GNode.cells), .map 1] rfl ⟨.inr ⟨rfl, rfl⟩, .inl (.refl _), trivial⟩) ?_
   simp only [newOs, putO, Nat.reduceEqDiff, ↓reduceIte, List.set_cons_zero, List.set_cons_succ, List.cons_append, List.nil_append]
   refine AWp_weak (Weak.rowCell 3 1 0 (id := 4) rfl rfl) ?_
   simp only [newOs, putO, Nat.reduceEqDiff, ↓reduceIte, List.set_cons_zero, List.set_cons_succ, List.cons_append, List.nil_append]
   refine AWp_weak (Weak.rowCell 3 1 1 (id := 4) rfl rfl) ?_
   simp only [newOs, putO, Nat.reduceEqDiff, ↓reduceIte, List.set_cons_zero, List.set_cons_succ, List.cons_append, List.nil_append]
   refine AWp_weak (Weak.rowCell 3 1 3 (id := 7) rfl rfl) ?_
   simp only [newOs, putO, Nat.reduceEqDiff, ↓reduceIte, List.set_cons_zero, List.set_cons_succ, List.cons_append, List.nil_append]
   refine AWp_weak (Weak.tokCell 87 4 (id := 6) (t := 91) [.osl 15 4 ([].map GNode.cells), .map 5] rfl ⟨.inr ⟨rfl, rfl⟩, .inl (.refl _), trivial⟩) ?_
   simp only [newOs, putO, Nat.reduceEqDiff, ↓reduceIte, List.set_cons_zero, List.set_cons_succ, List.cons_append, List.nil_append]
   refine AWp_seqK fun K25 hK25 => ?_
   refine AWp_region ?_
   simp only [↓bO, bS, bA, bF, ↓reduceIte, Nat.reduceEqDiff, reduceCtorEq, tyX, List.length_map]
   refine hK25 _ ?_; try clear hK25 K25
   refine AWp_block ?_
   refine AWp_loopM (σ := CS × Nat) [true, true, false, false, false, true, true, true, false, false, false, false, false, false, false, false, false, false, false, false, false, false, false, false, false, false, false, false, false, false, false, false, false, false, false, false, false, false, false, false, false, false, false, false, false, false, false, false, false, false, false, false, false, false, false, false, false, false, false, false, false, false, false, false, false, false, false, false, false, false, false, false, false, false, false, false, false, false, false, false, false, false, false, false, false, false, false, false, false, false, false, false, false, false, false, false, false, false, false, false, false, false, false, false, false, false, false, false, false, false, false, false, false, false, false, false, false, false, false, false, false, false, false, false, false, false, false, false, false, false, false, false, false, false, false, false, false, false, false, false, false, false, false, false, false, false, false, false, false, false, false, false] (fun u => CSt (((rightsE es).map EqT.p).take u.2) u.1 ∧ u.2 ≤ (rightsE es).length) (fun u => [(7, .v (.int .i64 (u.2 : Int)))]) (fun u => [(3, .cells 119 [.v (.int .i64 u.1.steps), .ptr 2 0, .ptr 0 0, .own 10 u.1.W.length, .v (.bool u.1.clash)]), (2, .cells 91 [.osl 11 4 (u.1.G.N.map GNode.cells), .map 1]), (11, .tok 87 4 u.1.G.N.length), (1, .map (u.1.G.V.map vC)), (0, .cells 137 [.own 8 u.1.F.up.length, .own 9 u.1.F.rank.length, .v (.int .i64 u.1.F.sets), .v (.int .i64 u.1.F.steps)]), (8, .row 3 1 (u.1.F.up.map nC)), (9, .row 3 1 (u.1.F.rank.map intC)), (10, .row 3 1 (u.1.W.map intC)), (7, .cells 119 [.v (.int .i64 CS0.steps), .ptr 6 0, .ptr 4 0, .own 14 CS0.W.length, .v (.bool CS0.clash)]), (6, .cells 91 [.osl 15 4 (CS0.G.N.map GNode.cells), .map 5]), (15, .tok 87 4 CS0.G.N.length), (5, .map (CS0.G.V.map vC)), (4, .cells 137 [.own 12 CS0.F.up.length, .own 13 CS0.F.rank.length, .v (.int .i64 CS0.F.sets), .v (.int .i64 CS0.F.steps)]), (12, .row 3 1 (CS0.F.up.map nC)), (13, .row 3 1 (CS0.F.rank.map intC)), (14, .row 3 1 (CS0.W.map intC))]) (fun u => (rightsE es).length - u.2) (CS0, 0) (⟨CSt.none, by simp only; omega⟩) ?_ (fun u hu => ?_)
   ·
    simp only [maskL, setsL, putsO, putO, bA, Nat.reduceEqDiff, ↓reduceIte, CS0, bL]
    exact Weak.mk (by simp only [LeL, Le.refl, Le.any, Le.slNil, and_self, Int.natCast_add, Int.cast_ofNat_Int, Int.natCast_one]) (fun _ _ h => h) rfl rfl
   simp only [maskL, setsL, putsO, putO, bA, Nat.reduceEqDiff, ↓reduceIte]
   refine AWp_seqK fun K26 hK26 => ?_
   refine AWp_seqK fun K27 hK27 => ?_
   refine AWp_region ?_
   refine aops_chunk 1 fun C28 hC28 => ?_
   simp only [bL, ↓bO, bS, bA, bF, ↓reduceIte, Nat.reduceEqDiff, reduceCtorEq, tyX, List.length_map]
   refine hC28 _ ?_; clear hC28 C28
   simp only [bL]
   refine aops_chunk 1 fun C29 hC29 => ?_
   simp only [bL, ↓bO, bS, bA, bF, ↓reduceIte, Nat.reduceEqDiff, reduceCtorEq, tyX, List.length_map]
   refine hC29 _ ?_; clear hC29 C29
   simp only [bL]
   refine aops_chunk 1 fun C30 hC30 => ?_
   simp only [bL, ↓bO, bS, bA, bF, ↓reduceIte, Nat.reduceEqDiff, reduceCtorEq, getO, aLenX, aLen, ln61, List.length_map, tyX]
   refine hC30 _ ?_; clear hC30 C30
   simp only [bL]
   simp only [↓bO, bS, bA, bF, ↓reduceIte, Nat.reduceEqDiff, reduceCtorEq, aBin, tyX, List.length_map]
   refine hK27 _ ?_; try clear hK27 K27
   refine AWp_cond rfl (fun hb28 => ?_) (fun hb28 => ?_)
   ·
    have hk : u.2 < (rightsE es).length := by simpa using hb28
    obtain ⟨e, he⟩ : ∃ e, (rightsE es)[u.2]? = some e := ⟨_, List.getElem?_eq_getElem hk⟩
    have hep : ((rightsE es).map EqT.p)[u.2]? = some e.p := by rw [List.getElem?_map, he]; rfl
    have hem := List.mem_of_getElem? hep
    have heo := hol e.p hem
    have het : (((rightsE es).map EqT.p)).take (u.2 + 1) = (((rightsE es).map EqT.p)).take u.2 ++ [e.p] := by rw [List.take_add_one, hep]; rfl
    have hst := sumP_take ((rightsE es).map EqT.p) (u.2 + 1)
    rw [het, sumP_snoc] at hst
    simp only [EqT.p] at hst
    have hw : IntKind.i64.wrap ((u.2 : Int) + 1) = (u.2 : Int) + 1 := wrap_in (by omega) (by omega)
    have hl1 := hu.1.len
    refine AWp_skip ?_
    try simp only [bF]
    refine hK26 _ ?_; try clear hK26 K26
    refine AWp_seqK fun K31 hK31 => ?_
    refine AWp_block ?_
    refine AWp_drawK 11 mixed (by kernel_rfl) fun K32 hK32 => ?_
    simp only [bL]
    refine dRun_chunk 1 fun C33 hC33 => ?_
    simp only [bL, ↓dRun, ↓dOp, ↓bO, bS, bA, bF, ↓reduceIte, Nat.reduceEqDiff, reduceCtorEq, tyX, List.length_map, hk, gM he, EqT.cells, Ty.refold, hw, Int.natCast_add, Int.natCast_one, Int.cast_ofNat_Int]
    refine hC33 _ ?_; clear hC33 C33
    simp only [bL]
    refine dRun_chunk 1 fun C34 hC34 => ?_
    simp only [bL, ↓dRun, ↓dOp, ↓bO, bS, bA, bF, ↓reduceIte, Nat.reduceEqDiff, reduceCtorEq, tyX, List.length_map, hk, gM he, EqT.cells, Ty.refold, hw, Int.natCast_add, Int.natCast_one, Int.cast_ofNat_Int]
    refine hC34 _ ?_; clear hC34 C34
    simp only [bL]
    refine dRun_chunk 1 fun C35 hC35 => ?_
    simp only [bL, ↓dRun, ↓dOp, ↓bO, bS, bA, bF, ↓reduceIte, Nat.reduceEqDiff, reduceCtorEq, tyX, List.length_map, hk, gM he, EqT.cells, Ty.refold, hw, Int.natCast_add, Int.natCast_one, Int.cast_ofNat_Int]
    refine hC35 _ ?_; clear hC35 C35
    simp only [bL]
    refine dRun_chunk 1 fun C36 hC36 => ?_
    simp only [bL, ↓dRun, ↓dOp, ↓bO, bS, bA, bF, ↓reduceIte, Nat.reduceEqDiff, reduceCtorEq, getO, aIndexA, es61, Int.natCast_nonneg, Int.ofNat_lt, Int.toNat_natCast, List.length_map, Int.le_refl, Int.toNat_zero, Int.toNat_one, Int.reduceLE, tyX, hk, gM he, EqT.cells, Ty.refold, hw, Int.natCast_add, Int.natCast_one, Int.cast_ofNat_Int]
    refine hC36 _ ?_; clear hC36 C36
    simp only [bL]
    refine dRun_chunk 1 fun C37 hC37 => ?_
    simp only [bL, ↓dRun, ↓dOp, ↓bO, bS, bA, bF, ↓reduceIte, Nat.reduceEqDiff, reduceCtorEq, aField, fo73_0, Nat.reduceAdd, tyX, List.length_map, hk, gM he, EqT.cells, Ty.refold, hw, Int.natCast_add, Int.natCast_one, Int.cast_ofNat_Int]
    refine hC37 _ ?_; clear hC37 C37
    simp only [bL]
    refine dRun_chunk 1 fun C38 hC38 => ?_
    simp only [bL, ↓dRun, ↓dOp, ↓bO, bS, bA, bF, ↓reduceIte, Nat.reduceEqDiff, reduceCtorEq, aLoad, ti32, getO, pack, Nat.reduceAdd, Nat.reduceLeDiff, tyX, List.length_map, hk, gM he, EqT.cells, Ty.refold, hw, Int.natCast_add, Int.natCast_one, Int.cast_ofNat_Int]
    refine hC38 _ ?_; clear hC38 C38
    simp only [bL]
    refine dRun_chunk 1 fun C39 hC39 => ?_
    simp only [bL, ↓dRun, ↓dOp, ↓bO, bS, bA, bF, ↓reduceIte, Nat.reduceEqDiff, reduceCtorEq, tyX, List.length_map, hk, gM he, EqT.cells, Ty.refold, hw, Int.natCast_add, Int.natCast_one, Int.cast_ofNat_Int]
    refine hC39 _ ?_; clear hC39 C39
    simp only [bL]
    refine dRun_chunk 1 fun C40 hC40 => ?_
    simp only [bL, ↓dRun, ↓dOp, ↓bO, bS, bA, bF, ↓reduceIte, Nat.reduceEqDiff, reduceCtorEq, tyX, List.length_map, hk, gM he, EqT.cells, Ty.refold, hw, Int.natCast_add, Int.natCast_one, Int.cast_ofNat_Int]
    refine hC40 _ ?_; clear hC40 C40
    simp only [bL]
    refine dRun_chunk 1 fun C41 hC41 => ?_
    simp only [bL, ↓dRun, ↓dOp, ↓bO, bS, bA, bF, ↓reduceIte, Nat.reduceEqDiff, reduceCtorEq, getO, aIndexA, es61, Int.natCast_nonneg, Int.ofNat_lt, Int.toNat_natCast, List.length_map, Int.le_refl, Int.toNat_zero, Int.toNat_one, Int.reduceLE, tyX, hk, gM he, EqT.cells, Ty.refold, hw, Int.natCast_add, Int.natCast_one, Int.cast_ofNat_Int]
    refine hC41 _ ?_; clear hC41 C41
    simp only [bL]
    refine dRun_chunk 1 fun C42 hC42 => ?_
    simp only [bL, ↓dRun, ↓dOp, ↓bO, bS, bA, bF, ↓reduceIte, Nat.reduceEqDiff, reduceCtorEq, aField, fo73_1, Nat.reduceAdd, tyX, List.length_map, hk, gM he, EqT.cells, Ty.refold, hw, Int.natCast_add, Int.natCast_one, Int.cast_ofNat_Int]
    refine hC42 _ ?_; clear hC42 C42
    simp only [bL]
    simp only [↓dRun, ↓dOp, bL, ↓bO, bS, bA, bF, ↓reduceIte, Nat.reduceEqDiff, reduceCtorEq, aLoad, ti32, getO, pack, Nat.reduceAdd, Nat.reduceLeDiff, tyX, List.length_map, hk, gM he, EqT.cells, Ty.refold, hw, Int.natCast_add, Int.natCast_one, Int.cast_ofNat_Int]
    refine hK32 _ ?_; try clear hK32 K32
    simp only [bL]
    simp only [↓bO, bS, bA, bF, ↓reduceIte, Nat.reduceEqDiff, reduceCtorEq, aCallV, bL, tyX, List.length_map, hk, gM he, EqT.cells, Ty.refold, hw, Int.natCast_add, Int.natCast_one, Int.cast_ofNat_Int]
    refine CCalls.at (Equate_c u.1 (nat2 (eqF (((rightsE es).map EqT.p).take u.2)).2) (eqF (((rightsE es).map EqT.p).take u.2)).1 e.l e.r (fun hc => (hu.1.good hc).1.2) (by omega) (by omega) (by omega)) (.cons (Ty.dataAgg _) (.cons (Ty.dataAgg _) .nil)) (fun _ => .v _) (i0 := 3) (i1 := 2) (i2 := 11) (i3 := 1) (i4 := 0) (i5 := 8) (i6 := 9) (i7 := 10) (by decide) (by simp) ⟨rfl, rfl, rfl, rfl, rfl, rfl, rfl, rfl, trivial⟩ (fun S1 r1 hE1 => ?_)
    try dsimp only at hE1
    simp only [cObsAt, List.zip_cons_cons, List.zip_nil_left, List.zip_nil_right, putsO, putO, Nat.reduceEqDiff, ↓reduceIte]
    have hc1 := hu.1.step (e := e.p) heo hE1
    try simp only [bS, bA, bF]
    refine hK31 _ ?_; try clear hK31 K31
    refine AWp_region ?_
    refine aops_chunk 1 fun C43 hC43 => ?_
    simp only [bL, ↓bO, bS, bA, bF, ↓reduceIte, Nat.reduceEqDiff, reduceCtorEq, tyX, List.length_map, hk, gM he, EqT.cells, Ty.refold, hw, Int.natCast_add, Int.natCast_one, Int.cast_ofNat_Int]
    refine hC43 _ ?_; clear hC43 C43
    simp only [bL]
    refine aops_chunk 1 fun C44 hC44 => ?_
    simp only [bL, ↓bO, bS, bA, bF, ↓reduceIte, Nat.reduceEqDiff, reduceCtorEq, aBin, tyX, List.length_map, hk, gM he, EqT.cells, Ty.refold, hw, Int.natCast_add, Int.natCast_one, Int.cast_ofNat_Int]
    refine hC44 _ ?_; clear hC44 C44
    simp only [bL]
    simp only [↓bO, bS, bA, bF, ↓reduceIte, Nat.reduceEqDiff, reduceCtorEq, tyX, List.length_map, hk, gM he, EqT.cells, Ty.refold, hw, Int.natCast_add, Int.natCast_one, Int.cast_ofNat_Int]
    refine ⟨(S1, u.2 + 1), ⟨by rw [het]; exact hc1, by simp only; omega⟩, (by simp only; omega), ?_⟩
    simp only [maskL, setsL, putsO, putO, List.set_cons_zero, List.set_cons_succ, Nat.reduceEqDiff, ↓reduceIte, Int.natCast_add, Int.natCast_one, Int.cast_ofNat_Int]
    refine Weak.sub ?_ ⟨rfl, rfl, rfl, rfl, rfl, rfl, rfl, rfl, rfl, rfl, rfl, rfl, rfl, rfl, rfl, rfl, trivial⟩ (by first | omega | (simp only; omega)) (by first | omega | (simp only; omega)) ?_ ?_
    · simp only [LeL, Le.refl, Le.any, and_self]
    · repeat' first | exact trivial | exact .any _ | exact .ptr (by omega) | exact .own (by omega) | exact .v _ _ | exact Und.data (EqT.dataSl _) | exact Und.data (dataInts _) | exact Und.data (dataBy _) | (refine ⟨?_, ?_⟩)
    · repeat' first | exact trivial | (with_reducible omega) | exact .any _ | exact .ptr (by omega) | exact .own (by omega) | exact .v _ _ | exact .map (by omega) | exact Und.oslG (by omega) | exact Und.rowI (nC_data _) | exact Und.rowI (iC_data _) | exact (fun p hp => .data (vC_data _ p hp)) | (refine ⟨?_, ?_⟩)
   ·
    have hk : u.2 = (rightsE es).length := by have h9 := hb28; simp at h9; have := hu.2; omega
    obtain ⟨S, hS⟩ : ∃ S, S = u.1 := ⟨_, rfl⟩
    have hCS : CSt ((rightsE es).map EqT.p) S := by (have h9 := hu.1; rw [hk, List.take_of_length_le (by simp)] at h9; rw [hS]; exact h9)
    rw [← hS]
    refine AWp_exit ?_
    simp only [bF, bA, Nat.reduceEqDiff, ↓reduceIte]
    refine hK24 _ ?_; try clear hK24 K24
    refine AWp_seqK fun K45 hK45 => ?_
    refine AWp_seqK fun K46 hK46 => ?_
    refine AWp_region ?_
    simp only [↓bO, bS, bA, bF, ↓reduceIte, Nat.reduceEqDiff, reduceCtorEq, tyX, List.length_map]
    refine hK46 _ ?_; try clear hK46 K46
    refine AWp_block ?_
    refine AWp_loopM (σ := CS × List (Ty × Ty) × Nat) [true, true, false, false, false, true, true, false, true, false, false, false, false, false, false, false, false, false, false, false, false, false, false, false, false, false, false, false, false, false, false, false, false, false, false, false, false, false, false, false, false, false, false, false, false, false, false, false, false, false, false, false, false, false, false, false, false, false, false, false, false, false, false, false, false, false, false, false, false, false, false, false, false, false, false, false, false, false, false, false, false, false, false, false, false, false, false, false, false, false, false, false, false, false, false, false, false, false, false, false, false, false, false, false, false, false, false, false, false, false, false, false, false, false, false, false, false, false, false, false, false, false, false, false, false, false, false, false, false, false, false, false, false, false, false, false, false, false, false, false, false, false, false, false, false, false, false, false, false, false, false, false] (fun t => CSt t.2.1 t.1 ∧ SubE t.2.1 ((rightsE es).map EqT.p) ∧ sumP t.2.1 ≤ 160 * t.2.2 ∧ t.2.2 ≤ bs.length) (fun t => [(8, .v (.int .i64 (t.2.2 : Int)))]) (fun t => [(7, .cells 119 [.v (.int .i64 t.1.steps), .ptr 6 0, .ptr 4 0, .own 14 t.1.W.length, .v (.bool t.1.clash)]), (6, .cells 91 [.osl 15 4 (t.1.G.N.map GNode.cells), .map 5]), (15, .tok 87 4 t.1.G.N.length), (5, .map (t.1.G.V.map vC)), (4, .cells 137 [.own 12 t.1.F.up.length, .own 13 t.1.F.rank.length, .v (.int .i64 t.1.F.sets), .v (.int .i64 t.1.F.steps)]), (12, .row 3 1 (t.1.F.up.map nC)), (13, .row 3 1 (t.1.F.rank.map intC)), (14, .row 3 1 (t.1.W.map intC))]) (fun t => bs.length - t.2.2) (CS0, [], 0) (⟨CSt.none, SubE.nil _, by simp [sumP], by simp only; omega⟩) ?_ (fun t ht => ?_)
    ·
     simp only [maskL, setsL, putsO, putO, bA, Nat.reduceEqDiff, ↓reduceIte, CS0, bL]
     exact Weak.mk (by simp only [LeL, Le.refl, Le.any, Le.slNil, and_self, Int.natCast_add, Int.cast_ofNat_Int, Int.natCast_one]) (fun _ _ h => h) rfl rfl
    simp only [maskL, setsL, putsO, putO, bA, Nat.reduceEqDiff, ↓reduceIte]
    refine AWp_seqK fun K47 hK47 => ?_
    refine AWp_joinM [true, true, false, false, false, true, true, false, true, false, false, false, false, false, false, false, false, false, false, false, false, false, false, false, false, false, false, false, false, false, false, false, false, false, false, false, false, false, false, false, false, false, false, false, false, false, false, false, false, false, false, true, false, false, false, false, false, false, false, false, false, false, false, false, false, false, false, false, false, false, false, false, false, false, false, false, false, false, false, false, false, false, false, false, false, false, false, false, false, false, false, false, false, false, false, false, false, false, false, false, false, false, false, false, false, false, false, false, false, false, false, false, false, false, false, false, false, false, false, false, false, false, false, false, false, false, false, false, false, false, false, false, false, false, false, false, false, false, false, false, false, false, false, false, false, false, false, false, false, false, false, false] ([(51, .v (.bool (decide (t.2.2 < bs.length) && decide (0 < (rightsE es).length))))]) ([]) ?_ ?_
    ·
     refine AWp_region ?_
     refine aops_chunk 1 fun C48 hC48 => ?_
     simp only [bL, ↓bO, bS, bA, bF, ↓reduceIte, Nat.reduceEqDiff, reduceCtorEq, tyX, List.length_map]
     refine hC48 _ ?_; clear hC48 C48
     simp only [bL]
     refine aops_chunk 1 fun C49 hC49 => ?_
     simp only [bL, ↓bO, bS, bA, bF, ↓reduceIte, Nat.reduceEqDiff, reduceCtorEq, tyX, List.length_map]
     refine hC49 _ ?_; clear hC49 C49
     simp only [bL]
     refine aops_chunk 1 fun C50 hC50 => ?_
     simp only [bL, ↓bO, bS, bA, bF, ↓reduceIte, Nat.reduceEqDiff, reduceCtorEq, getO, aLenX, aLen, ln77, List.length_map, tyX]
     refine hC50 _ ?_; clear hC50 C50
     simp only [bL]
     refine aops_chunk 1 fun C51 hC51 => ?_
     simp only [bL, ↓bO, bS, bA, bF, ↓reduceIte, Nat.reduceEqDiff, reduceCtorEq, aBin, tyX, List.length_map]
     refine hC51 _ ?_; clear hC51 C51
     simp only [bL]
     refine aops_chunk 1 fun C52 hC52 => ?_
     simp only [bL, ↓bO, bS, bA, bF, ↓reduceIte, Nat.reduceEqDiff, reduceCtorEq, tyX, List.length_map]
     refine hC52 _ ?_; clear hC52 C52
     simp only [bL]
     refine aops_case 47 rfl (fun hc47 => ?_) (fun hc47 => ?_)
     ·
      simp only [List.set_cons_zero, List.set_cons_succ]
      have hkb9 : t.2.2 < bs.length := by simpa using hc47
      refine aops_chunk 1 fun C53 hC53 => ?_
      simp only [bL, ↓bO, bS, bA, bF, ↓reduceIte, Nat.reduceEqDiff, reduceCtorEq, undef, tyX, List.length_map]
      refine hC53 _ ?_; clear hC53 C53
      simp only [bL]
      refine aops_chunk 1 fun C54 hC54 => ?_
      simp only [bL, ↓bO, bS, bA, bF, ↓reduceIte, Nat.reduceEqDiff, reduceCtorEq, undef, getO, aLenX, aLen, ln61, List.length_map, tyX]
      refine hC54 _ ?_; clear hC54 C54
      simp only [bL]
      refine aops_chunk 1 fun C55 hC55 => ?_
      simp only [bL, ↓bO, bS, bA, bF, ↓reduceIte, Nat.reduceEqDiff, reduceCtorEq, undef, aBin, tyX, List.length_map]
      refine hC55 _ ?_; clear hC55 C55
      simp only [bL]
      simp only [↓bO, bS, bA, bF, ↓reduceIte, Nat.reduceEqDiff, reduceCtorEq, aBool, tyX, List.length_map]
      try simp only [maskL, setsL, putsO, putO, bA, Nat.reduceEqDiff, ↓reduceIte]
      first | rw [show (decide (t.2.2 < bs.length) && decide (0 < (rightsE es).length)) = decide (((rightsE es).length : Int) > 0) from by (rw [decide_eq_true hkb9, Bool.true_and, Bool.eq_iff_iff]; simp)] | rw [show (decide (t.2.2 < bs.length) && decide (0 < (rightsE es).length)) = false from by rw [decide_eq_false hkb9, Bool.false_and]]
      exact Weak.mk (by simp only [LeL, Le.refl, Le.any, and_self]) (fun _ _ h => h) rfl rfl
     ·
      simp only [List.set_cons_zero, List.set_cons_succ]
      have hkb9 : ¬ t.2.2 < bs.length := by simpa using hc47
      refine aops_chunk 1 fun C56 hC56 => ?_
      simp only [bL, ↓bO, bS, bA, bF, ↓reduceIte, Nat.reduceEqDiff, reduceCtorEq, undef, tyX, List.length_map]
      refine hC56 _ ?_; clear hC56 C56
      simp only [bL]
      refine aops_chunk 1 fun C57 hC57 => ?_
      simp only [bL, ↓bO, bS, bA, bF, ↓reduceIte, Nat.reduceEqDiff, reduceCtorEq, undef, getO, aLenX, aLen, ln61, List.length_map, tyX]
      refine hC57 _ ?_; clear hC57 C57
      simp only [bL]
      refine aops_chunk 1 fun C58 hC58 => ?_
      simp only [bL, ↓bO, bS, bA, bF, ↓reduceIte, Nat.reduceEqDiff, reduceCtorEq, undef, aBin, tyX, List.length_map]
      refine hC58 _ ?_; clear hC58 C58
      simp only [bL]
      simp only [↓bO, bS, bA, bF, ↓reduceIte, Nat.reduceEqDiff, reduceCtorEq, aBool, tyX, List.length_map]
      try simp only [maskL, setsL, putsO, putO, bA, Nat.reduceEqDiff, ↓reduceIte]
      first | rw [show (decide (t.2.2 < bs.length) && decide (0 < (rightsE es).length)) = decide (((rightsE es).length : Int) > 0) from by (rw [decide_eq_true hkb9, Bool.true_and, Bool.eq_iff_iff]; simp)] | rw [show (decide (t.2.2 < bs.length) && decide (0 < (rightsE es).length)) = false from by rw [decide_eq_false hkb9, Bool.false_and]]
      exact Weak.mk (by simp only [LeL, Le.refl, Le.any, and_self]) (fun _ _ h => h) rfl rfl
    simp only [maskL, setsL, putsO, putO, bA, Nat.reduceEqDiff, ↓reduceIte]
    refine AWp_cond rfl (fun hb51 => ?_) (fun hb51 => ?_)
    ·
     obtain ⟨hkb, hk0⟩ : t.2.2 < bs.length ∧ 0 < (rightsE es).length := by simpa using hb51
     obtain ⟨b, hb⟩ : ∃ b, bs[t.2.2]? = some b := ⟨_, List.getElem?_eq_getElem hkb⟩
     obtain ⟨k, hkd⟩ : ∃ k : Nat, k = b.val % (rightsE es).length := ⟨_, rfl⟩
     have hk : k < (rightsE es).length := by rw [hkd]; exact Nat.mod_lt _ hk0
     have hbv := b.isLt
     have hne : ((rightsE es).length : Int) ≠ 0 := by omega
     have hrem : Int.tmod ((b.val : Nat) : Int) (((rightsE es).length : Nat) : Int) = (k : Int) := by rw [hkd]; rfl
     have hcv : IntKind.i64.wrap ((b.val : Nat) : Int) = ((b.val : Nat) : Int) := wrap_in (by omega) (by omega)
     obtain ⟨e, he⟩ : ∃ e, (rightsE es)[k]? = some e := ⟨_, List.getElem?_eq_getElem hk⟩
     have hep : ((rightsE es).map EqT.p)[k]? = some e.p := by rw [List.getElem?_map, he]; rfl
     have hem := List.mem_of_getElem? hep
     have heo := hol e.p hem
     have hst := sumP_mem hem
     simp only [EqT.p] at hst
     have hw : IntKind.i64.wrap ((t.2.2 : Int) + 1) = (t.2.2 : Int) + 1 := wrap_in (by omega) (by omega)
     have hl2 := ht.1.len
     refine AWp_skip ?_
     try simp only [bF]
     refine hK47 _ ?_; try clear hK47 K47
     refine AWp_seqK fun K59 hK59 => ?_
     refine AWp_block ?_
     refine AWp_seqK fun K60 hK60 => ?_
     refine AWp_region ?_
     refine aops_chunk 1 fun C61 hC61 => ?_
     simp only [bL, ↓bO, bS, bA, bF, ↓reduceIte, Nat.reduceEqDiff, reduceCtorEq, tyX, List.length_map, hkb, hk, hrem, hcv, hne, ne_eq, not_false_eq_true, gM hb, gM he, EqT.cells, Ty.refold, hw, Int.natCast_add, Int.natCast_one, Int.cast_ofNat_Int]
     refine hC61 _ ?_; clear hC61 C61
     simp only [bL]
     refine aops_chunk 1 fun C62 hC62 => ?_
     simp only [bL, ↓bO, bS, bA, bF, ↓reduceIte, Nat.reduceEqDiff, reduceCtorEq, tyX, List.length_map, hkb, hk, hrem, hcv, hne, ne_eq, not_false_eq_true, gM hb, gM he, EqT.cells, Ty.refold, hw, Int.natCast_add, Int.natCast_one, Int.cast_ofNat_Int]
     refine hC62 _ ?_; clear hC62 C62
     simp only [bL]
     refine aops_chunk 1 fun C63 hC63 => ?_
     simp only [bL, ↓bO, bS, bA, bF, ↓reduceIte, Nat.reduceEqDiff, reduceCtorEq, tyX, List.length_map, hkb, hk, hrem, hcv, hne, ne_eq, not_false_eq_true, gM hb, gM he, EqT.cells, Ty.refold, hw, Int.natCast_add, Int.natCast_one, Int.cast_ofNat_Int]
     refine hC63 _ ?_; clear hC63 C63
     simp only [bL]
     refine aops_chunk 1 fun C64 hC64 => ?_
     simp only [bL, ↓bO, bS, bA, bF, ↓reduceIte, Nat.reduceEqDiff, reduceCtorEq, getO, aIndexA, es77, Int.natCast_nonneg, Int.ofNat_lt, Int.toNat_natCast, List.length_map, Int.le_refl, Int.toNat_zero, Int.toNat_one, Int.reduceLE, tyX, hkb, hk, hrem, hcv, hne, ne_eq, not_false_eq_true, gM hb, gM he, EqT.cells, Ty.refold, hw, Int.natCast_add, Int.natCast_one, Int.cast_ofNat_Int]
     refine hC64 _ ?_; clear hC64 C64
     simp only [bL]
     refine aops_chunk 1 fun C65 hC65 => ?_
     simp only [bL, ↓bO, bS, bA, bF, ↓reduceIte, Nat.reduceEqDiff, reduceCtorEq, aLoad, ti5, getO, pack, Nat.reduceAdd, Nat.reduceLeDiff, tyX, List.length_map, hkb, hk, hrem, hcv, hne, ne_eq, not_false_eq_true, gM hb, gM he, EqT.cells, Ty.refold, hw, Int.natCast_add, Int.natCast_one, Int.cast_ofNat_Int]
     refine hC65 _ ?_; clear hC65 C65
     simp only [bL]
     refine aops_chunk 1 fun C66 hC66 => ?_
     simp only [bL, ↓bO, bS, bA, bF, ↓reduceIte, Nat.reduceEqDiff, reduceCtorEq, aMore, aConv, iT5, iT3, tyX, List.length_map, hkb, hk, hrem, hcv, hne, ne_eq, not_false_eq_true, gM hb, gM he, EqT.cells, Ty.refold, hw, Int.natCast_add, Int.natCast_one, Int.cast_ofNat_Int]
     refine hC66 _ ?_; clear hC66 C66
     simp only [bL]
     refine aops_chunk 1 fun C67 hC67 => ?_
     simp only [bL, ↓bO, bS, bA, bF, ↓reduceIte, Nat.reduceEqDiff, reduceCtorEq, tyX, List.length_map, hkb, hk, hrem, hcv, hne, ne_eq, not_false_eq_true, gM hb, gM he, EqT.cells, Ty.refold, hw, Int.natCast_add, Int.natCast_one, Int.cast_ofNat_Int]
     refine hC67 _ ?_; clear hC67 C67
     simp only [bL]
     refine aops_chunk 1 fun C68 hC68 => ?_
     simp only [bL, ↓bO, bS, bA, bF, ↓reduceIte, Nat.reduceEqDiff, reduceCtorEq, getO, aLenX, aLen, ln61, List.length_map, tyX, hkb, hk, hrem, hcv, hne, ne_eq, not_false_eq_true, gM hb, gM he, EqT.cells, Ty.refold, hw, Int.natCast_add, Int.natCast_one, Int.cast_ofNat_Int]
     refine hC68 _ ?_; clear hC68 C68
     simp only [bL]
     refine aops_chunk 1 fun C69 hC69 => ?_
     simp only [bL, ↓bO, bS, bA, bF, ↓reduceIte, Nat.reduceEqDiff, reduceCtorEq, aBin, tyX, List.length_map, hkb, hk, hrem, hcv, hne, ne_eq, not_false_eq_true, gM hb, gM he, EqT.cells, Ty.refold, hw, Int.natCast_add, Int.natCast_one, Int.cast_ofNat_Int]
     refine hC69 _ ?_; clear hC69 C69
     simp only [bL]
     refine aops_chunk 1 fun C70 hC70 => ?_
     simp only [bL, ↓bO, bS, bA, bF, ↓reduceIte, Nat.reduceEqDiff, reduceCtorEq, getO, aIndexA, es61, Int.natCast_nonneg, Int.ofNat_lt, Int.toNat_natCast, List.length_map, Int.le_refl, Int.toNat_zero, Int.toNat_one, Int.reduceLE, tyX, hkb, hk, hrem, hcv, hne, ne_eq, not_false_eq_true, gM hb, gM he, EqT.cells, Ty.refold, hw, Int.natCast_add, Int.natCast_one, Int.cast_ofNat_Int]
     refine hC70 _ ?_; clear hC70 C70
     simp only [bL]
     refine aops_chunk 1 fun C71 hC71 => ?_
     simp only [bL, ↓bO, bS, bA, bF, ↓reduceIte, Nat.reduceEqDiff, reduceCtorEq, aLoad, ti73, getO, pack, Nat.reduceAdd, Nat.reduceLeDiff, tyX, List.length_map, hkb, hk, hrem, hcv, hne, ne_eq, not_false_eq_true, gM hb, gM he, EqT.cells, Ty.refold, hw, Int.natCast_add, Int.natCast_one, Int.cast_ofNat_Int]
     refine hC71 _ ?_; clear hC71 C71
     simp only [bL]
     refine aops_chunk 1 fun C72 hC72 => ?_
     simp only [bL, ↓bO, bS, bA, bF, ↓reduceIte, Nat.reduceEqDiff, reduceCtorEq, zc73, tyX, List.length_map, hkb, hk, hrem, hcv, hne, ne_eq, not_false_eq_true, gM hb, gM he, EqT.cells, Ty.refold, hw, Int.natCast_add, Int.natCast_one, Int.cast_ofNat_Int]
     refine hC72 _ ?_; clear hC72 C72
     simp only [bL]
     simp only [↓bO, bS, bA, bF, ↓reduceIte, Nat.reduceEqDiff, reduceCtorEq, aStore, ti73, getO, putO, splice, bL, Nat.reduceAdd, Nat.reduceLeDiff, tyX, List.length_map, hkb, hk, hrem, hcv, hne, ne_eq, not_false_eq_true, gM hb, gM he, EqT.cells, Ty.refold, hw, Int.natCast_add, Int.natCast_one, Int.cast_ofNat_Int]
     refine hK60 _ ?_; try clear hK60 K60
     refine AWp_seqK fun K73 hK73 => ?_
     refine AWp_seqK fun K74 hK74 => ?_
     refine AWp_region ?_
     refine aops_chunk 1 fun C75 hC75 => ?_
     simp only [bL, ↓bO, bS, bA, bF, ↓reduceIte, Nat.reduceEqDiff, reduceCtorEq, tyX, List.length_map, hkb, hk, hrem, hcv, hne, ne_eq, not_false_eq_true, gM hb, gM he, EqT.cells, Ty.refold, hw, Int.natCast_add, Int.natCast_one, Int.cast_ofNat_Int]
     refine hC75 _ ?_; clear hC75 C75
     simp only [bL]
     refine aops_chunk 1 fun C76 hC76 => ?_
     simp only [bL, ↓bO, bS, bA, bF, ↓reduceIte, Nat.reduceEqDiff, reduceCtorEq, tyX, List.length_map, hkb, hk, hrem, hcv, hne, ne_eq, not_false_eq_true, gM hb, gM he, EqT.cells, Ty.refold, hw, Int.natCast_add, Int.natCast_one, Int.cast_ofNat_Int]
     refine hC76 _ ?_; clear hC76 C76
     simp only [bL]
     refine aops_chunk 1 fun C77 hC77 => ?_
     simp only [bL, ↓bO, bS, bA, bF, ↓reduceIte, Nat.reduceEqDiff, reduceCtorEq, getO, aIndexA, es77, Int.natCast_nonneg, Int.ofNat_lt, Int.toNat_natCast, List.length_map, Int.le_refl, Int.toNat_zero, Int.toNat_one, Int.reduceLE, tyX, hkb, hk, hrem, hcv, hne, ne_eq, not_false_eq_true, gM hb, gM he, EqT.cells, Ty.refold, hw, Int.natCast_add, Int.natCast_one, Int.cast_ofNat_Int]
     refine hC77 _ ?_; clear hC77 C77
     simp only [bL]
     refine aops_chunk 1 fun C78 hC78 => ?_
     simp only [bL, ↓bO, bS, bA, bF, ↓reduceIte, Nat.reduceEqDiff, reduceCtorEq, aLoad, ti5, getO, pack, Nat.reduceAdd, Nat.reduceLeDiff, tyX, List.length_map, hkb, hk, hrem, hcv, hne, ne_eq, not_false_eq_true, gM hb, gM he, EqT.cells, Ty.refold, hw, Int.natCast_add, Int.natCast_one, Int.cast_ofNat_Int]
     refine hC78 _ ?_; clear hC78 C78
     simp only [bL]
     simp only [↓bO, bS, bA, bF, ↓reduceIte, Nat.reduceEqDiff, reduceCtorEq, aBin, tyX, List.length_map, hkb, hk, hrem, hcv, hne, ne_eq, not_false_eq_true, gM hb, gM he, EqT.cells, Ty.refold, hw, Int.natCast_add, Int.natCast_one, Int.cast_ofNat_Int]
     refine hK74 _ ?_; try clear hK74 K74
     refine AWp_cond rfl (fun hb69 => ?_) (fun hb69 => ?_)
     ·
      refine AWp_region ?_
      refine aops_chunk 1 fun C79 hC79 => ?_
      simp only [bL, ↓bO, bS, bA, bF, ↓reduceIte, Nat.reduceEqDiff, reduceCtorEq, aField, fo73_1, Nat.reduceAdd, tyX, List.length_map, hkb, hk, hrem, hcv, hne, ne_eq, not_false_eq_true, gM hb, gM he, EqT.cells, Ty.refold, hw, Int.natCast_add, Int.natCast_one, Int.cast_ofNat_Int, Ty.len_app, Ty.take3_app, Ty.drop3_app, Ty.drop6_app, List.append_assoc]
      refine hC79 _ ?_; clear hC79 C79
      simp only [bL]
      refine aops_chunk 1 fun C80 hC80 => ?_
      simp only [bL, ↓bO, bS, bA, bF, ↓reduceIte, Nat.reduceEqDiff, reduceCtorEq, aLoad, ti32, getO, pack, Nat.reduceAdd, Nat.reduceLeDiff, tyX, List.length_map, hkb, hk, hrem, hcv, hne, ne_eq, not_false_eq_true, gM hb, gM he, EqT.cells, Ty.refold, hw, Int.natCast_add, Int.natCast_one, Int.cast_ofNat_Int, Ty.len_app, Ty.take3_app, Ty.drop3_app, Ty.drop6_app, List.append_assoc]
      refine hC80 _ ?_; clear hC80 C80
      simp only [bL]
      refine aops_chunk 1 fun C81 hC81 => ?_
      simp only [bL, ↓bO, bS, bA, bF, ↓reduceIte, Nat.reduceEqDiff, reduceCtorEq, aField, fo73_0, Nat.reduceAdd, tyX, List.length_map, hkb, hk, hrem, hcv, hne, ne_eq, not_false_eq_true, gM hb, gM he, EqT.cells, Ty.refold, hw, Int.natCast_add, Int.natCast_one, Int.cast_ofNat_Int, Ty.len_app, Ty.take3_app, Ty.drop3_app, Ty.drop6_app, List.append_assoc]
      refine hC81 _ ?_; clear hC81 C81
      simp only [bL]
      refine aops_chunk 1 fun C82 hC82 => ?_
      simp only [bL, ↓bO, bS, bA, bF, ↓reduceIte, Nat.reduceEqDiff, reduceCtorEq, aLoad, ti32, getO, pack, Nat.reduceAdd, Nat.reduceLeDiff, tyX, List.length_map, hkb, hk, hrem, hcv, hne, ne_eq, not_false_eq_true, gM hb, gM he, EqT.cells, Ty.refold, hw, Int.natCast_add, Int.natCast_one, Int.cast_ofNat_Int, Ty.len_app, Ty.take3_app, Ty.drop3_app, Ty.drop6_app, List.append_assoc]
      refine hC82 _ ?_; clear hC82 C82
      simp only [bL]
      refine aops_chunk 1 fun C83 hC83 => ?_
      simp only [bL, ↓bO, bS, bA, bF, ↓reduceIte, Nat.reduceEqDiff, reduceCtorEq, aField, fo73_0, Nat.reduceAdd, tyX, List.length_map, hkb, hk, hrem, hcv, hne, ne_eq, not_false_eq_true, gM hb, gM he, EqT.cells, Ty.refold, hw, Int.natCast_add, Int.natCast_one, Int.cast_ofNat_Int, Ty.len_app, Ty.take3_app, Ty.drop3_app, Ty.drop6_app, List.append_assoc]
      refine hC83 _ ?_; clear hC83 C83
      simp only [bL]
      refine aops_chunk 1 fun C84 hC84 => ?_
      simp only [bL, ↓bO, bS, bA, bF, ↓reduceIte, Nat.reduceEqDiff, reduceCtorEq, aStore, ti32, getO, putO, splice, Nat.reduceAdd, Nat.reduceLeDiff, tyX, List.length_map, hkb, hk, hrem, hcv, hne, ne_eq, not_false_eq_true, gM hb, gM he, EqT.cells, Ty.refold, hw, Int.natCast_add, Int.natCast_one, Int.cast_ofNat_Int, Ty.len_app, Ty.take3_app, Ty.drop3_app, Ty.drop6_app, List.append_assoc]
      refine hC84 _ ?_; clear hC84 C84
      simp only [bL]
      refine aops_chunk 1 fun C85 hC85 => ?_
      simp only [bL, ↓bO, bS, bA, bF, ↓reduceIte, Nat.reduceEqDiff, reduceCtorEq, aField, fo73_1, Nat.reduceAdd, tyX, List.length_map, hkb, hk, hrem, hcv, hne, ne_eq, not_false_eq_true, gM hb, gM he, EqT.cells, Ty.refold, hw, Int.natCast_add, Int.natCast_one, Int.cast_ofNat_Int, Ty.len_app, Ty.take3_app, Ty.drop3_app, Ty.drop6_app, List.append_assoc]
      refine hC85 _ ?_; clear hC85 C85
      simp only [bL]
      simp only [↓bO, bS, bA, bF, ↓reduceIte, Nat.reduceEqDiff, reduceCtorEq, aStore, ti32, getO, putO, splice, bL, Nat.reduceAdd, Nat.reduceLeDiff, tyX, List.length_map, hkb, hk, hrem, hcv, hne, ne_eq, not_false_eq_true, gM hb, gM he, EqT.cells, Ty.refold, hw, Int.natCast_add, Int.natCast_one, Int.cast_ofNat_Int, Ty.len_app, Ty.take3_app, Ty.drop3_app, Ty.drop6_app, List.append_assoc]
      refine hK73 _ ?_; try clear hK73 K73
      refine AWp_region ?_
      refine aops_chunk 1 fun C86 hC86 => ?_
      simp only [bL, ↓bO, bS, bA, bF, ↓reduceIte, Nat.reduceEqDiff, reduceCtorEq, tyX, List.length_map, hkb, hk, hrem, hcv, hne, ne_eq, not_false_eq_true, gM hb, gM he, EqT.cells, Ty.refold, hw, Int.natCast_add, Int.natCast_one, Int.cast_ofNat_Int, Ty.len_app, Ty.take3_app, Ty.drop3_app, Ty.drop6_app, List.append_assoc]
      refine hC86 _ ?_; clear hC86 C86
      simp only [bL]
      refine aops_chunk 1 fun C87 hC87 => ?_
      simp only [bL, ↓bO, bS, bA, bF, ↓reduceIte, Nat.reduceEqDiff, reduceCtorEq, aField, fo73_0, Nat.reduceAdd, tyX, List.length_map, hkb, hk, hrem, hcv, hne, ne_eq, not_false_eq_true, gM hb, gM he, EqT.cells, Ty.refold, hw, Int.natCast_add, Int.natCast_one, Int.cast_ofNat_Int, Ty.len_app, Ty.take3_app, Ty.drop3_app, Ty.drop6_app, List.append_assoc]
      refine hC87 _ ?_; clear hC87 C87
      simp only [bL]
      refine aops_chunk 1 fun C88 hC88 => ?_
      simp only [bL, ↓bO, bS, bA, bF, ↓reduceIte, Nat.reduceEqDiff, reduceCtorEq, aLoad, ti32, getO, pack, Nat.reduceAdd, Nat.reduceLeDiff, tyX, List.length_map, hkb, hk, hrem, hcv, hne, ne_eq, not_false_eq_true, gM hb, gM he, EqT.cells, Ty.refold, hw, Int.natCast_add, Int.natCast_one, Int.cast_ofNat_Int, Ty.len_app, Ty.take3_app, Ty.drop3_app, Ty.drop6_app, List.append_assoc]
      refine hC88 _ ?_; clear hC88 C88
      simp only [bL]
      refine aops_chunk 1 fun C89 hC89 => ?_
      simp only [bL, ↓bO, bS, bA, bF, ↓reduceIte, Nat.reduceEqDiff, reduceCtorEq, aField, fo73_1, Nat.reduceAdd, tyX, List.length_map, hkb, hk, hrem, hcv, hne, ne_eq, not_false_eq_true, gM hb, gM he, EqT.cells, Ty.refold, hw, Int.natCast_add, Int.natCast_one, Int.cast_ofNat_Int, Ty.len_app, Ty.take3_app, Ty.drop3_app, Ty.drop6_app, List.append_assoc]
      refine hC89 _ ?_; clear hC89 C89
      simp only [bL]
      refine aops_chunk 1 fun C90 hC90 => ?_
      simp only [bL, ↓bO, bS, bA, bF, ↓reduceIte, Nat.reduceEqDiff, reduceCtorEq, aLoad, ti32, getO, pack, Nat.reduceAdd, Nat.reduceLeDiff, tyX, List.length_map, hkb, hk, hrem, hcv, hne, ne_eq, not_false_eq_true, gM hb, gM he, EqT.cells, Ty.refold, hw, Int.natCast_add, Int.natCast_one, Int.cast_ofNat_Int, Ty.len_app, Ty.take3_app, Ty.drop3_app, Ty.drop6_app, List.append_assoc]
      refine hC90 _ ?_; clear hC90 C90
      simp only [bL]
      simp only [↓bO, bS, bA, bF, ↓reduceIte, Nat.reduceEqDiff, reduceCtorEq, aCallV, bL, tyX, List.length_map, hkb, hk, hrem, hcv, hne, ne_eq, not_false_eq_true, gM hb, gM he, EqT.cells, Ty.refold, hw, Int.natCast_add, Int.natCast_one, Int.cast_ofNat_Int, Ty.len_app, Ty.take3_app, Ty.drop3_app, Ty.drop6_app, List.append_assoc]
      refine CCalls.at (Equate_c t.1 (nat2 (eqF t.2.1).2) (eqF t.2.1).1 e.r e.l (fun hc => (ht.1.good hc).1.2) (by omega) (by omega) (by omega)) (.cons (Ty.dataAgg _) (.cons (Ty.dataAgg _) .nil)) (fun _ => .v _) (i0 := 7) (i1 := 6) (i2 := 15) (i3 := 5) (i4 := 4) (i5 := 12) (i6 := 13) (i7 := 14) (by decide) (by simp) ⟨rfl, rfl, rfl, rfl, rfl, rfl, rfl, rfl, trivial⟩ (fun S2 r2 hE2 => ?_)
      try dsimp only at hE2
      simp only [cObsAt, List.zip_cons_cons, List.zip_nil_left, List.zip_nil_right, putsO, putO, Nat.reduceEqDiff, ↓reduceIte]
      have hc2 := ht.1.step (e := (e.r, e.l)) ⟨heo.2.1, heo.1, heo.2.2.2, heo.2.2.1⟩ hE2
      try simp only [bS, bA, bF]
      refine hK59 _ ?_; try clear hK59 K59
      refine AWp_region ?_
      refine aops_chunk 1 fun C91 hC91 => ?_
      simp only [bL, ↓bO, bS, bA, bF, ↓reduceIte, Nat.reduceEqDiff, reduceCtorEq, tyX, List.length_map, hkb, hk, hrem, hcv, hne, ne_eq, not_false_eq_true, gM hb, gM he, EqT.cells, Ty.refold, hw, Int.natCast_add, Int.natCast_one, Int.cast_ofNat_Int, Ty.len_app, Ty.take3_app, Ty.drop3_app, Ty.drop6_app, List.append_assoc]
      refine hC91 _ ?_; clear hC91 C91
      simp only [bL]
      refine aops_chunk 1 fun C92 hC92 => ?_
      simp only [bL, ↓bO, bS, bA, bF, ↓reduceIte, Nat.reduceEqDiff, reduceCtorEq, aBin, tyX, List.length_map, hkb, hk, hrem, hcv, hne, ne_eq, not_false_eq_true, gM hb, gM he, EqT.cells, Ty.refold, hw, Int.natCast_add, Int.natCast_one, Int.cast_ofNat_Int, Ty.len_app, Ty.take3_app, Ty.drop3_app, Ty.drop6_app, List.append_assoc]
      refine hC92 _ ?_; clear hC92 C92
      simp only [bL]
      simp only [↓bO, bS, bA, bF, ↓reduceIte, Nat.reduceEqDiff, reduceCtorEq, tyX, List.length_map, hkb, hk, hrem, hcv, hne, ne_eq, not_false_eq_true, gM hb, gM he, EqT.cells, Ty.refold, hw, Int.natCast_add, Int.natCast_one, Int.cast_ofNat_Int, Ty.len_app, Ty.take3_app, Ty.drop3_app, Ty.drop6_app, List.append_assoc]
      refine ⟨(S2, t.2.1 ++ [(e.r, e.l)], t.2.2 + 1), ⟨hc2, ht.2.1.snoc (.inr hem), by (rw [sumP_snoc]; simp only; omega), by simp only; omega⟩, (by simp only; omega), ?_⟩
      simp only [maskL, setsL, putsO, putO, List.set_cons_zero, List.set_cons_succ, Nat.reduceEqDiff, ↓reduceIte, Int.natCast_add, Int.natCast_one, Int.cast_ofNat_Int]
      refine Weak.sub ?_ ⟨rfl, rfl, rfl, rfl, rfl, rfl, rfl, rfl, rfl, rfl, rfl, rfl, rfl, rfl, rfl, rfl, trivial⟩ (by first | omega | (simp only; omega)) (by first | omega | (simp only; omega)) ?_ ?_
      · simp only [LeL, Le.refl, Le.any, and_self]
      · repeat' first | exact trivial | exact .any _ | exact .ptr (by omega) | exact .own (by omega) | exact .v _ _ | exact Und.data (EqT.dataSl _) | exact Und.data (dataInts _) | exact Und.data (dataBy _) | (refine ⟨?_, ?_⟩)
      · repeat' first | exact trivial | (with_reducible omega) | exact .any _ | exact .ptr (by omega) | exact .own (by omega) | exact .v _ _ | exact .map (by omega) | exact Und.oslG (by omega) | exact Und.rowI (nC_data _) | exact Und.rowI (iC_data _) | exact (fun p hp => .data (vC_data _ p hp)) | (refine ⟨?_, ?_⟩)
     ·
      refine AWp_skip ?_
      try simp only [bF]
      refine hK73 _ ?_; try clear hK73 K73
      refine AWp_region ?_
      refine aops_chunk 1 fun C93 hC93 => ?_
      simp only [bL, ↓bO, bS, bA, bF, ↓reduceIte, Nat.reduceEqDiff, reduceCtorEq, tyX, List.length_map, hkb, hk, hrem, hcv, hne, ne_eq, not_false_eq_true, gM hb, gM he, EqT.cells, Ty.refold, hw, Int.natCast_add, Int.natCast_one, Int.cast_ofNat_Int]
      refine hC93 _ ?_; clear hC93 C93
      simp only [bL]
      refine aops_chunk 1 fun C94 hC94 => ?_
      simp only [bL, ↓bO, bS, bA, bF, ↓reduceIte, Nat.reduceEqDiff, reduceCtorEq, aField, fo73_0, Nat.reduceAdd, tyX, List.length_map, hkb, hk, hrem, hcv, hne, ne_eq, not_false_eq_true, gM hb, gM he, EqT.cells, Ty.refold, hw, Int.natCast_add, Int.natCast_one, Int.cast_ofNat_Int]
      refine hC94 _ ?_; clear hC94 C94
      simp only [bL]
      refine aops_chunk 1 fun C95 hC95 => ?_
      simp only [bL, ↓bO, bS, bA, bF, ↓reduceIte, Nat.reduceEqDiff, reduceCtorEq, aLoad, ti32, getO, pack, Nat.reduceAdd, Nat.reduceLeDiff, tyX, List.length_map, hkb, hk, hrem, hcv, hne, ne_eq, not_false_eq_true, gM hb, gM he, EqT.cells, Ty.refold, hw, Int.natCast_add, Int.natCast_one, Int.cast_ofNat_Int]
      refine hC95 _ ?_; clear hC95 C95
      simp only [bL]
      refine aops_chunk 1 fun C96 hC96 => ?_
      simp only [bL, ↓bO, bS, bA, bF, ↓reduceIte, Nat.reduceEqDiff, reduceCtorEq, aField, fo73_1, Nat.reduceAdd, tyX, List.length_map, hkb, hk, hrem, hcv, hne, ne_eq, not_false_eq_true, gM hb, gM he, EqT.cells, Ty.refold, hw, Int.natCast_add, Int.natCast_one, Int.cast_ofNat_Int]
      refine hC96 _ ?_; clear hC96 C96
      simp only [bL]
      refine aops_chunk 1 fun C97 hC97 => ?_
      simp only [bL, ↓bO, bS, bA, bF, ↓reduceIte, Nat.reduceEqDiff, reduceCtorEq, aLoad, ti32, getO, pack, Nat.reduceAdd, Nat.reduceLeDiff, tyX, List.length_map, hkb, hk, hrem, hcv, hne, ne_eq, not_false_eq_true, gM hb, gM he, EqT.cells, Ty.refold, hw, Int.natCast_add, Int.natCast_one, Int.cast_ofNat_Int]
      refine hC97 _ ?_; clear hC97 C97
      simp only [bL]
      simp only [↓bO, bS, bA, bF, ↓reduceIte, Nat.reduceEqDiff, reduceCtorEq, aCallV, bL, tyX, List.length_map, hkb, hk, hrem, hcv, hne, ne_eq, not_false_eq_true, gM hb, gM he, EqT.cells, Ty.refold, hw, Int.natCast_add, Int.natCast_one, Int.cast_ofNat_Int]
      refine CCalls.at (Equate_c t.1 (nat2 (eqF t.2.1).2) (eqF t.2.1).1 e.l e.r (fun hc => (ht.1.good hc).1.2) (by omega) (by omega) (by omega)) (.cons (Ty.dataAgg _) (.cons (Ty.dataAgg _) .nil)) (fun _ => .v _) (i0 := 7) (i1 := 6) (i2 := 15) (i3 := 5) (i4 := 4) (i5 := 12) (i6 := 13) (i7 := 14) (by decide) (by simp) ⟨rfl, rfl, rfl, rfl, rfl, rfl, rfl, rfl, trivial⟩ (fun S2 r2 hE2 => ?_)
      try dsimp only at hE2
      simp only [cObsAt, List.zip_cons_cons, List.zip_nil_left, List.zip_nil_right, putsO, putO, Nat.reduceEqDiff, ↓reduceIte]
      have hc2 := ht.1.step (e := (e.l, e.r)) heo hE2
      try simp only [bS, bA, bF]
      refine hK59 _ ?_; try clear hK59 K59
      refine AWp_region ?_
      refine aops_chunk 1 fun C98 hC98 => ?_
      simp only [bL, ↓bO, bS, bA, bF, ↓reduceIte, Nat.reduceEqDiff, reduceCtorEq, tyX, List.length_map, hkb, hk, hrem, hcv, hne, ne_eq, not_false_eq_true, gM hb, gM he, EqT.cells, Ty.refold, hw, Int.natCast_add, Int.natCast_one, Int.cast_ofNat_Int]
      refine hC98 _ ?_; clear hC98 C98
      simp only [bL]
      refine aops_chunk 1 fun C99 hC99 => ?_
      simp only [bL, ↓bO, bS, bA, bF, ↓reduceIte, Nat.reduceEqDiff, reduceCtorEq, aBin, tyX, List.length_map, hkb, hk, hrem, hcv, hne, ne_eq, not_false_eq_true, gM hb, gM he, EqT.cells, Ty.refold, hw, Int.natCast_add, Int.natCast_one, Int.cast_ofNat_Int]
      refine hC99 _ ?_; clear hC99 C99
      simp only [bL]
      simp only [↓bO, bS, bA, bF, ↓reduceIte, Nat.reduceEqDiff, reduceCtorEq, tyX, List.length_map, hkb, hk, hrem, hcv, hne, ne_eq, not_false_eq_true, gM hb, gM he, EqT.cells, Ty.refold, hw, Int.natCast_add, Int.natCast_one, Int.cast_ofNat_Int]
      refine ⟨(S2, t.2.1 ++ [(e.l, e.r)], t.2.2 + 1), ⟨hc2, ht.2.1.snoc (.inl hem), by (rw [sumP_snoc]; simp only; omega), by simp only; omega⟩, (by simp only; omega), ?_⟩
      simp only [maskL, setsL, putsO, putO, List.set_cons_zero, List.set_cons_succ, Nat.reduceEqDiff, ↓reduceIte, Int.natCast_add, Int.natCast_one, Int.cast_ofNat_Int]
      refine Weak.sub ?_ ⟨rfl, rfl, rfl, rfl, rfl, rfl, rfl, rfl, rfl, rfl, rfl, rfl, rfl, rfl, rfl, rfl, trivial⟩ (by first | omega | (simp only; omega)) (by first | omega | (simp only; omega)) ?_ ?_
      · simp only [LeL, Le.refl, Le.any, and_self]
      · repeat' first | exact trivial | exact .any _ | exact .ptr (by omega) | exact .own (by omega) | exact .v _ _ | exact Und.data (EqT.dataSl _) | exact Und.data (dataInts _) | exact Und.data (dataBy _) | (refine ⟨?_, ?_⟩)
      · repeat' first | exact trivial | (with_reducible omega) | exact .any _ | exact .ptr (by omega) | exact .own (by omega) | exact .v _ _ | exact .map (by omega) | exact Und.oslG (by omega) | exact Und.rowI (nC_data _) | exact Und.rowI (iC_data _) | exact (fun p hp => .data (vC_data _ p hp)) | (refine ⟨?_, ?_⟩)
    ·
     obtain ⟨T0, hT0⟩ : ∃ T, T = t.1 := ⟨_, rfl⟩
     obtain ⟨D0, hD0⟩ : ∃ D, D = t.2.1 := ⟨_, rfl⟩
     have hCT0 : CSt D0 T0 := by rw [hT0, hD0]; exact ht.1
     have hsb0 : SubE D0 ((rightsE es).map EqT.p) := by rw [hD0]; exact ht.2.1
     have hsm0 : sumP D0 ≤ 6400 := by (rw [hD0]; have h8 := ht.2.2.1; have h9 := ht.2.2.2; omega)
     rw [← hT0]
     have hw0 : IntKind.i64.wrap (((rightsE es).length : Int) - 1) = ((rightsE es).length : Int) - 1 := wrap_in (by omega) (by omega)
     refine AWp_exit ?_
     simp only [bF, bA, Nat.reduceEqDiff, ↓reduceIte]
     refine hK45 _ ?_; try clear hK45 K45
     refine AWp_seqK fun K100 hK100 => ?_
     refine AWp_seqK fun K101 hK101 => ?_
     refine AWp_region ?_
     refine aops_chunk 1 fun C102 hC102 => ?_
     simp only [bL, ↓bO, bS, bA, bF, ↓reduceIte, Nat.reduceEqDiff, reduceCtorEq, tyX, List.length_map, hw0]
     refine hC102 _ ?_; clear hC102 C102
     simp only [bL]
     refine aops_chunk 1 fun C103 hC103 => ?_
     simp only [bL, ↓bO, bS, bA, bF, ↓reduceIte, Nat.reduceEqDiff, reduceCtorEq, getO, aLenX, aLen, ln61, List.length_map, tyX, hw0]
     refine hC103 _ ?_; clear hC103 C103
     simp only [bL]
     refine aops_chunk 1 fun C104 hC104 => ?_
     simp only [bL, ↓bO, bS, bA, bF, ↓reduceIte, Nat.reduceEqDiff, reduceCtorEq, aBin, tyX, List.length_map, hw0]
     refine hC104 _ ?_; clear hC104 C104
     simp only [bL]
     simp only [↓bO, bS, bA, bF, ↓reduceIte, Nat.reduceEqDiff, reduceCtorEq, tyX, List.length_map, hw0]
     refine hK101 _ ?_; try clear hK101 K101
     refine AWp_block ?_
     refine AWp_loopM (σ := CS × List (Ty × Ty) × Nat) [true, false, false, false, false, true, true, false, false, false, true, false, false, false, false, false, false, false, false, false, false, false, false, false, false, false, false, false, false, false, false, false, false, false, false, false, false, false, false, false, false, false, false, false, false, false, false, false, false, false, false, false, false, false, false, false, false, false, false, false, false, false, false, false, false, false, false, false, false, false, false, false, false, false, false, false, false, false, false, false, false, false, false, false, false, false, false, false, false, false, false, false, false, false, false, false, false, false, false, false, false, false, false, false, false, false, false, false, false, false, false, false, false, false, false, false, false, false, false, false, false, false, false, false, false, false, false, false, false, false, false, false, false, false, false, false, false, false, false, false, false, false, false, false, false, false, false, false, false, false, false, false] (fun z => CSt z.2.1 z.1 ∧ SubE z.2.1 ((rightsE es).map EqT.p) ∧ (∀ (j : Nat) (e : Ty × Ty), z.2.2 ≤ j → ((rightsE es).map EqT.p)[j]? = some e → (e.2, e.1) ∈ z.2.1) ∧ sumP z.2.1 + 160 * z.2.2 ≤ 9600 ∧ z.2.2 ≤ (rightsE es).length) (fun z => [(10, .v (.int .i64 ((z.2.2 : Int) - 1)))]) (fun z => [(7, .cells 119 [.v (.int .i64 z.1.steps), .ptr 6 0, .ptr 4 0, .own 14 z.1.W.length, .v (.bool z.1.clash)]), (6, .cells 91 [.osl 15 4 (z.1.G.N.map GNode.cells), .map 5]), (15, .tok 87 4 z.1.G.N.length), (5, .map (z.1.G.V.map vC)), (4, .cells 137 [.own 12 z.1.F.up.length, .own 13 z.1.F.rank.length, .v (.int .i64 z.1.F.sets), .v (.int .i64 z.1.F.steps)]), (12, .row 3 1 (z.1.F.up.map nC)), (13, .row 3 1 (z.1.F.rank.map intC)), (14, .row 3 1 (z.1.W.map intC))]) (fun z => z.2.2) (T0, D0, (rightsE es).length) (⟨hCT0, hsb0, fun j e h1 h2 => by (have h3 := (List.getElem?_eq_some_iff.1 h2).1; simp only [List.length_map] at h3; simp only at h1; omega), by simp only; omega, by simp only; omega⟩) ?_ (fun z hz => ?_)
     ·
      simp only [maskL, setsL, putsO, putO, bA, Nat.reduceEqDiff, ↓reduceIte]
      exact Weak.mk (by simp only [LeL, Le.refl, Le.any, Le.slNil, and_self, Int.natCast_add, Int.cast_ofNat_Int, Int.natCast_one]) (fun _ _ h => h) rfl rfl
     simp only [maskL, setsL, putsO, putO, bA, Nat.reduceEqDiff, ↓reduceIte]
     refine AWp_seqK fun K105 hK105 => ?_
     refine AWp_seqK fun K106 hK106 => ?_
     refine AWp_region ?_
     refine aops_chunk 1 fun C107 hC107 => ?_
     simp only [bL, ↓bO, bS, bA, bF, ↓reduceIte, Nat.reduceEqDiff, reduceCtorEq, tyX, List.length_map, hw0]
     refine hC107 _ ?_; clear hC107 C107
     simp only [bL]
     simp only [↓bO, bS, bA, bF, ↓reduceIte, Nat.reduceEqDiff, reduceCtorEq, aBin, tyX, List.length_map, hw0]
     refine hK106 _ ?_; try clear hK106 K106
     refine AWp_cond rfl (fun hb86 => ?_) (fun hb86 => ?_)
     ·
      obtain ⟨j, hj⟩ : ∃ j, z.2.2 = j + 1 := ⟨z.2.2 - 1, by (have h9 := hb86; simp at h9; omega)⟩
      have hji : ((z.2.2 : Nat) : Int) - 1 = (j : Int) := by omega
      have hk : j < (rightsE es).length := by have := hz.2.2.2.2; omega
      obtain ⟨e, he⟩ : ∃ e, (rightsE es)[j]? = some e := ⟨_, List.getElem?_eq_getElem hk⟩
      have hep : ((rightsE es).map EqT.p)[j]? = some e.p := by rw [List.getElem?_map, he]; rfl
      have hem := List.mem_of_getElem? hep
      have heo := hol e.p hem
      have hst := sumP_mem hem
      simp only [EqT.p] at hst
      have hw : IntKind.i64.wrap ((j : Int) - 1) = (j : Int) - 1 := wrap_in (by omega) (by omega)
      have hl2 := hz.1.len
      have hz4 := hz.2.2.2.1
      have hmore := more_snoc hj hz.2.2.1 hep
      simp only [EqT.p] at hmore
      refine AWp_skip ?_
      try simp only [bF]
      refine hK105 _ ?_; try clear hK105 K105
      refine AWp_seqK fun K108 hK108 => ?_
      refine AWp_block ?_
      refine AWp_drawK 11 mixed (by kernel_rfl) fun K109 hK109 => ?_
      simp only [bL]
      refine dRun_chunk 1 fun C110 hC110 => ?_
      simp only [bL, ↓dRun, ↓dOp, ↓bO, bS, bA, bF, ↓reduceIte, Nat.reduceEqDiff, reduceCtorEq, tyX, List.length_map, hk, hji, gM he, EqT.cells, Ty.refold, hw, Int.natCast_add, Int.natCast_one, Int.cast_ofNat_Int, hw0]
      refine hC110 _ ?_; clear hC110 C110
      simp only [bL]
      refine dRun_chunk 1 fun C111 hC111 => ?_
      simp only [bL, ↓dRun, ↓dOp, ↓bO, bS, bA, bF, ↓reduceIte, Nat.reduceEqDiff, reduceCtorEq, tyX, List.length_map, hk, hji, gM he, EqT.cells, Ty.refold, hw, Int.natCast_add, Int.natCast_one, Int.cast_ofNat_Int, hw0]
      refine hC111 _ ?_; clear hC111 C111
      simp only [bL]
      refine dRun_chunk 1 fun C112 hC112 => ?_
      simp only [bL, ↓dRun, ↓dOp, ↓bO, bS, bA, bF, ↓reduceIte, Nat.reduceEqDiff, reduceCtorEq, tyX, List.length_map, hk, hji, gM he, EqT.cells, Ty.refold, hw, Int.natCast_add, Int.natCast_one, Int.cast_ofNat_Int, hw0]
      refine hC112 _ ?_; clear hC112 C112
      simp only [bL]
      refine dRun_chunk 1 fun C113 hC113 => ?_
      simp only [bL, ↓dRun, ↓dOp, ↓bO, bS, bA, bF, ↓reduceIte, Nat.reduceEqDiff, reduceCtorEq, getO, aIndexA, es61, Int.natCast_nonneg, Int.ofNat_lt, Int.toNat_natCast, List.length_map, Int.le_refl, Int.toNat_zero, Int.toNat_one, Int.reduceLE, tyX, hk, hji, gM he, EqT.cells, Ty.refold, hw, Int.natCast_add, Int.natCast_one, Int.cast_ofNat_Int, hw0]
      refine hC113 _ ?_; clear hC113 C113
      simp only [bL]
      refine dRun_chunk 1 fun C114 hC114 => ?_
      simp only [bL, ↓dRun, ↓dOp, ↓bO, bS, bA, bF, ↓reduceIte, Nat.reduceEqDiff, reduceCtorEq, aField, fo73_1, Nat.reduceAdd, tyX, List.length_map, hk, hji, gM he, EqT.cells, Ty.refold, hw, Int.natCast_add, Int.natCast_one, Int.cast_ofNat_Int, hw0]
      refine hC114 _ ?_; clear hC114 C114
      simp only [bL]
      refine dRun_chunk 1 fun C115 hC115 => ?_
      simp only [bL, ↓dRun, ↓dOp, ↓bO, bS, bA, bF, ↓reduceIte, Nat.reduceEqDiff, reduceCtorEq, aLoad, ti32, getO, pack, Nat.reduceAdd, Nat.reduceLeDiff, tyX, List.length_map, hk, hji, gM he, EqT.cells, Ty.refold, hw, Int.natCast_add, Int.natCast_one, Int.cast_ofNat_Int, hw0]
      refine hC115 _ ?_; clear hC115 C115
      simp only [bL]
      refine dRun_chunk 1 fun C116 hC116 => ?_
      simp only [bL, ↓dRun, ↓dOp, ↓bO, bS, bA, bF, ↓reduceIte, Nat.reduceEqDiff, reduceCtorEq, tyX, List.length_map, hk, hji, gM he, EqT.cells, Ty.refold, hw, Int.natCast_add, Int.natCast_one, Int.cast_ofNat_Int, hw0]
      refine hC116 _ ?_; clear hC116 C116
      simp only [bL]
      refine dRun_chunk 1 fun C117 hC117 => ?_
      simp only [bL, ↓dRun, ↓dOp, ↓bO, bS, bA, bF, ↓reduceIte, Nat.reduceEqDiff, reduceCtorEq, tyX, List.length_map, hk, hji, gM he, EqT.cells, Ty.refold, hw, Int.natCast_add, Int.natCast_one, Int.cast_ofNat_Int, hw0]
      refine hC117 _ ?_; clear hC117 C117
      simp only [bL]
      refine dRun_chunk 1 fun C118 hC118 => ?_
      simp only [bL, ↓dRun, ↓dOp, ↓bO, bS, bA, bF, ↓reduceIte, Nat.reduceEqDiff, reduceCtorEq, getO, aIndexA, es61, Int.natCast_nonneg, Int.ofNat_lt, Int.toNat_natCast, List.length_map, Int.le_refl, Int.toNat_zero, Int.toNat_one, Int.reduceLE, tyX, hk, hji, gM he, EqT.cells, Ty.refold, hw, Int.natCast_add, Int.natCast_one, Int.cast_ofNat_Int, hw0]
      refine hC118 _ ?_; clear hC118 C118
      simp only [bL]
      refine dRun_chunk 1 fun C119 hC119 => ?_
      simp only [bL, ↓dRun, ↓dOp, ↓bO, bS, bA, bF, ↓reduceIte, Nat.reduceEqDiff, reduceCtorEq, aField, fo73_0, Nat.reduceAdd, tyX, List.length_map, hk, hji, gM he, EqT.cells, Ty.refold, hw, Int.natCast_add, Int.natCast_one, Int.cast_ofNat_Int, hw0]
      refine hC119 _ ?_; clear hC119 C119
      simp only [bL]
      simp only [↓dRun, ↓dOp, bL, ↓bO, bS, bA, bF, ↓reduceIte, Nat.reduceEqDiff, reduceCtorEq, aLoad, ti32, getO, pack, Nat.reduceAdd, Nat.reduceLeDiff, tyX, List.length_map, hk, hji, gM he, EqT.cells, Ty.refold, hw, Int.natCast_add, Int.natCast_one, Int.cast_ofNat_Int, hw0]
      refine hK109 _ ?_; try clear hK109 K109
      simp only [bL]
      simp only [↓bO, bS, bA, bF, ↓reduceIte, Nat.reduceEqDiff, reduceCtorEq, aCallV, bL, tyX, List.length_map, hk, hji, gM he, EqT.cells, Ty.refold, hw, Int.natCast_add, Int.natCast_one, Int.cast_ofNat_Int, hw0]
      refine CCalls.at (Equate_c z.1 (nat2 (eqF z.2.1).2) (eqF z.2.1).1 e.r e.l (fun hc => (hz.1.good hc).1.2) (by omega) (by omega) (by omega)) (.cons (Ty.dataAgg _) (.cons (Ty.dataAgg _) .nil)) (fun _ => .v _) (i0 := 7) (i1 := 6) (i2 := 15) (i3 := 5) (i4 := 4) (i5 := 12) (i6 := 13) (i7 := 14) (by decide) (by simp) ⟨rfl, rfl, rfl, rfl, rfl, rfl, rfl, rfl, trivial⟩ (fun S2 r2 hE2 => ?_)
      try dsimp only at hE2
      simp only [cObsAt, List.zip_cons_cons, List.zip_nil_left, List.zip_nil_right, putsO, putO, Nat.reduceEqDiff, ↓reduceIte]
      have hc2 := hz.1.step (e := (e.r, e.l)) ⟨heo.2.1, heo.1, heo.2.2.2, heo.2.2.1⟩ hE2
      try simp only [bS, bA, bF]
      refine hK108 _ ?_; try clear hK108 K108
      refine AWp_region ?_
      refine aops_chunk 1 fun C120 hC120 => ?_
      simp only [bL, ↓bO, bS, bA, bF, ↓reduceIte, Nat.reduceEqDiff, reduceCtorEq, tyX, List.length_map, hk, hji, gM he, EqT.cells, Ty.refold, hw, Int.natCast_add, Int.natCast_one, Int.cast_ofNat_Int, hw0]
      refine hC120 _ ?_; clear hC120 C120
      simp only [bL]
      refine aops_chunk 1 fun C121 hC121 => ?_
      simp only [bL, ↓bO, bS, bA, bF, ↓reduceIte, Nat.reduceEqDiff, reduceCtorEq, aBin, tyX, List.length_map, hk, hji, gM he, EqT.cells, Ty.refold, hw, Int.natCast_add, Int.natCast_one, Int.cast_ofNat_Int, hw0]
      refine hC121 _ ?_; clear hC121 C121
      simp only [bL]
      simp only [↓bO, bS, bA, bF, ↓reduceIte, Nat.reduceEqDiff, reduceCtorEq, tyX, List.length_map, hk, hji, gM he, EqT.cells, Ty.refold, hw, Int.natCast_add, Int.natCast_one, Int.cast_ofNat_Int, hw0]
      refine ⟨(S2, z.2.1 ++ [(e.r, e.l)], j), ⟨hc2, hz.2.1.snoc (.inr hem), hmore, by (rw [sumP_snoc]; simp only; omega), by simp only; omega⟩, (by simp only; omega), ?_⟩
      simp only [maskL, setsL, putsO, putO, List.set_cons_zero, List.set_cons_succ, Nat.reduceEqDiff, ↓reduceIte, Int.natCast_add, Int.natCast_one, Int.cast_ofNat_Int]
      refine Weak.sub ?_ ⟨rfl, rfl, rfl, rfl, rfl, rfl, rfl, rfl, rfl, rfl, rfl, rfl, rfl, rfl, rfl, rfl, trivial⟩ (by first | omega | (simp only; omega)) (by first | omega | (simp only; omega)) ?_ ?_
      · simp only [LeL, Le.refl, Le.any, and_self]
      · repeat' first | exact trivial | exact .any _ | exact .ptr (by omega) | exact .own (by omega) | exact .v _ _ | exact Und.data (EqT.dataSl _) | exact Und.data (dataInts _) | exact Und.data (dataBy _) | (refine ⟨?_, ?_⟩)
      · repeat' first | exact trivial | (with_reducible omega) | exact .any _ | exact .ptr (by omega) | exact .own (by omega) | exact .v _ _ | exact .map (by omega) | exact Und.oslG (by omega) | exact Und.rowI (nC_data _) | exact Und.rowI (iC_data _) | exact (fun p hp => .data (vC_data _ p hp)) | (refine ⟨?_, ?_⟩)
     ·
      have hk : z.2.2 = 0 := by have h9 := hb86; simp at h9; omega
      obtain ⟨T, hT⟩ : ∃ T, T = z.1 := ⟨_, rfl⟩
      obtain ⟨D, hD⟩ : ∃ D, D = z.2.1 := ⟨_, rfl⟩
      have hCD : CSt D T := by rw [hT, hD]; exact hz.1
      have hsub2 : SubE D ((rightsE es).map EqT.p) := by rw [hD]; exact hz.2.1
      have hsub : SubE ((rightsE es).map EqT.p) D := fun e he => by (obtain ⟨j, hj⟩ := List.mem_iff_getElem?.1 he; right; rw [hD]; exact hz.2.2.1 j e (by omega) hj)
      have hsmD : sumP D ≤ 9600 := by (rw [hD]; have h9 := hz.2.2.2.1; omega)
      have hod := hCD.ok
      rw [← hT]
      refine AWp_exit ?_
      simp only [bF, bA, Nat.reduceEqDiff, ↓reduceIte]
      refine hK100 _ ?_; try clear hK100 K100
      refine AWp_seqK fun K122 hK122 => ?_
      have hcl : T.clash = S.clash := hsub.clash hsub2 hCS hCD
      have h64 : S.clash = false → ∀ q ∈ S.G.V, is64 q.1 := fun hc q hq => vns_64 (hCS.good hc).1.2.rel q.1 (by rw [← (hCS.good hc).2]; exact List.mem_map.2 ⟨q, hq, rfl⟩)
      have h64T : T.clash = false → ∀ q ∈ T.G.V, is64 q.1 := fun hc q hq => vns_64 (hCD.good hc).1.2.rel q.1 (by rw [← (hCD.good hc).2]; exact List.mem_map.2 ⟨q, hq, rfl⟩)
      have hVl : S.clash = false → S.G.V.length ≤ 10000 := fun hc => by (have h1 := congrArg List.length (hCS.good hc).2; rw [List.length_map] at h1; have h2 := vns_len (eqF ((rightsE es).map EqT.p)).1; have h3 := (hCS.good hc).1.2.rel.len; have h4 := hCS.len; omega)
      have hVlT : T.clash = false → T.G.V.length ≤ 10000 := fun hc => by (have h1 := congrArg List.length (hCD.good hc).2; rw [List.length_map] at h1; have h2 := vns_len (eqF D).1; have h3 := (hCD.good hc).1.2.rel.len; have h4 := hCD.len; omega)
      obtain ⟨L, hL⟩ : ∃ L, L = if S.clash = true then [] else sortI (S.G.V.map Prod.fst) := ⟨_, rfl⟩
      have hLD : L = if T.clash = true then [] else sortI (T.G.V.map Prod.fst) := by (rw [hL]; exact (hsub.list hsub2 hCS hCD).symm)
      have hLl : L.length ≤ 10000 := by rw [hL]; exact ifSort_len hVl
      refine AWp_seqK fun K123 hK123 => ?_
      refine AWp_region ?_
      refine aops_chunk 1 fun C124 hC124 => ?_
      simp only [bL, ↓bO, bS, bA, bF, ↓reduceIte, Nat.reduceEqDiff, reduceCtorEq, tyX, List.length_map, hw0]
      refine hC124 _ ?_; clear hC124 C124
      simp only [bL]
      refine aops_chunk 1 fun C125 hC125 => ?_
      simp only [bL, ↓bO, bS, bA, bF, ↓reduceIte, Nat.reduceEqDiff, reduceCtorEq, aCallV, tyX, List.length_map, hw0]
      refine CCalls.at (Err_c S) (.nil) (fun _ => .v _) (i0 := 3) (i1 := 2) (i2 := 11) (i3 := 1) (i4 := 0) (i5 := 8) (i6 := 9) (i7 := 10) (by decide) (by simp) ⟨rfl, rfl, rfl, rfl, rfl, rfl, rfl, rfl, trivial⟩ (fun Z9 u9 hZ9 => ?_)
      try dsimp only at hZ9
      simp only [cObsAt, List.zip_cons_cons, List.zip_nil_left, List.zip_nil_right, putsO, putO, Nat.reduceEqDiff, ↓reduceIte]
      obtain rfl : S = Z9 := hZ9.symm
      try simp only [bS, bA, bF]
      refine hC125 _ ?_; clear hC125 C125
      simp only [bL]
      refine aops_chunk 1 fun C126 hC126 => ?_
      simp only [bL, ↓bO, bS, bA, bF, ↓reduceIte, Nat.reduceEqDiff, reduceCtorEq, tyX, List.length_map, hw0]
      refine hC126 _ ?_; clear hC126 C126
      simp only [bL]
      refine aops_chunk 1 fun C127 hC127 => ?_
      simp only [bL, ↓bO, bS, bA, bF, ↓reduceIte, Nat.reduceEqDiff, reduceCtorEq, aCallV, tyX, List.length_map, hw0]
      refine CCalls.at (Err_c T) (.nil) (fun _ => .v _) (i0 := 7) (i1 := 6) (i2 := 15) (i3 := 5) (i4 := 4) (i5 := 12) (i6 := 13) (i7 := 14) (by decide) (by simp) ⟨rfl, rfl, rfl, rfl, rfl, rfl, rfl, rfl, trivial⟩ (fun Z9 u9 hZ9 => ?_)
      try dsimp only at hZ9
      simp only [cObsAt, List.zip_cons_cons, List.zip_nil_left, List.zip_nil_right, putsO, putO, Nat.reduceEqDiff, ↓reduceIte]
      obtain rfl : T = Z9 := hZ9.symm
      try simp only [bS, bA, bF]
      refine hC127 _ ?_; clear hC127 C127
      simp only [bL]
      refine aops_chunk 1 fun C128 hC128 => ?_
      simp only [bL, ↓bO, bS, bA, bF, ↓reduceIte, Nat.reduceEqDiff, reduceCtorEq, aBin, tyX, List.length_map, hw0]
      refine hC128 _ ?_; clear hC128 C128
      simp only [bL]
      refine aops_chunk 1 fun C129 hC129 => ?_
      simp only [bL, ↓bO, bS, bA, bF, ↓reduceIte, Nat.reduceEqDiff, reduceCtorEq, tyX, List.length_map, hw0]
      refine hC129 _ ?_; clear hC129 C129
      simp only [bL]
      refine aops_case 106 rfl (fun hc106 => ?_) (fun hc106 => ?_)
      ·
       simp only [List.set_cons_zero, List.set_cons_succ]
       exact absurd hc106 (by rw [hcl]; simp)
      ·
       simp only [List.set_cons_zero, List.set_cons_succ]
       refine aops_chunk 1 fun C130 hC130 => ?_
       simp only [bL, ↓bO, bS, bA, bF, ↓reduceIte, Nat.reduceEqDiff, reduceCtorEq, undef, tyX, List.length_map, hw0]
       refine hC130 _ ?_; clear hC130 C130
       simp only [bL]
       refine aops_chunk 1 fun C131 hC131 => ?_
       simp only [bL, ↓bO, bS, bA, bF, ↓reduceIte, Nat.reduceEqDiff, reduceCtorEq, undef, aCallV, tyX, List.length_map, hw0]
       refine CCalls.at (CVars2_c S h64 (fun hc => by (have h9 := hVl hc; omega))) (.nil) (fun _ => dataInts _) (i0 := 3) (i1 := 2) (i2 := 11) (i3 := 1) (i4 := 0) (i5 := 8) (i6 := 9) (i7 := 10) (by decide) (by simp) ⟨rfl, rfl, rfl, rfl, rfl, rfl, rfl, rfl, trivial⟩ (fun Z9 u9 hZ9 => ?_)
       try dsimp only at hZ9
       simp only [cObsAt, List.zip_cons_cons, List.zip_nil_left, List.zip_nil_right, putsO, putO, Nat.reduceEqDiff, ↓reduceIte]
       obtain rfl : S = Z9 := hZ9.symm
       rw [← hL]
       try simp only [bS, bA, bF]
       refine hC131 _ ?_; clear hC131 C131
       simp only [bL]
       refine aops_chunk 1 fun C132 hC132 => ?_
       simp only [bL, ↓bO, bS, bA, bF, ↓reduceIte, Nat.reduceEqDiff, reduceCtorEq, undef, tyX, List.length_map, hw0]
       refine hC132 _ ?_; clear hC132 C132
       simp only [bL]
       refine aops_chunk 1 fun C133 hC133 => ?_
       simp only [bL, ↓bO, bS, bA, bF, ↓reduceIte, Nat.reduceEqDiff, reduceCtorEq, undef, aCallV, tyX, List.length_map, hw0]
       refine CCalls.at (CVars2_c T h64T (fun hc => by (have h9 := hVlT hc; omega))) (.nil) (fun _ => dataInts _) (i0 := 7) (i1 := 6) (i2 := 15) (i3 := 5) (i4 := 4) (i5 := 12) (i6 := 13) (i7 := 14) (by decide) (by simp) ⟨rfl, rfl, rfl, rfl, rfl, rfl, rfl, rfl, trivial⟩ (fun Z9 u9 hZ9 => ?_)
       try dsimp only at hZ9
       simp only [cObsAt, List.zip_cons_cons, List.zip_nil_left, List.zip_nil_right, putsO, putO, Nat.reduceEqDiff, ↓reduceIte]
       obtain rfl : T = Z9 := hZ9.symm
       rw [← hLD]
       try simp only [bS, bA, bF]
       refine hC133 _ ?_; clear hC133 C133
       simp only [bL]
       refine aops_chunk 1 fun C134 hC134 => ?_
       simp only [bL, ↓bO, bS, bA, bF, ↓reduceIte, Nat.reduceEqDiff, reduceCtorEq, undef, aCallV, tyX, List.length_map, hw0]
       refine APure.call (Ints_pure L L) ?_
       try simp only [bS, bA, bF]
       refine hC134 _ ?_; clear hC134 C134
       simp only [bL]
       refine aops_chunk 1 fun C135 hC135 => ?_
       simp only [bL, ↓bO, bS, bA, bF, ↓reduceIte, Nat.reduceEqDiff, reduceCtorEq, undef, aUn, tyX, List.length_map, hw0]
       refine hC135 _ ?_; clear hC135 C135
       simp only [bL]
       simp only [↓bO, bS, bA, bF, ↓reduceIte, Nat.reduceEqDiff, reduceCtorEq, aBool, tyX, List.length_map, hw0]
       refine hK123 _ ?_; try clear hK123 K123
       refine AWp_cond rfl (fun hb113 => ?_) (fun hb113 => ?_)
       ·
        exact absurd hb113 (by simp)
       ·
        refine AWp_skip ?_
        try simp only [bF]
        refine hK122 _ ?_; try clear hK122 K122
        refine AWp_seqK fun K136 hK136 => ?_
        refine AWp_region ?_
        refine aops_chunk 1 fun C137 hC137 => ?_
        simp only [bL, ↓bO, bS, bA, bF, ↓reduceIte, Nat.reduceEqDiff, reduceCtorEq, tyX, List.length_map, hw0]
        refine hC137 _ ?_; clear hC137 C137
        simp only [bL]
        refine aops_chunk 1 fun C138 hC138 => ?_
        simp only [bL, ↓bO, bS, bA, bF, ↓reduceIte, Nat.reduceEqDiff, reduceCtorEq, aCallV, tyX, List.length_map, hw0]
        refine CCalls.at (CVars2_c S h64 (fun hc => by (have h9 := hVl hc; omega))) (.nil) (fun _ => dataInts _) (i0 := 3) (i1 := 2) (i2 := 11) (i3 := 1) (i4 := 0) (i5 := 8) (i6 := 9) (i7 := 10) (by decide) (by simp) ⟨rfl, rfl, rfl, rfl, rfl, rfl, rfl, rfl, trivial⟩ (fun Z9 u9 hZ9 => ?_)
        try dsimp only at hZ9
        simp only [cObsAt, List.zip_cons_cons, List.zip_nil_left, List.zip_nil_right, putsO, putO, Nat.reduceEqDiff, ↓reduceIte]
        obtain rfl : S = Z9 := hZ9.symm
        rw [← hL]
        try simp only [bS, bA, bF]
        refine hC138 _ ?_; clear hC138 C138
        simp only [bL]
        simp only [↓bO, bS, bA, bF, ↓reduceIte, Nat.reduceEqDiff, reduceCtorEq, tyX, List.length_map, hw0]
        refine hK136 _ ?_; try clear hK136 K136
        refine AWp_seqK fun K139 hK139 => ?_
        refine AWp_seqK fun K140 hK140 => ?_
        refine AWp_region ?_
        simp only [↓bO, bS, bA, bF, ↓reduceIte, Nat.reduceEqDiff, reduceCtorEq, tyX, List.length_map, hw0]
        refine hK140 _ ?_; try clear hK140 K140
        refine AWp_block ?_
        refine AWp_loopM (σ := FS × FS × Nat) [false, false, false, false, false, true, true, false, false, false, false, true, true, false, false, false, false, false, false, false, false, false, false, false, false, false, false, false, false, false, false, false, false, false, false, false, false, false, false, false, false, false, false, false, false, false, false, false, false, false, false, false, false, false, false, false, false, false, false, false, false, false, false, false, false, false, false, false, false, false, false, false, false, false, false, false, false, false, false, false, false, false, false, false, false, false, false, false, false, false, false, false, false, false, false, false, false, false, false, false, false, false, false, false, false, false, false, false, false, false, false, false, false, false, false, false, false, false, false, false, false, false, false, false, false, false, false, false, false, false, false, false, false, false, false, false, false, false, false, false, false, false, false, false, false, false, false, false, false, false, false, false] (fun x => (S.clash = false → FSame S.F x.1) ∧ (T.clash = false → FSame T.F x.2.1) ∧ x.2.2 ≤ L.length) (fun x => [(12, .v (.int .i64 (x.2.2 : Int)))]) (fun x => [(0, .cells 137 [.own 8 x.1.up.length, .own 9 x.1.rank.length, .v (.int .i64 x.1.sets), .v (.int .i64 x.1.steps)]), (8, .row 3 1 (x.1.up.map nC)), (9, .row 3 1 (x.1.rank.map intC)), (4, .cells 137 [.own 12 x.2.1.up.length, .own 13 x.2.1.rank.length, .v (.int .i64 x.2.1.sets), .v (.int .i64 x.2.1.steps)]), (12, .row 3 1 (x.2.1.up.map nC)), (13, .row 3 1 (x.2.1.rank.map intC))]) (fun x => L.length - x.2.2) (S.F, T.F, 0) (⟨fun hc => FSame.refl (hCS.good hc).1.2.w.c.f, fun hc => FSame.refl (hCD.good hc).1.2.w.c.f, Nat.zero_le _⟩) ?_ (fun x hx => ?_)
        ·
         simp only [maskL, setsL, putsO, putO, bA, Nat.reduceEqDiff, ↓reduceIte]
         exact Weak.mk (by simp only [LeL, Le.refl, Le.any, Le.slNil, and_self, Int.natCast_add, Int.cast_ofNat_Int, Int.natCast_one]) (fun _ _ h => h) rfl rfl
        simp only [maskL, setsL, putsO, putO, bA, Nat.reduceEqDiff, ↓reduceIte]
        refine AWp_seqK fun K141 hK141 => ?_
        refine AWp_seqK fun K142 hK142 => ?_
        refine AWp_region ?_
        refine aops_chunk 1 fun C143 hC143 => ?_
        simp only [bL, ↓bO, bS, bA, bF, ↓reduceIte, Nat.reduceEqDiff, reduceCtorEq, tyX, List.length_map, hw0]
        refine hC143 _ ?_; clear hC143 C143
        simp only [bL]
        refine aops_chunk 1 fun C144 hC144 => ?_
        simp only [bL, ↓bO, bS, bA, bF, ↓reduceIte, Nat.reduceEqDiff, reduceCtorEq, tyX, List.length_map, hw0]
        refine hC144 _ ?_; clear hC144 C144
        simp only [bL]
        refine aops_chunk 1 fun C145 hC145 => ?_
        simp only [bL, ↓bO, bS, bA, bF, ↓reduceIte, Nat.reduceEqDiff, reduceCtorEq, getO, aLenX, aLen, ln28, List.length_map, tyX, hw0]
        refine hC145 _ ?_; clear hC145 C145
        simp only [bL]
        simp only [↓bO, bS, bA, bF, ↓reduceIte, Nat.reduceEqDiff, reduceCtorEq, aBin, tyX, List.length_map, hw0]
        refine hK142 _ ?_; try clear hK142 K142
        refine AWp_cond rfl (fun hb119 => ?_) (fun hb119 => ?_)
        ·
         have hka : x.2.2 < L.length := by simpa using hb119
         have hcS : S.clash = false := by (cases hc : S.clash; rfl; exact absurd hka (by rw [hL, if_pos hc]; simp))
         have hcT : T.clash = false := by rw [hcl]; exact hcS
         have hxS := hx.1 hcS
         have hxT := hx.2.1 hcT
         have hHc : Holds ((rightsE es).map EqT.p) { S with F := x.1 } := (hCS.good hcS).1.fsame hxS rfl
         have hHd : Holds D { T with F := x.2.1 } := (hCD.good hcT).1.fsame hxT rfl
         have hLS : sortI (S.G.V.map Prod.fst) = L := by rw [hL, if_neg (by rw [hcS]; decide)]
         have hLT : sortI (T.G.V.map Prod.fst) = L := by rw [hLD, if_neg (by rw [hcT]; decide)]
         have hV1 := hVl hcS
         have hV2 := hVlT hcT
         obtain ⟨a, ha⟩ : ∃ a, L[x.2.2]? = some a := ⟨_, List.getElem?_eq_getElem hka⟩
         have hwa : IntKind.i64.wrap ((x.2.2 : Int) + 1) = (x.2.2 : Int) + 1 := wrap_in (by omega) (by omega)
         refine AWp_skip ?_
         try simp only [bF]
         refine hK141 _ ?_; try clear hK141 K141
         refine AWp_seqK fun K146 hK146 => ?_
         refine AWp_block ?_
         refine AWp_seqK fun K147 hK147 => ?_
         refine NAny_start 29 [11] rfl mixed ?_
         dsimp only
         refine NAny_takeK 0 rfl (by kernel_rfl) (by kernel_rfl) (by kernel_rfl) (fun _ _ h => h) (by kernel_rfl) (fun d h => by cases h; rfl) (by kernel_rfl) (G' := [11]) (by kernel_rfl) fun K148 hK148 => ?_
         simp only [nHead, isE, isSE, isV, ↓bO, bS, bA, bF, ↓reduceIte, Nat.reduceEqDiff, reduceCtorEq, tyX, List.length_map, hka, gM ha, hwa, intC, Int.natCast_add, Int.natCast_one, Int.cast_ofNat_Int, hw0]
         refine hK148 _ ?_; try clear hK148 K148
         refine NAny_takeK 1 rfl (by kernel_rfl) (by kernel_rfl) (by kernel_rfl) (fun _ _ h => h) (by kernel_rfl) (fun d h => by cases h; rfl) (by kernel_rfl) (G' := [123, 11]) (by kernel_rfl) fun K149 hK149 => ?_
         simp only [nHead, isE, isSE, isV, ↓bO, bS, bA, bF, ↓reduceIte, Nat.reduceEqDiff, reduceCtorEq, tyX, List.length_map, hka, gM ha, hwa, intC, Int.natCast_add, Int.natCast_one, Int.cast_ofNat_Int, hw0]
         refine hK149 _ ?_; try clear hK149 K149
         refine NAny_takeK 2 rfl (by kernel_rfl) (by kernel_rfl) (by kernel_rfl) (fun _ _ h => h) (by kernel_rfl) (fun d h => by cases h; rfl) (by kernel_rfl) (G' := [123, 11]) (by kernel_rfl) fun K150 hK150 => ?_
         simp only [nHead, isE, isSE, isV, ↓bO, bS, bA, bF, ↓reduceIte, Nat.reduceEqDiff, reduceCtorEq, tyX, List.length_map, hka, gM ha, hwa, intC, Int.natCast_add, Int.natCast_one, Int.cast_ofNat_Int, hw0]
         refine hK150 _ ?_; try clear hK150 K150
         refine NAny_takeK 3 rfl (by kernel_rfl) (by kernel_rfl) (by kernel_rfl) (fun _ _ h => h) (by kernel_rfl) (fun d h => by cases h; rfl) (by kernel_rfl) (G' := [125, 123, 11]) (by kernel_rfl) fun K151 hK151 => ?_
         simp only [nHead, isE, isSE, isV, ↓bO, bS, bA, bF, ↓reduceIte, Nat.reduceEqDiff, reduceCtorEq, getO, aIndexA, es28, Int.natCast_nonneg, Int.ofNat_lt, Int.toNat_natCast, List.length_map, Int.le_refl, Int.toNat_zero, Int.toNat_one, Int.reduceLE, tyX, hka, gM ha, hwa, intC, Int.natCast_add, Int.natCast_one, Int.cast_ofNat_Int, hw0]
         refine hK151 _ ?_; try clear hK151 K151
         refine NAny_takeK 4 rfl (by kernel_rfl) (by kernel_rfl) (by kernel_rfl) (fun _ _ h => h) (by kernel_rfl) (fun d h => by cases h; rfl) (by kernel_rfl) (G' := [126, 125, 123, 11]) (by kernel_rfl) fun K152 hK152 => ?_
         simp only [nHead, isE, isSE, isV, ↓bO, bS, bA, bF, ↓reduceIte, Nat.reduceEqDiff, reduceCtorEq, aLoad, ti3, getO, pack, bL, Nat.reduceAdd, Nat.reduceLeDiff, tyX, List.length_map, hka, gM ha, hwa, intC, Int.natCast_add, Int.natCast_one, Int.cast_ofNat_Int, hw0]
         refine hK152 _ ?_; try clear hK152 K152
         refine NAny_takeK 6 rfl (by kernel_rfl) (by kernel_rfl) (by kernel_rfl) (fun _ _ h => h) (by kernel_rfl) (fun d h => by cases h; rfl) (by kernel_rfl) (G' := [126, 125, 123, 11]) (by kernel_rfl) fun K153 hK153 => ?_
         simp only [nHead, isE, isSE, isV, ↓bO, bS, bA, bF, ↓reduceIte, Nat.reduceEqDiff, reduceCtorEq, tyX, List.length_map, hka, gM ha, hwa, intC, Int.natCast_add, Int.natCast_one, Int.cast_ofNat_Int, hw0]
         refine hK153 _ ?_; try clear hK153 K153
         refine NAny_takeK 7 rfl (by kernel_rfl) (by kernel_rfl) (by kernel_rfl) (fun _ _ h => h) (by kernel_rfl) (fun d h => by cases h; rfl) (by kernel_rfl) (G' := [129, 126, 125, 123, 11]) (by kernel_rfl) fun K154 hK154 => ?_
         simp only [nHead, isE, isSE, isV, ↓bO, bS, bA, bF, ↓reduceIte, Nat.reduceEqDiff, reduceCtorEq, tyX, List.length_map, hka, gM ha, hwa, intC, Int.natCast_add, Int.natCast_one, Int.cast_ofNat_Int, hw0]
         refine hK154 _ ?_; try clear hK154 K154
         refine NAny_takeK 8 rfl (by kernel_rfl) (by kernel_rfl) (by kernel_rfl) (fun _ _ h => h) (by kernel_rfl) (fun d h => by cases h; rfl) (by kernel_rfl) (G' := [129, 126, 125, 123, 11]) (by kernel_rfl) fun K155 hK155 => ?_
         simp only [nHead, isE, isSE, isV, ↓bO, bS, bA, bF, ↓reduceIte, Nat.reduceEqDiff, reduceCtorEq, tyX, List.length_map, hka, gM ha, hwa, intC, Int.natCast_add, Int.natCast_one, Int.cast_ofNat_Int, hw0]
         refine hK155 _ ?_; try clear hK155 K155
         refine NAny_takeK 9 rfl (by kernel_rfl) (by kernel_rfl) (by kernel_rfl) (fun _ _ h => h) (by kernel_rfl) (fun d h => by cases h; rfl) (by kernel_rfl) (G' := [131, 129, 126, 125, 123, 11]) (by kernel_rfl) fun K156 hK156 => ?_
         simp only [nHead, isE, isSE, isV, ↓bO, bS, bA, bF, ↓reduceIte, Nat.reduceEqDiff, reduceCtorEq, getO, aIndexA, es28, Int.natCast_nonneg, Int.ofNat_lt, Int.toNat_natCast, List.length_map, Int.le_refl, Int.toNat_zero, Int.toNat_one, Int.reduceLE, tyX, hka, gM ha, hwa, intC, Int.natCast_add, Int.natCast_one, Int.cast_ofNat_Int, hw0]
         refine hK156 _ ?_; try clear hK156 K156
         refine NAny_takeK 10 rfl (by kernel_rfl) (by kernel_rfl) (by kernel_rfl) (fun _ _ h => h) (by kernel_rfl) (fun d h => by cases h; rfl) (by kernel_rfl) (G' := [132, 131, 129, 126, 125, 123, 11]) (by kernel_rfl) fun K157 hK157 => ?_
         simp only [nHead, isE, isSE, isV, ↓bO, bS, bA, bF, ↓reduceIte, Nat.reduceEqDiff, reduceCtorEq, aLoad, ti3, getO, pack, bL, Nat.reduceAdd, Nat.reduceLeDiff, tyX, List.length_map, hka, gM ha, hwa, intC, Int.natCast_add, Int.natCast_one, Int.cast_ofNat_Int, hw0]
         refine hK157 _ ?_; try clear hK157 K157
         refine NAny_all1 (i := 5) (by kernel_rfl) rfl (fun d h => by cases h; rfl) ?_
         refine aAt_op rfl rfl fun K158 hK158 => ?_
         simp only [↓bO, bS, bA, bF, ↓reduceIte, Nat.reduceEqDiff, reduceCtorEq, aCallV, bL, tyX, List.length_map, hka, gM ha, hwa, intC, Int.natCast_add, Int.natCast_one, Int.cast_ofNat_Int, hw0]
         refine CCalls.at (CKind_c { S with F := x.1 } hHc.2.w.c.f hHc.2.w.c.fl hHc.2.w.c.wr hHc.2.vin a) (.cons (.v _) .nil) (fun _ => .v _) (i0 := 3) (i1 := 2) (i2 := 11) (i3 := 1) (i4 := 0) (i5 := 8) (i6 := 9) (i7 := 10) (by decide) (by simp) ⟨rfl, rfl, rfl, rfl, rfl, rfl, rfl, rfl, trivial⟩ (fun Z1 k1 hX1 => ?_)
         try dsimp only at hX1
         simp only [cObsAt, List.zip_cons_cons, List.zip_nil_left, List.zip_nil_right, putsO, putO, Nat.reduceEqDiff, ↓reduceIte]
         obtain ⟨F1, rfl⟩ : ∃ F1, Z1 = { S with F := F1 } := ⟨Z1.F, hX1.2.1⟩
         dsimp only at hX1
         have hK1 : KindR { S with F := x.1 } a k1 := hX1.2.2
         have hHc1 : Holds ((rightsE es).map EqT.p) { S with F := F1 } := hHc.fsame hX1.1 rfl
         try simp only [bS, bA]
         refine hK158 _ ⟨⟨rfl, rfl, rfl, rfl, rfl, rfl, rfl, trivial⟩, ?_⟩
         try clear hK158 K158
         refine NAny_all1 (i := 11) (by kernel_rfl) rfl (fun d h => by cases h; rfl) ?_
         refine aAt_op rfl rfl fun K159 hK159 => ?_
         simp only [↓bO, bS, bA, bF, ↓reduceIte, Nat.reduceEqDiff, reduceCtorEq, aCallV, bL, tyX, List.length_map, hka, gM ha, hwa, intC, Int.natCast_add, Int.natCast_one, Int.cast_ofNat_Int, hw0]
         refine CCalls.at (CKind_c { T with F := x.2.1 } hHd.2.w.c.f hHd.2.w.c.fl hHd.2.w.c.wr hHd.2.vin a) (.cons (.v _) .nil) (fun _ => .v _) (i0 := 7) (i1 := 6) (i2 := 15) (i3 := 5) (i4 := 4) (i5 := 12) (i6 := 13) (i7 := 14) (by decide) (by simp) ⟨rfl, rfl, rfl, rfl, rfl, rfl, rfl, rfl, trivial⟩ (fun Z2 k2 hX2 => ?_)
         try dsimp only at hX2
         simp only [cObsAt, List.zip_cons_cons, List.zip_nil_left, List.zip_nil_right, putsO, putO, Nat.reduceEqDiff, ↓reduceIte]
         obtain ⟨F2, rfl⟩ : ∃ F2, Z2 = { T with F := F2 } := ⟨Z2.F, hX2.2.1⟩
         dsimp only at hX2
         have hK2 : KindR { T with F := x.2.1 } a k2 := hX2.2.2
         have hHd1 : Holds D { T with F := F2 } := hHd.fsame hX2.1 rfl
         have hk12 : k1 = k2 := hsub.kind hsub2 hHc hHd hol hod hK1 hK2
         try simp only [bS, bA]
         refine hK159 _ ⟨⟨rfl, rfl, rfl, rfl, rfl, rfl, rfl, trivial⟩, ?_⟩
         try clear hK159 K159
         refine NAny_all1 (i := 12) (by kernel_rfl) rfl (fun d h => by cases h; rfl) ?_
         refine aAt_op rfl rfl fun K160 hK160 => ?_
         simp only [↓bO, bS, bA, bF, ↓reduceIte, Nat.reduceEqDiff, reduceCtorEq, aBin, tyX, List.length_map, hka, gM ha, hwa, intC, Int.natCast_add, Int.natCast_one, Int.cast_ofNat_Int, hw0]
         refine hK160 _ ⟨⟨rfl, rfl, rfl, rfl, rfl, rfl, rfl, trivial⟩, ?_⟩
         try clear hK160 K160
         refine NAny_takeK 13 rfl (by kernel_rfl) (by kernel_rfl) (by kernel_rfl) (fun _ _ h => h) (by kernel_rfl) (fun d h => by cases h; rfl) (by kernel_rfl) (G' := [132, 131, 129, 126, 125, 123, 11]) (by kernel_rfl) fun K161 hK161 => ?_
         simp only [nHead, isE, isSE, isV, ↓bO, bS, bA, bF, ↓reduceIte, Nat.reduceEqDiff, reduceCtorEq, tyX, List.length_map, hka, gM ha, hwa, intC, Int.natCast_add, Int.natCast_one, Int.cast_ofNat_Int, hw0]
         refine hK161 _ ?_; try clear hK161 K161
         refine NAny_case 135 rfl (fun hc135 => ?_) (fun hc135 => ?_)
         ·
          simp only [List.set_cons_zero, List.set_cons_succ]
          exact absurd hc135 (by rw [hk12]; simp)
         ·
          simp only [List.set_cons_zero, List.set_cons_succ]
          refine NAny_takeK 14 rfl (by kernel_rfl) (by kernel_rfl) (by kernel_rfl) (fun _ _ h => h) (by kernel_rfl) (fun d h => by cases h; rfl) (by kernel_rfl) (G' := [132, 131, 129, 126, 125, 123, 11]) (by kernel_rfl) fun K162 hK162 => ?_
          simp only [nHead, isE, isSE, isV, ↓bO, bS, bA, bF, ↓reduceIte, Nat.reduceEqDiff, reduceCtorEq, bL, undef, tyX, List.length_map, hka, gM ha, hwa, intC, Int.natCast_add, Int.natCast_one, Int.cast_ofNat_Int, hw0]
          refine hK162 _ ?_; try clear hK162 K162
          refine NAny_takeK 15 rfl (by kernel_rfl) (by kernel_rfl) (by kernel_rfl) (fun _ _ h => h) (by kernel_rfl) (fun d h => by cases h; rfl) (by kernel_rfl) (G' := [137, 132, 131, 129, 126, 125, 123, 11]) (by kernel_rfl) fun K163 hK163 => ?_
          simp only [nHead, isE, isSE, isV, ↓bO, bS, bA, bF, ↓reduceIte, Nat.reduceEqDiff, reduceCtorEq, bL, undef, tyX, List.length_map, hka, gM ha, hwa, intC, Int.natCast_add, Int.natCast_one, Int.cast_ofNat_Int, hw0]
          refine hK163 _ ?_; try clear hK163 K163
          refine NAny_takeK 16 rfl (by kernel_rfl) (by kernel_rfl) (by kernel_rfl) (fun _ _ h => h) (by kernel_rfl) (fun d h => by cases h; rfl) (by kernel_rfl) (G' := [137, 132, 131, 129, 126, 125, 123, 11]) (by kernel_rfl) fun K164 hK164 => ?_
          simp only [nHead, isE, isSE, isV, ↓bO, bS, bA, bF, ↓reduceIte, Nat.reduceEqDiff, reduceCtorEq, bL, undef, tyX, List.length_map, hka, gM ha, hwa, intC, Int.natCast_add, Int.natCast_one, Int.cast_ofNat_Int, hw0]
          refine hK164 _ ?_; try clear hK164 K164
          refine NAny_takeK 17 rfl (by kernel_rfl) (by kernel_rfl) (by kernel_rfl) (fun _ _ h => h) (by kernel_rfl) (fun d h => by cases h; rfl) (by kernel_rfl) (G' := [139, 137, 132, 131, 129, 126, 125, 123, 11]) (by kernel_rfl) fun K165 hK165 => ?_
          simp only [nHead, isE, isSE, isV, ↓bO, bS, bA, bF, ↓reduceIte, Nat.reduceEqDiff, reduceCtorEq, bL, undef, getO, aIndexA, es28, Int.natCast_nonneg, Int.ofNat_lt, Int.toNat_natCast, List.length_map, Int.le_refl, Int.toNat_zero, Int.toNat_one, Int.reduceLE, tyX, hka, gM ha, hwa, intC, Int.natCast_add, Int.natCast_one, Int.cast_ofNat_Int, hw0]
          refine hK165 _ ?_; try clear hK165 K165
          refine NAny_takeK 18 rfl (by kernel_rfl) (by kernel_rfl) (by kernel_rfl) (fun _ _ h => h) (by kernel_rfl) (fun d h => by cases h; rfl) (by kernel_rfl) (G' := [140, 139, 137, 132, 131, 129, 126, 125, 123, 11]) (by kernel_rfl) fun K166 hK166 => ?_
          simp only [nHead, isE, isSE, isV, ↓bO, bS, bA, bF, ↓reduceIte, Nat.reduceEqDiff, reduceCtorEq, bL, undef, aLoad, ti3, getO, pack, Nat.reduceAdd, Nat.reduceLeDiff, tyX, List.length_map, hka, gM ha, hwa, intC, Int.natCast_add, Int.natCast_one, Int.cast_ofNat_Int, hw0]
          refine hK166 _ ?_; try clear hK166 K166
          refine NAny_takeK 20 rfl (by kernel_rfl) (by kernel_rfl) (by kernel_rfl) (fun _ _ h => h) (by kernel_rfl) (fun d h => by cases h; rfl) (by kernel_rfl) (G' := [140, 139, 137, 132, 131, 129, 126, 125, 123, 11]) (by kernel_rfl) fun K167 hK167 => ?_
          simp only [nHead, isE, isSE, isV, ↓bO, bS, bA, bF, ↓reduceIte, Nat.reduceEqDiff, reduceCtorEq, bL, undef, tyX, List.length_map, hka, gM ha, hwa, intC, Int.natCast_add, Int.natCast_one, Int.cast_ofNat_Int, hw0]
          refine hK167 _ ?_; try clear hK167 K167
          refine NAny_takeK 21 rfl (by kernel_rfl) (by kernel_rfl) (by kernel_rfl) (fun _ _ h => h) (by kernel_rfl) (fun d h => by cases h; rfl) (by kernel_rfl) (G' := [143, 140, 139, 137, 132, 131, 129, 126, 125, 123, 11]) (by kernel_rfl) fun K168 hK168 => ?_
          simp only [nHead, isE, isSE, isV, ↓bO, bS, bA, bF, ↓reduceIte, Nat.reduceEqDiff, reduceCtorEq, bL, undef, tyX, List.length_map, hka, gM ha, hwa, intC, Int.natCast_add, Int.natCast_one, Int.cast_ofNat_Int, hw0]
          refine hK168 _ ?_; try clear hK168 K168
          refine NAny_takeK 22 rfl (by kernel_rfl) (by kernel_rfl) (by kernel_rfl) (fun _ _ h => h) (by kernel_rfl) (fun d h => by cases h; rfl) (by kernel_rfl) (G' := [143, 140, 139, 137, 132, 131, 129, 126, 125, 123, 11]) (by kernel_rfl) fun K169 hK169 => ?_
          simp only [nHead, isE, isSE, isV, ↓bO, bS, bA, bF, ↓reduceIte, Nat.reduceEqDiff, reduceCtorEq, bL, undef, tyX, List.length_map, hka, gM ha, hwa, intC, Int.natCast_add, Int.natCast_one, Int.cast_ofNat_Int, hw0]
          refine hK169 _ ?_; try clear hK169 K169
          refine NAny_takeK 23 rfl (by kernel_rfl) (by kernel_rfl) (by kernel_rfl) (fun _ _ h => h) (by kernel_rfl) (fun d h => by cases h; rfl) (by kernel_rfl) (G' := [145, 143, 140, 139, 137, 132, 131, 129, 126, 125, 123, 11]) (by kernel_rfl) fun K170 hK170 => ?_
          simp only [nHead, isE, isSE, isV, ↓bO, bS, bA, bF, ↓reduceIte, Nat.reduceEqDiff, reduceCtorEq, bL, undef, getO, aIndexA, es28, Int.natCast_nonneg, Int.ofNat_lt, Int.toNat_natCast, List.length_map, Int.le_refl, Int.toNat_zero, Int.toNat_one, Int.reduceLE, tyX, hka, gM ha, hwa, intC, Int.natCast_add, Int.natCast_one, Int.cast_ofNat_Int, hw0]
          refine hK170 _ ?_; try clear hK170 K170
          refine NAny_takeK 24 rfl (by kernel_rfl) (by kernel_rfl) (by kernel_rfl) (fun _ _ h => h) (by kernel_rfl) (fun d h => by cases h; rfl) (by kernel_rfl) (G' := [146, 145, 143, 140, 139, 137, 132, 131, 129, 126, 125, 123, 11]) (by kernel_rfl) fun K171 hK171 => ?_
          simp only [nHead, isE, isSE, isV, ↓bO, bS, bA, bF, ↓reduceIte, Nat.reduceEqDiff, reduceCtorEq, bL, undef, aLoad, ti3, getO, pack, Nat.reduceAdd, Nat.reduceLeDiff, tyX, List.length_map, hka, gM ha, hwa, intC, Int.natCast_add, Int.natCast_one, Int.cast_ofNat_Int, hw0]
          refine hK171 _ ?_; try clear hK171 K171
          refine NAny_all1 (i := 19) (by kernel_rfl) rfl (fun d h => by cases h; rfl) ?_
          refine aAt_if rfl fun K172 hK172 => ?_
          simp only [↓bO, bS, bA, bF, ↓reduceIte, Nat.reduceEqDiff, reduceCtorEq, bL, undef, aCallV, tyX, List.length_map, hka, gM ha, hwa, intC, Int.natCast_add, Int.natCast_one, Int.cast_ofNat_Int, hw0]
          refine CCalls.at (Class_c { S with F := F1 } hHc1.2.w.c.f hcS hHc1.2.vin (h64 hcS) (by simp only; omega) a) (.cons (.v _) .nil) (fun _ => dataInts _) (i0 := 3) (i1 := 2) (i2 := 11) (i3 := 1) (i4 := 0) (i5 := 8) (i6 := 9) (i7 := 10) (by decide) (by simp) ⟨rfl, rfl, rfl, rfl, rfl, rfl, rfl, rfl, trivial⟩ (fun Z3 u3 hX3 => ?_)
          try dsimp only at hX3
          simp only [cObsAt, List.zip_cons_cons, List.zip_nil_left, List.zip_nil_right, putsO, putO, Nat.reduceEqDiff, ↓reduceIte]
          obtain ⟨F3, rfl⟩ : ∃ F3, Z3 = { S with F := F3 } := ⟨Z3.F, hX3.2⟩
          dsimp only at hX3
          rw [show sortI (S.G.V.map Prod.fst) = L from hLS]
          obtain ⟨K, hK⟩ : ∃ K, K = clsF { S with F := F1 } a L := ⟨_, rfl⟩
          rw [← hK]
          try simp only [bS, bA]
          refine hK172 _ ⟨⟨rfl, rfl, rfl, rfl, rfl, rfl, rfl, rfl, rfl, rfl, rfl, rfl, rfl, trivial⟩, ?_⟩
          try clear hK172 K172
          refine NAny_all1 (i := 25) (by kernel_rfl) rfl (fun d h => by cases h; rfl) ?_
          refine aAt_if rfl fun K173 hK173 => ?_
          simp only [↓bO, bS, bA, bF, ↓reduceIte, Nat.reduceEqDiff, reduceCtorEq, bL, undef, aCallV, tyX, List.length_map, hka, gM ha, hwa, intC, Int.natCast_add, Int.natCast_one, Int.cast_ofNat_Int, hw0]
          refine CCalls.at (Class_c { T with F := F2 } hHd1.2.w.c.f hcT hHd1.2.vin (h64T hcT) (by simp only; omega) a) (.cons (.v _) .nil) (fun _ => dataInts _) (i0 := 7) (i1 := 6) (i2 := 15) (i3 := 5) (i4 := 4) (i5 := 12) (i6 := 13) (i7 := 14) (by decide) (by simp) ⟨rfl, rfl, rfl, rfl, rfl, rfl, rfl, rfl, trivial⟩ (fun Z4 u4 hX4 => ?_)
          try dsimp only at hX4
          simp only [cObsAt, List.zip_cons_cons, List.zip_nil_left, List.zip_nil_right, putsO, putO, Nat.reduceEqDiff, ↓reduceIte]
          obtain ⟨F4, rfl⟩ : ∃ F4, Z4 = { T with F := F4 } := ⟨Z4.F, hX4.2⟩
          dsimp only at hX4
          rw [show sortI (T.G.V.map Prod.fst) = L from hLT]
          rw [← hsub.clsF hsub2 hHc1 hHd1 hol hod a L, ← hK]
          try simp only [bS, bA]
          refine hK173 _ ⟨⟨rfl, rfl, rfl, rfl, rfl, rfl, rfl, rfl, rfl, rfl, rfl, rfl, rfl, trivial⟩, ?_⟩
          try clear hK173 K173
          refine NAny_all1 (i := 26) (by kernel_rfl) rfl (fun d h => by cases h; rfl) ?_
          refine aAt_if rfl fun K174 hK174 => ?_
          simp only [↓bO, bS, bA, bF, ↓reduceIte, Nat.reduceEqDiff, reduceCtorEq, bL, undef, aCallV, tyX, List.length_map, hka, gM ha, hwa, intC, Int.natCast_add, Int.natCast_one, Int.cast_ofNat_Int, hw0]
          refine APure.call (Ints_pure K K) ?_
          try simp only [bS, bA]
          refine hK174 _ ⟨⟨rfl, rfl, rfl, rfl, rfl, rfl, rfl, rfl, rfl, rfl, rfl, rfl, rfl, trivial⟩, ?_⟩
          try clear hK174 K174
          refine NAny_all1 (i := 27) (by kernel_rfl) rfl (fun d h => by cases h; rfl) ?_
          refine aAt_if rfl fun K175 hK175 => ?_
          simp only [↓bO, bS, bA, bF, ↓reduceIte, Nat.reduceEqDiff, reduceCtorEq, bL, undef, aUn, tyX, List.length_map, hka, gM ha, hwa, intC, Int.natCast_add, Int.natCast_one, Int.cast_ofNat_Int, hw0]
          refine hK175 _ ⟨⟨rfl, rfl, rfl, rfl, rfl, rfl, rfl, rfl, rfl, rfl, rfl, rfl, rfl, trivial⟩, ?_⟩
          try clear hK175 K175
          refine NAny_all1 (i := 28) (by kernel_rfl) rfl (fun d h => by cases h; rfl) ?_
          refine aAt_op rfl rfl fun K176 hK176 => ?_
          simp only [↓bO, bS, bA, bF, ↓reduceIte, Nat.reduceEqDiff, reduceCtorEq, aBool, tyX, List.length_map, hka, gM ha, hwa, intC, Int.natCast_add, Int.natCast_one, Int.cast_ofNat_Int, hw0]
          refine hK176 _ ⟨⟨rfl, rfl, rfl, rfl, rfl, rfl, rfl, rfl, rfl, rfl, rfl, rfl, rfl, trivial⟩, ?_⟩
          try clear hK176 K176
          refine NAny_done (by kernel_rfl) ?_
          simp only [bF]
          refine hK147 _ ?_; try clear hK147 K147
          refine AWp_cond rfl (fun hb150 => ?_) (fun hb150 => ?_)
          ·
           exact absurd hb150 (by simp)
          ·
           refine AWp_skip ?_
           try simp only [bF]
           refine hK146 _ ?_; try clear hK146 K146
           refine AWp_region ?_
           refine aops_chunk 1 fun C177 hC177 => ?_
           simp only [bL, ↓bO, bS, bA, bF, ↓reduceIte, Nat.reduceEqDiff, reduceCtorEq, tyX, List.length_map, hka, gM ha, hwa, intC, Int.natCast_add, Int.natCast_one, Int.cast_ofNat_Int, hw0]
           refine hC177 _ ?_; clear hC177 C177
           simp only [bL]
           refine aops_chunk 1 fun C178 hC178 => ?_
           simp only [bL, ↓bO, bS, bA, bF, ↓reduceIte, Nat.reduceEqDiff, reduceCtorEq, aBin, tyX, List.length_map, hka, gM ha, hwa, intC, Int.natCast_add, Int.natCast_one, Int.cast_ofNat_Int, hw0]
           refine hC178 _ ?_; clear hC178 C178
           simp only [bL]
           simp only [↓bO, bS, bA, bF, ↓reduceIte, Nat.reduceEqDiff, reduceCtorEq, tyX, List.length_map, hka, gM ha, hwa, intC, Int.natCast_add, Int.natCast_one, Int.cast_ofNat_Int, hw0]
           refine ⟨(F3, F4, x.2.2 + 1), ⟨fun _ => (hxS.trans hX1.1).trans hX3.1, fun _ => (hxT.trans hX2.1).trans hX4.1, by simp only; omega⟩, (by simp only; omega), ?_⟩
           simp only [maskL, setsL, putsO, putO, List.set_cons_zero, List.set_cons_succ, Nat.reduceEqDiff, ↓reduceIte, Int.natCast_add, Int.natCast_one, Int.cast_ofNat_Int]
           refine Weak.sub ?_ ⟨rfl, rfl, rfl, rfl, rfl, rfl, rfl, rfl, rfl, rfl, rfl, rfl, rfl, rfl, rfl, rfl, trivial⟩ (by first | omega | (simp only; omega)) (by first | omega | (simp only; omega)) ?_ ?_
           · simp only [LeL, Le.refl, Le.any, and_self]
           · repeat' first | exact trivial | exact .any _ | exact .ptr (by omega) | exact .own (by omega) | exact .v _ _ | exact Und.data (EqT.dataSl _) | exact Und.data (dataInts _) | exact Und.data (dataBy _) | (refine ⟨?_, ?_⟩)
           · repeat' first | exact trivial | (with_reducible omega) | exact .any _ | exact .ptr (by omega) | exact .own (by omega) | exact .v _ _ | exact .map (by omega) | exact Und.oslG (by omega) | exact Und.rowI (nC_data _) | exact Und.rowI (iC_data _) | exact (fun p hp => .data (vC_data _ p hp)) | (refine ⟨?_, ?_⟩)
        ·
         refine AWp_exit ?_
         simp only [bF, bA, Nat.reduceEqDiff, ↓reduceIte]
         refine hK139 _ ?_; try clear hK139 K139
         refine AWp_seqK fun K179 hK179 => ?_
         refine AWp_region ?_
         refine aops_chunk 1 fun C180 hC180 => ?_
         simp only [bL, ↓bO, bS, bA, bF, ↓reduceIte, Nat.reduceEqDiff, reduceCtorEq, aCallV, tyX, List.length_map, hw0]
         refine APure.call (awake12_pure) ?_
         try simp only [bS, bA, bF]
         refine hC180 _ ?_; clear hC180 C180
         simp only [bL]
         simp only [↓bO, bS, bA, bF, ↓reduceIte, Nat.reduceEqDiff, reduceCtorEq, tyX, List.length_map, hw0]
         refine hK179 _ ?_; try clear hK179 K179
         refine AWp_ret ?_
         try simp only [bF, retQ, aRes, tupOf, bS, bA]
         exact Le.refl _
end Go.Proofs.Ytohdoloalolpfaa
namespace Go.Proofs.Ytohdoloalolpfaa.unifyOrder
open Go Go.ChangeShapes Go.WideShapes Go.ChangeAt Go.RowKit
set_option linter.unusedVariables false
theorem own : ownKnob Try.prog.godebug = none := by kernel_rfl
theorem laidOut : laidOutB Try.prog = true := by kernel_rfl
theorem cT : Try.prog.cellsOf 32 = 3 := by kernel_rfl
theorem cI : Try.prog.cellsOf 3 = 1 := by kernel_rfl
theorem cS : Try.prog.cellsOf 22 = 1 := by kernel_rfl
section
variable {H : Type} {enc : TypeId × Value → H} {w : World} {base : Nat} {spare : Nat → Bool} {held : Bool}
theorem rdT (fuel : Nat) : Rd enc Try.prog w base spare held Env.none fuel 32 Ty.cells :=
  rd_ty Try.underlying32 cT rfl rfl rfl rfl rfl rfl Try.underlying3 cI Try.underlying22 cS fuel
theorem rdS (fuel : Nat) : Rd enc Try.prog w base spare held Env.none fuel 22 (fun xs : List Ty => [.sl 3 (xs.map Ty.cells)]) :=
  rd_slice Try.underlying22 cT (by omega) Ty.cells_len fun n _ => rdT n
theorem cP : Try.prog.cellsOf 71 = 2 := by kernel_rfl
theorem cE : Try.prog.cellsOf 73 = 8 := by kernel_rfl
theorem rdE (fuel : Nat) : Rd enc Try.prog w base spare held Env.none fuel 73 EqT.cells :=
  rd_eq Try.underlying73 cE cT cP rfl rfl rfl rfl rfl rfl rdT (fun n => rd_two Try.underlying71 cP rfl rfl rfl rfl Try.underlying3 cI n) fuel
theorem rdEs (fuel : Nat) : Rd enc Try.prog w base spare held Env.none fuel 61 (fun xs : List EqT => [.sl 8 (xs.map EqT.cells)]) :=
  rd_slice Try.underlying61 cE (by omega) (fun _ => rfl) fun n _ => rdE n
theorem cU : Try.prog.cellsOf 5 = 1 := by kernel_rfl
theorem rdBs (fuel : Nat) : Rd enc Try.prog w base spare held Env.none fuel 77 (fun xs : List (Fin 256) => [.sl 1 (xs.map byC)]) :=
  rd_slice Try.underlying77 cU (by omega) (fun _ => rfl) fun n _ => rd_byte Try.underlying5
end
set_option maxRecDepth 100000 in
theorem lifted (os : Go.Os) (started : os.Started) (H : Type) (enc : TypeId × Value → H) :
    ReturnsInHanded {} Try.checked os 10 .any (Rows.unifyOrderSpec.pre6 enc Try.prog Try.f10 Rows.unifyOrderRow.domain false) (Rows.unifyOrderSpec.post enc Try.prog Try.f10 false true false false) := by
  refine returnsInHanded_of_change (C := Try.checked) own started (by kernel_rfl) Try.func10
    (ChangeSpec.witness6 (enc := enc) (C := Try.checked) false ⟨#[], #[.slice none 0 0, .slice none 0 0], []⟩ 8 (by kernel_rfl) (by kernel_rfl) (by kernel_rfl) (by kernel_rfl)) ?_
  intro W base args ds gs before hval0 hW hcnd _
  have hval : ∀ (j : Nat) t v, Try.f10.params[j]? = some t → args[j]? = some v → Value.okWide Try.prog W .any base t v := hval0
  have hW' := hW
  obtain ⟨p, q, hA0, hV, rfl, hfz, hnd⟩ := hW
  have hA : DataW.TrodAll enc Try.prog W 0 (fun _ => true) true Try.f10.params.toList args.toList ds p := hA0
  rw [Try.params10] at hA hval
  obtain ⟨v0, vs0, d0, ds0, p0, q0, hargs, rfl, rfl, h0, r0⟩ := trodAll_cons hA
  obtain ⟨v1, vs1, d1, ds1, p1, q1, rfl, rfl, rfl, h1, r1⟩ := trodAll_cons r0
  obtain ⟨rfl, rfl, rfl⟩ := trodAll_nil r1
  obtain rfl : args = #[v0, v1] := by cases args; simp_all
  obtain ⟨rfl, rfl⟩ := trodVars_none hV
  have k0 := h0
  have lt0 : ∀ x ∈ p0, x.block < W.heap.size := by obtain ⟨m, hm⟩ := k0; exact DataW.trod_lt m _ _ _ hm
  obtain ⟨b0, len0, cap0, rfl⟩ := okWide_slice Try.underlying61 (hval 0 61 v0 rfl rfl)
  obtain ⟨P0, hr0⟩ : ∃ P : List EqT, Rp Env.none (fun _ _ => False) W (.sl 8 (P.map EqT.cells)) (.slice b0 len0 cap0) := by
    obtain ⟨m, hm⟩ := h0
    obtain ⟨P, _, hr⟩ := rdEs m _ _ hm
    exact ⟨P, hr 0 _ _ rfl rfl⟩
  have k1 := h1
  have lt1 : ∀ x ∈ p1, x.block < W.heap.size := by obtain ⟨m, hm⟩ := k1; exact DataW.trod_lt m _ _ _ hm
  obtain ⟨b1, len1, cap1, rfl⟩ := okWide_slice Try.underlying77 (hval 1 77 v1 rfl rfl)
  obtain ⟨P1, hr1⟩ : ∃ P : List (Fin 256), Rp Env.none (fun _ _ => False) W (.sl 1 (P.map byC)) (.slice b1 len1 cap1) := by
    obtain ⟨m, hm⟩ := h1
    obtain ⟨P, _, hr⟩ := rdBs m _ _ hm
    exact ⟨P, hr 0 _ _ rfl rfl⟩
  clear hA0 hval0
  refine ((UnifyOrder_pure P0 P1).calls (w := W) rfl ?_).mono fun e W' ⟨he, bel⟩ => ?_
  · intro i c u hc hu
    match i with
    | 0 => simp at hc hu; subst hc; subst hu; exact hr0
    | 1 => simp at hc hu; subst hc; subst hu; exact hr1
    | i + 2 => simp at hc
  subst he
  exact ⟨_, rfl, _, _, _, [], _, [], hW', trodAll_mk1 (shut_bool Try.underlying4 _), (trodAll_cons_mk (Below.trod laidOut (by kernel_rfl) (of_decide_eq_true (by kernel_rfl)) k0 bel lt0) (trodAll_cons_mk (Below.trod laidOut (by kernel_rfl) (of_decide_eq_true (by kernel_rfl)) k1 bel lt1) trodAll_mk0)), rfl, bel.frame _, fun h => by cases h⟩
theorem over : Rows.unifyOrderRow.holds Try.pinned (OpenSpec.ofChange Rows.unifyOrderSpec) :=
  OpenClaim.holds_of_wide 10 Try.f10 rfl rfl rfl rfl rfl rfl rfl ⟨rfl, rfl, rfl, rfl, rfl⟩ rfl rfl rfl rfl rfl (by kernel_rfl) Try.func10 (by kernel_rfl)
    (of_decide_eq_true (by kernel_rfl)) (by unfold Func.isWrapper; first | (rw [if_pos (by decide +kernel)]; kernel_rfl) | (rw [if_neg (by decide +kernel)]; exact ⟨rfl, rfl⟩))
    (fun os started H enc _ => lifted os started H enc)
end Go.Proofs.Ytohdoloalolpfaa.unifyOrder
namespace Go.Proofs.Ytohdoloalolpfaa
theorem unifyOrder_proved : Rows.UnifyOrderSaid := unifyOrder.over
#print axioms unifyOrder_proved
end Go.Proofs.Ytohdoloalolpfaa
