/- The variables of both graphs: the same, in rising order; what is told of a node. Conditions: none; plain theorems. -/
import Derived.Test.YtohdoloalolpfaaGa1
import Derived.Test.YtohdoloalolpfaaGa2
import Derived.Test.YtohdoloalolpfaaGr5
namespace Go.Proofs.Ytohdoloalolpfaa
open Go Go.RowKit

def vns (m : List RNode) : List Int := (m.filter fun r => r.t.k == 1).map fun r => r.t.n
theorem vns_app (m : List RNode) (r : RNode) : vns (m ++ [r]) = if r.t.k = 1 then vns m ++ [r.t.n] else vns m := by
  unfold vns
  rw [List.filter_append]
  by_cases h : r.t.k = 1
  · simp [h]
  · simp [h]
theorem vset_none {V : List (Int × Int)} {k : Int} (x : Int) (h : vfind V k = none) : vset V k x = V ++ [(k, x)] := by
  induction V with
  | nil => rfl
  | cons a V ih =>
    obtain ⟨a, b⟩ := a
    simp only [vfind] at h
    split at h
    · cases h
    · rename_i hne
      simp only [vset, if_neg hne, ih h, List.cons_append]
theorem keys_addL : ∀ (ps : List Ty) (_ : ∀ p ∈ ps, ∀ (G : GS) (m : List RNode), Rel G m → G.V.map Prod.fst = vns m → (p.gadd G).1.V.map Prod.fst = vns (p.radd m).1 ∧ Rel (p.gadd G).1 (p.radd m).1) (G : GS) (m : List RNode) (l l' : List Int), Rel G m → G.V.map Prod.fst = vns m →
    (Ty.gaddL ps G l).1.V.map Prod.fst = vns (Ty.raddL ps m l').1
  | [], _, G, m, l, l', _, h => by simpa [Ty.gaddL, Ty.raddL] using h
  | p :: ps, hp, G, m, l, l', hr, h => by
    obtain ⟨h1, h2⟩ := hp p (by simp) G m hr h
    simp only [Ty.gaddL, Ty.raddL]
    exact keys_addL ps (fun q hq => hp q (by simp [hq])) _ _ _ _ h2 h1
theorem keys_add : ∀ (T : Ty), T.right = true → T.cnt ≤ 400 → ∀ (G : GS) (m : List RNode), Rel G m → G.V.map Prod.fst = vns m → (T.gadd G).1.V.map Prod.fst = vns (T.radd m).1 := by
  refine Ty.ind fun T ih => ?_
  intro hr hc G m h hk
  obtain ⟨hok, hps⟩ := T.right_ok hr
  by_cases h1 : T.k = 1
  · have hps0 : T.ps = [] := by rw [T.var_eq hr h1]; rfl
    rcases h.vars T.n with ⟨hv, hi⟩ | ⟨k, hv, hi, h0⟩
    · have em : T.radd m = (m ++ [⟨T, []⟩], (m.length : Int)) := by rw [Ty.radd_eq, if_neg (by omega), hps0]; rfl
      rw [Ty.gadd_var h1, hv, em]
      simp only
      rw [vset_none _ hv, List.map_append, hk, vns_app, if_pos h1]; rfl
    · rw [Ty.gadd_var h1, hv, Ty.radd_eq, hi, if_pos ⟨h1, h0⟩]
      exact hk
  · rw [Ty.gadd_more h1, Ty.radd_eq, if_neg (by omega)]
    simp only
    rw [vns_app, if_neg h1]
    exact keys_addL T.ps (fun p hp G m hr' hk' => ⟨ih p hp (hps p hp) (Nat.le_trans (Ty.cnt_le_mem hp) hc) G m hr' hk', (rel_add p (hps p hp) (Nat.le_trans (Ty.cnt_le_mem hp) hc) G m hr').rel⟩) G m [] [] h hk
theorem bothF_keys (ts : List Ty) (hc : ∀ t ∈ ts, t.cnt ≤ 400) : ∀ s, s ≤ ts.length → (bothF (ts.take s)).G.V.map Prod.fst = vns (bothF (ts.take s)).m
  | 0, _ => by simp [bothF, vns]
  | s + 1, hs => by
    have ht : ts[s]? = some (ts[s]'(by omega)) := List.getElem?_eq_getElem (by omega)
    have ih := bothF_keys ts hc s (by omega)
    have hb := bothF_inv ts hc s (by omega)
    rw [bothF_step ht]
    unfold bStep
    split
    · rename_i hr
      exact keys_add _ hr (hc _ (List.getElem_mem _)) _ _ hb.rel ih
    · exact ih
def leB (a b : Int) : Bool := decide (a ≤ b)
theorem insI_perm (n : Int) (l : List Int) : (insI n l).Perm (n :: l) := by
  unfold insI
  refine List.perm_middle.trans ?_
  rw [List.takeWhile_append_dropWhile]
theorem takeWhile_mem {p : Int → Bool} : ∀ {l : List Int} {x : Int}, x ∈ l.takeWhile p → x ∈ l ∧ p x = true
  | a :: l, x, h => by
    rw [List.takeWhile_cons] at h
    split at h
    · rename_i ha
      rcases List.mem_cons.1 h with rfl | h
      · exact ⟨by simp, ha⟩
      · exact ⟨by simp [(takeWhile_mem h).1], (takeWhile_mem h).2⟩
    · cases h
theorem dropWhile_ge {n : Int} : ∀ {l : List Int}, l.Pairwise (fun a b => a ≤ b) → ∀ x ∈ l.dropWhile (fun y => decide (y < n)), n ≤ x
  | [], _, x, h => by simp at h
  | a :: l, hs, x, h => by
    rw [List.dropWhile_cons] at h
    have hs' := List.pairwise_cons.1 hs
    split at h
    · exact dropWhile_ge hs'.2 x h
    · rename_i ha
      have ha : n ≤ a := by simpa using ha
      rcases List.mem_cons.1 h with rfl | h
      · exact ha
      · have := hs'.1 x h; omega
theorem insI_sorted {n : Int} {l : List Int} (h : l.Pairwise (fun a b => a ≤ b)) : (insI n l).Pairwise (fun a b => a ≤ b) := by
  have hlt : ∀ x ∈ l.takeWhile (fun y => decide (y < n)), x < n := fun x hx => by simpa using (takeWhile_mem hx).2
  have hge := dropWhile_ge (n := n) h
  have hsp : (l.takeWhile (fun y => decide (y < n)) ++ l.dropWhile (fun y => decide (y < n))).Pairwise (fun a b => a ≤ b) := by rw [List.takeWhile_append_dropWhile]; exact h
  obtain ⟨h1, h2, h3⟩ := List.pairwise_append.1 hsp
  unfold insI
  refine List.pairwise_append.2 ⟨h1, List.pairwise_cons.2 ⟨hge, h2⟩, fun a ha b hb => ?_⟩
  have := hlt a ha
  rcases List.mem_cons.1 hb with rfl | hb
  · omega
  · have := hge b hb; omega
theorem varsI_spec : ∀ (m : List RNode) (l : List Int), l.Pairwise (fun a b => a ≤ b) → (m.foldl varsS l).Pairwise (fun a b => a ≤ b) ∧ (m.foldl varsS l).Perm (l ++ vns m)
  | [], l, h => by simpa [vns] using h
  | r :: m, l, h => by
    have key : (varsS l r).Pairwise (fun a b => a ≤ b) ∧ (varsS l r ++ vns m).Perm (l ++ vns (r :: m)) := by
      unfold varsS
      by_cases hk : r.t.k = 1
      · rw [if_pos hk]
        refine ⟨insI_sorted h, ?_⟩
        have e : vns (r :: m) = r.t.n :: vns m := by simp [vns, hk]
        rw [e]
        exact ((insI_perm _ _).append_right _).trans List.perm_middle.symm
      · rw [if_neg hk]
        have e : vns (r :: m) = vns m := by simp [vns, hk]
        rw [e]
        exact ⟨h, .refl _⟩
    obtain ⟨h1, h2⟩ := varsI_spec m (varsS l r) key.1
    exact ⟨h1, h2.trans key.2⟩
theorem varsI_eq (m : List RNode) : varsI m = sortI (vns m) := by
  obtain ⟨h1, h2⟩ := varsI_spec m [] .nil
  have tr : ∀ a b c : Int, decide (a ≤ b) = true → decide (b ≤ c) = true → decide (a ≤ c) = true := fun a b c h1 h2 => by simp only [decide_eq_true_eq] at *; omega
  have to : ∀ a b : Int, (decide (a ≤ b) || decide (b ≤ a)) = true := fun a b => by simp only [Bool.or_eq_true, decide_eq_true_eq]; omega
  have h3 := List.pairwise_mergeSort (le := fun x y : Int => decide (x ≤ y)) tr to (vns m)
  refine List.Perm.eq_of_pairwise (le := fun a b : Int => a ≤ b) (fun a b _ _ h1 h2 => by omega) h1 (h3.imp fun h => by simpa using h) (h2.trans (List.mergeSort_perm _ _).symm)
theorem vns_64 {G : GS} {m : List RNode} (h : Rel G m) : ∀ n ∈ vns m, is64 n := fun n hn => by
  unfold vns at hn
  obtain ⟨r, hr, rfl⟩ := List.mem_map.1 hn
  obtain ⟨hrm, hk⟩ := List.mem_filter.1 hr
  obtain ⟨i, hi⟩ := List.mem_iff_getElem?.1 hrm
  have hl := (List.getElem?_eq_some_iff.1 hi).1
  have hGi : G.N[i]? = some (G.N[i]'(by have := h.len; omega)) := List.getElem?_eq_getElem (by have := h.len; omega)
  have hright := (h.node i _ _ hGi hi).2.2.2.2.2.1
  have hok := (r.t.right_ok hright).1
  have hk1 : r.t.k = 1 := by simpa using hk
  simp only [okN, decide_eq_true_eq] at hok
  unfold is64
  omega
theorem Rel.at {G : GS} {m : List RNode} (h : Rel G m) {i : Nat} {r : RNode} (hr : m[i]? = some r) : ∃ x, G.N[i]? = some x ∧ kindG G (i : Int) = r.t.k ∧ G.parts (i : Int) = r.parts ∧ nameG G (i : Int) = if r.t.k = 1 then (r.t.n, true) else (0, false) := by
  have hl := (List.getElem?_eq_some_iff.1 hr).1
  obtain ⟨x, hGi⟩ : ∃ x, G.N[i]? = some x := ⟨_, List.getElem?_eq_getElem (by have := h.len; omega)⟩
  obtain ⟨h1, h2, h3, _⟩ := h.node i _ _ hGi hr
  refine ⟨_, hGi, ?_, ?_, ?_⟩
  · rw [kindG_at (x := x) (by omega) (by rw [Int.toNat_natCast]; exact hGi), h1]
  · rw [GS.parts_in (x := x) (by omega) (by rw [Int.toNat_natCast]; exact hGi), h3]
  · rw [nameG_at (x := x) (by omega) (by rw [Int.toNat_natCast]; exact hGi), h1, h2]
theorem Rel.ask {G : GS} {m : List RNode} (h : Rel G m) (n : Int) : (vfind G.V n).isSome = decide (0 ≤ idxI (RNode.isVar n) m) ∧ (vfind G.V n).getD 0 = max 0 (idxI (RNode.isVar n) m) := by
  rcases h.vars n with ⟨h1, h2⟩ | ⟨k, h1, h2, h3⟩
  · rw [h1, h2]; exact ⟨rfl, rfl⟩
  · rw [h1, h2]
    refine ⟨by simp [h3], ?_⟩
    simp only [Option.getD_some]
    omega
end Go.Proofs.Ytohdoloalolpfaa
