/- Matching of a type with variables against another one, in plain lists: what is told, when it can't be, and that types which match both ways are the same but for names. Conditions: none; plain definitions and theorems. -/
import Derived.Test.YtohdoloalolpfaaRob1
namespace Go.Proofs.Ytohdoloalolpfaa
open Go Go.RowKit
set_option linter.unusedSimpArgs false
set_option linter.unusedVariables false

theorem Ty.k_mk (k n : Int) (ps : List Ty) : (Ty.mk k n ps).k = k := rfl
theorem Ty.n_mk (k n : Int) (ps : List Ty) : (Ty.mk k n ps).n = n := rfl
theorem Ty.ps_mk (k n : Int) (ps : List Ty) : (Ty.mk k n ps).ps = ps := rfl
theorem okN_var {n : Int} {len : Nat} (h : okN 1 n len = true) : 0 ≤ n ∧ n < 1073741824 ∧ len = 0 := by
  simp only [okN, decide_eq_true_eq] at h; omega
theorem okN_more {k n : Int} {len : Nat} (h : okN k n len = true) (hk : ¬ k = 1) : n = 0 := by
  simp only [okN, decide_eq_true_eq] at h; omega
theorem Ty.right_part {t p : Ty} (h : t.right = true) (hp : p ∈ t.ps) : p.right = true := by
  rw [Ty.right_eq, Bool.and_eq_true] at h
  exact List.all_eq_true.1 h.2 p hp
theorem Ty.right_var {t : Ty} (h : t.right = true) (hk : t.k = 1) : t = .mk 1 t.n [] := by
  obtain ⟨k, n, ps⟩ := t
  have hk : k = 1 := hk
  subst hk
  rw [Ty.right_eq, Bool.and_eq_true] at h
  have := (okN_var h.1).2.2
  simp only [Ty.ps, List.length_eq_zero_iff] at this
  simp [Ty.n, this]
theorem Ty.right_n {t : Ty} (h : t.right = true) (hk : ¬ t.k = 1) : t.n = 0 := by
  rw [Ty.right_eq, Bool.and_eq_true] at h
  exact okN_more h.1 hk
theorem eqF_iff {α : Type} {f : α → α → Bool} : ∀ {ps qs : List α}, (∀ p ∈ ps, ∀ q, f p q = true ↔ p = q) → (eqF f ps qs = true ↔ ps = qs)
  | [], [], _ => by simp [eqF]
  | [], _ :: _, _ => by simp [eqF]
  | _ :: _, [], _ => by simp [eqF]
  | p :: ps, q :: qs, h => by
    simp only [eqF, Bool.and_eq_true, List.cons.injEq]
    rw [h p (by simp) q, eqF_iff fun p' hp q' => h p' (by simp [hp]) q']
theorem Ty.same_iff : ∀ T U : Ty, T.same U = true ↔ T = U := by
  refine Ty.ind fun T ih => fun U => ?_
  rw [Ty.same_eq, sameL_eqF, Bool.and_eq_true, Bool.and_eq_true, eqF_iff ih]
  obtain ⟨k, n, ps⟩ := T
  obtain ⟨k', n', ps'⟩ := U
  simp only [Ty.k, Ty.n, Ty.ps, beq_iff_eq, Ty.mk.injEq]
  exact ⟨fun h => ⟨h.1.1, h.1.2, h.2⟩, fun h => ⟨⟨h.1, h.2.1⟩, h.2.2⟩⟩
theorem sameB_iff {a b : List Bd} : sameB a b = true ↔ a = b := by
  unfold sameB
  refine eqF_iff fun x _ y => ?_
  rw [Bool.and_eq_true, Ty.same_iff, beq_iff_eq]
  obtain ⟨v, t⟩ := x
  obtain ⟨v', t'⟩ := y
  simp

/-- what a map of numbers holds -/
def pfind {α : Type} : List (Int × α) → Int → Option α
  | [], _ => none
  | (k, x) :: r, i => if k = i then some x else pfind r i
def pset {α : Type} : List (Int × α) → Int → α → List (Int × α)
  | [], k, x => [(k, x)]
  | (k', y) :: r, k, x => if k' = k then (k, x) :: r else (k', y) :: pset r k x
theorem pfind_pset {α : Type} (k : Int) (x : α) (i : Int) : ∀ m : List (Int × α), pfind (pset m k x) i = if k = i then some x else pfind m i
  | [] => by simp [pset, pfind]
  | (a, b) :: m => by
    simp only [pset]
    split
    · rename_i e; subst e; simp only [pfind]; split <;> rfl
    · rename_i e
      simp only [pfind, pfind_pset k x i m]
      by_cases h1 : k = i
      · subst h1; simp [e]
      · simp [h1]
theorem aFind_p {α : Type} (f : α → AV) (i : Int) : ∀ m : List (Int × α), aFind (m.map fun p => (p.1, f p.2)) i = (pfind m i).map f
  | [] => rfl
  | (a, b) :: m => by simp only [List.map_cons, aFind, pfind]; split <;> simp [aFind_p f i m]
theorem aSet_p {α : Type} (f : α → AV) (k : Int) (x : α) : ∀ m : List (Int × α), aSet (m.map fun p => (p.1, f p.2)) k (f x) = (pset m k x).map fun p => (p.1, f p.2)
  | [] => rfl
  | (a, b) :: m => by simp only [List.map_cons, aSet, pset]; split <;> simp [aSet_p f k x m]

/-- does a variable stand in a type? -/
def Ty.occ (v : Int) (t : Ty) : Prop := v ∈ t.rvars []
theorem mem_addV {l : List Int} {n v : Int} : v ∈ addV l n ↔ v ∈ l ∨ v = n := by
  unfold addV
  split
  · rename_i h
    obtain ⟨x, hx, e⟩ := List.any_eq_true.1 h
    simp only [beq_iff_eq] at e
    subst e
    exact ⟨.inl, fun h => h.elim id fun h => h ▸ hx⟩
  · simp
theorem Ty.mem_rvars (v : Int) : ∀ (t : Ty) (l : List Int), v ∈ t.rvars l ↔ v ∈ l ∨ t.occ v := by
  have key : ∀ t : Ty, (∀ p ∈ t.ps, ∀ l : List Int, v ∈ p.rvars l ↔ v ∈ l ∨ p.occ v) → ∀ l, v ∈ t.rvars l ↔ v ∈ l ∨ (t.k = 1 ∧ v = t.n) ∨ ∃ p ∈ t.ps, p.occ v := by
    intro t ih l
    have hL : ∀ ps : List Ty, (∀ p ∈ ps, ∀ l : List Int, v ∈ p.rvars l ↔ v ∈ l ∨ p.occ v) → ∀ l : List Int, v ∈ Ty.rvarsL ps l ↔ v ∈ l ∨ ∃ p ∈ ps, p.occ v := by
      intro ps
      induction ps with
      | nil => intro _ l; simp [Ty.rvarsL]
      | cons p ps ih2 =>
        intro h l
        rw [Ty.rvarsL, ih2 (fun q hq => h q (by simp [hq])), h p (by simp)]
        simp only [List.mem_cons, exists_eq_or_imp, or_assoc]
    rw [Ty.rvars_eq, hL t.ps ih]
    split
    · rename_i hk; simp only [mem_addV, hk, true_and, or_assoc]
    · rename_i hk; simp only [hk, false_and, false_or]
  refine Ty.ind fun t ih l => ?_
  have h1 := key t ih l
  have h2 := key t ih []
  unfold Ty.occ
  rw [h1, h2]; simp
theorem Ty.occ_iff (v : Int) (t : Ty) : t.occ v ↔ (t.k = 1 ∧ v = t.n) ∨ ∃ p ∈ t.ps, p.occ v := by
  have hL : ∀ (ps : List Ty) (l : List Int), v ∈ Ty.rvarsL ps l ↔ v ∈ l ∨ ∃ p ∈ ps, p.occ v := by
    intro ps
    induction ps with
    | nil => intro l; simp [Ty.rvarsL]
    | cons p ps ih2 =>
      intro l
      rw [Ty.rvarsL, ih2, Ty.mem_rvars]
      simp only [List.mem_cons, exists_eq_or_imp, or_assoc]
  rw [Ty.occ, Ty.rvars_eq, hL]
  split
  · rename_i hk; simp [mem_addV, hk]
  · rename_i hk; simp [hk]

mutual
/-- what a function of variables makes of a type -/
def Ty.subF (σ : Int → Ty) : Ty → Ty
  | .mk k n ps => if k = 1 then σ n else .mk k n (Ty.subFL σ ps)
def Ty.subFL (σ : Int → Ty) : List Ty → List Ty
  | [] => []
  | p :: ps => Ty.subF σ p :: Ty.subFL σ ps
end
theorem Ty.subFL_eq (σ : Int → Ty) : ∀ ps, Ty.subFL σ ps = ps.map (Ty.subF σ)
  | [] => by simp [Ty.subFL]
  | p :: ps => by simp [Ty.subFL, Ty.subFL_eq σ ps]
theorem Ty.subF_var {σ : Int → Ty} {t : Ty} (h : t.k = 1) : t.subF σ = σ t.n := by
  obtain ⟨k, n, ps⟩ := t
  have h : k = 1 := h
  rw [Ty.subF, if_pos h]; rfl
theorem Ty.subF_more {σ : Int → Ty} {t : Ty} (h : ¬ t.k = 1) : t.subF σ = .mk t.k t.n (t.ps.map (Ty.subF σ)) := by
  obtain ⟨k, n, ps⟩ := t
  have h : ¬ k = 1 := h
  rw [Ty.subF, if_neg h, Ty.subFL_eq]; rfl
theorem Ty.subF_congr {σ τ : Int → Ty} : ∀ t : Ty, (∀ v, t.occ v → σ v = τ v) → t.subF σ = t.subF τ := by
  refine Ty.ind fun t ih h => ?_
  by_cases hk : t.k = 1
  · rw [Ty.subF_var hk, Ty.subF_var hk]
    exact h _ ((Ty.occ_iff _ _).2 (.inl ⟨hk, rfl⟩))
  · rw [Ty.subF_more hk, Ty.subF_more hk]
    congr 1
    exact List.map_congr_left fun p hp => ih p hp fun v hv => h v ((Ty.occ_iff _ _).2 (.inr ⟨p, hp, hv⟩))
/-- a substitution as a function -/
def bfun (l : List Bd) (n : Int) : Ty := if 0 ≤ bfind l n then ((l[(bfind l n).toNat]?).map Bd.t).getD (.mk 0 0 []) else .mk 1 n []
theorem Ty.sub_subF (l : List Bd) : ∀ t : Ty, t.right = true → t.sub l = t.subF (bfun l) := by
  refine Ty.ind fun t ih hr => ?_
  by_cases hk : t.k = 1
  · have e := Ty.right_var hr hk
    rw [Ty.subF_var hk]
    conv => lhs; rw [e]
    simp only [Ty.sub, bfun, true_and, Ty.subL]
  · rw [Ty.subF_more hk, Ty.sub_no fun h => hk h.1]
    congr 1
    exact List.map_congr_left fun p hp => ih p hp (Ty.right_part hr hp)
mutual
/-- what stands in another type where a variable stands first -/
def Ty.stand (v : Int) : Ty → Ty → Option Ty
  | .mk k n ps, t => if k = 1 ∧ n = v then some t else Ty.standL v ps t.ps
def Ty.standL (v : Int) : List Ty → List Ty → Option Ty
  | p :: ps, q :: qs => match Ty.stand v p q with
    | some x => some x
    | none => Ty.standL v ps qs
  | [], _ => none
  | _ :: _, [] => none
end
theorem Ty.stand_eq (v : Int) (t u : Ty) : t.stand v u = if t.k = 1 ∧ t.n = v then some u else Ty.standL v t.ps u.ps := by cases t; rw [Ty.stand]; rfl
theorem Ty.stand_none (v : Int) : ∀ (t u : Ty), ¬ t.occ v → t.stand v u = none := by
  refine Ty.ind fun t ih u h => ?_
  rw [Ty.occ_iff] at h
  rw [Ty.stand_eq, if_neg fun hh => h (.inl ⟨hh.1, hh.2.symm⟩)]
  have hL : ∀ ps : List Ty, (∀ p ∈ ps, ∀ u : Ty, p.stand v u = none) → ∀ us, Ty.standL v ps us = none := by
    intro ps
    induction ps with
    | nil => intro _ us; rw [Ty.standL]
    | cons p ps ih2 =>
      intro h us
      cases us with
      | nil => rw [Ty.standL]
      | cons q qs => rw [Ty.standL, h p (by simp) q]; exact ih2 (fun p hp => h p (by simp [hp])) qs
  exact hL t.ps (fun p hp u => ih p hp u fun ho => h (.inr ⟨p, hp, ho⟩)) u.ps
mutual
/-- matching: what is told behind what was -/
def Ty.match : Ty → Ty → List (Int × Ty) → Bool × List (Int × Ty)
  | .mk k n ps, t, m => if k = 1 then (match pfind m n with | none => (true, pset m n t) | some x => (x.same t, m)) else if k = t.k ∧ ps.length = t.ps.length then Ty.matchL ps t.ps m else (false, m)
def Ty.matchL : List Ty → List Ty → List (Int × Ty) → Bool × List (Int × Ty)
  | p :: ps, q :: qs, m => if (Ty.match p q m).1 then Ty.matchL ps qs (Ty.match p q m).2 else (false, (Ty.match p q m).2)
  | [], _, m => (true, m)
  | _ :: _, [], m => (true, m)
end
theorem Ty.match_var {g t : Ty} {m : List (Int × Ty)} (h : g.k = 1) : g.match t m = match pfind m g.n with | none => (true, pset m g.n t) | some x => (x.same t, m) := by
  obtain ⟨k, n, ps⟩ := g
  have h : k = 1 := h
  rw [Ty.match, if_pos h]; rfl
theorem Ty.match_no {g t : Ty} {m : List (Int × Ty)} (h : ¬ g.k = 1) (h2 : ¬ (g.k = t.k ∧ g.ps.length = t.ps.length)) : g.match t m = (false, m) := by
  obtain ⟨k, n, ps⟩ := g
  have h : ¬ k = 1 := h
  have h2 : ¬ (k = t.k ∧ ps.length = t.ps.length) := h2
  rw [Ty.match, if_neg h, if_neg h2]
theorem Ty.match_more {g t : Ty} {m : List (Int × Ty)} (h : ¬ g.k = 1) (h2 : g.k = t.k ∧ g.ps.length = t.ps.length) : g.match t m = Ty.matchL g.ps t.ps m := by
  obtain ⟨k, n, ps⟩ := g
  have h : ¬ k = 1 := h
  have h2 : k = t.k ∧ ps.length = t.ps.length := h2
  rw [Ty.match, if_neg h, if_pos h2]; rfl
structure MOk (m m' : List (Int × Ty)) (occ : Int → Prop) (st : Int → Option Ty) (sub : (Int → Ty) → Prop) : Prop where
  keep : ∀ v x, pfind m v = some x → pfind m' v = some x
  has : ∀ v, occ v → ∃ x, pfind m' v = some x
  new : ∀ v x, pfind m' v = some x → pfind m v = some x ∨ (st v = some x ∧ occ v)
  does : ∀ σ : Int → Ty, (∀ v x, pfind m' v = some x → σ v = x) → sub σ
  only : ∀ σ : Int → Ty, sub σ → (∀ v x, pfind m v = some x → σ v = x) → ∀ v x, pfind m' v = some x → σ v = x
theorem Ty.match_ok : ∀ g : Ty, g.right = true → ∀ (t : Ty) (m : List (Int × Ty)), t.right = true → (g.match t m).1 = true → MOk m (g.match t m).2 (fun v => g.occ v) (fun v => g.stand v t) (fun σ => g.subF σ = t) := by
  refine Ty.ind fun g ih hr t m ht hm => ?_
  by_cases hk : g.k = 1
  · rw [Ty.match_var hk] at hm ⊢
    have hocc : ∀ v, g.occ v ↔ v = g.n := by
      intro v
      rw [Ty.occ_iff, Ty.right_var hr hk]; simp [Ty.k, Ty.n, Ty.ps]
    cases hf : pfind m g.n with
    | some y =>
      rw [hf] at hm
      simp only at hm ⊢
      have e := (Ty.same_iff y t).1 hm
      subst e
      refine ⟨fun v x h => h, fun v hv => ?_, fun v x h => .inl h, fun σ h => ?_, fun σ _ h => h⟩
      · rw [(hocc v).1 hv]; exact ⟨y, hf⟩
      · rw [Ty.subF_var hk]; exact h _ _ hf
    | none =>
      simp only
      refine ⟨fun v x h => ?_, fun v hv => ?_, fun v x h => ?_, fun σ h => ?_, fun σ hs h v x hx => ?_⟩
      · rw [pfind_pset, if_neg fun e => by subst e; rw [hf] at h; cases h]; exact h
      · rw [pfind_pset, if_pos ((hocc v).1 hv).symm]; exact ⟨t, rfl⟩
      · rw [pfind_pset] at h
        split at h
        · rename_i e; cases h; exact .inr ⟨by rw [Ty.stand_eq, if_pos ⟨hk, e⟩], (hocc v).2 e.symm⟩
        · exact .inl h
      · rw [Ty.subF_var hk]; exact h _ _ (by rw [pfind_pset, if_pos rfl])
      · rw [Ty.subF_var hk] at hs
        rw [pfind_pset] at hx
        split at hx
        · rename_i e; cases hx; rw [← e]; exact hs
        · exact h v x hx
  · by_cases h2 : g.k = t.k ∧ g.ps.length = t.ps.length
    · have hL : ∀ (ps qs : List Ty) (m : List (Int × Ty)), ps.length = qs.length → (∀ p ∈ ps, p ∈ g.ps) → (∀ q ∈ qs, q.right = true) → (Ty.matchL ps qs m).1 = true →
          MOk m (Ty.matchL ps qs m).2 (fun v => ∃ p ∈ ps, p.occ v) (fun v => Ty.standL v ps qs) (fun σ => ps.map (Ty.subF σ) = qs) := by
        intro ps
        induction ps with
        | nil =>
          intro qs m hl _ _ _
          have : qs = [] := by cases qs with | nil => rfl | cons => simp at hl
          subst this
          rw [Ty.matchL]
          exact ⟨fun v x h => h, fun v h => by simp at h, fun v x h => .inl h, fun σ _ => rfl, fun σ _ h => h⟩
        | cons p ps ih2 =>
          intro qs m hl hp hq hm
          cases qs with
          | nil => simp at hl
          | cons q qs =>
            rw [Ty.matchL] at hm ⊢
            split at hm
            · rename_i h1
              rw [if_pos h1]
              have i1 := ih p (hp p (by simp)) (Ty.right_part hr (hp p (by simp))) q m (hq q (by simp)) h1
              have i2 := ih2 qs (p.match q m).2 (by simpa using hl) (fun x hx => hp x (by simp [hx])) (fun x hx => hq x (by simp [hx])) hm
              refine ⟨fun v x h => i2.keep v x (i1.keep v x h), fun v hv => ?_, fun v x h => ?_, fun σ h => ?_, fun σ hs h => ?_⟩
              · obtain ⟨p', hp', ho⟩ := hv
                rcases List.mem_cons.1 hp' with rfl | hp'
                · obtain ⟨x, hx⟩ := i1.has v ho
                  exact ⟨x, i2.keep v x hx⟩
                · exact i2.has v ⟨p', hp', ho⟩
              · cases h1v : pfind (p.match q m).2 v with
                | some y =>
                  have := i2.keep v y h1v
                  rw [h] at this
                  cases this
                  refine (i1.new v x h1v).imp id fun h3 => ⟨?_, p, by simp, h3.2⟩
                  rw [Ty.standL, h3.1]
                | none =>
                  rcases i2.new v x h with h3 | h3
                  · rw [h1v] at h3; cases h3
                  · have hno : ¬ p.occ v := fun ho => by
                      obtain ⟨y, hy⟩ := i1.has v ho
                      rw [h1v] at hy; cases hy
                    obtain ⟨p', hp', ho⟩ := h3.2
                    refine .inr ⟨?_, p', by simp [hp'], ho⟩
                    rw [Ty.standL, Ty.stand_none v p q hno]
                    exact h3.1
              · rw [List.map_cons, i1.does σ fun v x hv => h v x (i2.keep v x hv), i2.does σ h]
              · rw [List.map_cons, List.cons.injEq] at hs
                exact i2.only σ hs.2 (i1.only σ hs.1 h)
            · cases hm
      rw [Ty.match_more hk h2] at hm ⊢
      have i := hL g.ps t.ps m h2.2 (fun _ h => h) (fun q hq => Ty.right_part ht hq) hm
      have e1 := Ty.right_n hr hk
      have e2 := Ty.right_n ht (by rw [← h2.1]; exact hk)
      refine ⟨i.keep, fun v hv => ?_, fun v x h => ?_, fun σ h => ?_, fun σ hs h => ?_⟩
      · rcases (Ty.occ_iff _ _).1 hv with h3 | h3
        · exact absurd h3.1 hk
        · exact i.has v h3
      · refine (i.new v x h).imp id fun h3 => ⟨?_, (Ty.occ_iff _ _).2 (.inr h3.2)⟩
        rw [Ty.stand_eq, if_neg fun hh => hk hh.1]; exact h3.1
      · rw [Ty.subF_more hk, i.does σ h, e1, h2.1]
        rw [← e2, Ty.eta]
      · rw [Ty.subF_more hk] at hs
        exact i.only σ (by rw [← hs]; rfl) h
    · rw [Ty.match_no hk h2] at hm; cases hm
theorem Ty.match_never : ∀ g : Ty, g.right = true → ∀ (t : Ty) (m : List (Int × Ty)), t.right = true → (g.match t m).1 = false → ∀ σ : Int → Ty, (∀ v x, pfind m v = some x → σ v = x) → g.subF σ ≠ t := by
  refine Ty.ind fun g ih hr t m ht hm σ hσ => ?_
  by_cases hk : g.k = 1
  · rw [Ty.match_var hk] at hm
    rw [Ty.subF_var hk]
    cases hf : pfind m g.n with
    | none => rw [hf] at hm; simp at hm
    | some y =>
      rw [hf] at hm
      simp only at hm
      rw [hσ _ _ hf]
      intro e
      rw [(Ty.same_iff y t).2 e] at hm; cases hm
  · rw [Ty.subF_more hk]
    by_cases h2 : g.k = t.k ∧ g.ps.length = t.ps.length
    · rw [Ty.match_more hk h2] at hm
      have hL : ∀ (ps qs : List Ty) (m : List (Int × Ty)), (∀ p ∈ ps, p ∈ g.ps) → (∀ q ∈ qs, q.right = true) → (Ty.matchL ps qs m).1 = false → (∀ v x, pfind m v = some x → σ v = x) → ps.map (Ty.subF σ) ≠ qs := by
        intro ps
        induction ps with
        | nil => intro qs m _ _ h; rw [Ty.matchL] at h; cases h
        | cons p ps ih2 =>
          intro qs m hp hq hm hσ
          cases qs with
          | nil => simp
          | cons q qs =>
            rw [Ty.matchL] at hm
            rw [List.map_cons]
            intro e
            rw [List.cons.injEq] at e
            split at hm
            · rename_i h1
              have i1 := Ty.match_ok p (Ty.right_part hr (hp p (by simp))) q m (hq q (by simp)) h1
              exact ih2 qs _ (fun x hx => hp x (by simp [hx])) (fun x hx => hq x (by simp [hx])) hm (i1.only σ e.1 hσ) e.2
            · rename_i h1
              exact ih p (hp p (by simp)) (Ty.right_part hr (hp p (by simp))) q m (hq q (by simp)) (by simpa using h1) σ hσ e.1
      intro e
      exact hL g.ps t.ps m (fun _ h => h) (fun q hq => Ty.right_part ht hq) hm hσ (by rw [← e]; rfl)
    · intro e
      refine h2 ?_
      rw [← e]
      exact ⟨rfl, by simp [Ty.ps]⟩

/-! Both ways. -/
theorem numF_get (n : Int) : ∀ (L : List Int), n ∈ L → ∀ d, ∃ i : Nat, numF n L 0 d = (i : Int) ∧ L[i]? = some n := by
  have key : ∀ (L : List Int) (s : Nat) (d : Int), (∃ i : Nat, numF n L s d = ((s + i : Nat) : Int) ∧ L[i]? = some n) ∨ (n ∉ L ∧ numF n L s d = d) := by
    intro L
    induction L with
    | nil => intro s d; exact .inr ⟨by simp, by rw [numF]⟩
    | cons x xs ih =>
      intro s d
      rw [numF]
      rcases ih (s + 1) (if x = n then (s : Int) else d) with ⟨i, h1, h2⟩ | ⟨h1, h2⟩
      · exact .inl ⟨i + 1, by rw [h1]; congr 1; omega, by simpa using h2⟩
      · by_cases hx : x = n
        · exact .inl ⟨0, by rw [h2, if_pos hx]; simp, by simp [hx]⟩
        · exact .inr ⟨by simp only [List.mem_cons, not_or]; exact ⟨fun e => hx e.symm, h1⟩, by rw [h2, if_neg hx]⟩
  intro L hn d
  rcases key L 0 d with ⟨i, h1, h2⟩ | ⟨h1, _⟩
  · exact ⟨i, by simpa using h1, h2⟩
  · exact absurd hn h1
theorem numF_map (ρ : Int → Int) (n : Int) : ∀ (L : List Int), (∀ x ∈ L, ρ x = ρ n → x = n) → ∀ (s : Nat) (d : Int), numF (ρ n) (L.map ρ) s d = numF n L s d
  | [], _, s, d => by simp [numF]
  | x :: xs, h, s, d => by
    rw [List.map_cons, numF, numF, numF_map ρ n xs fun y hy => h y (by simp [hy])]
    congr 1
    by_cases hx : x = n
    · simp [hx]
    · rw [if_neg hx, if_neg fun e => hx (h x (by simp) e)]
theorem addV_map (ρ : Int → Int) (n : Int) (L : List Int) (h : ∀ x ∈ L, ρ x = ρ n → x = n) : addV (L.map ρ) (ρ n) = (addV L n).map ρ := by
  unfold addV
  have : (L.map ρ).any (fun x => x == ρ n) = L.any fun x => x == n := by
    rw [Bool.eq_iff_iff, List.any_eq_true, List.any_eq_true]
    constructor
    · rintro ⟨x, hx, e⟩
      obtain ⟨y, hy, rfl⟩ := List.mem_map.1 hx
      exact ⟨y, hy, by simpa using h y hy (by simpa using e)⟩
    · rintro ⟨x, hx, e⟩
      simp only [beq_iff_eq] at e
      subst e
      exact ⟨ρ x, List.mem_map_of_mem hx, by simp⟩
  rw [this]
  split
  · rfl
  · simp
/-- a type whose variables have other names -/
theorem Ty.rename {σ : Int → Ty} {ρ : Int → Int} {g : Ty} (hσ : ∀ v, g.occ v → σ v = .mk 1 (ρ v) []) (hinj : ∀ v w, g.occ v → g.occ w → ρ v = ρ w → v = w) (hr : g.right = true) :
    (g.subF σ).canon = g.canon := by
  have hv : ∀ p : Ty, (∀ v, p.occ v → g.occ v) → p.right = true → ∀ l : List Int, (∀ v ∈ l, g.occ v) → (p.subF σ).rvars (l.map ρ) = (p.rvars l).map ρ := by
    refine Ty.ind fun p ih hp hr l hl => ?_
    by_cases hk : p.k = 1
    · have ho : p.occ p.n := (Ty.occ_iff _ _).2 (.inl ⟨hk, rfl⟩)
      rw [Ty.subF_var hk, hσ _ (hp _ ho), Ty.right_var hr hk]
      simp only [Ty.rvars, Ty.rvarsL, if_true]
      exact addV_map ρ p.n l fun x hx e => hinj x p.n (hl x hx) (hp _ ho) e
    · have hL : ∀ ps : List Ty, (∀ q ∈ ps, q ∈ p.ps) → ∀ l : List Int, (∀ v ∈ l, g.occ v) → Ty.rvarsL (ps.map (Ty.subF σ)) (l.map ρ) = (Ty.rvarsL ps l).map ρ := by
        intro ps
        induction ps with
        | nil => intro _ l _; simp [Ty.rvarsL]
        | cons q ps ih2 =>
          intro hq l hl
          have h1 : ∀ v, q.occ v → g.occ v := fun v hv => hp v ((Ty.occ_iff _ _).2 (.inr ⟨q, hq q (by simp), hv⟩))
          rw [List.map_cons, Ty.rvarsL, Ty.rvarsL, ih q (hq q (by simp)) h1 (Ty.right_part hr (hq q (by simp))) l hl]
          exact ih2 (fun x hx => hq x (by simp [hx])) _ fun v hv => ((Ty.mem_rvars v q l).1 hv).elim (hl v) (h1 v)
      rw [Ty.subF_more hk, Ty.rvars_eq, Ty.rvars_eq]
      simp only [Ty.k_mk, hk, if_false, Ty.ps_mk]
      exact hL p.ps (fun _ h => h) l hl
  have hL := hv g (fun _ h => h) hr [] (by simp)
  have hn : ∀ p : Ty, (∀ v, p.occ v → g.occ v) → p.right = true → (p.subF σ).number ((g.rvars []).map ρ) = p.number (g.rvars []) := by
    refine Ty.ind fun p ih hp hr => ?_
    by_cases hk : p.k = 1
    · have ho : p.occ p.n := (Ty.occ_iff _ _).2 (.inl ⟨hk, rfl⟩)
      rw [Ty.subF_var hk, hσ _ (hp _ ho), Ty.right_var hr hk]
      simp only [Ty.number, Ty.numberL, if_true, Ty.mk.injEq, true_and, and_true, Ty.n_mk]
      rw [numF_map ρ p.n _ fun x hx e => hinj x p.n hx (hp _ ho) e]
      obtain ⟨i, h1, _⟩ := numF_get p.n (g.rvars []) (hp _ ho) (ρ p.n)
      obtain ⟨j, h2, _⟩ := numF_get p.n (g.rvars []) (hp _ ho) p.n
      have key : ∀ (L : List Int), p.n ∈ L → ∀ (s : Nat) (d e : Int), numF p.n L s d = numF p.n L s e := by
        intro L
        induction L with
        | nil => intro h; simp at h
        | cons x xs ih =>
          intro h s d e
          rw [numF, numF]
          by_cases hx : x = p.n
          · rw [if_pos hx, if_pos hx]
          · rw [if_neg hx, if_neg hx]
            exact ih ((List.mem_cons.1 h).elim (fun e => absurd e.symm hx) id) _ _ _
      exact key _ (hp _ ho) 0 _ _
    · rw [Ty.subF_more hk, Ty.number_eq, Ty.number_eq]
      simp only [Ty.k_mk, Ty.n_mk, Ty.ps_mk, if_neg hk, Ty.mk.injEq, true_and, List.map_map, hk, if_false]
      exact List.map_congr_left fun q hq => ih q hq (fun v hv => hp v ((Ty.occ_iff _ _).2 (.inr ⟨q, hq, hv⟩))) (Ty.right_part hr hq)
  unfold Ty.canon
  simp only [List.map_nil] at hL
  rw [hL]
  exact hn g (fun _ h => h) hr
theorem Ty.subF_k {σ : Int → Ty} {x : Ty} (h : (x.subF σ).k = 1) : x.k = 1 := by
  by_cases hk : x.k = 1
  · exact hk
  · rw [Ty.subF_more hk] at h; exact absurd h hk
theorem Ty.back {σ τ : Int → Ty} : ∀ p : Ty, p.right = true → (p.subF σ).right = true → (p.subF σ).subF τ = p → ∀ v, p.occ v → σ v = .mk 1 (σ v).n [] ∧ τ (σ v).n = .mk 1 v [] := by
  refine Ty.ind fun p ih hp hr e v hv => ?_
  by_cases hk : p.k = 1
  · have e0 := Ty.right_var hp hk
    have ev : v = p.n := by
      rw [Ty.occ_iff, e0] at hv
      simpa [Ty.k, Ty.n, Ty.ps] using hv
    rw [Ty.subF_var hk] at e hr
    have hk2 : (σ p.n).k = 1 := Ty.subF_k (σ := τ) (by rw [e]; exact hk)
    rw [Ty.subF_var hk2] at e
    rw [ev]
    exact ⟨Ty.right_var hr hk2, by rw [e]; exact e0⟩
  · have hv : ∃ q ∈ p.ps, q.occ v := ((Ty.occ_iff _ _).1 hv).elim (fun h => absurd h.1 hk) id
    obtain ⟨q, hq, hv⟩ := hv
    rw [Ty.subF_more hk] at e hr
    rw [Ty.subF_more (by exact hk)] at e
    have e2 : (p.ps.map (Ty.subF σ)).map (Ty.subF τ) = p.ps := congrArg Ty.ps e
    rw [List.map_map] at e2
    have e3 : (q.subF σ).subF τ = q := by
      obtain ⟨j, hj, rfl⟩ := List.mem_iff_getElem.1 hq
      have := congrArg (fun l => l[j]?) e2
      simpa [hj] using this
    exact ih q hq (Ty.right_part hp hq) (Ty.right_part hr (by exact List.mem_map_of_mem hq)) e3 v hv
theorem Ty.both_canon {σ τ : Int → Ty} {g t : Ty} (hr : g.right = true) (ht : t.right = true) (h1 : g.subF σ = t) (h2 : t.subF τ = g) : g.canon = t.canon := by
  have h3 := Ty.back (σ := σ) (τ := τ) g hr (by rw [h1]; exact ht) (by rw [h1]; exact h2)
  rw [← h1]
  refine (Ty.rename (ρ := fun v => (σ v).n) (fun v hv => (h3 v hv).1) (fun v w hv hw e => ?_) hr).symm
  have e1 := (h3 v hv).2
  have e2 := (h3 w hw).2
  have e : (σ v).n = (σ w).n := e
  rw [e, e2] at e1
  simpa using e1.symm
theorem Ty.canon_both {g t : Ty} (hr : g.right = true) (ht : t.right = true) (h : g.canon = t.canon) : ∃ τ : Int → Ty, t.subF τ = g := by
  refine ⟨fun v => .mk 1 ((g.rvars []).getD (numF v (t.rvars []) 0 v).toNat 0) [], ?_⟩
  have key : ∀ p : Ty, p.right = true → (∀ v, p.occ v → t.occ v) → ∀ q : Ty, q.right = true → (∀ v, q.occ v → g.occ v) → q.number (g.rvars []) = p.number (t.rvars []) →
      p.subF (fun v => .mk 1 ((g.rvars []).getD (numF v (t.rvars []) 0 v).toNat 0) []) = q := by
    refine Ty.ind fun p ih hp ho q hq ho2 e => ?_
    rw [Ty.number_eq, Ty.number_eq, Ty.mk.injEq] at e
    obtain ⟨e1, e2, e3⟩ := e
    by_cases hk : p.k = 1
    · have hk2 : q.k = 1 := by rw [e1]; exact hk
      rw [if_pos hk, if_pos hk2] at e2
      rw [Ty.subF_var hk, ← e2]
      obtain ⟨i, h1, h2⟩ := numF_get q.n (g.rvars []) (ho2 _ ((Ty.occ_iff _ _).2 (.inl ⟨hk2, rfl⟩))) q.n
      rw [h1, Int.toNat_natCast, List.getD_eq_getElem?_getD, h2, Ty.right_var hq hk2]; rfl
    · have hk2 : ¬ q.k = 1 := by rw [e1]; exact hk
      rw [if_neg hk, if_neg hk2] at e2
      rw [Ty.subF_more hk, ← e1, ← e2]
      have e4 : p.ps.map (Ty.subF (fun v => .mk 1 ((g.rvars []).getD (numF v (t.rvars []) 0 v).toNat 0) [])) = q.ps := by
        have hl : q.ps.length = p.ps.length := by simpa using congrArg List.length e3
        refine List.ext_getElem (by simpa using hl.symm) fun j h1 h2 => ?_
        rw [List.getElem_map]
        have h3 : j < p.ps.length := by simpa using h1
        have hpm := List.getElem_mem h3
        have hqm := List.getElem_mem h2
        refine ih _ hpm (Ty.right_part hp hpm) (fun v hv => ho v ((Ty.occ_iff _ _).2 (.inr ⟨_, hpm, hv⟩))) _ (Ty.right_part hq hqm) (fun v hv => ho2 v ((Ty.occ_iff _ _).2 (.inr ⟨_, hqm, hv⟩))) ?_
        have := congrArg (fun l => l[j]?) e3
        simpa [h2, h3] using this
      rw [e4, Ty.eta]
  exact key t ht (fun _ h => h) g hr (fun _ h => h) h
/-- Matched one way: the other way just if the two are the same but for names. -/
theorem Ty.match_both {g t : Ty} (hr : g.right = true) (ht : t.right = true) (h : (g.match t []).1 = true) : (t.match g []).1 = (g.canon).same t.canon := by
  have i := Ty.match_ok g hr t [] ht h
  have h1 : g.subF (fun v => (pfind (g.match t []).2 v).getD (.mk 0 0 [])) = t := i.does _ fun v x hx => by simp [hx]
  rw [Bool.eq_iff_iff, Ty.same_iff]
  constructor
  · intro h2
    have j := Ty.match_ok t ht g [] hr h2
    exact Ty.both_canon hr ht h1 (j.does (fun v => (pfind (t.match g []).2 v).getD (.mk 0 0 [])) fun v x hx => by simp [hx])
  · intro h2
    obtain ⟨τ, h3⟩ := Ty.canon_both hr ht h2
    cases hm : (t.match g []).1 with
    | true => rfl
    | false => exact absurd h3 (Ty.match_never t ht g [] hr hm τ fun v x hx => by simp [pfind] at hx)

/-- what is asked of a match: the variables' types -/
def wantB (g t : Ty) : List Bd := (g.rvars []).map fun v => ⟨v, (g.stand v t).getD (.mk 0 0 [])⟩
def haveB (g : Ty) (m : List (Int × Ty)) : List Bd := (g.rvars []).map fun v => ⟨v, (pfind m v).getD (.mk 0 0 [])⟩
theorem match_have {g t : Ty} (hr : g.right = true) (ht : t.right = true) (h : (g.match t []).1 = true) : haveB g (g.match t []).2 = wantB g t := by
  have i := Ty.match_ok g hr t [] ht h
  refine List.map_congr_left fun v hv => ?_
  obtain ⟨x, hx⟩ := i.has v hv
  rcases i.new v x hx with h1 | h1
  · simp [pfind] at h1
  · rw [hx, h1.1]
theorem bfind_map (f : Int → Ty) (v : Int) : ∀ L : List Int, v ∈ L → (∃ i : Nat, bfind (L.map fun v => (⟨v, f v⟩ : Bd)) v = (i : Int) ∧ (L.map fun v => (⟨v, f v⟩ : Bd))[i]? = some ⟨v, f v⟩)
  | [], h => by simp at h
  | x :: xs, h => by
    have hany : ((x :: xs).map fun v => (⟨v, f v⟩ : Bd)).any (fun b => b.v == v) = true := List.any_eq_true.2 ⟨⟨v, f v⟩, List.mem_map.2 ⟨v, h, rfl⟩, by simp⟩
    unfold bfind idxI
    rw [if_pos hany]
    by_cases hx : x = v
    · subst hx
      exact ⟨0, by simp [List.findIdx_cons], rfl⟩
    · have hm : v ∈ xs := (List.mem_cons.1 h).elim (fun e => absurd e.symm hx) id
      obtain ⟨i, h1, h2⟩ := bfind_map f v xs hm
      have hany2 : (xs.map fun v => (⟨v, f v⟩ : Bd)).any (fun b => b.v == v) = true := List.any_eq_true.2 ⟨⟨v, f v⟩, List.mem_map.2 ⟨v, hm, rfl⟩, by simp⟩
      unfold bfind idxI at h1
      rw [if_pos hany2] at h1
      refine ⟨i + 1, ?_, by simpa using h2⟩
      have hb : (x == v) = false := by simpa using hx
      rw [List.map_cons, List.findIdx_cons]
      simp only [hb, cond_false]
      omega
theorem bfun_map {L : List Int} {f : Int → Ty} {v : Int} (hv : v ∈ L) : bfun (L.map fun v => ⟨v, f v⟩) v = f v := by
  obtain ⟨i, h1, h2⟩ := bfind_map f v L hv
  unfold bfun
  rw [h1, if_pos (by omega), Int.toNat_natCast, h2]; rfl
theorem match_subs {g t : Ty} (hr : g.right = true) (ht : t.right = true) (h : (g.match t []).1 = true) : g.sub (wantB g t) = t := by
  have i := Ty.match_ok g hr t [] ht h
  have h1 : g.subF (fun v => (pfind (g.match t []).2 v).getD (.mk 0 0 [])) = t := i.does _ fun v x hx => by simp [hx]
  rw [Ty.sub_subF _ g hr, ← match_have hr ht h]
  refine Eq.trans (Ty.subF_congr g fun v hv => ?_) h1
  exact bfun_map hv
theorem match_not {g t : Ty} (hr : g.right = true) (ht : t.right = true) (h : (g.match t []).1 = false) (l : List Bd) : g.sub l ≠ t := by
  rw [Ty.sub_subF l g hr]
  exact Ty.match_never g hr t [] ht h _ fun v x hx => by simp [pfind] at hx
end Go.Proofs.Ytohdoloalolpfaa
