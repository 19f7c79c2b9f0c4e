/- Texts of the abstract walk, of the contracts and of the plain laws, packed (part 20 of 48): Ty. Conditions: none. -/
import Derived.Test.YtmepcmphcghbeaaDoorPk19
namespace Go.Proofs.YtmepcmphcghbeaaDoor
open Go
set_option linter.unnecessarySimpa false
inductive Ty where
  | mk (k n : Int) (ps : List Ty)
def Ty.k : Ty → Int | .mk k _ _ => k
def Ty.n : Ty → Int | .mk _ n _ => n
def Ty.ps : Ty → List Ty | .mk _ _ ps => ps
mutual
def Ty.cells : Ty → List AV
  | .mk k n ps => [.v (.int .i64 k), .v (.int .i64 n), .sl 3 (Ty.cellsL ps)]
def Ty.cellsL : List Ty → List (List AV)
  | [] => []
  | t :: ts => t.cells :: Ty.cellsL ts
end
theorem cellsL_eq : ∀ ps, Ty.cellsL ps = ps.map Ty.cells
  | [] => by simp [Ty.cellsL]
  | t :: ts => by simp [Ty.cellsL, cellsL_eq ts]
theorem Ty.cells_eq (t : Ty) : t.cells = [.v (.int .i64 t.k), .v (.int .i64 t.n), .sl 3 (t.ps.map Ty.cells)] := by
  cases t; simp [Ty.cells, cellsL_eq, Ty.k, Ty.n, Ty.ps]
mutual
theorem Ty.data : ∀ t : Ty, DataL t.cells
  | .mk k n ps => by
    rw [Ty.cells]
    exact .cons (.v _) (.cons (.v _) (.cons (.sl (Ty.dataL ps)) .nil))
theorem Ty.dataL : ∀ ps : List Ty, ∀ x ∈ Ty.cellsL ps, DataL x
  | [] => fun x h => by simp [Ty.cellsL] at h
  | t :: ts => fun x h => by
    rw [Ty.cellsL] at h
    rcases List.mem_cons.1 h with rfl | h
    · exact Ty.data t
    · exact Ty.dataL ts x h
end
theorem Ty.dataAgg (t : Ty) : Data (.agg t.cells) := .agg t.data
theorem Ty.dataMap (ps : List Ty) : ∀ x ∈ ps.map Ty.cells, DataL x := by rw [← cellsL_eq]; exact Ty.dataL ps
theorem Ty.dataSl (ps : List Ty) : Data (.sl 3 (ps.map Ty.cells)) := .sl (Ty.dataMap ps)
inductive Ty.Wide : Ty → Prop where
  | mk {k n : Int} {ps : List Ty} (h : ps.length ≤ maxLen) (hp : ∀ p ∈ ps, Ty.Wide p) : Ty.Wide (.mk k n ps)
theorem Rp.slLen {E : Env} {A : Nat → Nat → Prop} {w : World} {sz : Nat} {xs : List (List AV)} {u : Value} (h : Rp E A w (.sl sz xs) u) : xs.length ≤ maxLen := by
  cases h with
  | sl0 hc => simp
  | sl g hn hcap hc _ _ _ => omega
theorem Rp.slAt {E : Env} {A : Nat → Nat → Prop} {w : World} {sz : Nat} {xs : List (List AV)} {u : Value} (h : Rp E A w (.sl sz xs) u) : ∀ x ∈ xs, ∀ c ∈ x, ∃ v, Rp E A w c v := by
  cases h with
  | sl0 hc => simp
  | sl g hn hcap hc _ _ hr =>
    intro x hx c hcx
    obtain ⟨j, hj, e⟩ := List.mem_iff_getElem.1 (List.mem_flatten.2 ⟨x, hx, hcx⟩)
    exact ⟨_, hr j c (by rw [List.getElem?_eq_getElem hj, e])⟩
mutual
theorem Ty.wide_of {E : Env} {A : Nat → Nat → Prop} {w : World} : ∀ (t : Ty), (∀ c ∈ t.cells, ∃ v, Rp E A w c v) → t.Wide
  | .mk k n ps, h => by
    obtain ⟨v, hv⟩ := h (.sl 3 (Ty.cellsL ps)) (by simp [Ty.cells])
    refine .mk ?_ (Ty.wide_ofL ps (fun x hx => hv.slAt x hx))
    have := hv.slLen
    simpa [cellsL_eq] using this
theorem Ty.wide_ofL {E : Env} {A : Nat → Nat → Prop} {w : World} : ∀ (ps : List Ty), (∀ x ∈ Ty.cellsL ps, ∀ c ∈ x, ∃ v, Rp E A w c v) → ∀ p ∈ ps, p.Wide
  | [], _ => fun p hp => by simp at hp
  | t :: ts, h => fun p hp => by
    have h1 := Ty.wide_of t (h _ (by simp [Ty.cellsL]))
    have h2 := Ty.wide_ofL ts (fun x hx => h x (by simp [Ty.cellsL, hx]))
    rcases List.mem_cons.1 hp with hp | hp
    · rw [hp]; exact h1
    · exact h2 p hp
end
theorem Rp.aggAt {E : Env} {A : Nat → Nat → Prop} {w : World} {cs : List AV} {u : Value} (h : Rp E A w (.agg cs) u) : ∀ c ∈ cs, ∃ v, Rp E A w c v := by
  cases h with
  | @agg _ us hs hr =>
    intro c hc
    obtain ⟨j, hj, e⟩ := List.mem_iff_getElem.1 hc
    exact ⟨us[j]'(by omega), hr j c _ (by rw [List.getElem?_eq_getElem hj, e]) (Array.getElem?_eq_getElem (by omega))⟩
theorem Met.at {args : List AV} (h : Met args) : ∃ E A w, ∀ c ∈ args, ∃ v, Rp E A w c v := by
  obtain ⟨E, A, w, us, hs, hr⟩ := h
  refine ⟨E, A, w, fun c hc => ?_⟩
  obtain ⟨j, hj, e⟩ := List.mem_iff_getElem.1 hc
  exact ⟨us[j]'(by omega), hr j c _ (by rw [List.getElem?_eq_getElem hj, e]) (Array.getElem?_eq_getElem (by omega))⟩
theorem Ty.cells_len (t : Ty) : t.cells.length = 3 := by rw [t.cells_eq]; rfl
theorem Ty.cells_take3 (t : Ty) : t.cells.take 3 = t.cells := by rw [t.cells_eq]; rfl
theorem Ty.cells_take1 (t : Ty) : t.cells.take 1 = [.v (.int .i64 t.k)] := by rw [t.cells_eq]; rfl
theorem Ty.cells_drop1 (t : Ty) : t.cells.drop 1 = [.v (.int .i64 t.n), .sl 3 (t.ps.map Ty.cells)] := by rw [t.cells_eq]; rfl
theorem Ty.cells_drop2 (t : Ty) : t.cells.drop 2 = [.sl 3 (t.ps.map Ty.cells)] := by rw [t.cells_eq]; rfl
theorem wrap_in {n : Int} (h1 : -9223372036854775808 ≤ n) (h2 : n ≤ 9223372036854775807) : IntKind.i64.wrap n = n := by
  rw [IntKind.wrap_i64]; omega
theorem Ty.cells_one (t : Ty) : t.cells.all AV.one = true := by rw [t.cells_eq]; rfl
theorem tyX : (∀ t : Ty, t.cells.all AV.one = true) ∧ (∀ t : Ty, t.cells.length = 3) ∧ (∀ t : Ty, t.cells.take 1 = [.v (.int .i64 t.k)]) ∧ (∀ t : Ty, t.cells.drop 1 = [.v (.int .i64 t.n), .sl 3 (t.ps.map Ty.cells)]) ∧
    (∀ t : Ty, t.cells.drop 2 = [.sl 3 (t.ps.map Ty.cells)]) ∧ (∀ t : Ty, t.cells.take 3 = t.cells) := ⟨Ty.cells_one, Ty.cells_len, Ty.cells_take1, Ty.cells_drop1, Ty.cells_drop2, Ty.cells_take3⟩
theorem Und.tys {n : Nat} {ps : List Ty} : Und n (.sl 3 (ps.map Ty.cells)) := .data (Ty.dataSl ps)
theorem Und.tyAgg {n : Nat} {t : Ty} : Und n (.agg t.cells) := .data t.dataAgg
theorem Und.oslTys {n id : Nat} {ps : List Ty} (h : id < n) : Und n (.osl id 3 (ps.map Ty.cells)) := .osl h .tys
theorem Und.oslTys1 {n id : Nat} {ps : List Ty} {t : Ty} (h : id < n) : Und n (.osl id 3 (ps.map Ty.cells ++ [t.cells])) := by
  have := Und.oslTys (ps := ps ++ [t]) h
  rwa [List.map_append] at this
theorem Data.clo0 {f : Nat} : Data (.clo f []) := .clo (fun _ h => by cases h)
theorem Und.clo0 {n f : Nat} : Und n (.clo f []) := .data .clo0
theorem Und.ty {n : Nat} {t : Ty} : UndL n t.cells := .data t.data
theorem getD_map_at {α β : Type} {f : α → β} {l : List α} {i : Nat} {p : α} (h : l[i]? = some p) (d : β) : (l.map f).getD i d = f p := by simp [List.getD_eq_getElem?_getD, h]
end Go.Proofs.YtmepcmphcghbeaaDoor
