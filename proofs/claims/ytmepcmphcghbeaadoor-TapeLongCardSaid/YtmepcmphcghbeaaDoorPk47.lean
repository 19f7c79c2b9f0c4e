/- Texts of the abstract walk, of the contracts and of the plain laws, packed (part 47 of 48): Ab41. Conditions: none. -/
import Derived.Test.YtmepcmphcghbeaaDoorPk46
import Derived.Laws.MakeOwn
namespace Go.Proofs.YtmepcmphcghbeaaDoor
open Go Go.RowKit
set_option linter.unusedSimpArgs false
set_option linter.unnecessarySimpa false
set_option linter.unusedVariables false
theorem flat_rep {α : Type} (zs : List α) : ∀ (n j : Nat), j < n * zs.length → (List.replicate n zs).flatten[j]? = zs[j % zs.length]?
  | 0, j, h => by simp at h
  | n + 1, j, h => by
    rw [List.replicate_succ, List.flatten_cons]
    by_cases hj : j < zs.length
    · rw [List.getElem?_append_left hj, Nat.mod_eq_of_lt hj]
    · rw [Nat.succ_mul] at h
      rw [List.getElem?_append_right (by omega), flat_rep zs n (j - zs.length) (by omega), Nat.mod_eq_sub_mod (by omega : j ≥ zs.length)]
theorem MidAt_make {P : Program} {l : List Oper} {st : St} {K : St → Prop} {d : Option Nat} {t ty n : Nat} {x y : Operand} {pos : String} {after : Array Edge}
    {e sz bytes : Nat} {zl : List Value} (he : elemInf P t = some (e, sz, bytes)) (hzl : zeroC P e = some zl) (hx : st.ev x = .v (.int .i64 (n : Int))) (hy : st.ev y = .v (.int .i64 (n : Int)))
    (hc : n * sz ≤ 16777216) (hbt : bytes * n ≤ 281474976710656) (hn : n ≤ 9223372036854775807)
    (hK : K ((st.new (.row e sz (List.replicate n (zl.map .v)))).put d (.own st.nx n))) :
    MidAt P l [{ dst := d, op := .makeSlice t x y, type := ty, pos := pos, after := after, guard := none }] st K := by
  have val : ∀ (s : Sem Value) (v : Value) (w w' : World), s.run P w = .ok v w' → ((do pure (.value (← s))) : Sem Next).run P w = .ok (.value v) w' := fun s v w w' h => by
    simp only [Sem.run_bind, h, Result.andThen_ok, Sem.run_pure]
  intro A0 E0 os0 w0 E a w Q rest h hq
  obtain ⟨i, zv, ht, hi, hzero, rfl, rfl, hzs, hsz0⟩ := elemInf_spec he
  have hzl2 : zv.cells.toList = zl := by
    unfold zeroC at hzl
    rw [hi] at hzl
    simpa [hzero] using hzl
  have hlen : zl.length = i.size := by rw [← hzl2, Array.length_toList, hzs]
  have hxv : a.eval x = .int .i64 (n : Int) := by
    have h1 := h.ev x
    rw [hx] at h1
    generalize hv : a.eval x = v at h1
    cases h1; rfl
  have hyv : a.eval y = .int .i64 (n : Int) := by
    have h1 := h.ev y
    rw [hy] at h1
    generalize hv : a.eval y = v at h1
    cases h1; rfl
  have hrun := run_makeSlice (P := P) w t e i zv ht hi hzero .i64 .i64 (n : Int) (n : Int) (by omega) (by omega) (by simpa using hc) (by rw [← Int.natCast_mul]; omega) (by omega)
  simp only [Int.toNat_natCast] at hrun
  have hlm : (zl.map AV.v).length = i.size := by rw [List.length_map, hlen]
  obtain ⟨E', h4, h5⟩ := h.newRow (e := e) (sz := i.size) (n := n) (xs := List.replicate n (zl.map .v)) (w' := w.alloc (.cells (madeCells zv.cells (n * i.size)) e)) ((Below.refl _ w).alloc (Nat.le_refl _) _) (cells := madeCells zv.cells (n * i.size)) (by simp) (by simp only [maxLen]; omega) (World.alloc_heap_new w _) (size_madeCells _ _) (fun x hx => by rw [(List.mem_replicate.1 hx).2]; exact hlm) (fun j c u hj hu => by
    have hu1 := (Array.getElem?_eq_some_iff.1 hu).1
    rw [size_madeCells] at hu1
    rw [flat_rep _ n j (by rw [hlm]; exact hu1), hlm, List.getElem?_map] at hj
    have hm : j % i.size < i.size := Nat.mod_lt _ hsz0
    rw [List.getElem?_eq_getElem (by omega)] at hj
    simp only [Option.map_some, Option.some.injEq] at hj
    have hu2 : u = zl[j % i.size]'(by omega) := by
      unfold madeCells at hu
      simp only [Array.getElem?_map, Array.getElem?_range, hu1, if_true, Option.map_some, Option.some.injEq] at hu
      rw [← hu]
      subst hzl2
      simp only [hzs]
      rw [getElem!_pos zv.cells (j % i.size) (by omega)]
      simp
    rw [← hj, hu2]
    exact .v _)
  refine wpList_step fun K1 hK1 => ?_
  rw [if_pos (by simp [Region.wanted])]
  unfold Oper.wp
  simp only [execOp, hxv, hyv, val _ _ _ _ hrun, Oper.upon_value]
  exact hK1 _ _ (hq _ E' _ _ hK (h4.set h5 d))
end Go.Proofs.YtmepcmphcghbeaaDoor
