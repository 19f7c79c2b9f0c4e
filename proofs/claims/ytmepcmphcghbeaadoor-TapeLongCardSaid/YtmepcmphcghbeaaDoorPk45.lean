/- Texts of the abstract walk, of the contracts and of the plain laws, packed (part 45 of 48): Ab40. Conditions: none. -/
import Derived.Test.YtmepcmphcghbeaaDoorPk44
namespace Go.Proofs.YtmepcmphcghbeaaDoor
open Go Go.RowKit
set_option linter.unnecessarySimpa false
section
variable {P : Program} {l : List Oper} {Q : Exit → St → Prop} {H : Held} {fuel : Nat} {listed : Array Bool} {st : St}
theorem AAny_dataNil (i : Nat) {d t ty n c : Nat} {x : Operand} {pos : String} {after : Array Edge} (hi : l[i]? = some { dst := some d, op := .call { callee := .builtin .unsafeSliceData, args := ⟨[x]⟩, argTypes := ⟨[t]⟩ }, type := ty, pos := pos, after := after, guard := none })
    (hs : Region.noSelect l.toArray = true) (hf : Region.free .any l.toArray listed i = true) (hr : (Region.ready .any l.toArray listed).contains i = true) (hQ : ∀ c st, ¬ Q (.panic c) st)
    (hx : st.ev x = .v (.slice none n c)) (h : AAny P l Q H fuel (listed.setIfInBounds i true) (st.put (some d) (.v (.pointer none)))) : AAny P l Q H (fuel + 1) listed st := by
  refine AAny_takeY i hi hs hf hr hQ (fun A0 Er os0 w0 E a w hsim => ?_) h
  have he : a.eval x = .slice none n c := by
    have h1 := hsim.ev x
    rw [hx] at h1
    generalize hv : a.eval x = v at h1
    cases h1; rfl
  refine ⟨.pointer none, .v _, .inl ⟨by simp [Region.wanted], fun w' => ?_⟩⟩
  have hu := Lib.run_unsafeSliceData_nil (P := P) w' #[t] ty n c
  simp only [execOp, resolve, Sem.run_bind, Sem.run_pure, Result.andThen_ok, invoke, builtin, List.map_toArray, List.map_cons, List.map_nil, he, hu]
theorem AAny_strNone (i : Nat) {d pt it ty : Nat} {p n : Operand} {q : Option Addr} {pos : String} {after : Array Edge} (hi : l[i]? = some { dst := some d, op := .call { callee := .builtin .unsafeString, args := ⟨[p, n]⟩, argTypes := ⟨[pt, it]⟩ }, type := ty, pos := pos, after := after, guard := none })
    (hs : Region.noSelect l.toArray = true) (hf : Region.free .any l.toArray listed i = true) (hr : (Region.ready .any l.toArray listed).contains i = true) (hQ : ∀ c st, ¬ Q (.panic c) st)
    (hp : st.ev p = .v (.pointer q)) (hn : st.ev n = .v (.int .i64 0)) (h : AAny P l Q H fuel (listed.setIfInBounds i true) (st.put (some d) (.v (.string .empty)))) : AAny P l Q H (fuel + 1) listed st := by
  refine AAny_takeY i hi hs hf hr hQ (fun A0 Er os0 w0 E a w hsim => ?_) h
  have he : a.eval p = .pointer q := by
    have h1 := hsim.ev p
    rw [hp] at h1
    generalize hv : a.eval p = v at h1
    cases h1; rfl
  have he2 : a.eval n = .int .i64 0 := by
    have h1 := hsim.ev n
    rw [hn] at h1
    generalize hv : a.eval n = v at h1
    cases h1; rfl
  refine ⟨.string .empty, .v _, .inl ⟨by simp [Region.wanted], fun w' => ?_⟩⟩
  have hu := Lib.run_unsafeString_none (P := P) w' pt it ty q
  simp only [execOp, resolve, Sem.run_bind, Sem.run_pure, Result.andThen_ok, invoke, builtin, List.map_toArray, List.map_cons, List.map_nil, he, he2, hu]
end
end Go.Proofs.YtmepcmphcghbeaaDoor
