/- Texts of the abstract walk, of the contracts and of the plain laws, packed (part 41 of 48): ArgA. Conditions: none. -/
import Derived.Test.YtmepcmphcghbeaaDoorPk40
import Derived.OpenShut
namespace Go.Proofs.YtmepcmphcghbeaaDoor
open Go Go.RowKit Go.ChangeShapes Go.WideShapes
set_option linter.unnecessarySimpa false
def ActT.wide (a : ActT) : Prop := a.fits ∧ a.name.size ≤ 9223372036854775807 ∧ a.text.size ≤ 9223372036854775807
abbrev ActP := { a : ActT // a.wide }
def ActP.cells (a : ActP) : List AV := a.1.cells
theorem wf_I64 {n : Int} (h : (Lit.int .i64 n).wf = true) : I64 n := by
  have e1 : IntKind.i64.min = -9223372036854775808 := rfl
  have e2 : IntKind.i64.max = 9223372036854775807 := rfl
  simp only [Lit.wf, Bool.and_eq_true, decide_eq_true_eq, e1, e2] at h
  exact h
theorem maxLen_eq : maxLen = 9223372036854775807 := by decide
section
variable {H : Type} {enc : TypeId × Value → H} {P : Program} {w : World} {base : Nat} {spare : Nat → Bool} {held : Bool} {E : Env}
theorem rd_act {ta tl ti ts : Nat} {f0 f1 f2 f3 f4 f5 f6 g0 g1 g2 : Field} (ht : P.underlying ta = some (.struct #[f0, f1, f2, f3, f4, f5, f6])) (hl : P.underlying tl = some (.struct #[g0, g1, g2])) (hc : P.cellsOf ta = 9) (hcl : P.cellsOf tl = 3)
    (hci : P.cellsOf ti = 1) (hcs : P.cellsOf ts = 1) (hi : P.underlying ti = some (.int .i64)) (hs : P.underlying ts = some .string)
    (t0 : f0.type = ti) (t1 : f1.type = ts) (t2 : f2.type = ti) (t3 : f3.type = ti) (t4 : f4.type = ts) (t5 : f5.type = ti) (t6 : f6.type = tl) (u0 : g0.type = ti) (u1 : g1.type = ti) (u2 : g2.type = ti)
    (o0 : f0.offset = 0) (o1 : f1.offset = 1) (o2 : f2.offset = 2) (o3 : f3.offset = 3) (o4 : f4.offset = 4) (o5 : f5.offset = 5) (o6 : f6.offset = 6) (q0 : g0.offset = 0) (q1 : g1.offset = 1) (q2 : g2.offset = 2)
    (fuel : Nat) : Rd enc P w base spare held E fuel ta ActP.cells := by
  intro cs x h
  obtain ⟨xs, n, hn, _, hl1, hxl, hf⟩ := DataW.trod_struct ht h
  rw [hc] at hl1
  match cs, hl1 with
  | [c0, c1, c2, c3, c4, c5, c6, c7, c8], _ =>
    have h0 := hf 0 f0 rfl
    have h1 := hf 1 f1 rfl
    have h2 := hf 2 f2 rfl
    have h3 := hf 3 f3 rfl
    have h4 := hf 4 f4 rfl
    have h5 := hf 5 f5 rfl
    have h6 := hf 6 f6 rfl
    rw [t0, o0, hci] at h0
    rw [t1, o1, hcs] at h1
    rw [t2, o2, hci] at h2
    rw [t3, o3, hci] at h3
    rw [t4, o4, hcs] at h4
    rw [t5, o5, hci] at h5
    rw [t6, o6, hcl] at h6
    simp only [List.drop_zero, List.drop_succ_cons, List.take_succ_cons, List.take_zero] at h0 h1 h2 h3 h4 h5 h6
    have hx : ∀ i, i < 7 → ∃ y, xs[i]? = some y := fun i hi => ⟨_, List.getElem?_eq_getElem (by rw [hxl]; exact hi)⟩
    obtain ⟨y0, e0⟩ := hx 0 (by omega)
    obtain ⟨y1, e1⟩ := hx 1 (by omega)
    obtain ⟨y2, e2⟩ := hx 2 (by omega)
    obtain ⟨y3, e3⟩ := hx 3 (by omega)
    obtain ⟨y4, e4⟩ := hx 4 (by omega)
    obtain ⟨y5, e5⟩ := hx 5 (by omega)
    obtain ⟨y6, e6⟩ := hx 6 (by omega)
    rw [e0] at h0; rw [e1] at h1; rw [e2] at h2; rw [e3] at h3; rw [e4] at h4; rw [e5] at h5; rw [e6] at h6
    obtain ⟨n0, k0, _, w0⟩ := DataW.trod_int hi h0
    obtain ⟨s1, k1, _, z1⟩ := DataW.trod_string hs h1
    obtain ⟨n2, k2, _, w2⟩ := DataW.trod_int hi h2
    obtain ⟨n3, k3, _, w3⟩ := DataW.trod_int hi h3
    obtain ⟨s4, k4, _, z4⟩ := DataW.trod_string hs h4
    obtain ⟨n5, k5, _, w5⟩ := DataW.trod_int hi h5
    obtain ⟨ys, m, hm, _, _, hyl, hg⟩ := DataW.trod_struct hl h6
    have h7 := hg 0 g0 rfl
    have h8 := hg 1 g1 rfl
    have h9 := hg 2 g2 rfl
    rw [u0, q0, hci] at h7
    rw [u1, q1, hci] at h8
    rw [u2, q2, hci] at h9
    simp only [List.drop_zero, List.drop_succ_cons, List.take_succ_cons, List.take_zero] at h7 h8 h9
    have hy : ∀ i, i < 3 → ∃ y, ys[i]? = some y := fun i hi => ⟨_, List.getElem?_eq_getElem (by rw [hyl]; exact hi)⟩
    obtain ⟨y7, e7⟩ := hy 0 (by omega)
    obtain ⟨y8, e8⟩ := hy 1 (by omega)
    obtain ⟨y9, e9⟩ := hy 2 (by omega)
    rw [e7] at h7; rw [e8] at h8; rw [e9] at h9
    obtain ⟨n7, k7, _, w7⟩ := DataW.trod_int hi h7
    obtain ⟨n8, k8, _, w8⟩ := DataW.trod_int hi h8
    obtain ⟨n9, k9, _, w9⟩ := DataW.trod_int hi h9
    cases k0; cases k1; cases k2; cases k3; cases k4; cases k5; cases k7; cases k8; cases k9
    rw [maxLen_eq] at z1 z4
    refine ⟨⟨⟨n0, s1, n2, n3, s4, n5, n7, n8, n9⟩, ⟨wf_I64 w2, wf_I64 w3, wf_I64 w5, wf_I64 w7, wf_I64 w8, wf_I64 w9⟩, z1, z4⟩, rfl, fun i c u hc hu => ?_⟩
    match i with
    | 0 => cases hc; cases hu; exact .v _
    | 1 => cases hc; cases hu; exact .v _
    | 2 => cases hc; cases hu; exact .v _
    | 3 => cases hc; cases hu; exact .v _
    | 4 => cases hc; cases hu; exact .v _
    | 5 => cases hc; cases hu; exact .v _
    | 6 => cases hc; cases hu; exact .v _
    | 7 => cases hc; cases hu; exact .v _
    | 8 => cases hc; cases hu; exact .v _
    | i + 9 => cases hc
end
end Go.Proofs.YtmepcmphcghbeaaDoor
