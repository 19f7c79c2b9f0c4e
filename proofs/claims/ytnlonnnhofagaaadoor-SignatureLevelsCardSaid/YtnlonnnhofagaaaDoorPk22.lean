/- Texts of the abstract walk, of the contracts and of the plain laws, packed (part 22 of 40): ArgK. Conditions: none. -/
import Derived.Test.YtnlonnnhofagaaaDoorPk21
import Derived.OpenShut
namespace Go.Proofs.YtnlonnnhofagaaaDoor
open Go Go.RowKit Go.ChangeShapes Go.WideShapes
section
variable {H : Type} {enc : TypeId × Value → H} {P : Program} {w : World} {base : Nat} {spare : Nat → Bool} {held : Bool} {E : Env}
theorem rd_str {fuel t : Nat} (ht : P.underlying t = some .string) : Rd enc P w base spare held E fuel t (fun s : ByteArray => [.v (.string s)]) := fun cs x h => by
  obtain ⟨s, rfl, _, _⟩ := DataW.trod_string ht h
  refine ⟨s, rfl, fun i c u hc hu => ?_⟩
  cases i with
  | zero => simp at hc hu; subst hc; subst hu; exact .v _
  | succ i => simp at hc
theorem rd_two2 {tt ti : Nat} {f0 f1 : Field} (ht : P.underlying tt = some (.struct #[f0, f1])) (hc : P.cellsOf tt = 2) (t0 : f0.type = ti) (t1 : f1.type = ti) (o0 : f0.offset = 0) (o1 : f1.offset = 1)
    (hi : P.underlying ti = some (.int .i64)) (hci : P.cellsOf ti = 1) (fuel : Nat) : Rd enc P w base spare held E fuel tt (fun p : Int × Int => [.v (.int .i64 p.1), .v (.int .i64 p.2)]) := by
  intro cs x h
  obtain ⟨xs, n, hn, _, hl, hxl, hf⟩ := DataW.trod_struct ht h
  rw [hc] at hl
  match cs, hl with
  | [c0, c1], _ =>
    have h0 := hf 0 f0 rfl
    have h1 := hf 1 f1 rfl
    rw [t0, o0, hci] at h0
    rw [t1, o1, hci] at h1
    simp only [List.drop_zero, List.drop_succ_cons, List.take_succ_cons, List.take_zero] at h0 h1
    have hx : ∀ i, i < 2 → ∃ y, xs[i]? = some y := fun i hi => ⟨_, List.getElem?_eq_getElem (by rw [hxl]; exact hi)⟩
    obtain ⟨y0, e0⟩ := hx 0 (by omega)
    obtain ⟨y1, e1⟩ := hx 1 (by omega)
    rw [e0] at h0; rw [e1] at h1
    obtain ⟨k, _, r0⟩ := rd_int (E := E) hi _ _ h0
    obtain ⟨m, _, r1⟩ := rd_int (E := E) hi _ _ h1
    exact ⟨(k, m), rfl, rd_join (l1 := [c0]) (m1 := [_]) rfl rfl r0 r1⟩
theorem rd_tok {te ti ts tp : Nat} {f0 f1 f2 : Field} (ht : P.underlying te = some (.struct #[f0, f1, f2])) (hc : P.cellsOf te = 4) (hci : P.cellsOf ti = 1) (hcs : P.cellsOf ts = 1) (hcp : P.cellsOf tp = 2) (t0 : f0.type = ti) (t1 : f1.type = ts) (t2 : f2.type = tp) (o0 : f0.offset = 0) (o1 : f1.offset = 1) (o2 : f2.offset = 2)
    (hi : P.underlying ti = some (.int .i64)) (hs : P.underlying ts = some .string) (hS : ∀ fuel, Rd enc P w base spare held E fuel tp (fun p : Int × Int => [.v (.int .i64 p.1), .v (.int .i64 p.2)])) (fuel : Nat) : Rd enc P w base spare held E fuel te Tok.cells := by
  intro cs x h
  obtain ⟨xs, n, hn, _, hl, hxl, hf⟩ := DataW.trod_struct ht h
  rw [hc] at hl
  match cs, hl with
  | [c0, c1, c2, c3], _ =>
    have h0 := hf 0 f0 rfl
    have h1 := hf 1 f1 rfl
    have h2 := hf 2 f2 rfl
    rw [t0, o0, hci] at h0
    rw [t1, o1, hcs] at h1
    rw [t2, o2, hcp] at h2
    simp only [List.drop_zero, List.drop_succ_cons, List.take_succ_cons, List.take_zero] at h0 h1 h2
    have hx : ∀ i, i < 3 → ∃ y, xs[i]? = some y := fun i hi => ⟨_, List.getElem?_eq_getElem (by rw [hxl]; exact hi)⟩
    obtain ⟨y0, e0⟩ := hx 0 (by omega)
    obtain ⟨y1, e1⟩ := hx 1 (by omega)
    obtain ⟨y2, e2⟩ := hx 2 (by omega)
    rw [e0] at h0; rw [e1] at h1; rw [e2] at h2
    obtain ⟨k, _, r0⟩ := rd_int (E := E) hi _ _ h0
    obtain ⟨s, _, r1⟩ := rd_str (E := E) hs _ _ h1
    obtain ⟨p, _, r2⟩ := hS _ _ _ h2
    exact ⟨⟨k, s, p.1, p.2⟩, rfl, rd_join (l1 := [c0]) (m1 := [_]) rfl rfl r0 (rd_join (l1 := [c1]) (m1 := [_]) rfl rfl r1 r2)⟩
end
end Go.Proofs.YtnlonnnhofagaaaDoor
