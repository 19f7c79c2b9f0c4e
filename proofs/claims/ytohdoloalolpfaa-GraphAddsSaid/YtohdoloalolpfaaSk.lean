/- A map's keys, collected and sorted by the library's own text: the contract in the abstract walk's words. Conditions: none; plain theorems over the given program. -/
import Derived.Test.YtohdoloalolpfaaAb22
import Derived.Test.YtohdoloalolpfaaRef11
import Derived.Test.YtohdoloalolpfaaLay
namespace Go.Proofs.Ytohdoloalolpfaa
open Go Go.RowKit Go.Maps Go.Sort Go.Shelf Go.WideElems Go.WideShapes

theorem sortsI (m : Nat) : AnyZI.SortsIn Try.prog sortedA_ren Fence.wide m :=
  ⟨fun blk off cap ss W hH hblk hsz => callsIn_wide.2 (AnyM.slices_Sort_int sortA blk off cap ss W hH hblk hsz), fun p cap W => callsIn_wide.2 (AnyM.slices_Sort_int_none sortA p cap W)⟩
theorem Sorted_raw {H : Type} (p b nn : Nat) (D0 : DataW H) (R : Value → Option (DataW H × List MemPlace)) (w : World) (hown : w.ownsMap Try.prog 3 R b nn D0) (hcell : w.cell? ⟨p, 0, none⟩ = some (.map (some b))) (hmax : Maps.size D0 ≤ maxLen) (hbytes : Maps.size D0 * 8 ≤ 140737488355328) :
    Calls Try.prog 57 #[.func (.func 86) #[] #[.pointer (some ⟨p, 0, none⟩)]] w fun e w' => ∃ (v : Value) (ss : List Int), e = .returned v ∧ ss.Perm (intKeys D0) ∧
      w'.ownsRow w.heap.size 3 1 v ss.length ((ss.mergeSort (fun x y => decide (x ≤ y))).map encZ) ∧ (v = .slice none 0 0 ↔ ss = []) ∧ Below w.heap.size w w' := by
  refine (callsIn_wide (n := 5)).1 ?_
  have hseq : SeqGives Fence.wide 2 Try.prog 86 #[.pointer (some ⟨p, 0, none⟩)] encZ (fun ss => ss.Perm (intKeys D0)) (Maps.size D0) w :=
    AnyZI.keys_gives (ρ := keysA_ren) { keysA with } Fence.wide _ trivial rfl (by omega) p b nn D0 w (World.block_lt_of_cell? w _ hcell) hcell hown
  exact AnyZI.sorted_in sortedA Fence.wide 5 trivial trivial trivial trivial rfl (by omega) (sortsI _) (enters_of Try.func85 (by kernel_rfl) rfl) 86 #[.pointer (some ⟨p, 0, none⟩)] trivial (enters_of Try.func86 (by kernel_rfl) rfl) _ _ hmax hbytes _ hseq
/-- an int of 64 bits -/
def is64 (n : Int) : Prop := -9223372036854775808 ≤ n ∧ n < 9223372036854775808
theorem is64_wf {n : Int} (h : is64 n) : (Lit.int .i64 n).wf = true := by
  obtain ⟨h1, h2⟩ := h
  have e1 : IntKind.i64.min = -9223372036854775808 := by decide
  have e2 : IntKind.i64.max = 9223372036854775807 := by decide
  simp only [Lit.wf, e1, e2, Bool.and_eq_true, decide_eq_true_eq]
  omega
abbrev sortI (l : List Int) : List Int := l.mergeSort fun x y => decide (x ≤ y)
theorem rpInts {E : Env} {A : Nat → Nat → Prop} {w : World} {base n : Nat} {v : Value} {l : List Int} (h : w.ownsRow base 3 1 v n (l.map encZ)) (hA : ∀ b o, A b o → b < base) (hcap : n ≤ maxLen) : Rp E A w (.sl 1 (l.map intC)) v := by
  obtain ⟨hl, h⟩ := h
  have hn : l.length = n := by simpa using hl
  rcases h with ⟨rfl, h0⟩ | ⟨g, cap, cur, rfl, hb, hh, h1, h2, h3, h4⟩
  · have : l = [] := List.eq_nil_of_length_eq_zero (by omega)
    subst this
    exact .sl0 (by simp [maxLen])
  · have hfl : ∀ l : List Int, (l.map intC).flatten = l.map fun x => AV.v (.int .i64 x) := fun l => by
      induction l with
      | nil => rfl
      | cons x l ih => simp [intC, ih]
    have hlen : (l.map intC).flatten.length = n := by rw [hfl, List.length_map, hn]
    have hcur : ∀ j x, l[j]? = some x → cur[j]? = some (encZ x) := fun j x hj => by
      have hjl := (List.getElem?_eq_some_iff.1 hj).1
      have h5 : (l.map encZ)[j]? = some (encZ x) := by rw [List.getElem?_map, hj]; rfl
      rw [← h4, List.getElem?_take, if_pos (by omega)] at h5
      rw [← Array.getElem?_toList]; exact h5
    refine .sl (fun j => cur.getD j undef) (by rw [List.length_map, hn]) h1 h2 (fun x hx => by obtain ⟨y, _, rfl⟩ := List.mem_map.1 hx; rfl) (fun j hj => ⟨?_, fun ha => ?_⟩) fun j c hj => ?_
    · rw [hlen] at hj
      have hlt : j < cur.size := by rw [h3]; omega
      rw [Nat.zero_add, cell_of_row w _ _ cur 3 (0, 0) hh]
      simp [Array.getD, hlt]
    · have := hA _ _ ha; omega
    · rw [hfl, List.getElem?_map] at hj
      cases hx : l[j]? with
      | none => rw [hx] at hj; cases hj
      | some x =>
        rw [hx] at hj
        cases hj
        have h5 := hcur j x hx
        have hlt : j < cur.size := (Array.getElem?_eq_some_iff.1 h5).1
        have h6 : cur.getD j undef = encZ x := by
          rw [Array.getElem?_eq_getElem hlt] at h5
          simp [Array.getD, hlt, Option.some.inj h5]
        rw [h6]
        exact .v _
theorem Sorted_calls {os : Os} {nx p m : Nat} {es : List (Int × AV)} {Q : AV → Os → Nat → Prop} (hp : getO os p = some (.cells 89 [.map m])) (hm : getO os m = some (.map es)) (hwf : ∀ q ∈ es, is64 q.1) (hlen : es.length ≤ 1099511627776)
    (hq : Q (.sl 1 ((sortI (es.map Prod.fst)).map intC)) os nx) : ACalls Try.prog 57 [.clo 86 [.ptr p 0]] os nx Q := by
  refine ⟨⟨Try.f57, Try.func57, by kernel_rfl, rfl⟩, fun A0 E w vs hok hnx hr => ?_⟩
  obtain ⟨hsz, hv⟩ := hr
  have hsz : vs.size = 1 := hsz
  obtain ⟨hvp, cur, hh, hcs, hc⟩ := hok.ok p _ hp
  obtain ⟨hvm, ents, clock, hme, hes, hent, hst⟩ := hok.ok m _ hm
  have hcs : cur.size = 1 := hcs
  have hv0 := hv 0 (.clo 86 [.ptr p 0]) vs[0] rfl (Array.getElem?_eq_getElem (by omega))
  have hvs : vs = #[.func (.func 86) #[] #[.pointer (some ⟨E.blk p, 0, none⟩)]] := by
    have e0 : vs[0] = .func (.func 86) #[] #[.pointer (some ⟨E.blk p, 0, none⟩)] := by
      generalize vs[0] = u at hv0
      cases hv0 with
      | @clo _ _ us hs hr =>
        have hs : us.size = 1 := hs
        have h1 := hr 0 (.ptr p 0) us[0] rfl (Array.getElem?_eq_getElem (by omega))
        have e1 : us[0] = .pointer (some ⟨E.blk p, 0, none⟩) := by
          generalize us[0] = u at h1
          cases h1; rfl
        congr 1
        apply Array.ext (by simp [hs])
        intro i h2 h3
        have : i = 0 := by omega
        subst this
        simpa using e1
    apply Array.ext (by simp [hsz])
    intro i h2 h3
    have : i = 0 := by omega
    subst this
    simpa using e0
  have hcell : w.cell? ⟨E.blk p, 0, none⟩ = some (.map (some (E.blk m))) := by
    have h1 : cur[0]? = some cur[0] := Array.getElem?_eq_getElem (by omega)
    have h2 := hc 0 (.map m) _ rfl h1
    have e2 : cur[0] = .map (some (E.blk m)) := by
      generalize cur[0] = u at h2
      cases h2; rfl
    rw [cell_of_row w _ _ cur 89 (0, 0) hh, h1, e2]
  have hkey : ∀ x ∈ ents.toList, ∃ q ∈ es, x.key = .int .i64 q.1 := fun x hx => by
    obtain ⟨i, hi, rfl⟩ := List.mem_iff_getElem.1 hx
    have hie : i < es.length := by rw [← hes]; simpa using hi
    exact ⟨_, List.getElem_mem hie, (hent i _ _ (List.getElem?_eq_getElem hie) (by rw [← Array.getElem?_toList]; exact List.getElem?_eq_getElem hi)).1⟩
  have hk64 : ∀ x ∈ ents.toList, ∃ n : Int, x.key = .int .i64 n ∧ keyOf Try.prog 3 x.key = some (.int .i64 n) := fun x hx => by
    obtain ⟨q, hq, he⟩ := hkey x hx
    refine ⟨q.1, he, ?_⟩
    rw [he]
    simp [keyOf, Try.underlying3, mapKey, is64_wf (hwf q hq)]
  let R : Value → Option (DataW Unit × List MemPlace) := fun _ => some (.nil, [])
  have hF : Fit Try.prog 3 R ents clock := ⟨by rw [hes]; simp only [maxLen]; omega, hst, fun x hx => by
    obtain ⟨n, _, hk⟩ := hk64 x hx
    exact ⟨_, by simp only [Go.WideElems.rd, hk, R, Option.bind_some, Option.map_some]; rfl⟩⟩
  have hown := World.ownsMap_of_fit (R := R) hme hF (fun x _ z hz => hz)
  have hsize : Maps.size (DataW.map ((ents.toList.map (rg Try.prog 3 R)).foldr DataW.insert [])) = es.length := by
    simp [Maps.size, length_sorted, hes]
  have hperm : (intKeys (DataW.map ((ents.toList.map (rg Try.prog 3 R)).foldr DataW.insert []))).Perm (es.map Prod.fst) := by
    show List.Perm (((ents.toList.map (rg Try.prog 3 R)).foldr DataW.insert []).map fun p => Go.intOf p.1) _
    refine ((sorted_perm _).map _).trans (List.Perm.of_eq ?_)
    apply List.ext_getElem (by simp [hes])
    intro i h1 h2
    simp only [List.getElem_map]
    have hi : i < ents.size := by simpa using h1
    have hie : i < es.length := by rw [← hes]; exact hi
    have he := (hent i _ _ (List.getElem?_eq_getElem hie) (Array.getElem?_eq_getElem hi)).1
    have hx := hwf _ (List.getElem_mem hie)
    simp [Go.WideElems.rg, Go.WideElems.rd, he, keyOf, Try.underlying3, mapKey, is64_wf hx, R, Go.intOf]
  rw [hvs]
  refine (Sorted_raw (E.blk p) (E.blk m) _ _ R w hown hcell (by rw [hsize]; simp only [maxLen]; omega) (by rw [hsize]; omega)).mono ?_
  rintro e w' ⟨v, ss, rfl, hS, hrow, _, hb⟩
  have hsort : ss.mergeSort (fun x y => decide (x ≤ y)) = sortI (es.map Prod.fst) := mergeSort_of_perm_i (hS.trans hperm)
  rw [hsort] at hrow
  have hAv : ∀ b o, AvX A0 E os b o → b < w.heap.size := by
    rintro b o (h | ⟨id, ob, hg, hbk, _⟩)
    · exact hok.bnd b o h
    · exact Ob.blk_lt (hok.ok id ob hg).2 hbk
  have hssl : ss.length ≤ maxLen := by
    have := (hS.trans hperm).length_eq
    rw [List.length_map] at this
    simp only [maxLen]; omega
  exact ⟨_, v, os, nx, E, rfl, hq, rpInts hrow hAv hssl, hok.keep hb, hnx, .refl E, .of_below hb, fun b o ha => .inl ha⟩
end Go.Proofs.Ytohdoloalolpfaa
