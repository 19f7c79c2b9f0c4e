/- Texts of the abstract walk, of the contracts and of the plain laws, packed (part 43 of 45): Lay Sk Ga2 GaL UmL Um1 Ur2 Ur3 Ur4 UnA. Conditions: none. -/
import Derived.Test.YtohdoloalolpfaaPk42
import Derived.Shelf.SlIterI.Nil
import Derived.Shelf.SortM.Plain
import Derived.Shelf.SortM.SortNone
import Derived.Ground.GgzProg
import Derived.Ground.SlgmProg
import Derived.Test.YtohdoloalolpfaaProg
namespace Go.Proofs.Ytohdoloalolpfaa
open Go Go.Shelf
def keysA_ren : Go.Shelf.Ren := ⟨fun | 7 => 58 | 10 => 86 | n => n, fun | 23 => 89 | 26 => 3 | 3 => 3 | 28 => 95 | 0 => 0 | 27 => 94 | 33 => 85 | 4 => 4 | n => n, fun | n => n⟩
theorem keysA : Go.Proofs.SlLaysZI.n7 Try.prog keysA_ren := {
  mixed := by kernel_rfl
  f7 := ⟨Try.f58.name, by decide, Try.func58.trans (congrArg some (by kernel_rfl))⟩
  f10 := ⟨Try.f86.name, by decide, Try.func86.trans (congrArg some (by kernel_rfl))⟩
  t0 := Try.underlying0
  a0 := Try.isAgg0
  z0 := Try.sizeOf0
  v0 := Try.zeroValue0
  t4 := Try.underlying4
  a4 := Try.isAgg4
  z4 := Try.sizeOf4
  v4 := Try.zeroValue4
  t23 := Try.underlying89
  a23 := Try.isAgg89
  z23 := Try.sizeOf89
  v23 := Try.zeroValue89
  t26 := Try.underlying3
  a26 := Try.isAgg3
  z26 := Try.sizeOf3
  v26 := Try.zeroValue3
  t27 := Try.underlying94
  a27 := Try.isAgg94
  z27 := Try.sizeOf94
  v27 := Try.zeroValue94
  t28 := Try.underlying95
  a28 := Try.isAgg95
  z28 := Try.sizeOf95
  v28 := Try.zeroValue95
  t33 := Try.underlying85
  a33 := Try.isAgg85
  z33 := Try.sizeOf85
  v33 := Try.zeroValue85 }
def sortedA_ren : Go.Shelf.Ren := ⟨fun | 6 => 57 | 8 => 84 | 9 => 85 | 11 => 106 | 13 => 108 | 12 => 107 | 23 => 121 | 24 => 122 | 14 => 112 | 15 => 113 | 16 => 114 | 17 => 115 | 18 => 116 | 19 => 117 | 20 => 118 | 21 => 119 | 22 => 120 | 25 => 125 | 26 => 126 | 27 => 127 | 28 => 128 | 29 => 129 | 30 => 130 | 31 => 133 | n => n, fun | 26 => 3 | 28 => 95 | 24 => 28 | 0 => 0 | 3 => 3 | 37 => 144 | 48 => 158 | 50 => 160 | 4 => 4 | 40 => 152 | 39 => 151 | 45 => 49 | 5 => 5 | 9 => 9 | 51 => 166 | 55 => 170 | 57 => 174 | 58 => 64 | 33 => 85 | n => n, fun | n => n⟩
theorem sortedA : Go.Proofs.SlLaysZI.n6 Try.prog sortedA_ren := {
  mixed := by kernel_rfl
  f6 := ⟨Try.f57.name, by decide, Try.func57.trans (congrArg some (by kernel_rfl))⟩
  f8 := ⟨Try.f84.name, by decide, Try.func84.trans (congrArg some (by kernel_rfl))⟩
  f11 := ⟨Try.f106.name, by decide, Try.func106.trans (congrArg some (by kernel_rfl))⟩
  t0 := Try.underlying0
  a0 := Try.isAgg0
  z0 := Try.sizeOf0
  v0 := Try.zeroValue0
  t24 := Try.underlying28
  a24 := Try.isAgg28
  z24 := Try.sizeOf28
  v24 := Try.zeroValue28
  t26 := Try.underlying3
  a26 := Try.isAgg3
  z26 := Try.sizeOf3
  v26 := Try.zeroValue3
  t28 := Try.underlying95
  a28 := Try.isAgg95
  z28 := Try.sizeOf95
  v28 := Try.zeroValue95
  i26 := by kernel_rfl }
def sortA_ren : Go.Shelf.Ren := ⟨fun | 5 => 85 | 8 => 108 | 7 => 107 | 19 => 121 | 20 => 122 | 10 => 112 | 11 => 113 | 12 => 114 | 13 => 115 | 14 => 116 | 15 => 117 | 16 => 118 | 17 => 119 | 18 => 120 | 30 => 125 | 31 => 126 | 32 => 127 | 33 => 128 | 34 => 129 | 35 => 130 | 40 => 133 | n => n, fun | 23 => 28 | 25 => 3 | 3 => 3 | 32 => 144 | 22 => 28 | 0 => 0 | 44 => 158 | 46 => 160 | 4 => 4 | 36 => 152 | 35 => 151 | 41 => 49 | 5 => 5 | 9 => 9 | 53 => 166 | 57 => 170 | 63 => 174 | 64 => 64 | n => n, fun | n => n⟩
theorem sortA : Go.Proofs.SlLaysM.n5 Try.prog sortA_ren := {
  mixed := by kernel_rfl
  f5 := ⟨Try.f85.name, by decide, Try.func85.trans (congrArg some (by kernel_rfl))⟩
  f7 := ⟨Try.f107.name, by decide, Try.func107.trans (congrArg some (by kernel_rfl))⟩
  f8 := Try.func108.trans (congrArg some (by kernel_rfl))
  f10 := ⟨Try.f112.name, by decide, Try.func112.trans (congrArg some (by kernel_rfl))⟩
  f11 := ⟨Try.f113.name, by decide, Try.func113.trans (congrArg some (by kernel_rfl))⟩
  f12 := ⟨Try.f114.name, by decide, Try.func114.trans (congrArg some (by kernel_rfl))⟩
  f13 := ⟨Try.f115.name, by decide, Try.func115.trans (congrArg some (by kernel_rfl))⟩
  f14 := ⟨Try.f116.name, by decide, Try.func116.trans (congrArg some (by kernel_rfl))⟩
  f15 := ⟨Try.f117.name, by decide, Try.func117.trans (congrArg some (by kernel_rfl))⟩
  f16 := ⟨Try.f118.name, by decide, Try.func118.trans (congrArg some (by kernel_rfl))⟩
  f17 := ⟨Try.f119.name, by decide, Try.func119.trans (congrArg some (by kernel_rfl))⟩
  f18 := ⟨Try.f120.name, by decide, Try.func120.trans (congrArg some (by kernel_rfl))⟩
  f19 := Try.func121.trans (congrArg some (by kernel_rfl))
  f20 := Try.func122.trans (congrArg some (by kernel_rfl))
  f30 := ⟨Try.f125.name, by decide, Try.func125.trans (congrArg some (by kernel_rfl))⟩
  f31 := Try.func126.trans (congrArg some (by kernel_rfl))
  f32 := Try.func127.trans (congrArg some (by kernel_rfl))
  f33 := ⟨Try.f128.name, by decide, Try.func128.trans (congrArg some (by kernel_rfl))⟩
  f34 := ⟨Try.f129.name, by decide, Try.func129.trans (congrArg some (by kernel_rfl))⟩
  f35 := ⟨Try.f130.name, by decide, Try.func130.trans (congrArg some (by kernel_rfl))⟩
  f40 := ⟨Try.f133.name, by decide, Try.func133.trans (congrArg some (by kernel_rfl))⟩
  t0 := Try.underlying0
  a0 := Try.isAgg0
  z0 := Try.sizeOf0
  v0 := Try.zeroValue0
  t3 := Try.underlying3
  a3 := Try.isAgg3
  z3 := Try.sizeOf3
  v3 := Try.zeroValue3
  t4 := Try.underlying4
  a4 := Try.isAgg4
  z4 := Try.sizeOf4
  v4 := Try.zeroValue4
  t5 := Try.underlying5
  a5 := Try.isAgg5
  z5 := Try.sizeOf5
  v5 := Try.zeroValue5
  t9 := Try.underlying9
  a9 := Try.isAgg9
  z9 := Try.sizeOf9
  v9 := Try.zeroValue9
  t22 := Try.underlying28
  a22 := Try.isAgg28
  z22 := Try.sizeOf28
  v22 := Try.zeroValue28
  t23 := Try.underlying28
  a23 := Try.isAgg28
  z23 := Try.sizeOf28
  v23 := Try.zeroValue28
  t25 := Try.underlying3
  a25 := Try.isAgg3
  z25 := Try.sizeOf3
  v25 := Try.zeroValue3
  t32 := Try.underlying144
  a32 := Try.isAgg144
  z32 := Try.sizeOf144
  v32 := Try.zeroValue144
  t35 := Try.underlying151
  a35 := Try.isAgg151
  z35 := Try.sizeOf151
  v35 := Try.zeroValue151
  t36 := Try.underlying152
  a36 := Try.isAgg152
  z36 := Try.sizeOf152
  v36 := Try.zeroValue152
  t41 := Try.underlying49
  a41 := Try.isAgg49
  z41 := Try.sizeOf49
  v41 := Try.zeroValue49
  t44 := Try.underlying158
  a44 := Try.isAgg158
  z44 := Try.sizeOf158
  v44 := Try.zeroValue158
  t46 := Try.underlying160
  a46 := Try.isAgg160
  z46 := Try.sizeOf160
  v46 := Try.zeroValue160
  t53 := Try.underlying166
  a53 := Try.isAgg166
  z53 := Try.sizeOf166
  v53 := Try.zeroValue166
  t57 := Try.underlying170
  a57 := Try.isAgg170
  z57 := Try.sizeOf170
  v57 := Try.zeroValue170
  t63 := Try.underlying174
  a63 := Try.isAgg174
  z63 := Try.sizeOf174
  v63 := Try.zeroValue174
  t64 := Try.underlying64
  a64 := Try.isAgg64
  z64 := Try.sizeOf64
  v64 := Try.zeroValue64 }
end Go.Proofs.Ytohdoloalolpfaa
namespace Go.Proofs.Ytohdoloalolpfaa
open Go Go.RowKit Go.Maps Go.Sort Go.Shelf Go.WideElems Go.WideShapes
theorem sortsI (m : Nat) : AnyZI.SortsIn Try.prog sortedA_ren Fence.wide m :=
  ⟨fun blk off cap ss W hH hblk hsz => callsIn_wide.2 (AnyM.slices_Sort_int sortA blk off cap ss W hH hblk hsz), fun p cap W => callsIn_wide.2 (AnyM.slices_Sort_int_none sortA p cap W)⟩
theorem Sorted_raw {H : Type} (p b nn : Nat) (D0 : DataW H) (R : Value → Option (DataW H × List MemPlace)) (w : World) (hown : w.ownsMap Try.prog 3 R b nn D0) (hcell : w.cell? ⟨p, 0, none⟩ = some (.map (some b))) (hmax : Maps.size D0 ≤ maxLen) (hbytes : Maps.size D0 * 8 ≤ 140737488355328) :
    Calls Try.prog 57 #[.func (.func 86) #[] #[.pointer (some ⟨p, 0, none⟩)]] w fun e w' => ∃ (v : Value) (ss : List Int), e = .returned v ∧ ss.Perm (intKeys D0) ∧
      w'.ownsRow w.heap.size 3 1 v ss.length ((ss.mergeSort (fun x y => decide (x ≤ y))).map encZ) ∧ (v = .slice none 0 0 ↔ ss = []) ∧ Below w.heap.size w w' := by
  refine (callsIn_wide (n := 5)).1 ?_
  have hseq : SeqGives Fence.wide 2 Try.prog 86 #[.pointer (some ⟨p, 0, none⟩)] encZ (fun ss => ss.Perm (intKeys D0)) (Maps.size D0) w :=
    AnyZI.keys_gives (ρ := keysA_ren) { keysA with } Fence.wide _ trivial rfl (by omega) p b nn D0 w (World.block_lt_of_cell? w _ hcell) hcell hown
  exact AnyZI.sorted_in sortedA Fence.wide 5 trivial trivial trivial trivial rfl (by omega) (sortsI _) (enters_of Try.func85 (by kernel_rfl) rfl) 86 #[.pointer (some ⟨p, 0, none⟩)] trivial (enters_of Try.func86 (by kernel_rfl) rfl) _ _ hmax hbytes _ hseq
def is64 (n : Int) : Prop := -9223372036854775808 ≤ n ∧ n < 9223372036854775808
theorem is64_wf {n : Int} (h : is64 n) : (Lit.int .i64 n).wf = true := by
  obtain ⟨h1, h2⟩ := h
  have e1 : IntKind.i64.min = -9223372036854775808 := by decide
  have e2 : IntKind.i64.max = 9223372036854775807 := by decide
  simp only [Lit.wf, e1, e2, Bool.and_eq_true, decide_eq_true_eq]
  omega
abbrev sortI (l : List Int) : List Int := l.mergeSort fun x y => decide (x ≤ y)
theorem rpInts {E : Env} {A : Nat → Nat → Prop} {w : World} {base n : Nat} {v : Value} {l : List Int} (h : w.ownsRow base 3 1 v n (l.map encZ)) (hA : ∀ b o, A b o → b < base) (hcap : n ≤ maxLen) : Rp E A w (.sl 1 (l.map intC)) v := by
  obtain ⟨hl, h⟩ := h
  have hn : l.length = n := by simpa using hl
  rcases h with ⟨rfl, h0⟩ | ⟨g, cap, cur, rfl, hb, hh, h1, h2, h3, h4⟩
  · have : l = [] := List.eq_nil_of_length_eq_zero (by omega)
    subst this
    exact .sl0 (by simp [maxLen])
  · have hfl : ∀ l : List Int, (l.map intC).flatten = l.map fun x => AV.v (.int .i64 x) := fun l => by
      induction l with
      | nil => rfl
      | cons x l ih => simp [intC, ih]
    have hlen : (l.map intC).flatten.length = n := by rw [hfl, List.length_map, hn]
    have hcur : ∀ j x, l[j]? = some x → cur[j]? = some (encZ x) := fun j x hj => by
      have hjl := (List.getElem?_eq_some_iff.1 hj).1
      have h5 : (l.map encZ)[j]? = some (encZ x) := by rw [List.getElem?_map, hj]; rfl
      rw [← h4, List.getElem?_take, if_pos (by omega)] at h5
      rw [← Array.getElem?_toList]; exact h5
    refine .sl (fun j => cur.getD j undef) (by rw [List.length_map, hn]) h1 h2 (fun x hx => by obtain ⟨y, _, rfl⟩ := List.mem_map.1 hx; rfl) (fun j hj => ⟨?_, fun ha => ?_⟩) fun j c hj => ?_
    · rw [hlen] at hj
      have hlt : j < cur.size := by rw [h3]; omega
      rw [Nat.zero_add, cell_of_row w _ _ cur 3 (0, 0) hh]
      simp [Array.getD, hlt]
    · have := hA _ _ ha; omega
    · rw [hfl, List.getElem?_map] at hj
      cases hx : l[j]? with
      | none => rw [hx] at hj; cases hj
      | some x =>
        rw [hx] at hj
        cases hj
        have h5 := hcur j x hx
        have hlt : j < cur.size := (Array.getElem?_eq_some_iff.1 h5).1
        have h6 : cur.getD j undef = encZ x := by
          rw [Array.getElem?_eq_getElem hlt] at h5
          simp [Array.getD, hlt, Option.some.inj h5]
        rw [h6]
        exact .v _
theorem Sorted_calls {os : Os} {nx p m : Nat} {es : List (Int × AV)} {Q : AV → Os → Nat → Prop} (hp : getO os p = some (.cells 89 [.map m])) (hm : getO os m = some (.map es)) (hwf : ∀ q ∈ es, is64 q.1) (hlen : es.length ≤ 1099511627776)
    (hq : Q (.sl 1 ((sortI (es.map Prod.fst)).map intC)) os nx) : ACalls Try.prog 57 [.clo 86 [.ptr p 0]] os nx Q := by
  refine ⟨⟨Try.f57, Try.func57, by kernel_rfl, rfl⟩, fun A0 E w vs hok hnx hr => ?_⟩
  obtain ⟨hsz, hv⟩ := hr
  have hsz : vs.size = 1 := hsz
  obtain ⟨hvp, cur, hh, hcs, hc⟩ := hok.ok p _ hp
  obtain ⟨hvm, ents, clock, hme, hes, hent, hst⟩ := hok.ok m _ hm
  have hcs : cur.size = 1 := hcs
  have hv0 := hv 0 (.clo 86 [.ptr p 0]) vs[0] rfl (Array.getElem?_eq_getElem (by omega))
  have hvs : vs = #[.func (.func 86) #[] #[.pointer (some ⟨E.blk p, 0, none⟩)]] := by
    have e0 : vs[0] = .func (.func 86) #[] #[.pointer (some ⟨E.blk p, 0, none⟩)] := by
      generalize vs[0] = u at hv0
      cases hv0 with
      | @clo _ _ us hs hr =>
        have hs : us.size = 1 := hs
        have h1 := hr 0 (.ptr p 0) us[0] rfl (Array.getElem?_eq_getElem (by omega))
        have e1 : us[0] = .pointer (some ⟨E.blk p, 0, none⟩) := by
          generalize us[0] = u at h1
          cases h1; rfl
        congr 1
        apply Array.ext (by simp [hs])
        intro i h2 h3
        have : i = 0 := by omega
        subst this
        simpa using e1
    apply Array.ext (by simp [hsz])
    intro i h2 h3
    have : i = 0 := by omega
    subst this
    simpa using e0
  have hcell : w.cell? ⟨E.blk p, 0, none⟩ = some (.map (some (E.blk m))) := by
    have h1 : cur[0]? = some cur[0] := Array.getElem?_eq_getElem (by omega)
    have h2 := hc 0 (.map m) _ rfl h1
    have e2 : cur[0] = .map (some (E.blk m)) := by
      generalize cur[0] = u at h2
      cases h2; rfl
    rw [cell_of_row w _ _ cur 89 (0, 0) hh, h1, e2]
  have hkey : ∀ x ∈ ents.toList, ∃ q ∈ es, x.key = .int .i64 q.1 := fun x hx => by
    obtain ⟨i, hi, rfl⟩ := List.mem_iff_getElem.1 hx
    have hie : i < es.length := by rw [← hes]; simpa using hi
    exact ⟨_, List.getElem_mem hie, (hent i _ _ (List.getElem?_eq_getElem hie) (by rw [← Array.getElem?_toList]; exact List.getElem?_eq_getElem hi)).1⟩
  have hk64 : ∀ x ∈ ents.toList, ∃ n : Int, x.key = .int .i64 n ∧ keyOf Try.prog 3 x.key = some (.int .i64 n) := fun x hx => by
    obtain ⟨q, hq, he⟩ := hkey x hx
    refine ⟨q.1, he, ?_⟩
    rw [he]
    simp [keyOf, Try.underlying3, mapKey, is64_wf (hwf q hq)]
  let R : Value → Option (DataW Unit × List MemPlace) := fun _ => some (.nil, [])
  have hF : Fit Try.prog 3 R ents clock := ⟨by rw [hes]; simp only [maxLen]; omega, hst, fun x hx => by
    obtain ⟨n, _, hk⟩ := hk64 x hx
    exact ⟨_, by simp only [Go.WideElems.rd, hk, R, Option.bind_some, Option.map_some]; rfl⟩⟩
  have hown := World.ownsMap_of_fit (R := R) hme hF (fun x _ z hz => hz)
  have hsize : Maps.size (DataW.map ((ents.toList.map (rg Try.prog 3 R)).foldr DataW.insert [])) = es.length := by
    simp [Maps.size, length_sorted, hes]
  have hperm : (intKeys (DataW.map ((ents.toList.map (rg Try.prog 3 R)).foldr DataW.insert []))).Perm (es.map Prod.fst) := by
    show List.Perm (((ents.toList.map (rg Try.prog 3 R)).foldr DataW.insert []).map fun p => Go.intOf p.1) _
    refine ((sorted_perm _).map _).trans (List.Perm.of_eq ?_)
    apply List.ext_getElem (by simp [hes])
    intro i h1 h2
    simp only [List.getElem_map]
    have hi : i < ents.size := by simpa using h1
    have hie : i < es.length := by rw [← hes]; exact hi
    have he := (hent i _ _ (List.getElem?_eq_getElem hie) (Array.getElem?_eq_getElem hi)).1
    have hx := hwf _ (List.getElem_mem hie)
    simp [Go.WideElems.rg, Go.WideElems.rd, he, keyOf, Try.underlying3, mapKey, is64_wf hx, R, Go.intOf]
  rw [hvs]
  refine (Sorted_raw (E.blk p) (E.blk m) _ _ R w hown hcell (by rw [hsize]; simp only [maxLen]; omega) (by rw [hsize]; omega)).mono ?_
  rintro e w' ⟨v, ss, rfl, hS, hrow, _, hb⟩
  have hsort : ss.mergeSort (fun x y => decide (x ≤ y)) = sortI (es.map Prod.fst) := mergeSort_of_perm_i (hS.trans hperm)
  rw [hsort] at hrow
  have hAv : ∀ b o, AvX A0 E os b o → b < w.heap.size := by
    rintro b o (h | ⟨id, ob, hg, hbk, _⟩)
    · exact hok.bnd b o h
    · exact Ob.blk_lt (hok.ok id ob hg).2 hbk
  have hssl : ss.length ≤ maxLen := by
    have := (hS.trans hperm).length_eq
    rw [List.length_map] at this
    simp only [maxLen]; omega
  exact ⟨_, v, os, nx, E, rfl, hq, rpInts hrow hAv hssl, hok.keep hb, hnx, .refl E, .of_below hb, fun b o ha => .inl ha⟩
end Go.Proofs.Ytohdoloalolpfaa
namespace Go.Proofs.Ytohdoloalolpfaa
open Go Go.RowKit
set_option maxRecDepth 100000
set_option maxHeartbeats 1000000
set_option linter.unusedSimpArgs false
set_option linter.unusedVariables false
attribute [local irreducible] aops dRun
theorem vC_fst (V : List (Int × Int)) : (V.map vC).map Prod.fst = V.map Prod.fst := by simp [vC, List.map_map, Function.comp_def]
theorem vC_64 {V : List (Int × Int)} (h : ∀ q ∈ V, is64 q.1) : ∀ q ∈ V.map vC, is64 q.1 := fun q hq => by
  obtain ⟨p, hp, rfl⟩ := List.mem_map.1 hq
  exact h p hp
def kindG (G : GS) (i : Int) : Int := if 0 ≤ i ∧ i < (G.N.length : Int) then ((G.N[i.toNat]?).map GNode.k).getD 0 else 0
def nameG (G : GS) (i : Int) : Int × Bool := if kindG G i = 1 then (((G.N[i.toNat]?).map GNode.n).getD 0, true) else (0, false)
theorem kindG_at {G : GS} {i : Int} {x : GNode} (h : 0 ≤ i) (hx : G.N[i.toNat]? = some x) : kindG G i = x.k := by
  have := (List.getElem?_eq_some_iff.1 hx).1
  rw [kindG, if_pos ⟨h, by omega⟩, hx]; rfl
theorem nameG_at {G : GS} {i : Int} {x : GNode} (h : 0 ≤ i) (hx : G.N[i.toNat]? = some x) : nameG G i = if x.k = 1 then (x.n, true) else (0, false) := by
  rw [nameG, kindG_at h hx, hx]; rfl
theorem Keys_at {m : Nat} {os : Os} {nx : Nat} {Q : AV → Os → Nat → Prop} (hq : Q (.clo 86 [.ptr nx 0]) ((nx, .cells 89 [.map m]) :: os) (nx + 1)) : ACalls Try.prog 58 [.map m] os nx Q := by
 refine ACalls_intro Try.func58 (by kernel_rfl) rfl (by rw [Try.ntmps58]; simp) (fun hm => ?_)
 simp only [Try.ntmps58, Try.results58, List.length_cons, List.length_nil, Nat.reduceAdd, Nat.reduceSub, List.replicate_succ, List.replicate_zero, List.cons_append, List.nil_append]
 refine AWp_seqK fun K1 hK1 => ?_
 refine AWp_region ?_
 refine aops_chunk 1 fun C2 hC2 => ?_
 simp only [bL, ↓bO, bS, bA, bF, ↓reduceIte, Nat.reduceEqDiff, reduceCtorEq]
 refine hC2 _ ?_; clear hC2 C2
 simp only [bL]
 simp only [↓bO, bS, bA, bF, ↓reduceIte, Nat.reduceEqDiff, reduceCtorEq]
 refine hK1 _ ?_; try clear hK1 K1
 refine AWp_seqK fun K3 hK3 => ?_
 refine AWp_region ?_
 refine aops_chunk 1 fun C4 hC4 => ?_
 simp only [bL, ↓bO, bS, bA, bF, ↓reduceIte, Nat.reduceEqDiff, reduceCtorEq]
 refine hC4 _ ?_; clear hC4 C4
 simp only [bL]
 simp only [↓bO, bS, bA, bF, ↓reduceIte, Nat.reduceEqDiff, reduceCtorEq]
 refine hK3 _ ?_; try clear hK3 K3
 refine AWp_ret ?_
 try simp only [bF, retQ, aRes, tupOf, bS, bA]
 exact hq
theorem GVars_calls (G : GS) (hw : ∀ q ∈ G.V, is64 q.1) (hl : G.V.length ≤ 1099511627776) : GCalls 22 [.ptr 0 0] (G.N) (G.V) (.sl 1 ((sortI (G.V.map Prod.fst)).map intC)) (G.N) (G.V) := by
 refine ACalls.clean (C := fun r os => r = _ ∧ os = _) ?_
 refine ACalls_intro Try.func22 (by kernel_rfl) rfl (by rw [Try.ntmps22]; simp) (fun hm => ?_)
 simp only [Try.ntmps22, Try.results22, List.length_cons, List.length_nil, Nat.reduceAdd, Nat.reduceSub, List.replicate_succ, List.replicate_zero, List.cons_append, List.nil_append]
 simp only [gObs, enumO, Nat.reduceAdd]
 refine AWp_seqK fun K1 hK1 => ?_
 refine AWp_region ?_
 simp only [↓bO, bS, bA, bF, ↓reduceIte, Nat.reduceEqDiff, reduceCtorEq]
 refine hK1 _ ?_; try clear hK1 K1
 refine AWp_seqK fun K2 hK2 => ?_
 refine AWp_seqK fun K3 hK3 => ?_
 refine AWp_region ?_
 refine aops_chunk 1 fun C4 hC4 => ?_
 simp only [bL, ↓bO, bS, bA, bF, ↓reduceIte, Nat.reduceEqDiff, reduceCtorEq]
 refine hC4 _ ?_; clear hC4 C4
 simp only [bL]
 simp only [↓bO, bS, bA, bF, ↓reduceIte, Nat.reduceEqDiff, reduceCtorEq, aBin, pt25]
 refine hK3 _ ?_; try clear hK3 K3
 refine AWp_cond rfl (fun hb4 => ?_) (fun hb4 => ?_)
 ·
  cases hb4
 ·
  refine AWp_skip ?_
  try simp only [bF]
  refine hK2 _ ?_; try clear hK2 K2
  refine AWp_seqK fun K5 hK5 => ?_
  refine AWp_region ?_
  refine aops_chunk 1 fun C6 hC6 => ?_
  simp only [bL, ↓bO, bS, bA, bF, ↓reduceIte, Nat.reduceEqDiff, reduceCtorEq]
  refine hC6 _ ?_; clear hC6 C6
  simp only [bL]
  refine aops_chunk 1 fun C7 hC7 => ?_
  simp only [bL, ↓bO, bS, bA, bF, ↓reduceIte, Nat.reduceEqDiff, reduceCtorEq]
  refine hC7 _ ?_; clear hC7 C7
  simp only [bL]
  refine aops_chunk 1 fun C8 hC8 => ?_
  simp only [bL, ↓bO, bS, bA, bF, ↓reduceIte, Nat.reduceEqDiff, reduceCtorEq, aField, fo91_1, Nat.reduceAdd]
  refine hC8 _ ?_; clear hC8 C8
  simp only [bL]
  refine aops_chunk 1 fun C9 hC9 => ?_
  simp only [bL, ↓bO, bS, bA, bF, ↓reduceIte, Nat.reduceEqDiff, reduceCtorEq, aLoad, ti89, getO, pack, Nat.reduceAdd, Nat.reduceLeDiff]
  refine hC9 _ ?_; clear hC9 C9
  simp only [bL]
  refine aops_chunk 1 fun C10 hC10 => ?_
  simp only [bL, ↓bO, bS, bA, bF, ↓reduceIte, Nat.reduceEqDiff, reduceCtorEq, aCallV]
  refine Keys_at ?_
  try simp only [bS, bA, bF]
  refine hC10 _ ?_; clear hC10 C10
  simp only [bL]
  refine aops_chunk 1 fun C11 hC11 => ?_
  simp only [bL, ↓bO, bS, bA, bF, ↓reduceIte, Nat.reduceEqDiff, reduceCtorEq, aCallV]
  refine Sorted_calls (p := 3) (m := 2) (es := G.V.map vC) rfl rfl (vC_64 hw) (by rw [List.length_map]; exact hl) ?_
  rw [vC_fst]
  try simp only [bS, bA, bF]
  refine hC11 _ ?_; clear hC11 C11
  simp only [bL]
  simp only [↓bO, bS, bA, bF, ↓reduceIte, Nat.reduceEqDiff, reduceCtorEq]
  refine hK5 _ ?_; try clear hK5 K5
  refine AWp_ret ?_
  try simp only [bF, retQ, aRes, tupOf, bS, bA]
  refine ⟨_, enumO 0 (gObs (G.N) (G.V)), ⟨rfl, rfl⟩, Und.data (dataInts _), gUnd (by omega) _ _, ?_, ?_, by omega⟩
  ·
   refine Le.of_eq ?_
   rfl
  · first | (refine ⟨1, ?_, rfl⟩; first | rfl | (simp only [gObs, enumO, List.drop_succ_cons, List.drop_zero, List.map_append, List.map_cons, List.map_nil, List.length_append, List.length_cons, List.length_nil, GNode.cells, List.take_length, Nat.reduceAdd, Nat.zero_add]; done))
end Go.Proofs.Ytohdoloalolpfaa
namespace Go.Proofs.Ytohdoloalolpfaa
open Go Go.RowKit
def vns (m : List RNode) : List Int := (m.filter fun r => r.t.k == 1).map fun r => r.t.n
theorem vns_app (m : List RNode) (r : RNode) : vns (m ++ [r]) = if r.t.k = 1 then vns m ++ [r.t.n] else vns m := by
  unfold vns
  rw [List.filter_append]
  by_cases h : r.t.k = 1
  · simp [h]
  · simp [h]
theorem vset_none {V : List (Int × Int)} {k : Int} (x : Int) (h : vfind V k = none) : vset V k x = V ++ [(k, x)] := by
  induction V with
  | nil => rfl
  | cons a V ih =>
    obtain ⟨a, b⟩ := a
    simp only [vfind] at h
    split at h
    · cases h
    · rename_i hne
      simp only [vset, if_neg hne, ih h, List.cons_append]
theorem keys_addL : ∀ (ps : List Ty) (_ : ∀ p ∈ ps, ∀ (G : GS) (m : List RNode), Rel G m → G.V.map Prod.fst = vns m → (p.gadd G).1.V.map Prod.fst = vns (p.radd m).1 ∧ Rel (p.gadd G).1 (p.radd m).1) (G : GS) (m : List RNode) (l l' : List Int), Rel G m → G.V.map Prod.fst = vns m →
    (Ty.gaddL ps G l).1.V.map Prod.fst = vns (Ty.raddL ps m l').1
  | [], _, G, m, l, l', _, h => by simpa [Ty.gaddL, Ty.raddL] using h
  | p :: ps, hp, G, m, l, l', hr, h => by
    obtain ⟨h1, h2⟩ := hp p (by simp) G m hr h
    simp only [Ty.gaddL, Ty.raddL]
    exact keys_addL ps (fun q hq => hp q (by simp [hq])) _ _ _ _ h2 h1
theorem keys_add : ∀ (T : Ty), T.right = true → T.cnt ≤ 400 → ∀ (G : GS) (m : List RNode), Rel G m → G.V.map Prod.fst = vns m → (T.gadd G).1.V.map Prod.fst = vns (T.radd m).1 := by
  refine Ty.ind fun T ih => ?_
  intro hr hc G m h hk
  obtain ⟨hok, hps⟩ := T.right_ok hr
  by_cases h1 : T.k = 1
  · have hps0 : T.ps = [] := by rw [T.var_eq hr h1]; rfl
    rcases h.vars T.n with ⟨hv, hi⟩ | ⟨k, hv, hi, h0⟩
    · have em : T.radd m = (m ++ [⟨T, []⟩], (m.length : Int)) := by rw [Ty.radd_eq, if_neg (by omega), hps0]; rfl
      rw [Ty.gadd_var h1, hv, em]
      simp only
      rw [vset_none _ hv, List.map_append, hk, vns_app, if_pos h1]; rfl
    · rw [Ty.gadd_var h1, hv, Ty.radd_eq, hi, if_pos ⟨h1, h0⟩]
      exact hk
  · rw [Ty.gadd_more h1, Ty.radd_eq, if_neg (by omega)]
    simp only
    rw [vns_app, if_neg h1]
    exact keys_addL T.ps (fun p hp G m hr' hk' => ⟨ih p hp (hps p hp) (Nat.le_trans (Ty.cnt_le_mem hp) hc) G m hr' hk', (rel_add p (hps p hp) (Nat.le_trans (Ty.cnt_le_mem hp) hc) G m hr').rel⟩) G m [] [] h hk
theorem vns_64 {G : GS} {m : List RNode} (h : Rel G m) : ∀ n ∈ vns m, is64 n := fun n hn => by
  unfold vns at hn
  obtain ⟨r, hr, rfl⟩ := List.mem_map.1 hn
  obtain ⟨hrm, hk⟩ := List.mem_filter.1 hr
  obtain ⟨i, hi⟩ := List.mem_iff_getElem?.1 hrm
  have hl := (List.getElem?_eq_some_iff.1 hi).1
  have hGi : G.N[i]? = some (G.N[i]'(by have := h.len; omega)) := List.getElem?_eq_getElem (by have := h.len; omega)
  have hright := (h.node i _ _ hGi hi).2.2.2.2.2.1
  have hok := (r.t.right_ok hright).1
  have hk1 : r.t.k = 1 := by simpa using hk
  simp only [okN, decide_eq_true_eq] at hok
  unfold is64
  omega
theorem Rel.at {G : GS} {m : List RNode} (h : Rel G m) {i : Nat} {r : RNode} (hr : m[i]? = some r) : ∃ x, G.N[i]? = some x ∧ kindG G (i : Int) = r.t.k ∧ G.parts (i : Int) = r.parts ∧ nameG G (i : Int) = if r.t.k = 1 then (r.t.n, true) else (0, false) := by
  have hl := (List.getElem?_eq_some_iff.1 hr).1
  obtain ⟨x, hGi⟩ : ∃ x, G.N[i]? = some x := ⟨_, List.getElem?_eq_getElem (by have := h.len; omega)⟩
  obtain ⟨h1, h2, h3, _⟩ := h.node i _ _ hGi hr
  refine ⟨_, hGi, ?_, ?_, ?_⟩
  · rw [kindG_at (x := x) (by omega) (by rw [Int.toNat_natCast]; exact hGi), h1]
  · rw [GS.parts_in (x := x) (by omega) (by rw [Int.toNat_natCast]; exact hGi), h3]
  · rw [nameG_at (x := x) (by omega) (by rw [Int.toNat_natCast]; exact hGi), h1, h2]
end Go.Proofs.Ytohdoloalolpfaa
namespace Go.Proofs.Ytohdoloalolpfaa
open Go Go.RowKit
def OkE (l : List (Ty × Ty)) : Prop := ∀ e ∈ l, e.1.right = true ∧ e.2.right = true ∧ e.1.cnt ≤ 400 ∧ e.2.cnt ≤ 400
theorem eqF_pre1 {l : List (Ty × Ty)} {e : Ty × Ty} (h : OkE (l ++ [e])) : Pre (eqF l).1 (eqF (l ++ [e])).1 := by
  obtain ⟨⟨G, hG⟩, _⟩ := eqF_ok l fun x hx => h x (by simp [hx])
  obtain ⟨h1, h2, h3, h4⟩ := h e (by simp)
  have s1 := rel_add e.1 h1 h3 G _ hG
  have s2 := rel_add e.2 h2 h4 _ _ s1.rel
  rw [eqF_snoc]
  exact s1.pre.trans s2.pre
theorem eqF_nat2 (l : List (Ty × Ty)) (e : Ty × Ty) : ∀ x ∈ nat2 (eqF l).2, x ∈ nat2 (eqF (l ++ [e])).2 := fun x hx => by
  rw [eqF_snoc]
  simp only [eqStep, nat2, List.map_append, List.mem_append]
  exact .inl hx
theorem eqF_more : ∀ (k l : List (Ty × Ty)), OkE (l ++ k) → Pre (eqF l).1 (eqF (l ++ k)).1 ∧ ∀ x ∈ nat2 (eqF l).2, x ∈ nat2 (eqF (l ++ k)).2
  | [], l, _ => by simp only [List.append_nil]; exact ⟨.refl _, fun _ h => h⟩
  | e :: k, l, h => by
    have e1 : l ++ e :: k = (l ++ [e]) ++ k := by simp
    rw [e1] at h ⊢
    obtain ⟨h1, h2⟩ := eqF_more k (l ++ [e]) h
    exact ⟨(eqF_pre1 fun x hx => h x (by simp only [List.mem_append] at hx ⊢; exact .inl hx)).trans h1, fun x hx => h2 x (eqF_nat2 l e x hx)⟩
theorem Clashes.more {l k : List (Ty × Ty)} (h : Clashes l) (hk : OkE (l ++ k)) : Clashes (l ++ k) := by
  obtain ⟨h1, h2⟩ := eqF_more k l hk
  exact Clash.mono h1.sh h2 h
structure CSt (l : List (Ty × Ty)) (S : CS) : Prop where
  st : (Holds l S ∧ S.G.V.map Prod.fst = vns (eqF l).1) ∨ (S.clash = true ∧ Clashes l)
  len : S.G.N.length ≤ sumP l
  ok : OkE l
theorem CSt.none : CSt [] CS0 := ⟨.inl ⟨Holds.none, rfl⟩, by simp [CS0], fun e he => by cases he⟩
theorem CSt.good {l : List (Ty × Ty)} {S : CS} (h : CSt l S) (hc : S.clash = false) : Holds l S ∧ S.G.V.map Prod.fst = vns (eqF l).1 := by
  rcases h.st with h | h
  · exact h
  · rw [hc] at h; cases h.1
theorem CSt.bad {l : List (Ty × Ty)} {S : CS} (h : CSt l S) (hc : S.clash = true) : Clashes l := by
  rcases h.st with h | h
  · rw [h.1.1] at hc; cases hc
  · exact h.2
theorem CSt.step {l : List (Ty × Ty)} {S : CS} {e : Ty × Ty} {s : CS × Int} (h : CSt l S) (he : e.1.right = true ∧ e.2.right = true ∧ e.1.cnt ≤ 400 ∧ e.2.cnt ≤ 400) (hs : EqR S (nat2 (eqF l).2) (eqF l).1 e.1 e.2 s) : CSt (l ++ [e]) s.1 := by
  have hok : OkE (l ++ [e]) := fun x hx => by
    rcases List.mem_append.1 hx with hx | hx
    · exact h.ok x hx
    · simp at hx; subst hx; exact he
  have hsum := sumP_snoc l e
  have hlen := h.len
  rcases h.st with ⟨hH, hK⟩ | ⟨hc, hcl⟩
  · have hG : s.1.G = (e.2.gadd (e.1.gadd S.G).1).1 := by
      rcases hs with ⟨h1, _⟩ | ⟨_, h1, _⟩ | ⟨_, _, _, h3, _⟩
      · rw [hH.1] at h1; cases h1
      · rw [he.1, he.2.1] at h1; cases h1
      · exact h3
    have hle : s.1.G.N.length ≤ sumP (l ++ [e]) := by
      have g1 := e.1.gadd_inv S.G hH.2.w.c.g
      have g2 := e.2.gadd_inv _ g1.1.inv
      have := g1.1.le
      have := g2.1.le
      rw [hG]; omega
    refine ⟨?_, hle, hok⟩
    rcases hH.step (e := e) hs with ⟨h1, _⟩ | ⟨_, h1, h2⟩ | ⟨_, _, _, h3, _⟩
    · rw [he.1, he.2.1] at h1; cases h1
    · refine .inr ⟨?_, h1⟩
      rcases hs with ⟨h4, _⟩ | ⟨_, h4, _⟩ | ⟨_, _, _, _, ⟨h4, _⟩ | ⟨_, h4, _⟩⟩
      · rw [hH.1] at h4; cases h4
      · rw [he.1, he.2.1] at h4; cases h4
      · rw [h4] at h2; cases h2
      · exact h4
    · refine .inl ⟨h3, ?_⟩
      have s1 := rel_add e.1 he.1 he.2.2.1 S.G _ hH.2.rel
      have k1 := keys_add e.1 he.1 he.2.2.1 S.G _ hH.2.rel hK
      have k2 := keys_add e.2 he.2.1 he.2.2.2 _ _ s1.rel k1
      rw [hG, k2, eqF_snoc]; rfl
  · rcases hs with ⟨_, rfl⟩ | ⟨h1, _⟩ | ⟨h1, _⟩
    · exact ⟨.inr ⟨hc, hcl.more hok⟩, by simp only; omega, hok⟩
    · rw [hc] at h1; cases h1
    · rw [hc] at h1; cases h1
theorem CSt.fsame {l : List (Ty × Ty)} {S S1 : CS} (h : CSt l S) (k : FSame S.F S1.F) (e : S1 = { S with F := S1.F }) : CSt l S1 := by
  have hst := h.st
  have hlen := h.len
  have hok := h.ok
  have e1 : S1.G = S.G := by rw [e]
  have e2 : S1.clash = S.clash := by rw [e]
  refine ⟨?_, by rw [e1]; exact hlen, hok⟩
  rcases hst with ⟨h1, h2⟩ | ⟨h1, h2⟩
  · exact .inl ⟨h1.fsame k e, by rw [e1]; exact h2⟩
  · exact .inr ⟨by rw [e2]; exact h1, h2⟩
def SameR (S : CS) (a b : Int) (r : Bool) : Prop := r = true ↔ S.clash = false ∧ ∃ i k, vfind S.G.V a = some i ∧ vfind S.G.V b = some k ∧ One S.F.up i.toNat k.toNat
def KindR (S : CS) (n : Int) (k : Int) : Prop := ((S.clash = true ∨ vfind S.G.V n = none) ∧ k = 0) ∨ (S.clash = false ∧ ∃ (i : Int) (r : Nat) (x : Int), vfind S.G.V n = some i ∧ Rt S.F.up i.toNat r ∧ S.W[r]? = some x ∧ ((x < 0 ∧ k = 0) ∨ (0 ≤ x ∧ ∃ g, S.G.N[x.toNat]? = some g ∧ k = g.k)))
end Go.Proofs.Ytohdoloalolpfaa
namespace Go.Proofs.Ytohdoloalolpfaa
open Go Go.RowKit
set_option maxRecDepth 100000
set_option maxHeartbeats 1000000
set_option linter.unusedSimpArgs false
set_option linter.unusedVariables false
attribute [local irreducible] aops dRun
def EqT.ok (e : EqT) : Bool := e.l.right && e.r.right
def rightsE (es : List EqT) : List EqT := es.filter EqT.ok
theorem rightsE_yes {es : List EqT} {s : Nat} {e : EqT} (h : es[s]? = some e) (hr : e.ok = true) : rightsE (es.take (s + 1)) = rightsE (es.take s) ++ [e] := by
  rw [List.take_add_one, h, rightsE, List.filter_append]; simp [rightsE, hr]
theorem rightsE_no {es : List EqT} {s : Nat} {e : EqT} (h : es[s]? = some e) (hr : e.ok = false) : rightsE (es.take (s + 1)) = rightsE (es.take s) := by
  rw [List.take_add_one, h, rightsE, List.filter_append]; simp [rightsE, hr]
theorem rightsE_len (es : List EqT) : (rightsE es).length ≤ es.length := List.length_filter_le _ _
theorem EqT.one (l : List EqT) : ((l.map EqT.cells).all fun y => y.all AV.one) = true := by
  induction l with
  | nil => rfl
  | cons e l ih => rw [List.map_cons, List.all_cons, ih]; rfl
theorem Rights12_pure (es : List EqT) (hl : es.length ≤ 1048576) : APure Try.prog 39 [.sl 8 (es.map EqT.cells)] (.sl 8 ((rightsE es).map EqT.cells)) := by
 refine APure.mkL (.cons (EqT.dataSl es) .nil) (EqT.dataSl _) ?_
 refine ACalls_intro Try.func39 (by kernel_rfl) rfl (by rw [Try.ntmps39]; simp) (fun hm => ?_)
 simp only [Try.ntmps39, Try.results39, List.length_cons, List.length_nil, Nat.reduceAdd, Nat.reduceSub, List.replicate_succ, List.replicate_zero, List.cons_append, List.nil_append]
 refine AWp_seqK fun K1 hK1 => ?_
 refine AWp_region ?_
 simp only [↓bO, bS, bA, bF, ↓reduceIte, Nat.reduceEqDiff, reduceCtorEq, tyX, List.length_map]
 refine hK1 _ ?_; try clear hK1 K1
 refine AWp_seqK fun K2 hK2 => ?_
 refine AWp_region ?_
 simp only [↓bO, bS, bA, bF, ↓reduceIte, Nat.reduceEqDiff, reduceCtorEq, tyX, List.length_map]
 refine hK2 _ ?_; try clear hK2 K2
 refine AWp_seqK fun K3 hK3 => ?_
 refine AWp_seqK fun K4 hK4 => ?_
 refine AWp_region ?_
 simp only [↓bO, bS, bA, bF, ↓reduceIte, Nat.reduceEqDiff, reduceCtorEq, tyX, List.length_map]
 refine hK4 _ ?_; try clear hK4 K4
 refine AWp_block ?_
 refine AWp_weak (Weak.tokSlot 3 73 8 rfl) ?_
 simp only [List.set_cons_zero, List.set_cons_succ]
 refine AWp_loopM (σ := Nat) [true, false, false, true, true, false, false, false, false, false, false, false, false, false, false, false, false, false, false, false, false, false, false, false, false, false, false, false, false, false, false, false, false] (fun s => s ≤ es.length) (fun s => [(3, .osl 0 8 ((rightsE (es.take s)).map EqT.cells)), (4, .v (.int .i64 (s : Int)))]) (fun s => [(0, .tok 73 8 (rightsE (es.take s)).length)]) (fun s => es.length - s) 0 (by omega) ?_ (fun s hs => ?_)
 ·
  simp only [maskL, setsL, putsO, putO, bA, Nat.reduceEqDiff, ↓reduceIte, bL, rightsE, List.filter_nil]
  exact Weak.mk (by simp only [LeL, Le.refl, Le.any, Le.slNil, and_self, Int.natCast_add, Int.cast_ofNat_Int, Int.natCast_one]) (fun _ _ h => h) rfl rfl
 simp only [maskL, setsL, putsO, putO, bA, Nat.reduceEqDiff, ↓reduceIte]
 refine AWp_seqK fun K5 hK5 => ?_
 refine AWp_seqK fun K6 hK6 => ?_
 refine AWp_region ?_
 refine aops_chunk 1 fun C7 hC7 => ?_
 simp only [bL, ↓bO, bS, bA, bF, ↓reduceIte, Nat.reduceEqDiff, reduceCtorEq, tyX, List.length_map]
 refine hC7 _ ?_; clear hC7 C7
 simp only [bL]
 refine aops_chunk 1 fun C8 hC8 => ?_
 simp only [bL, ↓bO, bS, bA, bF, ↓reduceIte, Nat.reduceEqDiff, reduceCtorEq, tyX, List.length_map]
 refine hC8 _ ?_; clear hC8 C8
 simp only [bL]
 refine aops_chunk 1 fun C9 hC9 => ?_
 simp only [bL, ↓bO, bS, bA, bF, ↓reduceIte, Nat.reduceEqDiff, reduceCtorEq, getO, aLenX, aLen, ln61, List.length_map, tyX]
 refine hC9 _ ?_; clear hC9 C9
 simp only [bL]
 simp only [↓bO, bS, bA, bF, ↓reduceIte, Nat.reduceEqDiff, reduceCtorEq, aBin, tyX, List.length_map]
 refine hK6 _ ?_; try clear hK6 K6
 refine AWp_cond rfl (fun hb8 => ?_) (fun hb8 => ?_)
 ·
  have hk : s < es.length := by simpa using hb8
  obtain ⟨e, he⟩ : ∃ e, es[s]? = some e := ⟨_, List.getElem?_eq_getElem hk⟩
  have hw : IntKind.i64.wrap ((s : Int) + 1) = (s : Int) + 1 := wrap_in (by omega) (by omega)
  have hrl := rightsE_len (es.take s)
  have hrt : (es.take s).length ≤ s := by simp; omega
  have hb1 : ((rightsE (es.take s)).length + 1) * 96 ≤ 140737488355328 := by omega
  have hb2 : (rightsE (es.take s)).length + 1 ≤ maxLen := by simp only [maxLen]; omega
  refine AWp_skip ?_
  try simp only [bF]
  refine hK5 _ ?_; try clear hK5 K5
  refine AWp_seqK fun K10 hK10 => ?_
  refine AWp_block ?_
  refine AWp_seqK fun K11 hK11 => ?_
  refine AWp_region ?_
  refine aops_chunk 1 fun C12 hC12 => ?_
  simp only [bL, ↓bO, bS, bA, bF, ↓reduceIte, Nat.reduceEqDiff, reduceCtorEq, tyX, List.length_map, hk, gM he, EqT.cells, Ty.refold, hw, hb1, hb2, Int.natCast_add, Int.natCast_one, Int.cast_ofNat_Int]
  refine hC12 _ ?_; clear hC12 C12
  simp only [bL]
  refine aops_chunk 1 fun C13 hC13 => ?_
  simp only [bL, ↓bO, bS, bA, bF, ↓reduceIte, Nat.reduceEqDiff, reduceCtorEq, tyX, List.length_map, hk, gM he, EqT.cells, Ty.refold, hw, hb1, hb2, Int.natCast_add, Int.natCast_one, Int.cast_ofNat_Int]
  refine hC13 _ ?_; clear hC13 C13
  simp only [bL]
  refine aops_chunk 1 fun C14 hC14 => ?_
  simp only [bL, ↓bO, bS, bA, bF, ↓reduceIte, Nat.reduceEqDiff, reduceCtorEq, getO, aIndexA, es61, Int.natCast_nonneg, Int.ofNat_lt, Int.toNat_natCast, List.length_map, Int.le_refl, Int.toNat_zero, Int.toNat_one, Int.reduceLE, tyX, hk, gM he, EqT.cells, Ty.refold, hw, hb1, hb2, Int.natCast_add, Int.natCast_one, Int.cast_ofNat_Int]
  refine hC14 _ ?_; clear hC14 C14
  simp only [bL]
  refine aops_chunk 1 fun C15 hC15 => ?_
  simp only [bL, ↓bO, bS, bA, bF, ↓reduceIte, Nat.reduceEqDiff, reduceCtorEq, aField, fo73_0, Nat.reduceAdd, tyX, List.length_map, hk, gM he, EqT.cells, Ty.refold, hw, hb1, hb2, Int.natCast_add, Int.natCast_one, Int.cast_ofNat_Int]
  refine hC15 _ ?_; clear hC15 C15
  simp only [bL]
  refine aops_chunk 1 fun C16 hC16 => ?_
  simp only [bL, ↓bO, bS, bA, bF, ↓reduceIte, Nat.reduceEqDiff, reduceCtorEq, aLoad, ti32, getO, pack, Nat.reduceAdd, Nat.reduceLeDiff, tyX, List.length_map, hk, gM he, EqT.cells, Ty.refold, hw, hb1, hb2, Int.natCast_add, Int.natCast_one, Int.cast_ofNat_Int]
  refine hC16 _ ?_; clear hC16 C16
  simp only [bL]
  refine aops_chunk 1 fun C17 hC17 => ?_
  simp only [bL, ↓bO, bS, bA, bF, ↓reduceIte, Nat.reduceEqDiff, reduceCtorEq, aCallV, tyX, List.length_map, hk, gM he, EqT.cells, Ty.refold, hw, hb1, hb2, Int.natCast_add, Int.natCast_one, Int.cast_ofNat_Int]
  refine APure.call (RefRight_pure e.l) ?_
  try simp only [bS, bA, bF]
  refine hC17 _ ?_; clear hC17 C17
  simp only [bL]
  refine aops_chunk 1 fun C18 hC18 => ?_
  simp only [bL, ↓bO, bS, bA, bF, ↓reduceIte, Nat.reduceEqDiff, reduceCtorEq, tyX, List.length_map, hk, gM he, EqT.cells, Ty.refold, hw, hb1, hb2, Int.natCast_add, Int.natCast_one, Int.cast_ofNat_Int]
  refine hC18 _ ?_; clear hC18 C18
  simp only [bL]
  refine aops_case 17 rfl (fun hc17 => ?_) (fun hc17 => ?_)
  ·
   simp only [List.set_cons_zero, List.set_cons_succ]
   have hl1 : e.l.right = true := by simpa using hc17
   refine aops_chunk 1 fun C19 hC19 => ?_
   simp only [bL, ↓bO, bS, bA, bF, ↓reduceIte, Nat.reduceEqDiff, reduceCtorEq, undef, tyX, List.length_map, hk, gM he, EqT.cells, Ty.refold, hw, hb1, hb2, Int.natCast_add, Int.natCast_one, Int.cast_ofNat_Int]
   refine hC19 _ ?_; clear hC19 C19
   simp only [bL]
   refine aops_chunk 1 fun C20 hC20 => ?_
   simp only [bL, ↓bO, bS, bA, bF, ↓reduceIte, Nat.reduceEqDiff, reduceCtorEq, undef, tyX, List.length_map, hk, gM he, EqT.cells, Ty.refold, hw, hb1, hb2, Int.natCast_add, Int.natCast_one, Int.cast_ofNat_Int]
   refine hC20 _ ?_; clear hC20 C20
   simp only [bL]
   refine aops_chunk 1 fun C21 hC21 => ?_
   simp only [bL, ↓bO, bS, bA, bF, ↓reduceIte, Nat.reduceEqDiff, reduceCtorEq, undef, getO, aIndexA, es61, Int.natCast_nonneg, Int.ofNat_lt, Int.toNat_natCast, List.length_map, Int.le_refl, Int.toNat_zero, Int.toNat_one, Int.reduceLE, tyX, hk, gM he, EqT.cells, Ty.refold, hw, hb1, hb2, Int.natCast_add, Int.natCast_one, Int.cast_ofNat_Int]
   refine hC21 _ ?_; clear hC21 C21
   simp only [bL]
   refine aops_chunk 1 fun C22 hC22 => ?_
   simp only [bL, ↓bO, bS, bA, bF, ↓reduceIte, Nat.reduceEqDiff, reduceCtorEq, undef, aField, fo73_1, Nat.reduceAdd, tyX, List.length_map, hk, gM he, EqT.cells, Ty.refold, hw, hb1, hb2, Int.natCast_add, Int.natCast_one, Int.cast_ofNat_Int]
   refine hC22 _ ?_; clear hC22 C22
   simp only [bL]
   refine aops_chunk 1 fun C23 hC23 => ?_
   simp only [bL, ↓bO, bS, bA, bF, ↓reduceIte, Nat.reduceEqDiff, reduceCtorEq, undef, aLoad, ti32, getO, pack, Nat.reduceAdd, Nat.reduceLeDiff, tyX, List.length_map, hk, gM he, EqT.cells, Ty.refold, hw, hb1, hb2, Int.natCast_add, Int.natCast_one, Int.cast_ofNat_Int]
   refine hC23 _ ?_; clear hC23 C23
   simp only [bL]
   refine aops_chunk 1 fun C24 hC24 => ?_
   simp only [bL, ↓bO, bS, bA, bF, ↓reduceIte, Nat.reduceEqDiff, reduceCtorEq, undef, aCallV, tyX, List.length_map, hk, gM he, EqT.cells, Ty.refold, hw, hb1, hb2, Int.natCast_add, Int.natCast_one, Int.cast_ofNat_Int]
   refine APure.call (RefRight_pure e.r) ?_
   try simp only [bS, bA, bF]
   refine hC24 _ ?_; clear hC24 C24
   simp only [bL]
   simp only [↓bO, bS, bA, bF, ↓reduceIte, Nat.reduceEqDiff, reduceCtorEq, aBool, tyX, List.length_map, hk, gM he, EqT.cells, Ty.refold, hw, hb1, hb2, Int.natCast_add, Int.natCast_one, Int.cast_ofNat_Int]
   refine hK11 _ ?_; try clear hK11 K11
   refine AWp_cond rfl (fun hb24 => ?_) (fun hb24 => ?_)
   ·
    have hyes : e.ok = true := by (have h9 : e.r.right = true := by simpa using hb24); rw [EqT.ok, hl1, h9]; rfl
    have hst := rightsE_yes he hyes
    refine AWp_region ?_
    refine aops_chunk 1 fun C25 hC25 => ?_
    simp only [bL, ↓bO, bS, bA, bF, ↓reduceIte, Nat.reduceEqDiff, reduceCtorEq, tyX, List.length_map, hk, gM he, EqT.cells, Ty.refold, hw, hb1, hb2, Int.natCast_add, Int.natCast_one, Int.cast_ofNat_Int, hst, List.map_append, List.length_append]
    refine hC25 _ ?_; clear hC25 C25
    simp only [bL]
    refine aops_chunk 1 fun C26 hC26 => ?_
    simp only [bL, ↓bO, bS, bA, bF, ↓reduceIte, Nat.reduceEqDiff, reduceCtorEq, tyX, List.length_map, hk, gM he, EqT.cells, Ty.refold, hw, hb1, hb2, Int.natCast_add, Int.natCast_one, Int.cast_ofNat_Int, hst, List.map_append, List.length_append]
    refine hC26 _ ?_; clear hC26 C26
    simp only [bL]
    refine aops_chunk 1 fun C27 hC27 => ?_
    simp only [bL, ↓bO, bS, bA, bF, ↓reduceIte, Nat.reduceEqDiff, reduceCtorEq, tyX, List.length_map, hk, gM he, EqT.cells, Ty.refold, hw, hb1, hb2, Int.natCast_add, Int.natCast_one, Int.cast_ofNat_Int, hst, List.map_append, List.length_append]
    refine hC27 _ ?_; clear hC27 C27
    simp only [bL]
    refine aops_chunk 1 fun C28 hC28 => ?_
    simp only [bL, ↓bO, bS, bA, bF, ↓reduceIte, Nat.reduceEqDiff, reduceCtorEq, getO, aIndexA, es61, Int.natCast_nonneg, Int.ofNat_lt, Int.toNat_natCast, List.length_map, Int.le_refl, Int.toNat_zero, Int.toNat_one, Int.reduceLE, tyX, hk, gM he, EqT.cells, Ty.refold, hw, hb1, hb2, Int.natCast_add, Int.natCast_one, Int.cast_ofNat_Int, hst, List.map_append, List.length_append]
    refine hC28 _ ?_; clear hC28 C28
    simp only [bL]
    refine aops_chunk 1 fun C29 hC29 => ?_
    simp only [bL, ↓bO, bS, bA, bF, ↓reduceIte, Nat.reduceEqDiff, reduceCtorEq, aLoad, ti73, getO, pack, Nat.reduceAdd, Nat.reduceLeDiff, tyX, List.length_map, hk, gM he, EqT.cells, Ty.refold, hw, hb1, hb2, Int.natCast_add, Int.natCast_one, Int.cast_ofNat_Int, hst, List.map_append, List.length_append]
    refine hC29 _ ?_; clear hC29 C29
    simp only [bL]
    refine aops_chunk 1 fun C30 hC30 => ?_
    simp only [bL, ↓bO, bS, bA, bF, ↓reduceIte, Nat.reduceEqDiff, reduceCtorEq, ↓bs1_1, ↓bs1_2, ↓bs1_3, ↓bs1_4, ↓bs1_5, ↓bs1_6, ↓bs1_7, ↓bs1_8, ↓bs1_9, ↓bs1_10, ↓bs1_11, ↓bs1_12, aBuildSl, ei61, ia73, List.range_succ, List.range_zero, List.forall_mem_cons, List.not_mem_nil, false_imp_iff, implies_true, Nat.reduceAdd, Nat.reduceLeDiff, forall_eq, List.mem_singleton, tyX, List.length_map, hk, gM he, EqT.cells, Ty.refold, hw, hb1, hb2, Int.natCast_add, Int.natCast_one, Int.cast_ofNat_Int, hst, List.map_append, List.length_append]
    refine hC30 _ ?_; clear hC30 C30
    simp only [bL]
    refine aops_chunk 1 fun C31 hC31 => ?_
    simp only [bL, ↓bO, bS, bA, bF, ↓reduceIte, Nat.reduceEqDiff, reduceCtorEq, aAppend, ei61, slIn, slAt, slOf, List.length_map, getO, putO, Nat.reduceAdd, tyX, hk, gM he, EqT.cells, Ty.refold, hw, hb1, hb2, Int.natCast_add, Int.natCast_one, Int.cast_ofNat_Int, hst, List.map_append, List.length_append]
    refine hC31 _ ?_; clear hC31 C31
    simp only [bL]
    simp only [↓bO, bS, bA, bF, ↓reduceIte, Nat.reduceEqDiff, reduceCtorEq, tyX, List.length_map, hk, gM he, EqT.cells, Ty.refold, hw, hb1, hb2, Int.natCast_add, Int.natCast_one, Int.cast_ofNat_Int, hst, List.map_append, bL, List.length_append]
    refine hK10 _ ?_; try clear hK10 K10
    refine AWp_region ?_
    refine aops_chunk 1 fun C32 hC32 => ?_
    simp only [bL, ↓bO, bS, bA, bF, ↓reduceIte, Nat.reduceEqDiff, reduceCtorEq, tyX, List.length_map, hk, gM he, EqT.cells, Ty.refold, hw, hb1, hb2, Int.natCast_add, Int.natCast_one, Int.cast_ofNat_Int, hst, List.map_append, List.length_append]
    refine hC32 _ ?_; clear hC32 C32
    simp only [bL]
    refine aops_chunk 1 fun C33 hC33 => ?_
    simp only [bL, ↓bO, bS, bA, bF, ↓reduceIte, Nat.reduceEqDiff, reduceCtorEq, aBin, tyX, List.length_map, hk, gM he, EqT.cells, Ty.refold, hw, hb1, hb2, Int.natCast_add, Int.natCast_one, Int.cast_ofNat_Int, hst, List.map_append, List.length_append]
    refine hC33 _ ?_; clear hC33 C33
    simp only [bL]
    simp only [↓bO, bS, bA, bF, ↓reduceIte, Nat.reduceEqDiff, reduceCtorEq, tyX, List.length_map, hk, gM he, EqT.cells, Ty.refold, hw, hb1, hb2, Int.natCast_add, Int.natCast_one, Int.cast_ofNat_Int, hst, List.map_append, bL, List.length_append]
    refine ⟨(s + 1), (by omega), by omega, ?_⟩
    simp only [maskL, setsL, putsO, putO, bA, Nat.reduceEqDiff, ↓reduceIte, hk, gM he, EqT.cells, Ty.refold, hw, hb1, hb2, Int.natCast_add, Int.natCast_one, Int.cast_ofNat_Int, hst, List.map_append, bL, List.length_append]
    exact Weak.mk (by simp only [LeL, Le.refl, Le.any, Le.slNil, and_self, Int.natCast_add, Int.cast_ofNat_Int, Int.natCast_one]) (fun _ _ h => h) rfl rfl
   ·
    have hno : e.ok = false := by (have h9 : e.r.right = false := by simpa using hb24); rw [EqT.ok, h9, Bool.and_false]
    have hst := rightsE_no he hno
    refine AWp_skip ?_
    try simp only [bF]
    refine hK10 _ ?_; try clear hK10 K10
    refine AWp_region ?_
    refine aops_chunk 1 fun C34 hC34 => ?_
    simp only [bL, ↓bO, bS, bA, bF, ↓reduceIte, Nat.reduceEqDiff, reduceCtorEq, tyX, List.length_map, hk, gM he, EqT.cells, Ty.refold, hw, hb1, hb2, Int.natCast_add, Int.natCast_one, Int.cast_ofNat_Int, hst]
    refine hC34 _ ?_; clear hC34 C34
    simp only [bL]
    refine aops_chunk 1 fun C35 hC35 => ?_
    simp only [bL, ↓bO, bS, bA, bF, ↓reduceIte, Nat.reduceEqDiff, reduceCtorEq, aBin, tyX, List.length_map, hk, gM he, EqT.cells, Ty.refold, hw, hb1, hb2, Int.natCast_add, Int.natCast_one, Int.cast_ofNat_Int, hst]
    refine hC35 _ ?_; clear hC35 C35
    simp only [bL]
    simp only [↓bO, bS, bA, bF, ↓reduceIte, Nat.reduceEqDiff, reduceCtorEq, tyX, List.length_map, hk, gM he, EqT.cells, Ty.refold, hw, hb1, hb2, Int.natCast_add, Int.natCast_one, Int.cast_ofNat_Int, hst]
    refine ⟨(s + 1), (by omega), by omega, ?_⟩
    simp only [maskL, setsL, putsO, putO, bA, Nat.reduceEqDiff, ↓reduceIte, hk, gM he, EqT.cells, Ty.refold, hw, hb1, hb2, Int.natCast_add, Int.natCast_one, Int.cast_ofNat_Int, hst]
    exact Weak.mk (by simp only [LeL, Le.refl, Le.any, Le.slNil, and_self, Int.natCast_add, Int.cast_ofNat_Int, Int.natCast_one]) (fun _ _ h => h) rfl rfl
  ·
   simp only [List.set_cons_zero, List.set_cons_succ]
   have hno : e.ok = false := by (have h9 : e.l.right = false := by simpa using hc17); rw [EqT.ok, h9]; rfl
   have hst := rightsE_no he hno
   refine aops_chunk 1 fun C36 hC36 => ?_
   simp only [bL, ↓bO, bS, bA, bF, ↓reduceIte, Nat.reduceEqDiff, reduceCtorEq, undef, tyX, List.length_map, hk, gM he, EqT.cells, Ty.refold, hw, hb1, hb2, Int.natCast_add, Int.natCast_one, Int.cast_ofNat_Int, hst]
   refine hC36 _ ?_; clear hC36 C36
   simp only [bL]
   refine aops_chunk 1 fun C37 hC37 => ?_
   simp only [bL, ↓bO, bS, bA, bF, ↓reduceIte, Nat.reduceEqDiff, reduceCtorEq, undef, tyX, List.length_map, hk, gM he, EqT.cells, Ty.refold, hw, hb1, hb2, Int.natCast_add, Int.natCast_one, Int.cast_ofNat_Int, hst]
   refine hC37 _ ?_; clear hC37 C37
   simp only [bL]
   refine aops_chunk 1 fun C38 hC38 => ?_
   simp only [bL, ↓bO, bS, bA, bF, ↓reduceIte, Nat.reduceEqDiff, reduceCtorEq, undef, getO, aIndexA, es61, Int.natCast_nonneg, Int.ofNat_lt, Int.toNat_natCast, List.length_map, Int.le_refl, Int.toNat_zero, Int.toNat_one, Int.reduceLE, tyX, hk, gM he, EqT.cells, Ty.refold, hw, hb1, hb2, Int.natCast_add, Int.natCast_one, Int.cast_ofNat_Int, hst]
   refine hC38 _ ?_; clear hC38 C38
   simp only [bL]
   refine aops_chunk 1 fun C39 hC39 => ?_
   simp only [bL, ↓bO, bS, bA, bF, ↓reduceIte, Nat.reduceEqDiff, reduceCtorEq, undef, aField, fo73_1, Nat.reduceAdd, tyX, List.length_map, hk, gM he, EqT.cells, Ty.refold, hw, hb1, hb2, Int.natCast_add, Int.natCast_one, Int.cast_ofNat_Int, hst]
   refine hC39 _ ?_; clear hC39 C39
   simp only [bL]
   refine aops_chunk 1 fun C40 hC40 => ?_
   simp only [bL, ↓bO, bS, bA, bF, ↓reduceIte, Nat.reduceEqDiff, reduceCtorEq, undef, aLoad, ti32, getO, pack, Nat.reduceAdd, Nat.reduceLeDiff, tyX, List.length_map, hk, gM he, EqT.cells, Ty.refold, hw, hb1, hb2, Int.natCast_add, Int.natCast_one, Int.cast_ofNat_Int, hst]
   refine hC40 _ ?_; clear hC40 C40
   simp only [bL]
   refine aops_chunk 1 fun C41 hC41 => ?_
   simp only [bL, ↓bO, bS, bA, bF, ↓reduceIte, Nat.reduceEqDiff, reduceCtorEq, undef, aCallV, tyX, List.length_map, hk, gM he, EqT.cells, Ty.refold, hw, hb1, hb2, Int.natCast_add, Int.natCast_one, Int.cast_ofNat_Int, hst]
   refine hC41 _ ?_; clear hC41 C41
   simp only [bL]
   simp only [↓bO, bS, bA, bF, ↓reduceIte, Nat.reduceEqDiff, reduceCtorEq, aBool, tyX, List.length_map, hk, gM he, EqT.cells, Ty.refold, hw, hb1, hb2, Int.natCast_add, Int.natCast_one, Int.cast_ofNat_Int, hst]
   refine hK11 _ ?_; try clear hK11 K11
   refine AWp_cond (b := false) (by first | exact rfl | exact congrArg (fun b => AV.v (.bool b)) hb24) (fun h => (by cases h)) (fun _ => ?_)
   refine AWp_skip ?_
   try simp only [bF]
   refine hK10 _ ?_; try clear hK10 K10
   refine AWp_region ?_
   refine aops_chunk 1 fun C42 hC42 => ?_
   simp only [bL, ↓bO, bS, bA, bF, ↓reduceIte, Nat.reduceEqDiff, reduceCtorEq, tyX, List.length_map, hk, gM he, EqT.cells, Ty.refold, hw, hb1, hb2, Int.natCast_add, Int.natCast_one, Int.cast_ofNat_Int, hst]
   refine hC42 _ ?_; clear hC42 C42
   simp only [bL]
   refine aops_chunk 1 fun C43 hC43 => ?_
   simp only [bL, ↓bO, bS, bA, bF, ↓reduceIte, Nat.reduceEqDiff, reduceCtorEq, aBin, tyX, List.length_map, hk, gM he, EqT.cells, Ty.refold, hw, hb1, hb2, Int.natCast_add, Int.natCast_one, Int.cast_ofNat_Int, hst]
   refine hC43 _ ?_; clear hC43 C43
   simp only [bL]
   simp only [↓bO, bS, bA, bF, ↓reduceIte, Nat.reduceEqDiff, reduceCtorEq, tyX, List.length_map, hk, gM he, EqT.cells, Ty.refold, hw, hb1, hb2, Int.natCast_add, Int.natCast_one, Int.cast_ofNat_Int, hst]
   refine ⟨(s + 1), (by omega), by omega, ?_⟩
   simp only [maskL, setsL, putsO, putO, bA, Nat.reduceEqDiff, ↓reduceIte, hk, gM he, EqT.cells, Ty.refold, hw, hb1, hb2, Int.natCast_add, Int.natCast_one, Int.cast_ofNat_Int, hst]
   exact Weak.mk (by simp only [LeL, Le.refl, Le.any, Le.slNil, and_self, Int.natCast_add, Int.cast_ofNat_Int, Int.natCast_one]) (fun _ _ h => h) rfl rfl
 ·
  have hk : s = es.length := by simp at hb8; omega
  refine AWp_exit ?_
  simp only [bF, bA, Nat.reduceEqDiff, ↓reduceIte]
  refine hK3 _ ?_; try clear hK3 K3
  refine AWp_seqK fun K44 hK44 => ?_
  refine AWp_region ?_
  refine aops_chunk 1 fun C45 hC45 => ?_
  simp only [bL, ↓bO, bS, bA, bF, ↓reduceIte, Nat.reduceEqDiff, reduceCtorEq, tyX, List.length_map]
  refine hC45 _ ?_; clear hC45 C45
  simp only [bL]
  simp only [↓bO, bS, bA, bF, ↓reduceIte, Nat.reduceEqDiff, reduceCtorEq, tyX, List.length_map]
  refine hK44 _ ?_; try clear hK44 K44
  refine AWp_ret ?_
  try simp only [bF, retQ, aRes, tupOf, bS, bA]
  rw [hk, List.take_length]; exact Le.oslL
end Go.Proofs.Ytohdoloalolpfaa
namespace Go.Proofs.Ytohdoloalolpfaa
open Go Go.RowKit
set_option maxRecDepth 100000
set_option maxHeartbeats 1000000
set_option linter.unusedSimpArgs false
set_option linter.unusedVariables false
attribute [local irreducible] aops dRun
theorem HeldC.next {E : List (Nat × Nat)} {c : List Int} {s a b : Nat} (h : HeldC (E.take s) c) (he : E[s]? = some (a, b)) (ha : a < c.length) (hb : b < c.length) : HeldC (E.take (s + 1)) (joinC c a b) := by
  rw [List.take_add_one, he]
  intro e hm
  rcases List.mem_append.1 hm with hm | hm
  · exact h.join a b e hm
  · simp at hm; subst hm; exact joinC_same ha hb
structure CLoop (M : List RNode) (E : List (Nat × Nat)) (c0 : List Int) (p : List Int × Bool) : Prop where
  col : Col M E p.1
  held : HeldC E p.1
  eq : p.2 = false → p.1 = c0
  lt : p.2 = true → ndC p.1 < ndC c0
theorem CLoop.le {M : List RNode} {E : List (Nat × Nat)} {c0 : List Int} {p : List Int × Bool} (h : CLoop M E c0 p) : ndC p.1 ≤ ndC c0 := by
  cases hp : p.2 with
  | false => rw [h.eq hp]; exact Nat.le_refl _
  | true => exact Nat.le_of_lt (h.lt hp)
theorem CLoop.join {M : List RNode} {E : List (Nat × Nat)} {c0 : List Int} {p : List Int × Bool} (h : CLoop M E c0 p) {a b : Nat} (ha : a < M.length) (hb : b < M.length) (hc : Cl (shR M) E a b) (hne : ¬ p.1[a]? = p.1[b]?) : CLoop M E c0 (joinC p.1 a b, true) := by
  have hl := h.col.len
  refine ⟨h.col.join ha hb hc, h.held.join a b, fun e => (by cases e), fun _ => ?_⟩
  exact Nat.lt_of_lt_of_le (ndC_join (by omega) (by omega) hne) h.le
end Go.Proofs.Ytohdoloalolpfaa
namespace Go.Proofs.Ytohdoloalolpfaa
open Go Go.RowKit
set_option maxRecDepth 100000
set_option maxHeartbeats 1000000
set_option linter.unusedSimpArgs false
set_option linter.unusedVariables false
attribute [local irreducible] aops dRun
theorem sumP_mem : ∀ {l : List (Ty × Ty)} {e : Ty × Ty}, e ∈ l → e.1.cnt + e.2.cnt ≤ sumP l
  | x :: l, e, h => by
    simp only [sumP]
    rcases List.mem_cons.1 h with rfl | h
    · omega
    · have := sumP_mem h; omega
end Go.Proofs.Ytohdoloalolpfaa
namespace Go.Proofs.Ytohdoloalolpfaa
open Go Go.RowKit
set_option maxRecDepth 100000
set_option maxHeartbeats 1000000
set_option linter.unusedSimpArgs false
set_option linter.unusedVariables false
attribute [local irreducible] aops dRun
def Ty.big (t : Ty) : Bool := decide (t.room 100 30 < 0)
theorem Ty.big_cnt {t : Ty} (h : t.big = false) : t.cnt ≤ 100 := by
  simp only [Ty.big, decide_eq_false_iff_not] at h
  have := Ty.room_cnt t 100 30 (by omega) (by omega)
  omega
def bigE (e : Ty × Ty) : Bool := e.1.big || e.2.big
def greatE (l : List (Ty × Ty)) : Bool := (l.take 30).any bigE || decide (20 < l.length) || decide (160 < sumP (l.take 30))
theorem greatE_true {l : List (Ty × Ty)} {s : Nat} {e : Ty × Ty} (hp : l[s]? = some e) (hs : s < 30) (h : bigE e = true) : greatE l = true := by
  have h1 : (l.take 30).any bigE = true := all_not_of (i := s) (p := e) (by rw [List.getElem?_take, if_pos hs]; exact hp) h
  simp only [greatE, h1, Bool.true_or]
theorem greatE_end {l : List (Ty × Ty)} {s : Nat} (hs : ¬ (s < l.length ∧ s < 30)) (h1 : s ≤ l.length) (h2 : s ≤ 30) (h : ∀ (i : Nat) (p : Ty × Ty), i < s → l[i]? = some p → bigE p = false) :
    greatE l = (decide (20 < l.length) || decide (160 < sumP (l.take s))) := by
  have e : l.take 30 = l.take s := by
    rcases Nat.lt_or_ge s 30 with h3 | h3
    · have h4 : s = l.length := by omega
      subst h4
      rw [List.take_length, List.take_of_length_le (by omega)]
    · rw [show s = 30 by omega]
  have h0 : (l.take s).any bigE = false := any_false_of fun i p hi hp => by
    rw [List.getElem?_take] at hp
    split at hp
    · exact h i p (by assumption) hp
    · cases hp
  simp only [greatE, e, h0, Bool.false_or]
theorem greatE_spec {l : List (Ty × Ty)} (h : greatE l = false) : l.length ≤ 20 ∧ sumP l ≤ 160 := by
  simp only [greatE, Bool.or_eq_false_iff, decide_eq_false_iff_not] at h
  obtain ⟨⟨h1, h2⟩, h3⟩ := h
  rw [List.take_of_length_le (by omega)] at h3
  exact ⟨by omega, by omega⟩
theorem sumP_step {l : List (Ty × Ty)} {s : Nat} {e : Ty × Ty} (h : l[s]? = some e) : sumP (l.take (s + 1)) = sumP (l.take s) + (e.1.cnt + e.2.cnt) := by
  rw [List.take_add_one, h]
  exact sumP_snoc _ _
theorem room12_pure : ∀ (T : Ty) (n : Int) (d : Nat) (hn : 0 ≤ n) (hn2 : n ≤ 1099511627776) (hd : d ≤ 1099511627776), APure Try.prog 95 [.agg T.cells, .v (.int .i64 n), .v (.int .i64 d)] (.v (.int .i64 (T.room n d))) := by
 refine Ty.ind fun T ih => ?_
 intro n d hn hn2 hd
 refine APure.mkL (.cons T.dataAgg (.cons (.v _) (.cons (.v _) .nil))) (.v _) ?_
 refine ACalls_intro Try.func95 (by kernel_rfl) rfl (by rw [Try.ntmps95]; simp) (fun hm => ?_)
 simp only [Try.ntmps95, Try.results95, List.length_cons, List.length_nil, Nat.reduceAdd, Nat.reduceSub, List.replicate_succ, List.replicate_zero, List.cons_append, List.nil_append]
 have hm1 := hm.wide (t := T) (by simp)
 have hw1 : IntKind.i64.wrap (n - 1) = n - 1 := wrap_in (by omega) (by omega)
 refine AWp_seqK fun K1 hK1 => ?_
 refine AWp_region ?_
 simp only [↓bO, bS, bA, bF, ↓reduceIte, Nat.reduceEqDiff, reduceCtorEq, tyX, hw1]
 refine hK1 _ ?_; try clear hK1 K1
 refine AWp_seqK fun K2 hK2 => ?_
 refine AWp_region ?_
 simp only [↓bO, bS, bA, bF, ↓reduceIte, Nat.reduceEqDiff, reduceCtorEq, aBin, tyX, hw1]
 refine hK2 _ ?_; try clear hK2 K2
 refine AWp_seqK fun K3 hK3 => ?_
 refine AWp_seqK fun K4 hK4 => ?_
 refine AWp_region ?_
 simp only [↓bO, bS, bA, bF, ↓reduceIte, Nat.reduceEqDiff, reduceCtorEq, aBin, tyX, hw1]
 refine hK4 _ ?_; try clear hK4 K4
 refine AWp_cond rfl (fun hb11 => ?_) (fun hb11 => ?_)
 ·
  have hd0 : d = 0 := by simpa using hb11
  refine AWp_seqK fun K5 hK5 => ?_
  refine AWp_region ?_
  simp only [↓bO, bS, bA, bF, ↓reduceIte, Nat.reduceEqDiff, reduceCtorEq, tyX, hw1]
  refine hK5 _ ?_; try clear hK5 K5
  refine AWp_ret ?_
  try simp only [bF, retQ, aRes, tupOf, bS, bA]
  refine Le.of_eq (congrArg (fun n => AV.v (.int .i64 n)) ?_)
  first | (rw [hd0, Ty.room_zero]; done) | skip
  all_goals (rw [Ty.room_succ]; simp only [decide_eq_false_iff_not] at hb20; rcases Nat.lt_or_ge s T.ps.length with h5 | h5 <;> first | (rw [List.take_of_length_le h5]; done) | (rw [Ty.roomL_stop T.ps s _ _ (by omega)]; done))
 ·
  obtain ⟨e, rfl⟩ : ∃ e, d = e + 1 := ⟨d - 1, by simp at hb11; omega⟩
  have hw2 : IntKind.i64.wrap ((e : Int) + 1 - 1) = (e : Int) := by rw [wrap_in (by omega) (by omega)]; omega
  refine AWp_skip ?_
  try simp only [bF]
  refine hK3 _ ?_; try clear hK3 K3
  refine AWp_seqK fun K6 hK6 => ?_
  refine AWp_seqK fun K7 hK7 => ?_
  refine AWp_region ?_
  simp only [↓bO, bS, bA, bF, ↓reduceIte, Nat.reduceEqDiff, reduceCtorEq, tyX, hw1]
  refine hK7 _ ?_; try clear hK7 K7
  refine AWp_block ?_
  refine AWp_loopM (σ := Nat) [false, true, true, true, false, false, false, true, false, false, false, false, false, false, false, false, false, false, false, false, false, false, false, false, false, false, false, false, false, false, false, false, false] (fun s => s ≤ T.ps.length) (fun s => [(1, .v (.int .i64 (Ty.roomL (T.ps.take s) (n - 1) e))), (7, .v (.int .i64 (s : Int)))]) (fun s => []) (fun s => T.ps.length - s) 0 (by omega) ?_ (fun s hs => ?_)
  ·
   simp only [maskL, setsL, putsO, putO, bA, Nat.reduceEqDiff, ↓reduceIte, bL, Ty.roomL]
   exact Weak.mk (by simp only [LeL, Le.refl, Le.any, Le.slNil, and_self, Int.natCast_add, Int.cast_ofNat_Int, Int.natCast_one]) (fun _ _ h => h) rfl rfl
  simp only [maskL, setsL, putsO, putO, bA, Nat.reduceEqDiff, ↓reduceIte]
  refine AWp_seqK fun K8 hK8 => ?_
  refine AWp_joinM [false, true, true, true, false, false, false, true, false, false, false, false, false, false, false, false, false, false, false, false, true, false, false, false, false, false, false, false, false, false, false, false, false] ([(20, .v (.bool (decide (s < T.ps.length ∧ 0 ≤ Ty.roomL (T.ps.take s) (n - 1) e))))]) ([]) ?_ ?_
  ·
   refine AWp_region ?_
   refine aops_chunk 4 fun C9 hC9 => ?_
   simp only [bL, ↓bO, bS, bA, bF, ↓reduceIte, Nat.reduceEqDiff, reduceCtorEq, aField, fo32_2, Nat.reduceAdd, aLoad, ti22, getO, pack, Nat.reduceLeDiff, aLenX, aLen, ln22, List.length_map, tyX, hw1]
   refine hC9 _ ?_; clear hC9 C9
   simp only [bL]
   refine aops_chunk 2 fun C10 hC10 => ?_
   simp only [bL, ↓bO, bS, bA, bF, ↓reduceIte, Nat.reduceEqDiff, reduceCtorEq, aBin, tyX, hw1]
   refine hC10 _ ?_; clear hC10 C10
   simp only [bL]
   refine aops_case 17 rfl (fun hc17 => ?_) (fun hc17 => ?_)
   ·
    simp only [List.set_cons_zero, List.set_cons_succ]
    simp only [↓bO, bS, bA, bF, ↓reduceIte, Nat.reduceEqDiff, reduceCtorEq, bL, undef, aBin, aBool, tyX, hw1]
    try simp only [maskL, setsL, putsO, putO, bA, Nat.reduceEqDiff, ↓reduceIte]
    refine Weak.mk ?_ (fun _ _ h => h) rfl rfl
    simp only [LeL, Le.refl, Le.any, and_self, and_true, true_and]
    all_goals (refine Le.of_eq (congrArg (fun b => AV.v (.bool b)) ?_); rw [Bool.eq_iff_iff]; simp only [decide_eq_true_eq, decide_eq_false_iff_not, ge_iff_le, Bool.false_eq_true, false_iff, Int.ofNat_lt] at *; omega)
   ·
    simp only [List.set_cons_zero, List.set_cons_succ]
    simp only [↓bO, bS, bA, bF, ↓reduceIte, Nat.reduceEqDiff, reduceCtorEq, bL, undef, aBin, aBool, tyX, hw1]
    try simp only [maskL, setsL, putsO, putO, bA, Nat.reduceEqDiff, ↓reduceIte]
    refine Weak.mk ?_ (fun _ _ h => h) rfl rfl
    simp only [LeL, Le.refl, Le.any, and_self, and_true, true_and]
    all_goals (refine Le.of_eq (congrArg (fun b => AV.v (.bool b)) ?_); rw [Bool.eq_iff_iff]; simp only [decide_eq_true_eq, decide_eq_false_iff_not, ge_iff_le, Bool.false_eq_true, false_iff, Int.ofNat_lt] at *; omega)
  simp only [maskL, setsL, putsO, putO, bA, Nat.reduceEqDiff, ↓reduceIte]
  refine AWp_cond rfl (fun hb20 => ?_) (fun hb20 => ?_)
  ·
   have hk : s < T.ps.length := by simp only [decide_eq_true_eq] at hb20; exact hb20.1
   obtain ⟨p, hp⟩ : ∃ p, T.ps[s]? = some p := ⟨_, List.getElem?_eq_getElem hk⟩
   have hw : IntKind.i64.wrap ((s : Int) + 1) = (s : Int) + 1 := wrap_in (by omega) (by have := hm1.len; simp only [maxLen] at this; omega)
   have hrm : 0 ≤ Ty.roomL (T.ps.take s) (n - 1) e := by simp only [decide_eq_true_eq] at hb20; exact hb20.2
   have hrl := Ty.roomL_le (T.ps.take s) (n - 1) e (by omega)
   refine AWp_skip ?_
   try simp only [bF]
   refine hK8 _ ?_; try clear hK8 K8
   refine AWp_seqK fun K11 hK11 => ?_
   refine AWp_block ?_
   refine AWp_region ?_
   refine aops_chunk 4 fun C12 hC12 => ?_
   simp only [bL, ↓bO, bS, bA, bF, ↓reduceIte, Nat.reduceEqDiff, reduceCtorEq, aField, fo32_2, Nat.reduceAdd, aLoad, ti22, getO, pack, Nat.reduceLeDiff, aIndexA, es22, Int.natCast_nonneg, Int.ofNat_lt, Int.toNat_natCast, List.length_map, Int.le_refl, Int.toNat_zero, Int.toNat_one, Int.reduceLE, tyX, hw1, hk, gM hp, Int.natCast_add, Int.natCast_one, hw, Ty.roomL_step hp (n - 1) e hrm, hw2]
   refine hC12 _ ?_; clear hC12 C12
   simp only [bL]
   refine aops_chunk 4 fun C13 hC13 => ?_
   simp only [bL, ↓bO, bS, bA, bF, ↓reduceIte, Nat.reduceEqDiff, reduceCtorEq, aLoad, ti32, getO, pack, Nat.reduceAdd, Nat.reduceLeDiff, aBin, tyX, hw1, hk, gM hp, Int.natCast_add, Int.natCast_one, hw, Ty.roomL_step hp (n - 1) e hrm, hw2]
   refine hC13 _ ?_; clear hC13 C13
   simp only [bL]
   refine aops_chunk 1 fun C14 hC14 => ?_
   simp only [bL, ↓bO, bS, bA, bF, ↓reduceIte, Nat.reduceEqDiff, reduceCtorEq, aCallV, tyX, hw1, hk, gM hp, Int.natCast_add, Int.natCast_one, hw, Ty.roomL_step hp (n - 1) e hrm, hw2]
   refine APure.call (ih p (List.mem_of_getElem? hp) _ e hrm (by omega) (by omega)) ?_
   try simp only [bS, bA, bF]
   refine hC14 _ ?_; clear hC14 C14
   simp only [bL]
   simp only [↓bO, bS, bA, bF, ↓reduceIte, Nat.reduceEqDiff, reduceCtorEq, tyX, hw1, hk, gM hp, Int.natCast_add, Int.natCast_one, hw, Ty.roomL_step hp (n - 1) e hrm, hw2]
   refine hK11 _ ?_; try clear hK11 K11
   refine AWp_region ?_
   simp only [↓bO, bS, bA, bF, ↓reduceIte, Nat.reduceEqDiff, reduceCtorEq, aBin, tyX, hw1, hk, gM hp, Int.natCast_add, Int.natCast_one, hw, Ty.roomL_step hp (n - 1) e hrm, hw2]
   refine ⟨(s + 1), (by omega), by omega, ?_⟩
   simp only [maskL, setsL, putsO, putO, bA, Nat.reduceEqDiff, ↓reduceIte, hk, gM hp, Int.natCast_add, Int.natCast_one, hw, Ty.roomL_step hp (n - 1) e hrm, hw2]
   exact Weak.mk (by simp only [LeL, Le.refl, Le.any, Le.slNil, and_self, Int.natCast_add, Int.cast_ofNat_Int, Int.natCast_one]) (fun _ _ h => h) rfl rfl
  ·
   refine AWp_exit ?_
   simp only [bF, bA, Nat.reduceEqDiff, ↓reduceIte]
   refine hK6 _ ?_; try clear hK6 K6
   refine AWp_seqK fun K15 hK15 => ?_
   refine AWp_region ?_
   simp only [↓bO, bS, bA, bF, ↓reduceIte, Nat.reduceEqDiff, reduceCtorEq, tyX, hw1]
   refine hK15 _ ?_; try clear hK15 K15
   refine AWp_ret ?_
   try simp only [bF, retQ, aRes, tupOf, bS, bA]
   refine Le.of_eq (congrArg (fun n => AV.v (.int .i64 n)) ?_)
   first | (rw [hd0, Ty.room_zero]; done) | skip
   all_goals (rw [Ty.room_succ]; simp only [decide_eq_false_iff_not] at hb20; rcases Nat.lt_or_ge s T.ps.length with h5 | h5 <;> first | (rw [List.take_of_length_le h5]; done) | (rw [Ty.roomL_stop T.ps s _ _ (by omega)]; done))
theorem big12_pure (T : Ty) : APure Try.prog 69 [.agg T.cells] (.v (.bool T.big)) := by
 refine APure.mkL (.cons T.dataAgg .nil) (.v _) ?_
 refine ACalls_intro Try.func69 (by kernel_rfl) rfl (by rw [Try.ntmps69]; simp) (fun hm => ?_)
 simp only [Try.ntmps69, Try.results69, List.length_cons, List.length_nil, Nat.reduceAdd, Nat.reduceSub, List.replicate_succ, List.replicate_zero, List.cons_append, List.nil_append]
 simp only [Ty.cells_eq T, List.cons_append, List.nil_append]
 refine AWp_seqK fun K1 hK1 => ?_
 refine AWp_region ?_
 simp only [↓bO, bS, bA, bF, ↓reduceIte, Nat.reduceEqDiff, reduceCtorEq]
 refine hK1 _ ?_; try clear hK1 K1
 refine AWp_seqK fun K2 hK2 => ?_
 refine AWp_region ?_
 refine aops_chunk 1 fun C3 hC3 => ?_
 simp only [bL, ↓bO, bS, bA, bF, ↓reduceIte, Nat.reduceEqDiff, reduceCtorEq, aLoad, ti32, getO, pack, Nat.reduceAdd, Nat.reduceLeDiff]
 refine hC3 _ ?_; clear hC3 C3
 simp only [bL]
 refine aops_chunk 1 fun C4 hC4 => ?_
 simp only [bL, ↓bO, bS, bA, bF, ↓reduceIte, Nat.reduceEqDiff, reduceCtorEq, aCallV]
 refine APure.call (by have h9 := room12_pure T 100 30 (by omega) (by omega) (by omega); rw [Ty.cells_eq T] at h9; exact h9) ?_
 try simp only [bS, bA, bF]
 refine hC4 _ ?_; clear hC4 C4
 simp only [bL]
 simp only [↓bO, bS, bA, bF, ↓reduceIte, Nat.reduceEqDiff, reduceCtorEq, aBin]
 refine hK2 _ ?_; try clear hK2 K2
 refine AWp_ret ?_
 try simp only [bF, retQ, aRes, tupOf, bS, bA]
 exact Le.of_eq (congrArg (fun b => AV.v (.bool b)) rfl)
theorem Great12_pure (es : List EqT) : APure Try.prog 35 [.sl 8 (es.map EqT.cells)] (.v (.bool (greatE (es.map EqT.p)))) := by
 refine APure.mkL (.cons (EqT.dataSl es) .nil) (.v _) ?_
 refine ACalls_intro Try.func35 (by kernel_rfl) rfl (by rw [Try.ntmps35]; simp) (fun hm => ?_)
 simp only [Try.ntmps35, Try.results35, List.length_cons, List.length_nil, Nat.reduceAdd, Nat.reduceSub, List.replicate_succ, List.replicate_zero, List.cons_append, List.nil_append]
 refine AWp_seqK fun K1 hK1 => ?_
 refine AWp_region ?_
 simp only [↓bO, bS, bA, bF, ↓reduceIte, Nat.reduceEqDiff, reduceCtorEq, tyX, List.length_map]
 refine hK1 _ ?_; try clear hK1 K1
 refine AWp_seqK fun K2 hK2 => ?_
 refine AWp_region ?_
 simp only [↓bO, bS, bA, bF, ↓reduceIte, Nat.reduceEqDiff, reduceCtorEq, tyX, List.length_map]
 refine hK2 _ ?_; try clear hK2 K2
 refine AWp_seqK fun K3 hK3 => ?_
 refine AWp_seqK fun K4 hK4 => ?_
 refine AWp_region ?_
 simp only [↓bO, bS, bA, bF, ↓reduceIte, Nat.reduceEqDiff, reduceCtorEq, tyX, List.length_map]
 refine hK4 _ ?_; try clear hK4 K4
 refine AWp_block ?_
 refine AWp_loopM (σ := Nat) [true, false, false, true, true, false, false, false, false, false, false, false, false, false, false, false, false, false, false, false, false, false, false, false, false, false, false, false, false, false, false, false, false, false, false, false, false, false, false, false, false, false, false, false, false, false, false, false, false, false, false] (fun s => s ≤ es.length ∧ s ≤ 30 ∧ sumP ((es.map EqT.p).take s) ≤ 200 * s ∧ ∀ (i : Nat) (p : Ty × Ty), i < s → (es.map EqT.p)[i]? = some p → bigE p = false) (fun s => [(3, .v (.int .i64 (sumP ((es.map EqT.p).take s) : Nat))), (4, .v (.int .i64 (s : Int)))]) (fun s => []) (fun s => 30 - s) 0 (⟨by omega, by omega, by simp [sumP], fun i p hi => by omega⟩) ?_ (fun s hs => ?_)
 ·
  simp only [maskL, setsL, putsO, putO, bA, Nat.reduceEqDiff, ↓reduceIte, bL, sumP, Int.natCast_zero, Int.ofNat_zero, Int.cast_ofNat_Int]
  exact Weak.mk (by simp only [LeL, Le.refl, Le.any, Le.slNil, and_self, Int.natCast_add, Int.cast_ofNat_Int, Int.natCast_one]) (fun _ _ h => h) rfl rfl
 simp only [maskL, setsL, putsO, putO, bA, Nat.reduceEqDiff, ↓reduceIte]
 refine AWp_seqK fun K5 hK5 => ?_
 refine AWp_joinM [true, false, false, true, true, false, false, false, false, false, false, false, true, false, false, false, false, false, false, false, false, false, false, false, false, false, false, false, false, false, false, false, false, false, false, false, false, false, false, false, false, false, false, false, false, false, false, false, false, false, false] ([(12, .v (.bool (decide (s < es.length ∧ s < 30))))]) ([]) ?_ ?_
 ·
  refine AWp_region ?_
  refine aops_chunk 1 fun C6 hC6 => ?_
  simp only [bL, ↓bO, bS, bA, bF, ↓reduceIte, Nat.reduceEqDiff, reduceCtorEq, tyX, List.length_map]
  refine hC6 _ ?_; clear hC6 C6
  simp only [bL]
  refine aops_chunk 1 fun C7 hC7 => ?_
  simp only [bL, ↓bO, bS, bA, bF, ↓reduceIte, Nat.reduceEqDiff, reduceCtorEq, tyX, List.length_map]
  refine hC7 _ ?_; clear hC7 C7
  simp only [bL]
  refine aops_chunk 1 fun C8 hC8 => ?_
  simp only [bL, ↓bO, bS, bA, bF, ↓reduceIte, Nat.reduceEqDiff, reduceCtorEq, getO, aLenX, aLen, ln61, List.length_map, tyX]
  refine hC8 _ ?_; clear hC8 C8
  simp only [bL]
  refine aops_chunk 1 fun C9 hC9 => ?_
  simp only [bL, ↓bO, bS, bA, bF, ↓reduceIte, Nat.reduceEqDiff, reduceCtorEq, aBin, tyX, List.length_map]
  refine hC9 _ ?_; clear hC9 C9
  simp only [bL]
  refine aops_chunk 1 fun C10 hC10 => ?_
  simp only [bL, ↓bO, bS, bA, bF, ↓reduceIte, Nat.reduceEqDiff, reduceCtorEq, tyX, List.length_map]
  refine hC10 _ ?_; clear hC10 C10
  simp only [bL]
  refine aops_case 9 rfl (fun hc9 => ?_) (fun hc9 => ?_)
  ·
   simp only [List.set_cons_zero, List.set_cons_succ]
   refine aops_chunk 1 fun C11 hC11 => ?_
   simp only [bL, ↓bO, bS, bA, bF, ↓reduceIte, Nat.reduceEqDiff, reduceCtorEq, undef, tyX, List.length_map]
   refine hC11 _ ?_; clear hC11 C11
   simp only [bL]
   refine aops_chunk 1 fun C12 hC12 => ?_
   simp only [bL, ↓bO, bS, bA, bF, ↓reduceIte, Nat.reduceEqDiff, reduceCtorEq, undef, aBin, tyX, List.length_map]
   refine hC12 _ ?_; clear hC12 C12
   simp only [bL]
   simp only [↓bO, bS, bA, bF, ↓reduceIte, Nat.reduceEqDiff, reduceCtorEq, aBool, tyX, List.length_map]
   try simp only [maskL, setsL, putsO, putO, bA, Nat.reduceEqDiff, ↓reduceIte]
   refine Weak.mk ?_ (fun _ _ h => h) rfl rfl
   simp only [LeL, Le.refl, Le.any, and_self, and_true, true_and]
   all_goals (refine Le.of_eq (congrArg (fun b => AV.v (.bool b)) ?_); rw [Bool.eq_iff_iff]; simp only [decide_eq_true_eq, decide_eq_false_iff_not, Bool.false_eq_true, false_iff, Int.ofNat_lt] at *; omega)
  ·
   simp only [List.set_cons_zero, List.set_cons_succ]
   refine aops_chunk 1 fun C13 hC13 => ?_
   simp only [bL, ↓bO, bS, bA, bF, ↓reduceIte, Nat.reduceEqDiff, reduceCtorEq, undef, tyX, List.length_map]
   refine hC13 _ ?_; clear hC13 C13
   simp only [bL]
   refine aops_chunk 1 fun C14 hC14 => ?_
   simp only [bL, ↓bO, bS, bA, bF, ↓reduceIte, Nat.reduceEqDiff, reduceCtorEq, undef, aBin, tyX, List.length_map]
   refine hC14 _ ?_; clear hC14 C14
   simp only [bL]
   simp only [↓bO, bS, bA, bF, ↓reduceIte, Nat.reduceEqDiff, reduceCtorEq, aBool, tyX, List.length_map]
   try simp only [maskL, setsL, putsO, putO, bA, Nat.reduceEqDiff, ↓reduceIte]
   refine Weak.mk ?_ (fun _ _ h => h) rfl rfl
   simp only [LeL, Le.refl, Le.any, and_self, and_true, true_and]
   all_goals (refine Le.of_eq (congrArg (fun b => AV.v (.bool b)) ?_); rw [Bool.eq_iff_iff]; simp only [decide_eq_true_eq, decide_eq_false_iff_not, Bool.false_eq_true, false_iff, Int.ofNat_lt] at *; omega)
 simp only [maskL, setsL, putsO, putO, bA, Nat.reduceEqDiff, ↓reduceIte]
 refine AWp_cond rfl (fun hb12 => ?_) (fun hb12 => ?_)
 ·
  have hk0 : s < es.length ∧ s < 30 := by simpa using hb12
  have hk : s < es.length := hk0.1
  obtain ⟨e, he⟩ : ∃ e, es[s]? = some e := ⟨_, List.getElem?_eq_getElem hk⟩
  have hep : (es.map EqT.p)[s]? = some e.p := by rw [List.getElem?_map, he]; rfl
  have hss := sumP_step hep
  simp only [EqT.p] at hss
  have hw : IntKind.i64.wrap ((s : Int) + 1) = (s : Int) + 1 := wrap_in (by omega) (by omega)
  refine AWp_skip ?_
  try simp only [bF]
  refine hK5 _ ?_; try clear hK5 K5
  refine AWp_seqK fun K15 hK15 => ?_
  refine AWp_block ?_
  refine AWp_seqK fun K16 hK16 => ?_
  refine AWp_seqK fun K17 hK17 => ?_
  refine AWp_region ?_
  refine aops_chunk 1 fun C18 hC18 => ?_
  simp only [bL, ↓bO, bS, bA, bF, ↓reduceIte, Nat.reduceEqDiff, reduceCtorEq, tyX, List.length_map, hk, gM he, EqT.cells, Ty.refold, Int.natCast_add, Int.natCast_one, hw]
  refine hC18 _ ?_; clear hC18 C18
  simp only [bL]
  refine aops_chunk 1 fun C19 hC19 => ?_
  simp only [bL, ↓bO, bS, bA, bF, ↓reduceIte, Nat.reduceEqDiff, reduceCtorEq, tyX, List.length_map, hk, gM he, EqT.cells, Ty.refold, Int.natCast_add, Int.natCast_one, hw]
  refine hC19 _ ?_; clear hC19 C19
  simp only [bL]
  refine aops_chunk 1 fun C20 hC20 => ?_
  simp only [bL, ↓bO, bS, bA, bF, ↓reduceIte, Nat.reduceEqDiff, reduceCtorEq, getO, aIndexA, es61, Int.natCast_nonneg, Int.ofNat_lt, Int.toNat_natCast, List.length_map, Int.le_refl, Int.toNat_zero, Int.toNat_one, Int.reduceLE, tyX, hk, gM he, EqT.cells, Ty.refold, Int.natCast_add, Int.natCast_one, hw]
  refine hC20 _ ?_; clear hC20 C20
  simp only [bL]
  refine aops_chunk 1 fun C21 hC21 => ?_
  simp only [bL, ↓bO, bS, bA, bF, ↓reduceIte, Nat.reduceEqDiff, reduceCtorEq, aField, fo73_0, Nat.reduceAdd, tyX, List.length_map, hk, gM he, EqT.cells, Ty.refold, Int.natCast_add, Int.natCast_one, hw]
  refine hC21 _ ?_; clear hC21 C21
  simp only [bL]
  refine aops_chunk 1 fun C22 hC22 => ?_
  simp only [bL, ↓bO, bS, bA, bF, ↓reduceIte, Nat.reduceEqDiff, reduceCtorEq, aLoad, ti32, getO, pack, Nat.reduceAdd, Nat.reduceLeDiff, tyX, List.length_map, hk, gM he, EqT.cells, Ty.refold, Int.natCast_add, Int.natCast_one, hw]
  refine hC22 _ ?_; clear hC22 C22
  simp only [bL]
  refine aops_chunk 1 fun C23 hC23 => ?_
  simp only [bL, ↓bO, bS, bA, bF, ↓reduceIte, Nat.reduceEqDiff, reduceCtorEq, aCallV, tyX, List.length_map, hk, gM he, EqT.cells, Ty.refold, Int.natCast_add, Int.natCast_one, hw]
  refine APure.call (big12_pure e.l) ?_
  try simp only [bS, bA, bF]
  refine hC23 _ ?_; clear hC23 C23
  simp only [bL]
  refine aops_chunk 1 fun C24 hC24 => ?_
  simp only [bL, ↓bO, bS, bA, bF, ↓reduceIte, Nat.reduceEqDiff, reduceCtorEq, tyX, List.length_map, hk, gM he, EqT.cells, Ty.refold, Int.natCast_add, Int.natCast_one, hw]
  refine hC24 _ ?_; clear hC24 C24
  simp only [bL]
  refine aops_case 21 rfl (fun hc21 => ?_) (fun hc21 => ?_)
  ·
   simp only [List.set_cons_zero, List.set_cons_succ]
   have hyb : bigE e.p = true := by (have h9 : e.l.big = true := by simpa using hc21); exact (by rw [bigE, show e.p.1.big = true from h9]; rfl)
   refine aops_chunk 1 fun C25 hC25 => ?_
   simp only [bL, ↓bO, bS, bA, bF, ↓reduceIte, Nat.reduceEqDiff, reduceCtorEq, undef, tyX, List.length_map, hk, gM he, EqT.cells, Ty.refold, Int.natCast_add, Int.natCast_one, hw]
   refine hC25 _ ?_; clear hC25 C25
   simp only [bL]
   refine aops_chunk 1 fun C26 hC26 => ?_
   simp only [bL, ↓bO, bS, bA, bF, ↓reduceIte, Nat.reduceEqDiff, reduceCtorEq, undef, tyX, List.length_map, hk, gM he, EqT.cells, Ty.refold, Int.natCast_add, Int.natCast_one, hw]
   refine hC26 _ ?_; clear hC26 C26
   simp only [bL]
   refine aops_chunk 1 fun C27 hC27 => ?_
   simp only [bL, ↓bO, bS, bA, bF, ↓reduceIte, Nat.reduceEqDiff, reduceCtorEq, undef, getO, aIndexA, es61, Int.natCast_nonneg, Int.ofNat_lt, Int.toNat_natCast, List.length_map, Int.le_refl, Int.toNat_zero, Int.toNat_one, Int.reduceLE, tyX, hk, gM he, EqT.cells, Ty.refold, Int.natCast_add, Int.natCast_one, hw]
   refine hC27 _ ?_; clear hC27 C27
   simp only [bL]
   refine aops_chunk 1 fun C28 hC28 => ?_
   simp only [bL, ↓bO, bS, bA, bF, ↓reduceIte, Nat.reduceEqDiff, reduceCtorEq, undef, aField, fo73_1, Nat.reduceAdd, tyX, List.length_map, hk, gM he, EqT.cells, Ty.refold, Int.natCast_add, Int.natCast_one, hw]
   refine hC28 _ ?_; clear hC28 C28
   simp only [bL]
   refine aops_chunk 1 fun C29 hC29 => ?_
   simp only [bL, ↓bO, bS, bA, bF, ↓reduceIte, Nat.reduceEqDiff, reduceCtorEq, undef, aLoad, ti32, getO, pack, Nat.reduceAdd, Nat.reduceLeDiff, tyX, List.length_map, hk, gM he, EqT.cells, Ty.refold, Int.natCast_add, Int.natCast_one, hw]
   refine hC29 _ ?_; clear hC29 C29
   simp only [bL]
   refine aops_chunk 1 fun C30 hC30 => ?_
   simp only [bL, ↓bO, bS, bA, bF, ↓reduceIte, Nat.reduceEqDiff, reduceCtorEq, undef, aCallV, tyX, List.length_map, hk, gM he, EqT.cells, Ty.refold, Int.natCast_add, Int.natCast_one, hw]
   refine hC30 _ ?_; clear hC30 C30
   simp only [bL]
   simp only [↓bO, bS, bA, bF, ↓reduceIte, Nat.reduceEqDiff, reduceCtorEq, aBool, tyX, List.length_map, hk, gM he, EqT.cells, Ty.refold, Int.natCast_add, Int.natCast_one, hw]
   refine hK17 _ ?_; try clear hK17 K17
   refine AWp_cond (b := true) (by first | exact rfl | exact congrArg (fun b => AV.v (.bool b)) hb28) (fun _ => ?_) (fun h => (by cases h))
   refine AWp_seqK fun K31 hK31 => ?_
   refine AWp_region ?_
   simp only [↓bO, bS, bA, bF, ↓reduceIte, Nat.reduceEqDiff, reduceCtorEq, tyX, List.length_map, hk, gM he, EqT.cells, Ty.refold, Int.natCast_add, Int.natCast_one, hw]
   refine hK31 _ ?_; try clear hK31 K31
   refine AWp_ret ?_
   try simp only [bF, retQ, aRes, tupOf, bS, bA]
   refine Le.of_eq (congrArg (fun b => AV.v (.bool b)) ?_)
   first | (rw [greatE_true hep (by omega) hyb]; done) | skip
   all_goals (rw [hg1, Bool.eq_iff_iff]; simp only [Bool.or_eq_true, decide_eq_true_eq, decide_eq_false_iff_not, true_iff, Bool.false_eq_true, false_iff] at *; omega)
  ·
   simp only [List.set_cons_zero, List.set_cons_succ]
   have hb1 : e.l.big = false := by simpa using hc21
   refine aops_chunk 1 fun C32 hC32 => ?_
   simp only [bL, ↓bO, bS, bA, bF, ↓reduceIte, Nat.reduceEqDiff, reduceCtorEq, undef, tyX, List.length_map, hk, gM he, EqT.cells, Ty.refold, Int.natCast_add, Int.natCast_one, hw]
   refine hC32 _ ?_; clear hC32 C32
   simp only [bL]
   refine aops_chunk 1 fun C33 hC33 => ?_
   simp only [bL, ↓bO, bS, bA, bF, ↓reduceIte, Nat.reduceEqDiff, reduceCtorEq, undef, tyX, List.length_map, hk, gM he, EqT.cells, Ty.refold, Int.natCast_add, Int.natCast_one, hw]
   refine hC33 _ ?_; clear hC33 C33
   simp only [bL]
   refine aops_chunk 1 fun C34 hC34 => ?_
   simp only [bL, ↓bO, bS, bA, bF, ↓reduceIte, Nat.reduceEqDiff, reduceCtorEq, undef, getO, aIndexA, es61, Int.natCast_nonneg, Int.ofNat_lt, Int.toNat_natCast, List.length_map, Int.le_refl, Int.toNat_zero, Int.toNat_one, Int.reduceLE, tyX, hk, gM he, EqT.cells, Ty.refold, Int.natCast_add, Int.natCast_one, hw]
   refine hC34 _ ?_; clear hC34 C34
   simp only [bL]
   refine aops_chunk 1 fun C35 hC35 => ?_
   simp only [bL, ↓bO, bS, bA, bF, ↓reduceIte, Nat.reduceEqDiff, reduceCtorEq, undef, aField, fo73_1, Nat.reduceAdd, tyX, List.length_map, hk, gM he, EqT.cells, Ty.refold, Int.natCast_add, Int.natCast_one, hw]
   refine hC35 _ ?_; clear hC35 C35
   simp only [bL]
   refine aops_chunk 1 fun C36 hC36 => ?_
   simp only [bL, ↓bO, bS, bA, bF, ↓reduceIte, Nat.reduceEqDiff, reduceCtorEq, undef, aLoad, ti32, getO, pack, Nat.reduceAdd, Nat.reduceLeDiff, tyX, List.length_map, hk, gM he, EqT.cells, Ty.refold, Int.natCast_add, Int.natCast_one, hw]
   refine hC36 _ ?_; clear hC36 C36
   simp only [bL]
   refine aops_chunk 1 fun C37 hC37 => ?_
   simp only [bL, ↓bO, bS, bA, bF, ↓reduceIte, Nat.reduceEqDiff, reduceCtorEq, undef, aCallV, tyX, List.length_map, hk, gM he, EqT.cells, Ty.refold, Int.natCast_add, Int.natCast_one, hw]
   refine APure.call (big12_pure e.r) ?_
   try simp only [bS, bA, bF]
   refine hC37 _ ?_; clear hC37 C37
   simp only [bL]
   simp only [↓bO, bS, bA, bF, ↓reduceIte, Nat.reduceEqDiff, reduceCtorEq, aBool, tyX, List.length_map, hk, gM he, EqT.cells, Ty.refold, Int.natCast_add, Int.natCast_one, hw]
   refine hK17 _ ?_; try clear hK17 K17
   refine AWp_cond rfl (fun hb28 => ?_) (fun hb28 => ?_)
   ·
    have hyb : bigE e.p = true := by (have h9 : e.r.big = true := by simpa using hb28); exact (by rw [bigE, show e.p.2.big = true from h9, Bool.or_true])
    refine AWp_seqK fun K38 hK38 => ?_
    refine AWp_region ?_
    simp only [↓bO, bS, bA, bF, ↓reduceIte, Nat.reduceEqDiff, reduceCtorEq, tyX, List.length_map, hk, gM he, EqT.cells, Ty.refold, Int.natCast_add, Int.natCast_one, hw]
    refine hK38 _ ?_; try clear hK38 K38
    refine AWp_ret ?_
    try simp only [bF, retQ, aRes, tupOf, bS, bA]
    refine Le.of_eq (congrArg (fun b => AV.v (.bool b)) ?_)
    first | (rw [greatE_true hep (by omega) hyb]; done) | skip
    all_goals (rw [hg1, Bool.eq_iff_iff]; simp only [Bool.or_eq_true, decide_eq_true_eq, decide_eq_false_iff_not, true_iff, Bool.false_eq_true, false_iff] at *; omega)
   ·
    have hb2 : e.r.big = false := by simpa using hb28
    have hnb : bigE e.p = false := by rw [bigE, show e.p.1.big = false from hb1, show e.p.2.big = false from hb2]; rfl
    have hpc1 := Ty.big_cnt hb1
    have hpc2 := Ty.big_cnt hb2
    have hsz1 := Ty.sizeW_cnt e.l (by omega)
    have hsz2 := Ty.sizeW_cnt e.r (by omega)
    have hw2 : IntKind.i64.wrap ((sumP ((es.map EqT.p).take s) : Int) + e.l.sizeW) = (sumP ((es.map EqT.p).take s) : Int) + e.l.cnt := by rw [hsz1, wrap_in (by omega) (by omega)]
    have hw3 : IntKind.i64.wrap ((sumP ((es.map EqT.p).take s) : Int) + e.l.cnt + e.r.sizeW) = (sumP ((es.map EqT.p).take (s + 1)) : Int) := by rw [hsz2, wrap_in (by omega) (by omega)]; omega
    refine AWp_skip ?_
    try simp only [bF]
    refine hK16 _ ?_; try clear hK16 K16
    refine AWp_drawK 15 mixed (by kernel_rfl) fun K39 hK39 => ?_
    simp only [bL]
    refine dRun_chunk 1 fun C40 hC40 => ?_
    simp only [bL, ↓dRun, ↓dOp, ↓bO, bS, bA, bF, ↓reduceIte, Nat.reduceEqDiff, reduceCtorEq, tyX, List.length_map, hk, gM he, EqT.cells, Ty.refold, Int.natCast_add, Int.natCast_one, hw, hw2, hw3]
    refine hC40 _ ?_; clear hC40 C40
    simp only [bL]
    refine dRun_chunk 1 fun C41 hC41 => ?_
    simp only [bL, ↓dRun, ↓dOp, ↓bO, bS, bA, bF, ↓reduceIte, Nat.reduceEqDiff, reduceCtorEq, tyX, List.length_map, hk, gM he, EqT.cells, Ty.refold, Int.natCast_add, Int.natCast_one, hw, hw2, hw3]
    refine hC41 _ ?_; clear hC41 C41
    simp only [bL]
    refine dRun_chunk 1 fun C42 hC42 => ?_
    simp only [bL, ↓dRun, ↓dOp, ↓bO, bS, bA, bF, ↓reduceIte, Nat.reduceEqDiff, reduceCtorEq, tyX, List.length_map, hk, gM he, EqT.cells, Ty.refold, Int.natCast_add, Int.natCast_one, hw, hw2, hw3]
    refine hC42 _ ?_; clear hC42 C42
    simp only [bL]
    refine dRun_chunk 1 fun C43 hC43 => ?_
    simp only [bL, ↓dRun, ↓dOp, ↓bO, bS, bA, bF, ↓reduceIte, Nat.reduceEqDiff, reduceCtorEq, getO, aIndexA, es61, Int.natCast_nonneg, Int.ofNat_lt, Int.toNat_natCast, List.length_map, Int.le_refl, Int.toNat_zero, Int.toNat_one, Int.reduceLE, tyX, hk, gM he, EqT.cells, Ty.refold, Int.natCast_add, Int.natCast_one, hw, hw2, hw3]
    refine hC43 _ ?_; clear hC43 C43
    simp only [bL]
    refine dRun_chunk 1 fun C44 hC44 => ?_
    simp only [bL, ↓dRun, ↓dOp, ↓bO, bS, bA, bF, ↓reduceIte, Nat.reduceEqDiff, reduceCtorEq, aField, fo73_0, Nat.reduceAdd, tyX, List.length_map, hk, gM he, EqT.cells, Ty.refold, Int.natCast_add, Int.natCast_one, hw, hw2, hw3]
    refine hC44 _ ?_; clear hC44 C44
    simp only [bL]
    refine dRun_chunk 1 fun C45 hC45 => ?_
    simp only [bL, ↓dRun, ↓dOp, ↓bO, bS, bA, bF, ↓reduceIte, Nat.reduceEqDiff, reduceCtorEq, aLoad, ti32, getO, pack, Nat.reduceAdd, Nat.reduceLeDiff, tyX, List.length_map, hk, gM he, EqT.cells, Ty.refold, Int.natCast_add, Int.natCast_one, hw, hw2, hw3]
    refine hC45 _ ?_; clear hC45 C45
    simp only [bL]
    refine dRun_chunk 1 fun C46 hC46 => ?_
    simp only [bL, ↓dRun, ↓dOp, ↓bO, bS, bA, bF, ↓reduceIte, Nat.reduceEqDiff, reduceCtorEq, aCallV, tyX, List.length_map, hk, gM he, EqT.cells, Ty.refold, Int.natCast_add, Int.natCast_one, hw, hw2, hw3]
    refine ⟨_, Size_pure e.l, ?_⟩
    try simp only [bS, bA, bF]
    refine hC46 _ ?_; clear hC46 C46
    simp only [bL]
    refine dRun_chunk 1 fun C47 hC47 => ?_
    simp only [bL, ↓dRun, ↓dOp, ↓bO, bS, bA, bF, ↓reduceIte, Nat.reduceEqDiff, reduceCtorEq, aBin, tyX, List.length_map, hk, gM he, EqT.cells, Ty.refold, Int.natCast_add, Int.natCast_one, hw, hw2, hw3]
    refine hC47 _ ?_; clear hC47 C47
    simp only [bL]
    refine dRun_chunk 1 fun C48 hC48 => ?_
    simp only [bL, ↓dRun, ↓dOp, ↓bO, bS, bA, bF, ↓reduceIte, Nat.reduceEqDiff, reduceCtorEq, tyX, List.length_map, hk, gM he, EqT.cells, Ty.refold, Int.natCast_add, Int.natCast_one, hw, hw2, hw3]
    refine hC48 _ ?_; clear hC48 C48
    simp only [bL]
    refine dRun_chunk 1 fun C49 hC49 => ?_
    simp only [bL, ↓dRun, ↓dOp, ↓bO, bS, bA, bF, ↓reduceIte, Nat.reduceEqDiff, reduceCtorEq, tyX, List.length_map, hk, gM he, EqT.cells, Ty.refold, Int.natCast_add, Int.natCast_one, hw, hw2, hw3]
    refine hC49 _ ?_; clear hC49 C49
    simp only [bL]
    refine dRun_chunk 1 fun C50 hC50 => ?_
    simp only [bL, ↓dRun, ↓dOp, ↓bO, bS, bA, bF, ↓reduceIte, Nat.reduceEqDiff, reduceCtorEq, getO, aIndexA, es61, Int.natCast_nonneg, Int.ofNat_lt, Int.toNat_natCast, List.length_map, Int.le_refl, Int.toNat_zero, Int.toNat_one, Int.reduceLE, tyX, hk, gM he, EqT.cells, Ty.refold, Int.natCast_add, Int.natCast_one, hw, hw2, hw3]
    refine hC50 _ ?_; clear hC50 C50
    simp only [bL]
    refine dRun_chunk 1 fun C51 hC51 => ?_
    simp only [bL, ↓dRun, ↓dOp, ↓bO, bS, bA, bF, ↓reduceIte, Nat.reduceEqDiff, reduceCtorEq, aField, fo73_1, Nat.reduceAdd, tyX, List.length_map, hk, gM he, EqT.cells, Ty.refold, Int.natCast_add, Int.natCast_one, hw, hw2, hw3]
    refine hC51 _ ?_; clear hC51 C51
    simp only [bL]
    refine dRun_chunk 1 fun C52 hC52 => ?_
    simp only [bL, ↓dRun, ↓dOp, ↓bO, bS, bA, bF, ↓reduceIte, Nat.reduceEqDiff, reduceCtorEq, aLoad, ti32, getO, pack, Nat.reduceAdd, Nat.reduceLeDiff, tyX, List.length_map, hk, gM he, EqT.cells, Ty.refold, Int.natCast_add, Int.natCast_one, hw, hw2, hw3]
    refine hC52 _ ?_; clear hC52 C52
    simp only [bL]
    refine dRun_chunk 1 fun C53 hC53 => ?_
    simp only [bL, ↓dRun, ↓dOp, ↓bO, bS, bA, bF, ↓reduceIte, Nat.reduceEqDiff, reduceCtorEq, aCallV, tyX, List.length_map, hk, gM he, EqT.cells, Ty.refold, Int.natCast_add, Int.natCast_one, hw, hw2, hw3]
    refine ⟨_, Size_pure e.r, ?_⟩
    try simp only [bS, bA, bF]
    refine hC53 _ ?_; clear hC53 C53
    simp only [bL]
    simp only [↓dRun, ↓dOp, bL, ↓bO, bS, bA, bF, ↓reduceIte, Nat.reduceEqDiff, reduceCtorEq, aBin, tyX, List.length_map, hk, gM he, EqT.cells, Ty.refold, Int.natCast_add, Int.natCast_one, hw, hw2, hw3]
    refine hK39 _ ?_; try clear hK39 K39
    simp only [bL]
    simp only [↓bO, bS, bA, bF, ↓reduceIte, Nat.reduceEqDiff, reduceCtorEq, tyX, List.length_map, hk, gM he, EqT.cells, Ty.refold, Int.natCast_add, Int.natCast_one, hw, hw2, hw3]
    refine hK15 _ ?_; try clear hK15 K15
    refine AWp_region ?_
    refine aops_chunk 1 fun C54 hC54 => ?_
    simp only [bL, ↓bO, bS, bA, bF, ↓reduceIte, Nat.reduceEqDiff, reduceCtorEq, tyX, List.length_map, hk, gM he, EqT.cells, Ty.refold, Int.natCast_add, Int.natCast_one, hw, hw2, hw3]
    refine hC54 _ ?_; clear hC54 C54
    simp only [bL]
    refine aops_chunk 1 fun C55 hC55 => ?_
    simp only [bL, ↓bO, bS, bA, bF, ↓reduceIte, Nat.reduceEqDiff, reduceCtorEq, aBin, tyX, List.length_map, hk, gM he, EqT.cells, Ty.refold, Int.natCast_add, Int.natCast_one, hw, hw2, hw3]
    refine hC55 _ ?_; clear hC55 C55
    simp only [bL]
    simp only [↓bO, bS, bA, bF, ↓reduceIte, Nat.reduceEqDiff, reduceCtorEq, tyX, List.length_map, hk, gM he, EqT.cells, Ty.refold, Int.natCast_add, Int.natCast_one, hw, hw2, hw3]
    refine ⟨(s + 1), ⟨by omega, by omega, by omega, fun i p' hi h1 => (by rcases Nat.lt_or_ge i s with h3 | h3 <;> first | exact hs.2.2.2 i p' h3 h1 | (obtain rfl : i = s := (by omega); rw [hep] at h1; cases h1; exact hnb))⟩, by omega, ?_⟩
    simp only [maskL, setsL, putsO, putO, bA, Nat.reduceEqDiff, ↓reduceIte, hk, gM he, EqT.cells, Ty.refold, Int.natCast_add, Int.natCast_one, hw, hw2, hw3]
    exact Weak.mk (by simp only [LeL, Le.refl, Le.any, Le.slNil, and_self, Int.natCast_add, Int.cast_ofNat_Int, Int.natCast_one]) (fun _ _ h => h) rfl rfl
 ·
  have hk0 : ¬ (s < es.length ∧ s < 30) := by simpa using hb12
  have hg1 := greatE_end (l := (es.map EqT.p)) (by rw [List.length_map]; exact hk0) (by rw [List.length_map]; exact hs.1) hs.2.1 hs.2.2.2
  rw [List.length_map] at hg1
  refine AWp_exit ?_
  simp only [bF, bA, Nat.reduceEqDiff, ↓reduceIte]
  refine hK3 _ ?_; try clear hK3 K3
  refine AWp_seqK fun K56 hK56 => ?_
  refine AWp_region ?_
  refine aops_chunk 1 fun C57 hC57 => ?_
  simp only [bL, ↓bO, bS, bA, bF, ↓reduceIte, Nat.reduceEqDiff, reduceCtorEq, tyX, List.length_map]
  refine hC57 _ ?_; clear hC57 C57
  simp only [bL]
  refine aops_chunk 1 fun C58 hC58 => ?_
  simp only [bL, ↓bO, bS, bA, bF, ↓reduceIte, Nat.reduceEqDiff, reduceCtorEq, getO, aLenX, aLen, ln61, List.length_map, tyX]
  refine hC58 _ ?_; clear hC58 C58
  simp only [bL]
  refine aops_chunk 1 fun C59 hC59 => ?_
  simp only [bL, ↓bO, bS, bA, bF, ↓reduceIte, Nat.reduceEqDiff, reduceCtorEq, aBin, tyX, List.length_map]
  refine hC59 _ ?_; clear hC59 C59
  simp only [bL]
  refine aops_chunk 1 fun C60 hC60 => ?_
  simp only [bL, ↓bO, bS, bA, bF, ↓reduceIte, Nat.reduceEqDiff, reduceCtorEq, tyX, List.length_map]
  refine hC60 _ ?_; clear hC60 C60
  simp only [bL]
  refine aops_case 47 rfl (fun hc47 => ?_) (fun hc47 => ?_)
  ·
   simp only [List.set_cons_zero, List.set_cons_succ]
   refine aops_chunk 1 fun C61 hC61 => ?_
   simp only [bL, ↓bO, bS, bA, bF, ↓reduceIte, Nat.reduceEqDiff, reduceCtorEq, undef, tyX, List.length_map]
   refine hC61 _ ?_; clear hC61 C61
   simp only [bL]
   refine aops_chunk 1 fun C62 hC62 => ?_
   simp only [bL, ↓bO, bS, bA, bF, ↓reduceIte, Nat.reduceEqDiff, reduceCtorEq, undef, aBin, tyX, List.length_map]
   refine hC62 _ ?_; clear hC62 C62
   simp only [bL]
   refine aops_chunk 1 fun C63 hC63 => ?_
   simp only [bL, ↓bO, bS, bA, bF, ↓reduceIte, Nat.reduceEqDiff, reduceCtorEq, aBool, tyX, List.length_map]
   refine hC63 _ ?_; clear hC63 C63
   simp only [bL]
   simp only [↓bO, bS, bA, bF, ↓reduceIte, Nat.reduceEqDiff, reduceCtorEq, tyX, List.length_map]
   refine hK56 _ ?_; try clear hK56 K56
   refine AWp_ret ?_
   try simp only [bF, retQ, aRes, tupOf, bS, bA]
   refine Le.of_eq (congrArg (fun b => AV.v (.bool b)) ?_)
   first | (rw [greatE_true hep (by omega) hyb]; done) | skip
   all_goals (rw [hg1, Bool.eq_iff_iff]; simp only [Bool.or_eq_true, decide_eq_true_eq, decide_eq_false_iff_not, true_iff, Bool.false_eq_true, false_iff] at *; omega)
  ·
   simp only [List.set_cons_zero, List.set_cons_succ]
   refine aops_chunk 1 fun C64 hC64 => ?_
   simp only [bL, ↓bO, bS, bA, bF, ↓reduceIte, Nat.reduceEqDiff, reduceCtorEq, undef, tyX, List.length_map]
   refine hC64 _ ?_; clear hC64 C64
   simp only [bL]
   refine aops_chunk 1 fun C65 hC65 => ?_
   simp only [bL, ↓bO, bS, bA, bF, ↓reduceIte, Nat.reduceEqDiff, reduceCtorEq, undef, aBin, tyX, List.length_map]
   refine hC65 _ ?_; clear hC65 C65
   simp only [bL]
   refine aops_chunk 1 fun C66 hC66 => ?_
   simp only [bL, ↓bO, bS, bA, bF, ↓reduceIte, Nat.reduceEqDiff, reduceCtorEq, aBool, tyX, List.length_map]
   refine hC66 _ ?_; clear hC66 C66
   simp only [bL]
   simp only [↓bO, bS, bA, bF, ↓reduceIte, Nat.reduceEqDiff, reduceCtorEq, tyX, List.length_map]
   refine hK56 _ ?_; try clear hK56 K56
   refine AWp_ret ?_
   try simp only [bF, retQ, aRes, tupOf, bS, bA]
   refine Le.of_eq (congrArg (fun b => AV.v (.bool b)) ?_)
   first | (rw [greatE_true hep (by omega) hyb]; done) | skip
   all_goals (rw [hg1, Bool.eq_iff_iff]; simp only [Bool.or_eq_true, decide_eq_true_eq, decide_eq_false_iff_not, true_iff, Bool.false_eq_true, false_iff] at *; omega)
end Go.Proofs.Ytohdoloalolpfaa
namespace Go.Proofs.Ytohdoloalolpfaa
open Go Go.RowKit
set_option maxRecDepth 100000
set_option maxHeartbeats 1000000
set_option linter.unusedSimpArgs false
set_option linter.unusedVariables false
attribute [local irreducible] aops dRun
theorem awake12_pure : APure Try.prog 36 [] (.v (.bool true)) := by
 refine APure.mkL (.nil) (.v _) ?_
 refine ACalls_intro Try.func36 (by kernel_rfl) rfl (by rw [Try.ntmps36]; simp) (fun hm => ?_)
 simp only [Try.ntmps36, Try.results36, List.length_cons, List.length_nil, Nat.reduceAdd, Nat.reduceSub, List.replicate_succ, List.replicate_zero, List.cons_append, List.nil_append]
 refine AWp_seqK fun K1 hK1 => ?_
 refine AWp_region ?_
 simp only [↓bO, bS, bA, bF, ↓reduceIte, Nat.reduceEqDiff, reduceCtorEq, tyX]
 refine hK1 _ ?_; try clear hK1 K1
 refine AWp_seqK fun K2 hK2 => ?_
 refine AWp_region ?_
 refine aops_chunk 1 fun C3 hC3 => ?_
 simp only [bL, ↓bO, bS, bA, bF, ↓reduceIte, Nat.reduceEqDiff, reduceCtorEq, aCallV, tyX]
 refine VNew_calls.mono ?_
 rintro r os' nx' ⟨⟨rfl, rfl⟩, rfl⟩
 try simp only [bS, bA, bF]
 refine hC3 _ ?_; clear hC3 C3
 simp only [bL]
 simp only [↓bO, bS, bA, bF, ↓reduceIte, Nat.reduceEqDiff, reduceCtorEq, tyX]
 refine hK2 _ ?_; try clear hK2 K2
 refine AWp_weak (Weak.rowCell 3 1 0 (id := 0) rfl rfl) ?_
 simp only [newOs, putO, Nat.reduceEqDiff, ↓reduceIte, List.set_cons_zero, List.set_cons_succ]
 refine AWp_weak (Weak.rowCell 3 1 1 (id := 0) rfl rfl) ?_
 simp only [putO, Nat.reduceEqDiff, ↓reduceIte, List.set_cons_zero, List.set_cons_succ]
 refine AWp_weak (Weak.rowCell 3 1 3 (id := 3) rfl rfl) ?_
 simp only [putO, Nat.reduceEqDiff, ↓reduceIte, List.set_cons_zero, List.set_cons_succ]
 refine AWp_weak (Weak.tokCell 87 4 (id := 2) (t := 91) [.osl 7 4 ([].map GNode.cells), .map 1] rfl ⟨.inr ⟨rfl, rfl⟩, .inl (.refl _), trivial⟩) ?_
 simp only [putO, Nat.reduceEqDiff, ↓reduceIte, List.set_cons_zero, List.set_cons_succ]
 refine AWp_seqK fun K4 hK4 => ?_
 refine AWp_region ?_
 refine aops_chunk 1 fun C5 hC5 => ?_
 simp only [bL, ↓bO, bS, bA, bF, ↓reduceIte, Nat.reduceEqDiff, reduceCtorEq, aBuild, zc32, pc32, aFill, splice, Nat.reduceAdd, Nat.reduceLeDiff, tyX]
 refine hC5 _ ?_; clear hC5 C5
 simp only [bL]
 refine aops_chunk 1 fun C6 hC6 => ?_
 simp only [bL, ↓bO, bS, bA, bF, ↓reduceIte, Nat.reduceEqDiff, reduceCtorEq, aBuild, zc32, pc32, aFill, splice, Nat.reduceAdd, Nat.reduceLeDiff, tyX]
 refine hC6 _ ?_; clear hC6 C6
 simp only [bL]
 refine aops_chunk 1 fun C7 hC7 => ?_
 simp only [bL, ↓bO, bS, bA, bF, ↓reduceIte, Nat.reduceEqDiff, reduceCtorEq, zc32, tyX]
 refine hC7 _ ?_; clear hC7 C7
 simp only [bL]
 refine aops_chunk 1 fun C8 hC8 => ?_
 simp only [bL, ↓bO, bS, bA, bF, ↓reduceIte, Nat.reduceEqDiff, reduceCtorEq, zc32, tyX]
 refine hC8 _ ?_; clear hC8 C8
 simp only [bL]
 refine aops_chunk 1 fun C9 hC9 => ?_
 simp only [bL, ↓bO, bS, bA, bF, ↓reduceIte, Nat.reduceEqDiff, reduceCtorEq, aStore, ti32, getO, putO, splice, Nat.reduceAdd, Nat.reduceLeDiff, tyX]
 refine hC9 _ ?_; clear hC9 C9
 simp only [bL]
 simp only [↓bO, bS, bA, bF, ↓reduceIte, Nat.reduceEqDiff, reduceCtorEq, aStore, ti32, getO, putO, splice, bL, Nat.reduceAdd, Nat.reduceLeDiff, tyX]
 refine hK4 _ ?_; try clear hK4 K4
 refine AWp_weak (Weak.recell (id := 8) (t := 32) [.v (.int .i64 2), .v (.int .i64 0), .sl 3 []] rfl ⟨.refl _, .refl _, Le.slNil 3, trivial⟩) ?_
 simp only [putO, Nat.reduceEqDiff, ↓reduceIte]
 refine AWp_weak (Weak.recell (id := 9) (t := 32) [.v (.int .i64 3), .v (.int .i64 0), .sl 3 []] rfl ⟨.refl _, .refl _, Le.slNil 3, trivial⟩) ?_
 simp only [putO, Nat.reduceEqDiff, ↓reduceIte]
 refine AWp_seqK fun K10 hK10 => ?_
 refine AWp_drawK 6 mixed (by kernel_rfl) fun K11 hK11 => ?_
 simp only [bL]
 refine dRun_chunk 1 fun C12 hC12 => ?_
 simp only [bL, ↓dRun, ↓dOp, ↓bO, bS, bA, bF, ↓reduceIte, Nat.reduceEqDiff, reduceCtorEq, tyX]
 refine hC12 _ ?_; clear hC12 C12
 simp only [bL]
 refine dRun_chunk 1 fun C13 hC13 => ?_
 simp only [bL, ↓dRun, ↓dOp, ↓bO, bS, bA, bF, ↓reduceIte, Nat.reduceEqDiff, reduceCtorEq, aCallV, tyX]
 refine ⟨_, TVar_pure 0, ?_⟩
 try simp only [bS, bA, bF]
 refine hC13 _ ?_; clear hC13 C13
 simp only [bL]
 refine dRun_chunk 1 fun C14 hC14 => ?_
 simp only [bL, ↓dRun, ↓dOp, ↓bO, bS, bA, bF, ↓reduceIte, Nat.reduceEqDiff, reduceCtorEq, aLoad, ti32, getO, pack, Nat.reduceAdd, Nat.reduceLeDiff, tyX]
 refine hC14 _ ?_; clear hC14 C14
 simp only [bL]
 refine dRun_chunk 1 fun C15 hC15 => ?_
 simp only [bL, ↓dRun, ↓dOp, ↓bO, bS, bA, bF, ↓reduceIte, Nat.reduceEqDiff, reduceCtorEq, aCallV, tyX]
 refine ⟨_, TVar_pure 1, ?_⟩
 try simp only [bS, bA, bF]
 refine hC15 _ ?_; clear hC15 C15
 simp only [bL]
 refine dRun_chunk 1 fun C16 hC16 => ?_
 simp only [bL, ↓dRun, ↓dOp, ↓bO, bS, bA, bF, ↓reduceIte, Nat.reduceEqDiff, reduceCtorEq, ↓bs2_1, ↓bs2_2, ↓bs2_3, ↓bs2_4, ↓bs2_5, ↓bs2_6, ↓bs2_7, ↓bs2_8, ↓bs2_9, ↓bs2_10, ↓bs2_11, ↓bs2_12, aBuildSl, ei22, ia32, List.range_succ, List.range_zero, List.forall_mem_cons, List.not_mem_nil, false_imp_iff, implies_true, Nat.reduceAdd, Nat.reduceLeDiff, forall_eq, List.mem_singleton, tyX]
 refine hC16 _ ?_; clear hC16 C16
 simp only [bL]
 simp only [↓dRun, ↓dOp, bL, ↓bO, bS, bA, bF, ↓reduceIte, Nat.reduceEqDiff, reduceCtorEq, aCallV, tyX]
 refine ⟨_, Arrow_pure 2 [.mk 2 0 [], .mk 1 1 []] rfl (by decide), ?_⟩
 try simp only [bS, bA, bF]
 refine hK11 _ ?_; try clear hK11 K11
 simp only [bL]
 refine aops_chunk 1 fun C17 hC17 => ?_
 simp only [bL, ↓bO, bS, bA, bF, ↓reduceIte, Nat.reduceEqDiff, reduceCtorEq, aCallV, tyX]
 refine CCalls.at (Equate_c CS0 (nat2 (eqF []).2) (eqF []).1 (.mk 1 0 []) (arrowL [.mk 2 0 [], .mk 1 1 []]) (fun _ => Holds.none.2) (by decide) (by decide) (by decide)) (.cons (Ty.dataAgg _) (.cons (Ty.dataAgg _) .nil)) (fun _ => .v _) (i0 := 3) (i1 := 2) (i2 := 7) (i3 := 1) (i4 := 0) (i5 := 4) (i6 := 5) (i7 := 6) (by decide) (by simp) ⟨rfl, rfl, rfl, rfl, rfl, rfl, rfl, rfl, trivial⟩ (fun S1 r1 hE1 => ?_)
 try dsimp only at hE1
 simp only [cObsAt, List.zip_cons_cons, List.zip_nil_left, List.zip_nil_right, putsO, putO, Nat.reduceEqDiff, ↓reduceIte]
 obtain ⟨he1, hH1, hl1⟩ := aw_step1 hE1
 obtain rfl : r1 = 0 := he1
 dsimp only at hH1 hl1
 try simp only [bS, bA, bF]
 refine hC17 _ ?_; clear hC17 C17
 simp only [bL]
 simp only [↓bO, bS, bA, bF, ↓reduceIte, Nat.reduceEqDiff, reduceCtorEq, tyX]
 refine hK10 _ ?_; try clear hK10 K10
 refine AWp_seqK fun K18 hK18 => ?_
 refine AWp_drawK 6 mixed (by kernel_rfl) fun K19 hK19 => ?_
 simp only [bL]
 refine dRun_chunk 1 fun C20 hC20 => ?_
 simp only [bL, ↓dRun, ↓dOp, ↓bO, bS, bA, bF, ↓reduceIte, Nat.reduceEqDiff, reduceCtorEq, tyX]
 refine hC20 _ ?_; clear hC20 C20
 simp only [bL]
 refine dRun_chunk 1 fun C21 hC21 => ?_
 simp only [bL, ↓dRun, ↓dOp, ↓bO, bS, bA, bF, ↓reduceIte, Nat.reduceEqDiff, reduceCtorEq, aCallV, tyX]
 refine ⟨_, TVar_pure 0, ?_⟩
 try simp only [bS, bA, bF]
 refine hC21 _ ?_; clear hC21 C21
 simp only [bL]
 refine dRun_chunk 1 fun C22 hC22 => ?_
 simp only [bL, ↓dRun, ↓dOp, ↓bO, bS, bA, bF, ↓reduceIte, Nat.reduceEqDiff, reduceCtorEq, aCallV, tyX]
 refine ⟨_, TVar_pure 2, ?_⟩
 try simp only [bS, bA, bF]
 refine hC22 _ ?_; clear hC22 C22
 simp only [bL]
 refine dRun_chunk 1 fun C23 hC23 => ?_
 simp only [bL, ↓dRun, ↓dOp, ↓bO, bS, bA, bF, ↓reduceIte, Nat.reduceEqDiff, reduceCtorEq, aLoad, ti32, getO, pack, Nat.reduceAdd, Nat.reduceLeDiff, tyX]
 refine hC23 _ ?_; clear hC23 C23
 simp only [bL]
 refine dRun_chunk 1 fun C24 hC24 => ?_
 simp only [bL, ↓dRun, ↓dOp, ↓bO, bS, bA, bF, ↓reduceIte, Nat.reduceEqDiff, reduceCtorEq, ↓bs2_1, ↓bs2_2, ↓bs2_3, ↓bs2_4, ↓bs2_5, ↓bs2_6, ↓bs2_7, ↓bs2_8, ↓bs2_9, ↓bs2_10, ↓bs2_11, ↓bs2_12, aBuildSl, ei22, ia32, List.range_succ, List.range_zero, List.forall_mem_cons, List.not_mem_nil, false_imp_iff, implies_true, Nat.reduceAdd, Nat.reduceLeDiff, forall_eq, List.mem_singleton, tyX]
 refine hC24 _ ?_; clear hC24 C24
 simp only [bL]
 simp only [↓dRun, ↓dOp, bL, ↓bO, bS, bA, bF, ↓reduceIte, Nat.reduceEqDiff, reduceCtorEq, aCallV, tyX]
 refine ⟨_, Arrow_pure 2 [.mk 1 2 [], .mk 3 0 []] rfl (by decide), ?_⟩
 try simp only [bS, bA, bF]
 refine hK19 _ ?_; try clear hK19 K19
 simp only [bL]
 refine aops_chunk 1 fun C25 hC25 => ?_
 simp only [bL, ↓bO, bS, bA, bF, ↓reduceIte, Nat.reduceEqDiff, reduceCtorEq, aCallV, tyX]
 refine CCalls.at (Equate_c S1 (nat2 (eqF [aw1]).2) (eqF [aw1]).1 (.mk 1 0 []) (arrowL [.mk 1 2 [], .mk 3 0 []]) (fun _ => hH1.2) (by simp only [Ty.cnt, Ty.cntL, arrowL]; omega) (by decide) (by decide)) (.cons (Ty.dataAgg _) (.cons (Ty.dataAgg _) .nil)) (fun _ => .v _) (i0 := 3) (i1 := 2) (i2 := 7) (i3 := 1) (i4 := 0) (i5 := 4) (i6 := 5) (i7 := 6) (by decide) (by simp) ⟨rfl, rfl, rfl, rfl, rfl, rfl, rfl, rfl, trivial⟩ (fun S2 r2 hE2 => ?_)
 try dsimp only at hE2
 simp only [cObsAt, List.zip_cons_cons, List.zip_nil_left, List.zip_nil_right, putsO, putO, Nat.reduceEqDiff, ↓reduceIte]
 obtain ⟨he2, hH2⟩ := aw_step2 hH1 hE2
 obtain rfl : r2 = 0 := he2
 dsimp only at hH2
 have hG2 := hH2.aw.2
 try simp only [bS, bA, bF]
 refine hC25 _ ?_; clear hC25 C25
 simp only [bL]
 simp only [↓bO, bS, bA, bF, ↓reduceIte, Nat.reduceEqDiff, reduceCtorEq, tyX]
 refine hK18 _ ?_; try clear hK18 K18
 refine AWp_seqK fun K26 hK26 => ?_
 refine AWp_region ?_
 refine aops_chunk 1 fun C27 hC27 => ?_
 simp only [bL, ↓bO, bS, bA, bF, ↓reduceIte, Nat.reduceEqDiff, reduceCtorEq, tyX]
 refine hC27 _ ?_; clear hC27 C27
 simp only [bL]
 refine aops_chunk 1 fun C28 hC28 => ?_
 simp only [bL, ↓bO, bS, bA, bF, ↓reduceIte, Nat.reduceEqDiff, reduceCtorEq, aBin, pt67, tyX]
 refine hC28 _ ?_; clear hC28 C28
 simp only [bL]
 refine aops_chunk 1 fun C29 hC29 => ?_
 simp only [bL, ↓bO, bS, bA, bF, ↓reduceIte, Nat.reduceEqDiff, reduceCtorEq, tyX]
 refine hC29 _ ?_; clear hC29 C29
 simp only [bL]
 refine aops_case 25 rfl (fun hc25 => ?_) (fun hc25 => ?_)
 ·
  simp only [List.set_cons_zero, List.set_cons_succ]
  refine aops_chunk 1 fun C30 hC30 => ?_
  simp only [bL, ↓bO, bS, bA, bF, ↓reduceIte, Nat.reduceEqDiff, reduceCtorEq, undef, tyX]
  refine hC30 _ ?_; clear hC30 C30
  simp only [bL]
  refine aops_chunk 1 fun C31 hC31 => ?_
  simp only [bL, ↓bO, bS, bA, bF, ↓reduceIte, Nat.reduceEqDiff, reduceCtorEq, undef, aBin, tyX]
  refine hC31 _ ?_; clear hC31 C31
  simp only [bL]
  refine aops_chunk 1 fun C32 hC32 => ?_
  simp only [bL, ↓bO, bS, bA, bF, ↓reduceIte, Nat.reduceEqDiff, reduceCtorEq, aBool, tyX]
  refine hC32 _ ?_; clear hC32 C32
  simp only [bL]
  refine aops_chunk 1 fun C33 hC33 => ?_
  simp only [bL, ↓bO, bS, bA, bF, ↓reduceIte, Nat.reduceEqDiff, reduceCtorEq, tyX]
  refine hC33 _ ?_; clear hC33 C33
  simp only [bL]
  refine aops_case 29 rfl (fun hc29 => ?_) (fun hc29 => ?_)
  ·
   simp only [List.set_cons_zero, List.set_cons_succ]
   refine aops_chunk 1 fun C34 hC34 => ?_
   simp only [bL, ↓bO, bS, bA, bF, ↓reduceIte, Nat.reduceEqDiff, reduceCtorEq, undef, tyX]
   refine hC34 _ ?_; clear hC34 C34
   simp only [bL]
   refine aops_chunk 1 fun C35 hC35 => ?_
   simp only [bL, ↓bO, bS, bA, bF, ↓reduceIte, Nat.reduceEqDiff, reduceCtorEq, undef, aBin, tyX]
   refine hC35 _ ?_; clear hC35 C35
   simp only [bL]
   refine aops_chunk 1 fun C36 hC36 => ?_
   simp only [bL, ↓bO, bS, bA, bF, ↓reduceIte, Nat.reduceEqDiff, reduceCtorEq, aBool, tyX]
   refine hC36 _ ?_; clear hC36 C36
   simp only [bL]
   refine aops_chunk 1 fun C37 hC37 => ?_
   simp only [bL, ↓bO, bS, bA, bF, ↓reduceIte, Nat.reduceEqDiff, reduceCtorEq, tyX]
   refine hC37 _ ?_; clear hC37 C37
   simp only [bL]
   refine aops_case 33 rfl (fun hc33 => ?_) (fun hc33 => ?_)
   ·
    simp only [List.set_cons_zero, List.set_cons_succ]
    refine aops_chunk 1 fun C38 hC38 => ?_
    simp only [bL, ↓bO, bS, bA, bF, ↓reduceIte, Nat.reduceEqDiff, reduceCtorEq, undef, tyX]
    refine hC38 _ ?_; clear hC38 C38
    simp only [bL]
    refine aops_chunk 1 fun C39 hC39 => ?_
    simp only [bL, ↓bO, bS, bA, bF, ↓reduceIte, Nat.reduceEqDiff, reduceCtorEq, undef, aCallV, tyX]
    refine CCalls.at (CKind_c S2 hG2.w.c.f hG2.w.c.fl hG2.w.c.wr hG2.vin 2) (.cons (.v _) .nil) (fun _ => .v _) (i0 := 3) (i1 := 2) (i2 := 7) (i3 := 1) (i4 := 0) (i5 := 4) (i6 := 5) (i7 := 6) (by decide) (by simp) ⟨rfl, rfl, rfl, rfl, rfl, rfl, rfl, rfl, trivial⟩ (fun S3 k2 hK3 => ?_)
    try dsimp only at hK3
    simp only [cObsAt, List.zip_cons_cons, List.zip_nil_left, List.zip_nil_right, putsO, putO, Nat.reduceEqDiff, ↓reduceIte]
    obtain ⟨hk3, hH3⟩ := aw_kind (s := (S3, k2)) hH2 aw_v2 (by omega) aw_14.symm rfl (by decide) hK3
    obtain rfl : k2 = 2 := hk3
    dsimp only at hH3
    have hG3 := hH3.aw.2
    try simp only [bS, bA, bF]
    refine hC39 _ ?_; clear hC39 C39
    simp only [bL]
    refine aops_chunk 1 fun C40 hC40 => ?_
    simp only [bL, ↓bO, bS, bA, bF, ↓reduceIte, Nat.reduceEqDiff, reduceCtorEq, undef, aBin, tyX]
    refine hC40 _ ?_; clear hC40 C40
    simp only [bL]
    refine aops_chunk 1 fun C41 hC41 => ?_
    simp only [bL, ↓bO, bS, bA, bF, ↓reduceIte, Nat.reduceEqDiff, reduceCtorEq, aBool, tyX]
    refine hC41 _ ?_; clear hC41 C41
    simp only [bL]
    refine aops_chunk 1 fun C42 hC42 => ?_
    simp only [bL, ↓bO, bS, bA, bF, ↓reduceIte, Nat.reduceEqDiff, reduceCtorEq, tyX]
    refine hC42 _ ?_; clear hC42 C42
    simp only [bL]
    refine aops_case 38 rfl (fun hc38 => ?_) (fun hc38 => ?_)
    ·
     simp only [List.set_cons_zero, List.set_cons_succ]
     refine aops_chunk 1 fun C43 hC43 => ?_
     simp only [bL, ↓bO, bS, bA, bF, ↓reduceIte, Nat.reduceEqDiff, reduceCtorEq, undef, tyX]
     refine hC43 _ ?_; clear hC43 C43
     simp only [bL]
     refine aops_chunk 1 fun C44 hC44 => ?_
     simp only [bL, ↓bO, bS, bA, bF, ↓reduceIte, Nat.reduceEqDiff, reduceCtorEq, undef, aCallV, tyX]
     refine CCalls.at (CKind_c S3 hG3.w.c.f hG3.w.c.fl hG3.w.c.wr hG3.vin 1) (.cons (.v _) .nil) (fun _ => .v _) (i0 := 3) (i1 := 2) (i2 := 7) (i3 := 1) (i4 := 0) (i5 := 4) (i6 := 5) (i7 := 6) (by decide) (by simp) ⟨rfl, rfl, rfl, rfl, rfl, rfl, rfl, rfl, trivial⟩ (fun S4 k3 hK4 => ?_)
     try dsimp only at hK4
     simp only [cObsAt, List.zip_cons_cons, List.zip_nil_left, List.zip_nil_right, putsO, putO, Nat.reduceEqDiff, ↓reduceIte]
     obtain ⟨hk4, hH4⟩ := aw_kind (s := (S4, k3)) hH3 aw_v1 (by omega) aw_25 rfl (by decide) hK4
     obtain rfl : k3 = 3 := hk4
     dsimp only at hH4
     have hG4 := hH4.aw.2
     try simp only [bS, bA, bF]
     refine hC44 _ ?_; clear hC44 C44
     simp only [bL]
     refine aops_chunk 1 fun C45 hC45 => ?_
     simp only [bL, ↓bO, bS, bA, bF, ↓reduceIte, Nat.reduceEqDiff, reduceCtorEq, undef, aBin, tyX]
     refine hC45 _ ?_; clear hC45 C45
     simp only [bL]
     refine aops_chunk 1 fun C46 hC46 => ?_
     simp only [bL, ↓bO, bS, bA, bF, ↓reduceIte, Nat.reduceEqDiff, reduceCtorEq, aBool, tyX]
     refine hC46 _ ?_; clear hC46 C46
     simp only [bL]
     refine aops_chunk 1 fun C47 hC47 => ?_
     simp only [bL, ↓bO, bS, bA, bF, ↓reduceIte, Nat.reduceEqDiff, reduceCtorEq, tyX]
     refine hC47 _ ?_; clear hC47 C47
     simp only [bL]
     refine aops_case 43 rfl (fun hc43 => ?_) (fun hc43 => ?_)
     ·
      simp only [List.set_cons_zero, List.set_cons_succ]
      refine aops_chunk 1 fun C48 hC48 => ?_
      simp only [bL, ↓bO, bS, bA, bF, ↓reduceIte, Nat.reduceEqDiff, reduceCtorEq, undef, tyX]
      refine hC48 _ ?_; clear hC48 C48
      simp only [bL]
      refine aops_chunk 1 fun C49 hC49 => ?_
      simp only [bL, ↓bO, bS, bA, bF, ↓reduceIte, Nat.reduceEqDiff, reduceCtorEq, undef, aCallV, tyX]
      refine CCalls.at (CSame_c S4 hG4.w.c.f hG4.vin 1 2) (.cons (.v _) (.cons (.v _) .nil)) (fun _ => .v _) (i0 := 3) (i1 := 2) (i2 := 7) (i3 := 1) (i4 := 0) (i5 := 4) (i6 := 5) (i7 := 6) (by decide) (by simp) ⟨rfl, rfl, rfl, rfl, rfl, rfl, rfl, rfl, trivial⟩ (fun S5 b5 hS5 => ?_)
      try dsimp only at hS5
      simp only [cObsAt, List.zip_cons_cons, List.zip_nil_left, List.zip_nil_right, putsO, putO, Nat.reduceEqDiff, ↓reduceIte]
      obtain rfl : b5 = false := aw_same (s := (S5, b5)) hH4 hS5
      try simp only [bS, bA, bF]
      refine hC49 _ ?_; clear hC49 C49
      simp only [bL]
      refine aops_chunk 1 fun C50 hC50 => ?_
      simp only [bL, ↓bO, bS, bA, bF, ↓reduceIte, Nat.reduceEqDiff, reduceCtorEq, undef, aUn, tyX]
      refine hC50 _ ?_; clear hC50 C50
      simp only [bL]
      refine aops_chunk 1 fun C51 hC51 => ?_
      simp only [bL, ↓bO, bS, bA, bF, ↓reduceIte, Nat.reduceEqDiff, reduceCtorEq, aBool, tyX]
      refine hC51 _ ?_; clear hC51 C51
      simp only [bL]
      simp only [↓bO, bS, bA, bF, ↓reduceIte, Nat.reduceEqDiff, reduceCtorEq, tyX]
      refine hK26 _ ?_; try clear hK26 K26
      refine AWp_ret ?_
      try simp only [bF, retQ, aRes, tupOf, bS, bA]
      exact Le.refl _
     ·
      simp only [List.set_cons_zero, List.set_cons_succ]
      exact absurd hc43 (by decide)
    ·
     simp only [List.set_cons_zero, List.set_cons_succ]
     exact absurd hc38 (by decide)
   ·
    simp only [List.set_cons_zero, List.set_cons_succ]
    exact absurd hc33 (by decide)
  ·
   simp only [List.set_cons_zero, List.set_cons_succ]
   exact absurd hc29 (by decide)
 ·
  simp only [List.set_cons_zero, List.set_cons_succ]
  exact absurd hc25 (by decide)
end Go.Proofs.Ytohdoloalolpfaa
