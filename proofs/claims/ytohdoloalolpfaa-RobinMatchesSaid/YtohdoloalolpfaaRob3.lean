import Derived.Test.YtohdoloalolpfaaRob2
import Derived.Test.YtohdoloalolpfaaMatchL
namespace Go.Proofs.Ytohdoloalolpfaa
open Go Go.RowKit
set_option maxRecDepth 100000
set_option maxHeartbeats 1000000
set_option linter.unusedSimpArgs false
set_option linter.unusedVariables false
attribute [local irreducible] aops dRun
/-- the numbers that were seen -/
def sv (l : List Int) : List (Int × AV) := l.map fun n => (n, .v (.int .i64 1))
theorem sv_nil : sv [] = [] := rfl
theorem sv_data (l : List Int) : ∀ p ∈ sv l, Data p.2 := fun p hp => by
  obtain ⟨n, _, rfl⟩ := List.mem_map.1 hp
  exact .v _
def seenN (l : List Int) (k : Int) : Int := if l.any (fun x => x == k) then 1 else 0
theorem aFind_sv (k : Int) : ∀ l : List Int, (aFind (sv l) k).getD (.v (.int .i64 0)) = .v (.int .i64 (seenN l k))
  | [] => rfl
  | x :: l => by
    have := aFind_sv k l
    simp only [sv, List.map_cons, aFind, seenN, List.any_cons] at this ⊢
    by_cases h : x = k
    · simp [h]
    · have hb : (x == k) = false := by simpa using h
      rw [if_neg h, this]; simp [hb]
theorem aSet_sv {k : Int} : ∀ {l : List Int}, (l.any fun x => x == k) = false → aSet (sv l) k (.v (.int .i64 1)) = sv (l ++ [k])
  | [], _ => rfl
  | x :: l, h => by
    simp only [List.any_cons, Bool.or_eq_false_iff, beq_eq_false_iff_ne] at h
    have := aSet_sv (l := l) h.2
    simp only [sv, List.map_cons, aSet, List.cons_append, if_neg h.1] at this ⊢
    rw [this]
theorem wrap1 : IntKind.i64.wrap 1 = 1 := wrap_in (by omega) (by omega)
def sObs (l : List Int) : List Ob := [.map (sv l), .cells 89 [.map 0], .cells 28 [.osl 3 1 (l.map intC)], .tok 3 1 l.length]
def SCalls (f : Nat) (args : List AV) (l : List Int) (R : AV) (l1 : List Int) : Prop :=
  ACalls Try.prog f args (enumO 0 (sObs l)) 4 fun r os n => (r = R ∧ os = enumO 0 (sObs l1)) ∧ n = 4
theorem und_intsD (n : Nat) (l : List Int) : Und n (.sl 1 (l.map intC)) := .data (dataInts l)
theorem sUnd {n : Nat} (h : 4 ≤ n) (l : List Int) : UndOs n (enumO 0 (sObs l)) :=
  ⟨by omega, fun p hp => .data (sv_data l p hp), by omega, ⟨.map (by omega), trivial⟩, by omega, ⟨.osl (by omega) (und_intsD n l), trivial⟩, by omega, trivial, trivial⟩
theorem Und.sv {n : Nat} (l : List Int) : (∀ p ∈ Go.Proofs.Ytohdoloalolpfaa.sv l, Und n p.2) = True := eq_true fun p hp => .data (sv_data l p hp)
theorem Und.oslN {n id : Nat} {l : List Int} (h : id < n) : Und n (.osl id 1 (l.map intC)) := .osl h (und_intsD n l)
theorem Und.cloV {n : Nat} (h : 3 ≤ n) : Und n (.clo 91 [.ptr 1 0, .ptr 2 0]) := .clo ⟨.ptr (by omega), .ptr (by omega), trivial⟩
theorem renS (l : List Int) (nx : Nat) : RenOs (renOf [0, 1, 2, 3] nx) 0 (sObs l) (sObs l) :=
  ⟨.map (sv_data l), .cells ⟨.map rfl, trivial⟩, .cells ⟨.osl rfl (fun x hx => by obtain ⟨y, _, rfl⟩ := List.mem_map.1 hx; exact .cons (.v _) .nil), trivial⟩, .tok, trivial⟩
theorem SCalls.at {f : Nat} {args : List AV} {l l1 : List Int} {R : AV} (h : SCalls f args l R l1) (hargs : ∀ nx, RenL (renOf [0, 1, 2, 3] nx) args args) (hR : Data R) {os' : Os} {nx' : Nat}
    (h0 : getO os' 0 = some (.map (sv l))) (h1 : getO os' 1 = some (.cells 89 [.map 0])) (h2 : getO os' 2 = some (.cells 28 [.osl 3 1 (l.map intC)])) (h3 : getO os' 3 = some (.tok 3 1 l.length)) (hn : 4 ≤ nx') {Q' : AV → Os → Nat → Prop}
    (hq : Q' R (putO (putO (putO (putO os' 0 (.map (sv l1))) 1 (.cells 89 [.map 0])) 2 (.cells 28 [.osl 3 1 (l1.map intC)])) 3 (.tok 3 1 l1.length)) nx') : ACalls Try.prog f args os' nx' Q' := by
  refine ACalls.at (args := args) (obs := sObs l) (obs1 := sObs l1) (obs' := sObs l) (obs1' := sObs l1) [0, 1, 2, 3] ?_ rfl rfl (by decide) (by simp; omega) (hargs _) (.data hR) (renS l _) ⟨h0, h1, h2, h3, trivial⟩ (renS l1 _) hq
  exact h.mono fun r os n ⟨⟨h1, h2⟩, h3⟩ => ⟨h1, h2, h3⟩
theorem dataTup0 : Data (.tup []) := .tup (fun _ h => by cases h)
theorem Vars1_calls (T : Ty) (l : List Int) (hl : l.length + 1 ≤ 1099511627776) : SCalls 91 [.agg T.cells, .ptr 1 0, .ptr 2 0] (l) (.tup []) ((if T.k = 1 then addV l T.n else l)) := by
  refine ACalls.clean (C := fun r os => r = _ ∧ os = _) ?_
  refine ACalls_intro Try.func91 (by kernel_rfl) rfl (by rw [Try.ntmps91]; simp) (fun hm => ?_)
  simp only [Try.ntmps91, Try.results91, List.length_cons, List.length_nil, Nat.reduceAdd, Nat.reduceSub, List.replicate_succ, List.replicate_zero, List.cons_append, List.nil_append]
  simp only [sObs, enumO, Nat.reduceAdd]
  simp only [Ty.cells_eq T, List.cons_append, List.nil_append]
  have h9 := addV_cases T.k T.n l
  have hb1 : (l.length + 1) * 8 ≤ 140737488355328 := by omega
  have hb2 : l.length + 1 ≤ maxLen := by simp only [maxLen]; omega
  refine AWp_seqK fun K1 hK1 => ?_
  refine AWp_region ?_
  simp only [↓aops, ↓aop, ↓aWant, ↓aVal, bS, bA, AV.flat, AV.cl, AV.one, Value.oneCell', thenQ, blockQ, noGotoQ, ↓reduceIte, Nat.reduceEqDiff, reduceCtorEq, tyX, aFind_sv]
  refine hK1 _ ?_
  try clear hK1 K1
  refine AWp_seqK fun K2 hK2 => ?_
  refine AWp_region ?_
  refine aops_chunk 4 fun C3 hC3 => ?_
  simp only [bL, ↓aops, ↓aop, ↓aWant, ↓aVal, bS, bA, AV.flat, AV.cl, AV.one, Value.oneCell', thenQ, blockQ, noGotoQ, ↓reduceIte, Nat.reduceEqDiff, reduceCtorEq, aField, fo32_0, Nat.reduceAdd, aLoad, ti3, getO, pack, Nat.reduceLeDiff, aBin, tyX, aFind_sv]
  refine hC3 _ ?_
  try clear hC3 C3
  simp only [bL]
  refine aops_case 7 rfl (fun hc7 => ?_) (fun hc7 => ?_)
  · simp only [List.set_cons_zero, List.set_cons_succ]
    have hk1 : T.k = 1 := by simpa using hc7
    refine aops_chunk 4 fun C4 hC4 => ?_
    simp only [bL, ↓aops, ↓aop, ↓aWant, ↓aVal, bS, bA, AV.flat, AV.cl, AV.one, Value.oneCell', thenQ, blockQ, noGotoQ, ↓reduceIte, Nat.reduceEqDiff, reduceCtorEq, undef, aLoad, ti89, getO, pack, Nat.reduceAdd, Nat.reduceLeDiff, aField, fo32_1, ti3, aLookup, mz89, valAV, tyX, aFind_sv]
    refine hC4 _ ?_
    try clear hC4 C4
    simp only [bL]
    simp only [↓aops, ↓aop, ↓aWant, ↓aVal, bS, bA, AV.flat, AV.cl, AV.one, Value.oneCell', thenQ, blockQ, noGotoQ, ↓reduceIte, Nat.reduceEqDiff, reduceCtorEq, bL, undef, aBin, aBool, tyX, aFind_sv]
    refine hK2 _ ?_
    try clear hK2 K2
    refine AWp_cond rfl (fun hb13 => ?_) (fun hb13 => ?_)
    · skip
      have ha : (l.any fun x => x == T.n) = false := by cases hv : (l.any fun x => x == T.n) with | false => rfl | true => simp [seenN, hv] at hb13
      have hs0 : seenN l T.n = 0 := by simp [seenN, ha]
      have he : (if T.k = 1 then addV l T.n else l) = l ++ [T.n] := h9.1 hk1 ha
      refine AWp_seqK fun K5 hK5 => ?_
      refine AWp_region ?_
      refine aops_chunk 4 fun C6 hC6 => ?_
      simp only [bL, ↓aops, ↓aop, ↓aWant, ↓aVal, bS, bA, AV.flat, AV.cl, AV.one, Value.oneCell', thenQ, blockQ, noGotoQ, ↓reduceIte, Nat.reduceEqDiff, reduceCtorEq, aLoad, ti89, getO, pack, Nat.reduceAdd, Nat.reduceLeDiff, aField, fo32_1, ti3, aLookup, mz89, valAV, tyX, aFind_sv, hs0, aSet_sv ha, Int.zero_add, wrap1, hb1, hb2, List.length_map]
      refine hC6 _ ?_
      try clear hC6 C6
      simp only [bL]
      simp only [↓aops, ↓aop, ↓aWant, ↓aVal, bS, bA, AV.flat, AV.cl, AV.one, Value.oneCell', thenQ, blockQ, noGotoQ, ↓reduceIte, Nat.reduceEqDiff, reduceCtorEq, aBin, aMapUpd, mz89, getO, putO, tyX, aFind_sv, hs0, aSet_sv ha, Int.zero_add, wrap1, hb1, hb2, List.length_map]
      refine hK5 _ ?_
      try clear hK5 K5
      refine AWp_region ?_
      refine aops_chunk 4 fun C7 hC7 => ?_
      simp only [bL, ↓aops, ↓aop, ↓aWant, ↓aVal, bS, bA, AV.flat, AV.cl, AV.one, Value.oneCell', thenQ, blockQ, noGotoQ, ↓reduceIte, Nat.reduceEqDiff, reduceCtorEq, aLoad, ti28, getO, pack, Nat.reduceAdd, Nat.reduceLeDiff, aField, fo32_1, ti3, ↓bs1_1, ↓bs1_2, ↓bs1_3, ↓bs1_4, ↓bs1_5, ↓bs1_6, ↓bs1_7, ↓bs1_8, ↓bs1_9, ↓bs1_10, ↓bs1_11, ↓bs1_12, aBuildSl, ei28, List.range_succ, List.range_zero, List.forall_mem_cons, List.not_mem_nil, false_imp_iff, implies_true, forall_eq, List.mem_singleton, tyX, aFind_sv, hs0, aSet_sv ha, Int.zero_add, wrap1, hb1, hb2, List.length_map]
      refine hC7 _ ?_
      try clear hC7 C7
      simp only [bL]
      simp only [↓aops, ↓aop, ↓aWant, ↓aVal, bS, bA, AV.flat, AV.cl, AV.one, Value.oneCell', thenQ, blockQ, noGotoQ, ↓reduceIte, Nat.reduceEqDiff, reduceCtorEq, aAppend, ei28, slOf, List.length_map, getO, putO, bL, Nat.reduceAdd, aStore, ti28, splice, Nat.reduceLeDiff, tyX, aFind_sv, hs0, aSet_sv ha, Int.zero_add, wrap1, hb1, hb2]
      try simp only [thenQ, blockQ, noGotoQ, retQ, aRes, tupOf, bS, bA]
      rw [he]
      refine ⟨.tup [], enumO 0 (sObs (l ++ [T.n])), ⟨rfl, rfl⟩, .tup trivial, sUnd (by omega) _, ?_, ?_, by omega⟩
      · refine Le.of_eq ?_
        rfl
      · first | (refine ⟨1, ?_, rfl⟩; first | rfl | (simp only [sObs, enumO, List.drop_succ_cons, List.drop_zero, List.map_append, List.map_cons, List.map_nil, List.length_append, List.length_cons, List.length_nil, Nat.reduceAdd, Nat.zero_add, intC, List.take_length]; done))
    · skip
      have ha : (l.any fun x => x == T.n) = true := by cases hv : (l.any fun x => x == T.n) with | true => rfl | false => simp [seenN, hv] at hb13
      have he : (if T.k = 1 then addV l T.n else l) = l := h9.2.1 ha
      refine AWp_skip ?_
      try simp only [thenQ, blockQ, noGotoQ]
      try simp only [thenQ, blockQ, noGotoQ, retQ, aRes, tupOf, bS, bA]
      rw [he]
      refine ⟨.tup [], enumO 0 (sObs (l)), ⟨rfl, rfl⟩, .tup trivial, sUnd (by omega) _, ?_, ?_, by omega⟩
      · refine Le.of_eq ?_
        rfl
      · first | (refine ⟨1, ?_, rfl⟩; first | rfl | (simp only [sObs, enumO, List.drop_succ_cons, List.drop_zero, List.map_append, List.map_cons, List.map_nil, List.length_append, List.length_cons, List.length_nil, Nat.reduceAdd, Nat.zero_add, intC, List.take_length]; done))
  · simp only [List.set_cons_zero, List.set_cons_succ]
    have hk1 : ¬ T.k = 1 := by simpa using hc7
    have he : (if T.k = 1 then addV l T.n else l) = l := h9.2.2 hk1
    refine aops_chunk 4 fun C8 hC8 => ?_
    simp only [bL, ↓aops, ↓aop, ↓aWant, ↓aVal, bS, bA, AV.flat, AV.cl, AV.one, Value.oneCell', thenQ, blockQ, noGotoQ, ↓reduceIte, Nat.reduceEqDiff, reduceCtorEq, undef, aLoad, ti89, getO, pack, Nat.reduceAdd, Nat.reduceLeDiff, aField, fo32_1, ti3, aLookup, mz89, valAV, tyX, aFind_sv]
    refine hC8 _ ?_
    try clear hC8 C8
    simp only [bL]
    simp only [↓aops, ↓aop, ↓aWant, ↓aVal, bS, bA, AV.flat, AV.cl, AV.one, Value.oneCell', thenQ, blockQ, noGotoQ, ↓reduceIte, Nat.reduceEqDiff, reduceCtorEq, bL, undef, aBin, aBool, tyX, aFind_sv]
    refine hK2 _ ?_
    try clear hK2 K2
    refine AWp_cond (b := false) (by first | exact rfl | exact congrArg (fun b => AV.v (.bool b)) hb13) (fun h => (by cases h)) (fun _ => ?_)
    refine AWp_skip ?_
    try simp only [thenQ, blockQ, noGotoQ]
    try simp only [thenQ, blockQ, noGotoQ, retQ, aRes, tupOf, bS, bA]
    rw [he]
    refine ⟨.tup [], enumO 0 (sObs (l)), ⟨rfl, rfl⟩, .tup trivial, sUnd (by omega) _, ?_, ?_, by omega⟩
    · refine Le.of_eq ?_
      rfl
    · first | (refine ⟨1, ?_, rfl⟩; first | rfl | (simp only [sObs, enumO, List.drop_succ_cons, List.drop_zero, List.map_append, List.map_cons, List.map_nil, List.length_append, List.length_cons, List.length_nil, Nat.reduceAdd, Nat.zero_add, intC, List.take_length]; done))
theorem each_calls : ∀ (T : Ty) (l : List Int), l.length + T.cnt ≤ 1099511627776 → SCalls 90 [.agg T.cells, .clo 91 [.ptr 1 0, .ptr 2 0]] (l) (.tup []) (T.rvars l) := by
  refine Ty.ind fun T ih l hl => ?_
  refine ACalls.clean (C := fun r os => r = _ ∧ os = _) ?_
  refine ACalls_intro Try.func90 (by kernel_rfl) rfl (by rw [Try.ntmps90]; simp) (fun hm => ?_)
  simp only [Try.ntmps90, Try.results90, List.length_cons, List.length_nil, Nat.reduceAdd, Nat.reduceSub, List.replicate_succ, List.replicate_zero, List.cons_append, List.nil_append]
  simp only [sObs, enumO, Nat.reduceAdd]
  simp only [Ty.cells_eq T, List.cons_append, List.nil_append]
  have hm1 := T.cnt_eq
  have hcl := Ty.cntL_len T.ps
  have hv1 := by have h9 := Vars1_calls T l (by omega); rw [Ty.cells_eq T] at h9; exact h9
  have hl0 : (if T.k = 1 then addV l T.n else l).length ≤ l.length + 1 := by split <;> first | exact addV_len l T.n | omega
  refine AWp_seqK fun K1 hK1 => ?_
  refine AWp_region ?_
  simp only [↓aops, ↓aop, ↓aWant, ↓aVal, bS, bA, AV.flat, AV.cl, AV.one, Value.oneCell', thenQ, blockQ, noGotoQ, ↓reduceIte, Nat.reduceEqDiff, reduceCtorEq, tyX]
  refine hK1 _ ?_
  try clear hK1 K1
  refine AWp_seqK fun K2 hK2 => ?_
  refine AWp_region ?_
  refine aops_chunk 2 fun C3 hC3 => ?_
  simp only [bL, ↓aops, ↓aop, ↓aWant, ↓aVal, bS, bA, AV.flat, AV.cl, AV.one, Value.oneCell', thenQ, blockQ, noGotoQ, ↓reduceIte, Nat.reduceEqDiff, reduceCtorEq, aLoad, ti32, getO, pack, Nat.reduceAdd, Nat.reduceLeDiff, tyX]
  refine hC3 _ ?_
  try clear hC3 C3
  simp only [bL]
  simp only [↓aops, ↓aop, ↓aWant, ↓aVal, bS, bA, AV.flat, AV.cl, AV.one, Value.oneCell', thenQ, blockQ, noGotoQ, ↓reduceIte, Nat.reduceEqDiff, reduceCtorEq, aCallV, bL, tyX]
  refine SCalls.at (hv1) (fun _ => ⟨.data (by rw [← Ty.cells_eq]; exact T.dataAgg), .ptr rfl, .ptr rfl, trivial⟩) dataTup0 rfl rfl rfl rfl (by first | omega | (simp only; omega)) ?_
  simp only [putO, Nat.reduceEqDiff, ↓reduceIte]
  try simp only [bS, bA, thenQ, blockQ, noGotoQ]
  refine hK2 _ ?_
  try clear hK2 K2
  refine AWp_seqK fun K4 hK4 => ?_
  refine AWp_region ?_
  simp only [↓aops, ↓aop, ↓aWant, ↓aVal, bS, bA, AV.flat, AV.cl, AV.one, Value.oneCell', thenQ, blockQ, noGotoQ, ↓reduceIte, Nat.reduceEqDiff, reduceCtorEq, aField, fo32_2, bL, Nat.reduceAdd, aLoad, ti22, getO, pack, Nat.reduceLeDiff, aLen, ln22, List.length_map, tyX]
  refine hK4 _ ?_
  try clear hK4 K4
  refine AWp_block ?_
  refine AWp_loopM (σ := Nat) [false, true, false, false, false, false, false, false, false, false, true, true, true, false, false, false, false, false, false, false] (fun s => s ≤ T.ps.length) (fun s => [(12, .v (.int .i64 (s : Int)))]) (fun s => [(0, .map (sv (Ty.rvarsL (T.ps.take s) (if T.k = 1 then addV l T.n else l)))), (2, .cells 28 [.osl 3 1 ((Ty.rvarsL (T.ps.take s) (if T.k = 1 then addV l T.n else l)).map intC)]), (3, .tok 3 1 (Ty.rvarsL (T.ps.take s) (if T.k = 1 then addV l T.n else l)).length)]) (fun s => T.ps.length - s) 0 (by omega) ?_ (fun s hs => ?_)
  · skip
    simp only [maskL, setsL, putsO, putO, bA, Nat.reduceEqDiff, ↓reduceIte, bL, Ty.rvarsL]
    exact Weak.mk (by simp only [LeL, Le.refl, Le.any, Le.slNil, and_self, Int.natCast_add, Int.cast_ofNat_Int, Int.natCast_one]) (fun _ _ h => h) rfl rfl
  simp only [maskL, setsL, putsO, putO, bA, Nat.reduceEqDiff, ↓reduceIte]
  refine AWp_seqK fun K5 hK5 => ?_
  refine AWp_region ?_
  simp only [↓aops, ↓aop, ↓aWant, ↓aVal, bS, bA, AV.flat, AV.cl, AV.one, Value.oneCell', thenQ, blockQ, noGotoQ, ↓reduceIte, Nat.reduceEqDiff, reduceCtorEq, aBin, tyX]
  refine hK5 _ ?_
  try clear hK5 K5
  refine AWp_seqK fun K6 hK6 => ?_
  refine AWp_cond rfl (fun hb13 => ?_) (fun hb13 => ?_)
  · skip
    have hk : s < T.ps.length := by simpa using hb13
    obtain ⟨p, hp⟩ : ∃ p, T.ps[s]? = some p := ⟨_, List.getElem?_eq_getElem hk⟩
    have hpc := Ty.cntL_step hp
    have hvl := Ty.rvarsL_len (T.ps.take s) (if T.k = 1 then addV l T.n else l)
    have hw : IntKind.i64.wrap ((s : Int) + 1) = (s : Int) + 1 := wrap_in (by omega) (by omega)
    refine AWp_skip ?_
    try simp only [thenQ, blockQ, noGotoQ]
    refine hK6 _ ?_
    try clear hK6 K6
    refine AWp_seqK fun K7 hK7 => ?_
    refine AWp_block ?_
    refine AWp_seqK fun K8 hK8 => ?_
    refine AWp_region ?_
    simp only [↓aops, ↓aop, ↓aWant, ↓aVal, bS, bA, AV.flat, AV.cl, AV.one, Value.oneCell', thenQ, blockQ, noGotoQ, ↓reduceIte, Nat.reduceEqDiff, reduceCtorEq, aIndexA, es22, Int.natCast_nonneg, Int.ofNat_lt, Int.toNat_natCast, List.length_map, Int.le_refl, Int.toNat_zero, Int.toNat_one, Int.reduceLE, aLoad, ti32, getO, pack, bL, Nat.reduceAdd, Nat.reduceLeDiff, zc32, aStore, putO, splice, tyX, hk, getD_map_cells hp, Int.natCast_add, Int.natCast_one, hw, Ty.rvarsL_step hp]
    refine hK8 _ ?_
    try clear hK8 K8
    refine AWp_region ?_
    refine aops_chunk 2 fun C9 hC9 => ?_
    simp only [bL, ↓aops, ↓aop, ↓aWant, ↓aVal, bS, bA, AV.flat, AV.cl, AV.one, Value.oneCell', thenQ, blockQ, noGotoQ, ↓reduceIte, Nat.reduceEqDiff, reduceCtorEq, aLoad, ti32, getO, pack, Nat.reduceAdd, Nat.reduceLeDiff, tyX, hk, getD_map_cells hp, Int.natCast_add, Int.natCast_one, hw, Ty.rvarsL_step hp]
    refine hC9 _ ?_
    try clear hC9 C9
    simp only [bL]
    simp only [↓aops, ↓aop, ↓aWant, ↓aVal, bS, bA, AV.flat, AV.cl, AV.one, Value.oneCell', thenQ, blockQ, noGotoQ, ↓reduceIte, Nat.reduceEqDiff, reduceCtorEq, aCallV, bL, tyX, hk, getD_map_cells hp, Int.natCast_add, Int.natCast_one, hw, Ty.rvarsL_step hp]
    refine SCalls.at (ih p (List.mem_of_getElem? hp) (Ty.rvarsL (T.ps.take s) (if T.k = 1 then addV l T.n else l)) (by omega)) (fun _ => ⟨.data (Ty.dataAgg p), .clo ⟨.ptr rfl, .ptr rfl, trivial⟩, trivial⟩) dataTup0 rfl rfl rfl rfl (by first | omega | (simp only; omega)) ?_
    simp only [putO, Nat.reduceEqDiff, ↓reduceIte]
    try simp only [bS, bA, thenQ, blockQ, noGotoQ]
    refine hK7 _ ?_
    try clear hK7 K7
    refine AWp_region ?_
    simp only [↓aops, ↓aop, ↓aWant, ↓aVal, bS, bA, AV.flat, AV.cl, AV.one, Value.oneCell', thenQ, blockQ, noGotoQ, ↓reduceIte, Nat.reduceEqDiff, reduceCtorEq, aBin, tyX, hk, getD_map_cells hp, Int.natCast_add, Int.natCast_one, hw, Ty.rvarsL_step hp]
    refine ⟨(s + 1), (by omega), by omega, ?_⟩
    simp only [maskL, setsL, putsO, putO, bA, Nat.reduceEqDiff, ↓reduceIte, hk, getD_map_cells hp, Int.natCast_add, Int.natCast_one, hw, Ty.rvarsL_step hp]
    first | (refine Weak.drops 1 5 rfl rfl (by simp only; omega) (by simp only; omega) ?_ ?_ ?_) | (refine Weak.drops 0 5 rfl rfl (by simp only; omega) (by simp only; omega) ?_ ?_ ?_)
    · simp only [LeL, Le.refl, Le.any, and_self, Int.natCast_add, Int.cast_ofNat_Int, Int.natCast_one]
    · simp only [UndL, UndOs, Ob.Und, and_true, true_and, and_self, Und.v, Und.any, Und.ptr, Und.map, Nat.reduceLT, Nat.zero_lt_succ, Und.tys, Und.tyAgg, Und.oslTys, Und.oslTys1, Und.clo0, Und.ty, Und.sv, Und.oslN, Und.cloV, Nat.reduceLeDiff, UndL, Und.map]
    · simp only [UndL, UndOs, Ob.Und, and_true, true_and, and_self, Und.v, Und.any, Und.ptr, Und.map, Nat.reduceLT, Nat.zero_lt_succ, Und.tys, Und.tyAgg, Und.oslTys, Und.oslTys1, Und.clo0, Und.ty, Und.sv, Und.oslN, Und.cloV, Nat.reduceLeDiff, UndL, Und.map]
  · skip
    have hk : s = T.ps.length := by simp at hb13; omega
    refine AWp_exit ?_
    simp only [thenQ, blockQ, noGotoQ, bA, Nat.reduceEqDiff, ↓reduceIte]
    try simp only [thenQ, blockQ, noGotoQ, retQ, aRes, tupOf, bS, bA]
    rw [Ty.rvars_eq, hk]
    simp only [List.take_length]
    refine ⟨.tup [], enumO 0 (sObs (Ty.rvarsL T.ps (if T.k = 1 then addV l T.n else l))), ⟨rfl, rfl⟩, .tup trivial, sUnd (by omega) _, ?_, ?_, by omega⟩
    · refine Le.of_eq ?_
      rfl
    · first | (refine ⟨1, ?_, rfl⟩; first | rfl | (simp only [sObs, enumO, List.drop_succ_cons, List.drop_zero, List.map_append, List.map_cons, List.map_nil, List.length_append, List.length_cons, List.length_nil, Nat.reduceAdd, Nat.zero_add, intC, List.take_length]; done))
theorem Vars_pure (ps : List Ty) (hT : Ty.cntL ps ≤ 1099511627776) : APure Try.prog 63 [.sl 3 (ps.map Ty.cells)] (.sl 1 ((Ty.rvarsL ps []).map intC)) := by
  refine APure.mkL (.cons (Ty.dataSl ps) .nil) ((dataInts _)) ?_
  refine ACalls_intro Try.func63 (by kernel_rfl) rfl (by rw [Try.ntmps63]; simp) (fun hm => ?_)
  simp only [Try.ntmps63, Try.results63, List.length_cons, List.length_nil, Nat.reduceAdd, Nat.reduceSub, List.replicate_succ, List.replicate_zero, List.cons_append, List.nil_append]
  have hcl := Ty.cntL_len ps
  refine AWp_seqK fun K1 hK1 => ?_
  refine AWp_region ?_
  simp only [↓aops, ↓aop, ↓aWant, ↓aVal, bS, bA, AV.flat, AV.cl, AV.one, Value.oneCell', thenQ, blockQ, noGotoQ, ↓reduceIte, Nat.reduceEqDiff, reduceCtorEq, tyX]
  refine hK1 _ ?_
  try clear hK1 K1
  refine AWp_seqK fun K2 hK2 => ?_
  refine AWp_region ?_
  simp only [↓aops, ↓aop, ↓aWant, ↓aVal, bS, bA, AV.flat, AV.cl, AV.one, Value.oneCell', thenQ, blockQ, noGotoQ, ↓reduceIte, Nat.reduceEqDiff, reduceCtorEq, zc89, bL, aStore, ti89, getO, putO, splice, Nat.reduceAdd, Nat.reduceLeDiff, tyX]
  refine hK2 _ ?_
  try clear hK2 K2
  refine AWp_seqK fun K3 hK3 => ?_
  refine AWp_region ?_
  simp only [↓aops, ↓aop, ↓aWant, ↓aVal, bS, bA, AV.flat, AV.cl, AV.one, Value.oneCell', thenQ, blockQ, noGotoQ, ↓reduceIte, Nat.reduceEqDiff, reduceCtorEq, zc28, bL, tyX]
  refine hK3 _ ?_
  try clear hK3 K3
  refine AWp_seqK fun K4 hK4 => ?_
  refine AWp_seqK fun K5 hK5 => ?_
  refine AWp_region ?_
  simp only [↓aops, ↓aop, ↓aWant, ↓aVal, bS, bA, AV.flat, AV.cl, AV.one, Value.oneCell', thenQ, blockQ, noGotoQ, ↓reduceIte, Nat.reduceEqDiff, reduceCtorEq, aLen, ln22, List.length_map, tyX]
  refine hK5 _ ?_
  try clear hK5 K5
  refine AWp_block ?_
  refine AWp_weak (Weak.tokCell 3 1 (id := 2) (t := 28) [.osl 3 1 []] rfl ⟨.inr ⟨rfl, rfl⟩, trivial⟩) ?_
  simp only [putO, Nat.reduceEqDiff, ↓reduceIte]
  refine AWp_loopM (σ := Nat) [false, false, false, true, true, false, false, false, true, true, true, false, false, false, false, false, false, false, false] (fun s => s ≤ ps.length) (fun s => [(10, .v (.int .i64 (s : Int)))]) (fun s => [(0, .map (sv (Ty.rvarsL (ps.take s) []))), (2, .cells 28 [.osl 3 1 ((Ty.rvarsL (ps.take s) []).map intC)]), (3, .tok 3 1 (Ty.rvarsL (ps.take s) []).length)]) (fun s => ps.length - s) 0 (by omega) ?_ (fun s hs => ?_)
  · skip
    simp only [maskL, setsL, putsO, putO, bA, Nat.reduceEqDiff, ↓reduceIte, bL, Ty.rvarsL, sv_nil]
    exact Weak.mk (by simp only [LeL, Le.refl, Le.any, Le.slNil, and_self, Int.natCast_add, Int.cast_ofNat_Int, Int.natCast_one]) (fun _ _ h => h) rfl rfl
  simp only [maskL, setsL, putsO, putO, bA, Nat.reduceEqDiff, ↓reduceIte]
  refine AWp_seqK fun K6 hK6 => ?_
  refine AWp_region ?_
  simp only [↓aops, ↓aop, ↓aWant, ↓aVal, bS, bA, AV.flat, AV.cl, AV.one, Value.oneCell', thenQ, blockQ, noGotoQ, ↓reduceIte, Nat.reduceEqDiff, reduceCtorEq, aBin, tyX]
  refine hK6 _ ?_
  try clear hK6 K6
  refine AWp_seqK fun K7 hK7 => ?_
  refine AWp_cond rfl (fun hb11 => ?_) (fun hb11 => ?_)
  · skip
    have hk : s < ps.length := by simpa using hb11
    obtain ⟨p, hp⟩ : ∃ p, ps[s]? = some p := ⟨_, List.getElem?_eq_getElem hk⟩
    have hpc := Ty.cntL_step hp
    have hvl := Ty.rvarsL_len (ps.take s) []
    simp only [List.length_nil] at hvl
    have hw : IntKind.i64.wrap ((s : Int) + 1) = (s : Int) + 1 := wrap_in (by omega) (by omega)
    refine AWp_skip ?_
    try simp only [thenQ, blockQ, noGotoQ]
    refine hK7 _ ?_
    try clear hK7 K7
    refine AWp_seqK fun K8 hK8 => ?_
    refine AWp_block ?_
    refine AWp_seqK fun K9 hK9 => ?_
    refine AWp_region ?_
    simp only [↓aops, ↓aop, ↓aWant, ↓aVal, bS, bA, AV.flat, AV.cl, AV.one, Value.oneCell', thenQ, blockQ, noGotoQ, ↓reduceIte, Nat.reduceEqDiff, reduceCtorEq, aIndexA, es22, Int.natCast_nonneg, Int.ofNat_lt, Int.toNat_natCast, List.length_map, Int.le_refl, Int.toNat_zero, Int.toNat_one, Int.reduceLE, aLoad, ti32, getO, pack, bL, Nat.reduceAdd, Nat.reduceLeDiff, zc32, aStore, putO, splice, tyX, hk, getD_map_cells hp, Int.natCast_add, Int.natCast_one, hw, Ty.rvarsL_step hp]
    refine hK9 _ ?_
    try clear hK9 K9
    refine AWp_region ?_
    refine aops_chunk 2 fun C10 hC10 => ?_
    simp only [bL, ↓aops, ↓aop, ↓aWant, ↓aVal, bS, bA, AV.flat, AV.cl, AV.one, Value.oneCell', thenQ, blockQ, noGotoQ, ↓reduceIte, Nat.reduceEqDiff, reduceCtorEq, aLoad, ti32, getO, pack, Nat.reduceAdd, Nat.reduceLeDiff, tyX, hk, getD_map_cells hp, Int.natCast_add, Int.natCast_one, hw, Ty.rvarsL_step hp]
    refine hC10 _ ?_
    try clear hC10 C10
    simp only [bL]
    simp only [↓aops, ↓aop, ↓aWant, ↓aVal, bS, bA, AV.flat, AV.cl, AV.one, Value.oneCell', thenQ, blockQ, noGotoQ, ↓reduceIte, Nat.reduceEqDiff, reduceCtorEq, aCallV, bL, tyX, hk, getD_map_cells hp, Int.natCast_add, Int.natCast_one, hw, Ty.rvarsL_step hp]
    refine SCalls.at (each_calls p (Ty.rvarsL (ps.take s) []) (by omega)) (fun _ => ⟨.data (Ty.dataAgg p), .clo ⟨.ptr rfl, .ptr rfl, trivial⟩, trivial⟩) dataTup0 rfl rfl rfl rfl (by first | omega | (simp only; omega)) ?_
    simp only [putO, Nat.reduceEqDiff, ↓reduceIte]
    try simp only [bS, bA, thenQ, blockQ, noGotoQ]
    refine hK8 _ ?_
    try clear hK8 K8
    refine AWp_region ?_
    simp only [↓aops, ↓aop, ↓aWant, ↓aVal, bS, bA, AV.flat, AV.cl, AV.one, Value.oneCell', thenQ, blockQ, noGotoQ, ↓reduceIte, Nat.reduceEqDiff, reduceCtorEq, aBin, tyX, hk, getD_map_cells hp, Int.natCast_add, Int.natCast_one, hw, Ty.rvarsL_step hp]
    refine ⟨(s + 1), (by omega), by omega, ?_⟩
    simp only [maskL, setsL, putsO, putO, bA, Nat.reduceEqDiff, ↓reduceIte, hk, getD_map_cells hp, Int.natCast_add, Int.natCast_one, hw, Ty.rvarsL_step hp]
    first | (refine Weak.drops 1 4 rfl rfl (by simp only; omega) (by simp only; omega) ?_ ?_ ?_) | (refine Weak.drops 0 4 rfl rfl (by simp only; omega) (by simp only; omega) ?_ ?_ ?_)
    · simp only [LeL, Le.refl, Le.any, and_self, Int.natCast_add, Int.cast_ofNat_Int, Int.natCast_one]
    · simp only [UndL, UndOs, Ob.Und, and_true, true_and, and_self, Und.v, Und.any, Und.ptr, Und.map, Nat.reduceLT, Nat.zero_lt_succ, Und.tys, Und.tyAgg, Und.oslTys, Und.oslTys1, Und.clo0, Und.ty, Und.sv, Und.oslN, Und.cloV, Nat.reduceLeDiff, UndL, Und.map, Und.tys]
    · simp only [UndL, UndOs, Ob.Und, and_true, true_and, and_self, Und.v, Und.any, Und.ptr, Und.map, Nat.reduceLT, Nat.zero_lt_succ, Und.tys, Und.tyAgg, Und.oslTys, Und.oslTys1, Und.clo0, Und.ty, Und.sv, Und.oslN, Und.cloV, Nat.reduceLeDiff, UndL, Und.map, Und.tys]
  · skip
    have hk : s = ps.length := by simp at hb11; omega
    refine AWp_exit ?_
    simp only [thenQ, blockQ, noGotoQ, bA, Nat.reduceEqDiff, ↓reduceIte]
    refine hK4 _ ?_
    try clear hK4 K4
    refine AWp_seqK fun K11 hK11 => ?_
    refine AWp_region ?_
    simp only [↓aops, ↓aop, ↓aWant, ↓aVal, bS, bA, AV.flat, AV.cl, AV.one, Value.oneCell', thenQ, blockQ, noGotoQ, ↓reduceIte, Nat.reduceEqDiff, reduceCtorEq, aLoad, ti28, getO, pack, bL, Nat.reduceAdd, Nat.reduceLeDiff, tyX]
    refine hK11 _ ?_
    try clear hK11 K11
    refine AWp_ret ?_
    try simp only [thenQ, blockQ, noGotoQ, retQ, aRes, tupOf, bS, bA]
    rw [hk, List.take_length]
    exact Le.oslL
end Go.Proofs.Ytohdoloalolpfaa
