import Derived.Test.YtohdoloalolpfaaGreat
namespace Go.Proofs.Ytohdoloalolpfaa
open Go Go.RowKit
set_option maxRecDepth 100000
set_option maxHeartbeats 1000000
set_option linter.unusedSimpArgs false
set_option linter.unusedVariables false
attribute [local irreducible] aops dRun
/-- a node of the graph -/
structure GNode where
  k : Int
  n : Int
  size : Int
  parts : List Int
def GNode.cells (x : GNode) : List AV := [.v (.int .i64 x.k), .v (.int .i64 x.n), .v (.int .i64 x.size), .sl 1 (x.parts.map intC)]
theorem GNode.data (x : GNode) : DataL x.cells := .cons (.v _) (.cons (.v _) (.cons (.v _) (.cons (dataInts _) .nil)))
theorem GNode.dataRows (N : List GNode) : ∀ x ∈ N.map GNode.cells, DataL x := fun x hx => by
  obtain ⟨y, _, rfl⟩ := List.mem_map.1 hx
  exact y.data
def vC (p : Int × Int) : Int × AV := (p.1, .v (.int .i64 p.2))
theorem vC_data (V : List (Int × Int)) : ∀ p ∈ V.map vC, Data p.2 := fun p hp => by
  obtain ⟨y, _, rfl⟩ := List.mem_map.1 hp
  exact .v _
theorem Und.oslG {n id : Nat} {N : List GNode} (h : id < n) : Und n (.osl id 4 (N.map GNode.cells)) := .osl h (.data (.sl (GNode.dataRows N)))
theorem Und.oslI {n id : Nat} {l : List Int} (h : id < n) : Und n (.osl id 1 (l.map intC)) := .osl h (.data (dataInts l))
theorem Und.oslI1 {n id : Nat} {l : List Int} {x : Int} (h : id < n) : Und n (.osl id 1 (l.map intC ++ [intC x])) := by
  have := Und.oslI (l := l ++ [x]) h
  rwa [List.map_append] at this
theorem Und.oslI2 {n id : Nat} {l : List Int} {x : Int} (h : id < n) : Und n (.osl id 1 (l.map intC ++ [[.v (.int .i64 x)]])) := Und.oslI1 h
theorem Und.mapG {n : Nat} (V : List (Int × Int)) : (∀ p ∈ V.map vC, Und n p.2) = True := eq_true fun p hp => .data (vC_data V p hp)
/-- a graph's objects -/
def gObs (N : List GNode) (V : List (Int × Int)) : List Ob := [.cells 91 [.osl 1 4 (N.map GNode.cells), .map 2], .tok 87 4 N.length, .map (V.map vC)]
/-- the same under other numbers -/
def gObsAt (j k : Nat) (N : List GNode) (V : List (Int × Int)) : List Ob := [.cells 91 [.osl j 4 (N.map GNode.cells), .map k], .tok 87 4 N.length, .map (V.map vC)]
def GCalls (f : Nat) (args : List AV) (N : List GNode) (V : List (Int × Int)) (R : AV) (N1 : List GNode) (V1 : List (Int × Int)) : Prop :=
  ACalls Try.prog f args (enumO 0 (gObs N V)) 3 fun r os n => (r = R ∧ os = enumO 0 (gObs N1 V1)) ∧ n = 3
theorem gUnd {n : Nat} (h : 3 ≤ n) (N : List GNode) (V : List (Int × Int)) : UndOs n (enumO 0 (gObs N V)) :=
  ⟨by omega, ⟨.osl (by omega) (.data (.sl (GNode.dataRows N))), .map (by omega), trivial⟩, by omega, trivial, by omega, fun p hp => .data (vC_data V p hp), trivial⟩
theorem GCalls.at {f : Nat} {args : List AV} {N N1 : List GNode} {V V1 : List (Int × Int)} {R : AV} (h : GCalls f (.ptr 0 0 :: args) N V R N1 V1) (hd : DataL args) (hR : Data R) {i j k : Nat} {os' : Os} {nx' : Nat}
    (hi : getO os' i = some (.cells 91 [.osl j 4 (N.map GNode.cells), .map k])) (hj : getO os' j = some (.tok 87 4 N.length)) (hk : getO os' k = some (.map (V.map vC)))
    (hij : i ≠ j) (hik : i ≠ k) (hjk : j ≠ k) (li : i < nx') (lj : j < nx') (lk : k < nx') {Q' : AV → Os → Nat → Prop}
    (hq : Q' R (putO (putO (putO os' i (.cells 91 [.osl j 4 (N1.map GNode.cells), .map k])) j (.tok 87 4 N1.length)) k (.map (V1.map vC))) nx') : ACalls Try.prog f (.ptr i 0 :: args) os' nx' Q' := by
  have same : ∀ (l : List AV), DataL l → RenL (renOf [i, j, k] nx') l l := by
    intro l hl
    induction l with
    | nil => trivial
    | cons x l ih => exact ⟨.data (hl x (by simp)), ih fun y hy => hl y (by simp [hy])⟩
  have ren : ∀ (N : List GNode) (V : List (Int × Int)), RenOs (renOf [i, j, k] nx') 0 (gObs N V) (gObsAt j k N V) := fun N V =>
    ⟨.cells ⟨.osl rfl (GNode.dataRows N), .map rfl, trivial⟩, .tok, .map (vC_data V), trivial⟩
  refine ACalls.at (args := .ptr 0 0 :: args) (obs := gObs N V) (obs1 := gObs N1 V1) (obs' := gObsAt j k N V) (obs1' := gObsAt j k N1 V1) [i, j, k] ?_ rfl rfl (by simp [hij, hik, hjk]) (by simp [li, lj, lk]) ⟨.ptr rfl, same args hd⟩ (.data hR) (ren N V) ⟨hi, hj, hk, trivial⟩ (ren N1 V1) hq
  exact h.mono fun r os n ⟨⟨h1, h2⟩, h3⟩ => ⟨h1, h2, h3⟩
/-- the size of a node that is laid -/
def layS (N : List GNode) (a : Int) : List Int → Int
  | [] => a
  | p :: ps => layS N (min 1099511627776 (a + ((N[p.toNat]?).map GNode.size).getD 0)) ps
theorem layS_append (N : List GNode) : ∀ (a : Int) (ps qs : List Int), layS N a (ps ++ qs) = layS N (layS N a ps) qs
  | a, [], qs => by simp [layS]
  | a, p :: ps, qs => by simp [layS, layS_append N _ ps qs]
theorem layS_step {N : List GNode} {ps : List Int} {s : Nat} {p : Int} {q : GNode} (hp : ps[s]? = some p) (hq : N[p.toNat]? = some q) (a : Int) : layS N a (ps.take (s + 1)) = min 1099511627776 (layS N a (ps.take s) + q.size) := by
  rw [List.take_add_one, hp, layS_append]
  simp [layS, hq]
theorem layS_bound {N : List GNode} (hN : ∀ x ∈ N, 0 ≤ x.size ∧ x.size ≤ 1099511627776) : ∀ (ps : List Int) (a : Int), 0 ≤ a → a ≤ 1099511627776 → 0 ≤ layS N a ps ∧ layS N a ps ≤ 1099511627776
  | [], a, h1, h2 => by simp [layS]; omega
  | p :: ps, a, h1, h2 => by
    have h3 : 0 ≤ ((N[p.toNat]?).map GNode.size).getD 0 := by
      cases hx : N[p.toNat]? with
      | none => simp
      | some q => exact (hN q (List.mem_of_getElem? hx)).1
    exact layS_bound hN ps _ (by omega) (by omega)
theorem lay_calls (N : List GNode) (V : List (Int × Int)) (x : GNode) (hN : ∀ y ∈ N, 0 ≤ y.size ∧ y.size ≤ 1099511627776) (hl : N.length < 1099511627776) (hpl : x.parts.length ≤ 1099511627776) (hp : ∀ p ∈ x.parts, 0 ≤ p ∧ p < N.length) : GCalls 83 [.ptr 0 0, .agg x.cells] (N) (V) (.v (.int .i64 (N.length : Int))) (N ++ [⟨x.k, x.n, layS N 1 x.parts, x.parts⟩]) (V) := by
  refine ACalls.clean (C := fun r os => r = _ ∧ os = _) ?_
  refine ACalls_intro Try.func83 (by kernel_rfl) rfl (by rw [Try.ntmps83]; simp) (fun hm => ?_)
  simp only [Try.ntmps83, Try.results83, List.length_cons, List.length_nil, Nat.reduceAdd, Nat.reduceSub, List.replicate_succ, List.replicate_zero, List.cons_append, List.nil_append]
  simp only [gObs, enumO, Nat.reduceAdd]
  simp only [GNode.cells, List.cons_append, List.nil_append]
  have hb1 : (N.length + 1) * 48 ≤ 140737488355328 := by omega
  have hb2 : N.length + 1 ≤ maxLen := by simp only [maxLen]; omega
  have hw3 : IntKind.i64.wrap ((N.length : Int) + 1 - 1) = N.length := by rw [wrap_in (by omega) (by omega)]; omega
  refine AWp_seqK fun K1 hK1 => ?_
  refine AWp_region ?_
  simp only [↓aops, ↓aop, ↓aWant, ↓aVal, bS, bA, AV.flat, AV.cl, AV.one, Value.oneCell', thenQ, blockQ, noGotoQ, ↓reduceIte, Nat.reduceEqDiff, reduceCtorEq, GNode.cells, hb1, hb2, hw3, List.length_append, List.length_map, Int.natCast_add, Int.natCast_one]
  refine hK1 _ ?_
  try clear hK1 K1
  refine AWp_seqK fun K2 hK2 => ?_
  refine AWp_region ?_
  simp only [↓aops, ↓aop, ↓aWant, ↓aVal, bS, bA, AV.flat, AV.cl, AV.one, Value.oneCell', thenQ, blockQ, noGotoQ, ↓reduceIte, Nat.reduceEqDiff, reduceCtorEq, aField, fo87_2, bL, Nat.reduceAdd, aStore, ti3, getO, putO, splice, Nat.reduceLeDiff, GNode.cells, hb1, hb2, hw3, List.length_append, List.length_map, Int.natCast_add, Int.natCast_one]
  refine hK2 _ ?_
  try clear hK2 K2
  refine AWp_seqK fun K3 hK3 => ?_
  refine AWp_seqK fun K4 hK4 => ?_
  refine AWp_region ?_
  refine aops_chunk 3 fun C5 hC5 => ?_
  simp only [bL, ↓aops, ↓aop, ↓aWant, ↓aVal, bS, bA, AV.flat, AV.cl, AV.one, Value.oneCell', thenQ, blockQ, noGotoQ, ↓reduceIte, Nat.reduceEqDiff, reduceCtorEq, aField, fo87_3, Nat.reduceAdd, aLoad, ti28, getO, pack, Nat.reduceLeDiff, aLenX, aLen, ln28, List.length_map, GNode.cells, hb1, hb2, hw3, List.length_append, Int.natCast_add, Int.natCast_one]
  refine hC5 _ ?_
  try clear hC5 C5
  simp only [bL]
  simp only [↓aops, ↓aop, ↓aWant, ↓aVal, bS, bA, AV.flat, AV.cl, AV.one, Value.oneCell', thenQ, blockQ, noGotoQ, ↓reduceIte, Nat.reduceEqDiff, reduceCtorEq, GNode.cells, hb1, hb2, hw3, List.length_append, List.length_map, Int.natCast_add, Int.natCast_one]
  refine hK4 _ ?_
  try clear hK4 K4
  refine AWp_block ?_
  refine AWp_loopM (σ := Nat) [true, false, false, true, false, false, false, false, false, true, true, true, false, false, false, false, false, false, false, false, false, false, false, false, false, false, false, false, false, false, false, false, false, false, false, false, false, false, false, false, false, false, false, false, false] (fun s => s ≤ x.parts.length) (fun s => [(11, .v (.int .i64 (s : Int)))]) (fun s => [(3, .cells 87 [.v (.int .i64 x.k), .v (.int .i64 x.n), .v (.int .i64 (layS N 1 (x.parts.take s))), .sl 1 (x.parts.map intC)])]) (fun s => x.parts.length - s) 0 (by omega) ?_ (fun s hs => ?_)
  · skip
    simp only [maskL, setsL, putsO, putO, bA, Nat.reduceEqDiff, ↓reduceIte, bL, layS]
    exact Weak.mk (by simp only [LeL, Le.refl, Le.any, Le.slNil, and_self, Int.natCast_add, Int.cast_ofNat_Int, Int.natCast_one]) (fun _ _ h => h) rfl rfl
  simp only [maskL, setsL, putsO, putO, bA, Nat.reduceEqDiff, ↓reduceIte]
  refine AWp_seqK fun K6 hK6 => ?_
  refine AWp_region ?_
  simp only [↓aops, ↓aop, ↓aWant, ↓aVal, bS, bA, AV.flat, AV.cl, AV.one, Value.oneCell', thenQ, blockQ, noGotoQ, ↓reduceIte, Nat.reduceEqDiff, reduceCtorEq, aBin, GNode.cells, hb1, hb2, hw3, List.length_append, List.length_map, Int.natCast_add, Int.natCast_one]
  refine hK6 _ ?_
  try clear hK6 K6
  refine AWp_seqK fun K7 hK7 => ?_
  refine AWp_cond rfl (fun hb12 => ?_) (fun hb12 => ?_)
  · skip
    have hk : s < x.parts.length := by simpa using hb12
    obtain ⟨p, hps⟩ : ∃ p, x.parts[s]? = some p := ⟨_, List.getElem?_eq_getElem hk⟩
    obtain ⟨hp0, hp1⟩ := hp p (List.mem_of_getElem? hps)
    obtain ⟨q, hq⟩ : ∃ q, N[p.toNat]? = some q := ⟨_, List.getElem?_eq_getElem (by omega)⟩
    have hqs := hN q (List.mem_of_getElem? hq)
    have hls := layS_bound hN (x.parts.take s) 1 (by omega) (by omega)
    have hw : IntKind.i64.wrap ((s : Int) + 1) = (s : Int) + 1 := wrap_in (by omega) (by omega)
    have hw2 : min 1099511627776 (IntKind.i64.wrap (layS N 1 (x.parts.take s) + q.size)) = layS N 1 (x.parts.take (s + 1)) := by rw [wrap_in (by omega) (by omega), layS_step hps hq]
    refine AWp_skip ?_
    try simp only [thenQ, blockQ, noGotoQ]
    refine hK7 _ ?_
    try clear hK7 K7
    refine AWp_seqK fun K8 hK8 => ?_
    refine AWp_block ?_
    refine AWp_seqK fun K9 hK9 => ?_
    refine AWp_region ?_
    simp only [↓aops, ↓aop, ↓aWant, ↓aVal, bS, bA, AV.flat, AV.cl, AV.one, Value.oneCell', thenQ, blockQ, noGotoQ, ↓reduceIte, Nat.reduceEqDiff, reduceCtorEq, getO, aIndexA, es28, Int.natCast_nonneg, Int.ofNat_lt, Int.toNat_natCast, List.length_map, Int.le_refl, Int.toNat_zero, Int.toNat_one, Int.reduceLE, aLoad, ti3, pack, bL, Nat.reduceAdd, Nat.reduceLeDiff, GNode.cells, hb1, hb2, hw3, List.length_append, Int.natCast_add, Int.natCast_one, hk, getD_map_cells hps, getD_map_cells hq, hp0, hp1, hw, hw2, intC]
    refine hK9 _ ?_
    try clear hK9 K9
    refine AWp_drawK 13 mixed (by kernel_rfl) fun K10 hK10 => ?_
    simp only [bL]
    refine dRun_chunk 3 fun C11 hC11 => ?_
    simp only [bL, ↓dRun, ↓dOp, ↓aops, ↓aop, ↓aWant, ↓aVal, bS, bA, AV.flat, AV.cl, AV.one, Value.oneCell', thenQ, blockQ, noGotoQ, ↓reduceIte, Nat.reduceEqDiff, reduceCtorEq, aField, fo87_2, Nat.reduceAdd, aLoad, ti3, getO, pack, Nat.reduceLeDiff, GNode.cells, hb1, hb2, hw3, List.length_append, List.length_map, Int.natCast_add, Int.natCast_one, hk, getD_map_cells hps, getD_map_cells hq, hp0, hp1, hw, hw2, intC]
    refine hC11 _ ?_
    try clear hC11 C11
    simp only [bL]
    refine dRun_chunk 3 fun C12 hC12 => ?_
    simp only [bL, ↓dRun, ↓dOp, ↓aops, ↓aop, ↓aWant, ↓aVal, bS, bA, AV.flat, AV.cl, AV.one, Value.oneCell', thenQ, blockQ, noGotoQ, ↓reduceIte, Nat.reduceEqDiff, reduceCtorEq, aField, fo91_0, Nat.reduceAdd, aLoad, ti88, getO, pack, Nat.reduceLeDiff, GNode.cells, hb1, hb2, hw3, List.length_append, List.length_map, Int.natCast_add, Int.natCast_one, hk, getD_map_cells hps, getD_map_cells hq, hp0, hp1, hw, hw2, intC]
    refine hC12 _ ?_
    try clear hC12 C12
    simp only [bL]
    refine dRun_chunk 3 fun C13 hC13 => ?_
    simp only [bL, ↓dRun, ↓dOp, ↓aops, ↓aop, ↓aWant, ↓aVal, bS, bA, AV.flat, AV.cl, AV.one, Value.oneCell', thenQ, blockQ, noGotoQ, ↓reduceIte, Nat.reduceEqDiff, reduceCtorEq, getO, aIndexA, es88, Int.natCast_nonneg, Int.ofNat_lt, Int.toNat_natCast, List.length_map, Int.le_refl, Int.toNat_zero, Int.toNat_one, Int.reduceLE, aField, fo87_2, Nat.reduceAdd, GNode.cells, hb1, hb2, hw3, List.length_append, Int.natCast_add, Int.natCast_one, hk, getD_map_cells hps, getD_map_cells hq, hp0, hp1, hw, hw2, intC]
    refine hC13 _ ?_
    try clear hC13 C13
    simp only [bL]
    refine dRun_chunk 3 fun C14 hC14 => ?_
    simp only [bL, ↓dRun, ↓dOp, ↓aops, ↓aop, ↓aWant, ↓aVal, bS, bA, AV.flat, AV.cl, AV.one, Value.oneCell', thenQ, blockQ, noGotoQ, ↓reduceIte, Nat.reduceEqDiff, reduceCtorEq, aLoad, ti3, getO, pack, Nat.reduceAdd, Nat.reduceLeDiff, aBin, aMore, aMinMax, GNode.cells, hb1, hb2, hw3, List.length_append, List.length_map, Int.natCast_add, Int.natCast_one, hk, getD_map_cells hps, getD_map_cells hq, hp0, hp1, hw, hw2, intC]
    refine hC14 _ ?_
    try clear hC14 C14
    simp only [bL]
    simp only [↓dRun, ↓dOp, bL, ↓aops, ↓aop, ↓aWant, ↓aVal, bS, bA, AV.flat, AV.cl, AV.one, Value.oneCell', thenQ, blockQ, noGotoQ, ↓reduceIte, Nat.reduceEqDiff, reduceCtorEq, aField, fo87_2, Nat.reduceAdd, GNode.cells, hb1, hb2, hw3, List.length_append, List.length_map, Int.natCast_add, Int.natCast_one, hk, getD_map_cells hps, getD_map_cells hq, hp0, hp1, hw, hw2, intC]
    refine hK10 _ ?_
    try clear hK10 K10
    simp only [bL]
    simp only [↓aops, ↓aop, ↓aWant, ↓aVal, bS, bA, AV.flat, AV.cl, AV.one, Value.oneCell', thenQ, blockQ, noGotoQ, ↓reduceIte, Nat.reduceEqDiff, reduceCtorEq, aStore, ti3, getO, putO, splice, bL, Nat.reduceAdd, Nat.reduceLeDiff, GNode.cells, hb1, hb2, hw3, List.length_append, List.length_map, Int.natCast_add, Int.natCast_one, hk, getD_map_cells hps, getD_map_cells hq, hp0, hp1, hw, hw2, intC]
    refine hK8 _ ?_
    try clear hK8 K8
    refine AWp_region ?_
    simp only [↓aops, ↓aop, ↓aWant, ↓aVal, bS, bA, AV.flat, AV.cl, AV.one, Value.oneCell', thenQ, blockQ, noGotoQ, ↓reduceIte, Nat.reduceEqDiff, reduceCtorEq, aBin, GNode.cells, hb1, hb2, hw3, List.length_append, List.length_map, Int.natCast_add, Int.natCast_one, hk, getD_map_cells hps, getD_map_cells hq, hp0, hp1, hw, hw2, intC]
    refine ⟨(s + 1), (by omega), by omega, ?_⟩
    simp only [maskL, setsL, putsO, putO, bA, Nat.reduceEqDiff, ↓reduceIte, hk, getD_map_cells hps, getD_map_cells hq, hp0, hp1, Int.natCast_add, Int.natCast_one, hw, hw2, intC]
    exact Weak.mk (by simp only [LeL, Le.refl, Le.any, Le.slNil, and_self, Int.natCast_add, Int.cast_ofNat_Int, Int.natCast_one]) (fun _ _ h => h) rfl rfl
  · skip
    have hk : s = x.parts.length := by simp at hb12; omega
    refine AWp_exit ?_
    simp only [thenQ, blockQ, noGotoQ, bA, Nat.reduceEqDiff, ↓reduceIte]
    refine hK3 _ ?_
    try clear hK3 K3
    refine AWp_seqK fun K15 hK15 => ?_
    refine AAny_start [] 11 rfl mixed (trivial) rfl ?_
    dsimp only
    refine AAny_takeK 0 rfl (by kernel_rfl) (by kernel_rfl) (by kernel_rfl) (fun _ _ h => h) fun K16 hK16 => ?_
    simp only [aQuiet, aHeldLoad, CurL, CurOk, ↓aops, ↓aop, ↓aWant, ↓aVal, bS, bA, AV.flat, AV.cl, AV.one, Value.oneCell', thenQ, blockQ, noGotoQ, ↓reduceIte, Nat.reduceEqDiff, reduceCtorEq, GNode.cells, hb1, hb2, hw3, List.length_append, List.length_map, Int.natCast_add, Int.natCast_one]
    refine hK16 _ ?_
    try clear hK16 K16
    refine AAny_takeK 1 rfl (by kernel_rfl) (by kernel_rfl) (by kernel_rfl) (fun _ _ h => h) fun K17 hK17 => ?_
    simp only [aQuiet, aHeldLoad, CurL, CurOk, ↓aops, ↓aop, ↓aWant, ↓aVal, bS, bA, AV.flat, AV.cl, AV.one, Value.oneCell', thenQ, blockQ, noGotoQ, ↓reduceIte, Nat.reduceEqDiff, reduceCtorEq, GNode.cells, hb1, hb2, hw3, List.length_append, List.length_map, Int.natCast_add, Int.natCast_one]
    refine hK17 _ ?_
    try clear hK17 K17
    refine AAny_takeK 2 rfl (by kernel_rfl) (by kernel_rfl) (by kernel_rfl) (fun _ _ h => h) fun K18 hK18 => ?_
    simp only [aQuiet, aHeldLoad, CurL, CurOk, ↓aops, ↓aop, ↓aWant, ↓aVal, bS, bA, AV.flat, AV.cl, AV.one, Value.oneCell', thenQ, blockQ, noGotoQ, ↓reduceIte, Nat.reduceEqDiff, reduceCtorEq, GNode.cells, hb1, hb2, hw3, List.length_append, List.length_map, Int.natCast_add, Int.natCast_one]
    refine hK18 _ ?_
    try clear hK18 K18
    refine AAny_takeK 3 rfl (by kernel_rfl) (by kernel_rfl) (by kernel_rfl) (fun _ _ h => h) fun K19 hK19 => ?_
    simp only [aQuiet, aHeldLoad, CurL, CurOk, ↓aops, ↓aop, ↓aWant, ↓aVal, bS, bA, AV.flat, AV.cl, AV.one, Value.oneCell', thenQ, blockQ, noGotoQ, ↓reduceIte, Nat.reduceEqDiff, reduceCtorEq, aField, fo91_0, bL, Nat.reduceAdd, GNode.cells, hb1, hb2, hw3, List.length_append, List.length_map, Int.natCast_add, Int.natCast_one]
    refine hK19 _ ?_
    try clear hK19 K19
    refine AAny_all2 (i := 4) (j := 5) (by kernel_rfl) ?_ ?_
    · skip
      refine aAt_op rfl rfl fun K20 hK20 => ?_
      simp only [↓aops, ↓aop, ↓aWant, ↓aVal, bS, bA, AV.flat, AV.cl, AV.one, Value.oneCell', thenQ, blockQ, noGotoQ, ↓reduceIte, Nat.reduceEqDiff, reduceCtorEq, aLoad, ti88, getO, pack, bL, Nat.reduceAdd, Nat.reduceLeDiff, GNode.cells, hb1, hb2, hw3, List.length_append, List.length_map, Int.natCast_add, Int.natCast_one]
      refine hK20 _ ⟨trivial, ?_⟩
      try clear hK20 K20
      refine AAny_all1 (i := 5) (by kernel_rfl) ?_
      · skip
        refine aAt_op rfl rfl fun K21 hK21 => ?_
        simp only [↓aops, ↓aop, ↓aWant, ↓aVal, bS, bA, AV.flat, AV.cl, AV.one, Value.oneCell', thenQ, blockQ, noGotoQ, ↓reduceIte, Nat.reduceEqDiff, reduceCtorEq, aLoad, ti87, getO, pack, bL, Nat.reduceAdd, Nat.reduceLeDiff, GNode.cells, hb1, hb2, hw3, List.length_append, List.length_map, Int.natCast_add, Int.natCast_one]
        refine hK21 _ ⟨trivial, ?_⟩
        try clear hK21 K21
        refine AAny_all1 (i := 6) (by kernel_rfl) ?_
        · skip
          refine aAt_op rfl rfl fun K22 hK22 => ?_
          simp only [↓aops, ↓aop, ↓aWant, ↓aVal, bS, bA, AV.flat, AV.cl, AV.one, Value.oneCell', thenQ, blockQ, noGotoQ, ↓reduceIte, Nat.reduceEqDiff, reduceCtorEq, ↓bs1_1, ↓bs1_2, ↓bs1_3, ↓bs1_4, ↓bs1_5, ↓bs1_6, ↓bs1_7, ↓bs1_8, ↓bs1_9, ↓bs1_10, ↓bs1_11, ↓bs1_12, aBuildSl, ei88, ia87, bL, List.range_succ, List.range_zero, List.forall_mem_cons, List.not_mem_nil, false_imp_iff, implies_true, Nat.reduceAdd, Nat.reduceLeDiff, forall_eq, List.mem_singleton, GNode.cells, hb1, hb2, hw3, List.length_append, List.length_map, Int.natCast_add, Int.natCast_one]
          refine hK22 _ ⟨trivial, ?_⟩
          try clear hK22 K22
          refine AAny_all1 (i := 7) (by kernel_rfl) ?_
          · skip
            refine aAt_op rfl rfl fun K23 hK23 => ?_
            simp only [↓aops, ↓aop, ↓aWant, ↓aVal, bS, bA, AV.flat, AV.cl, AV.one, Value.oneCell', thenQ, blockQ, noGotoQ, ↓reduceIte, Nat.reduceEqDiff, reduceCtorEq, aAppend, ei88, slIn, slAt, slOf, List.length_map, getO, putO, bL, Nat.reduceAdd, GNode.cells, hb1, hb2, hw3, List.length_append, Int.natCast_add, Int.natCast_one]
            refine hK23 _ ⟨trivial, ?_⟩
            try clear hK23 K23
            refine AAny_takeK 8 rfl (by kernel_rfl) (by kernel_rfl) (by kernel_rfl) (fun _ _ h => h) fun K24 hK24 => ?_
            simp only [aQuiet, aHeldLoad, CurL, CurOk, ↓aops, ↓aop, ↓aWant, ↓aVal, bS, bA, AV.flat, AV.cl, AV.one, Value.oneCell', thenQ, blockQ, noGotoQ, ↓reduceIte, Nat.reduceEqDiff, reduceCtorEq, GNode.cells, hb1, hb2, hw3, List.length_append, List.length_map, Int.natCast_add, Int.natCast_one]
            refine hK24 _ ?_
            try clear hK24 K24
            refine AAny_takeK 9 rfl (by kernel_rfl) (by kernel_rfl) (by kernel_rfl) (fun _ _ h => h) fun K25 hK25 => ?_
            simp only [aQuiet, aHeldLoad, CurL, CurOk, ↓aops, ↓aop, ↓aWant, ↓aVal, bS, bA, AV.flat, AV.cl, AV.one, Value.oneCell', thenQ, blockQ, noGotoQ, ↓reduceIte, Nat.reduceEqDiff, reduceCtorEq, aField, fo91_0, bL, Nat.reduceAdd, GNode.cells, hb1, hb2, hw3, List.length_append, List.length_map, Int.natCast_add, Int.natCast_one]
            refine hK25 _ ?_
            try clear hK25 K25
            refine AAny_all1 (i := 10) (by kernel_rfl) ?_
            · skip
              refine aAt_op rfl rfl fun K26 hK26 => ?_
              simp only [↓aops, ↓aop, ↓aWant, ↓aVal, bS, bA, AV.flat, AV.cl, AV.one, Value.oneCell', thenQ, blockQ, noGotoQ, ↓reduceIte, Nat.reduceEqDiff, reduceCtorEq, aStore, ti88, getO, putO, splice, bL, Nat.reduceAdd, Nat.reduceLeDiff, GNode.cells, hb1, hb2, hw3, List.length_append, List.length_map, Int.natCast_add, Int.natCast_one]
              refine hK26 _ ⟨trivial, ?_⟩
              try clear hK26 K26
              refine AAny_done (by kernel_rfl) ?_
              simp only [thenQ, blockQ, noGotoQ]
              refine hK15 _ ?_
              try clear hK15 K15
              refine AWp_seqK fun K27 hK27 => ?_
              refine AWp_region ?_
              refine aops_chunk 3 fun C28 hC28 => ?_
              simp only [bL, ↓aops, ↓aop, ↓aWant, ↓aVal, bS, bA, AV.flat, AV.cl, AV.one, Value.oneCell', thenQ, blockQ, noGotoQ, ↓reduceIte, Nat.reduceEqDiff, reduceCtorEq, aField, fo91_0, Nat.reduceAdd, GNode.cells, hb1, hb2, hw3, List.length_append, List.length_map, Int.natCast_add, Int.natCast_one]
              refine hC28 _ ?_
              try clear hC28 C28
              simp only [bL]
              refine aops_chunk 3 fun C29 hC29 => ?_
              simp only [bL, ↓aops, ↓aop, ↓aWant, ↓aVal, bS, bA, AV.flat, AV.cl, AV.one, Value.oneCell', thenQ, blockQ, noGotoQ, ↓reduceIte, Nat.reduceEqDiff, reduceCtorEq, aLoad, ti88, getO, pack, Nat.reduceAdd, Nat.reduceLeDiff, aLenX, aLen, ln88, List.length_map, aBin, GNode.cells, hb1, hb2, hw3, List.length_append, Int.natCast_add, Int.natCast_one]
              refine hC29 _ ?_
              try clear hC29 C29
              simp only [bL]
              simp only [↓aops, ↓aop, ↓aWant, ↓aVal, bS, bA, AV.flat, AV.cl, AV.one, Value.oneCell', thenQ, blockQ, noGotoQ, ↓reduceIte, Nat.reduceEqDiff, reduceCtorEq, GNode.cells, hb1, hb2, hw3, List.length_append, List.length_map, Int.natCast_add, Int.natCast_one]
              refine hK27 _ ?_
              try clear hK27 K27
              refine AWp_ret ?_
              try simp only [thenQ, blockQ, noGotoQ, retQ, aRes, tupOf, bS, bA]
              subst hk
              refine ⟨_, enumO 0 (gObs (N ++ [⟨x.k, x.n, layS N 1 x.parts, x.parts⟩]) V), ⟨rfl, rfl⟩, .v _ _, gUnd (by omega) _ _, ?_, ⟨1, ?_, rfl⟩, by omega⟩
              · refine Le.of_eq (congrArg (fun n => AV.v (.int .i64 n)) ?_)
                first | exact hw3 | (simp; done)
              · simp only [gObs, enumO, List.drop_succ_cons, List.drop_zero, List.map_append, List.map_cons, List.map_nil, List.length_append, List.length_cons, List.length_nil, GNode.cells, List.take_length, Nat.reduceAdd, Nat.zero_add]
    · skip
      refine aAt_op rfl rfl fun K30 hK30 => ?_
      simp only [↓aops, ↓aop, ↓aWant, ↓aVal, bS, bA, AV.flat, AV.cl, AV.one, Value.oneCell', thenQ, blockQ, noGotoQ, ↓reduceIte, Nat.reduceEqDiff, reduceCtorEq, aLoad, ti87, getO, pack, bL, Nat.reduceAdd, Nat.reduceLeDiff, GNode.cells, hb1, hb2, hw3, List.length_append, List.length_map, Int.natCast_add, Int.natCast_one]
      refine hK30 _ ⟨trivial, ?_⟩
      try clear hK30 K30
      refine AAny_all2 (i := 4) (j := 6) (by kernel_rfl) ?_ ?_
      · skip
        refine aAt_op rfl rfl fun K31 hK31 => ?_
        simp only [↓aops, ↓aop, ↓aWant, ↓aVal, bS, bA, AV.flat, AV.cl, AV.one, Value.oneCell', thenQ, blockQ, noGotoQ, ↓reduceIte, Nat.reduceEqDiff, reduceCtorEq, aLoad, ti88, getO, pack, bL, Nat.reduceAdd, Nat.reduceLeDiff, GNode.cells, hb1, hb2, hw3, List.length_append, List.length_map, Int.natCast_add, Int.natCast_one]
        refine hK31 _ ⟨trivial, ?_⟩
        try clear hK31 K31
        refine AAny_all1 (i := 6) (by kernel_rfl) ?_
        · skip
          refine aAt_op rfl rfl fun K32 hK32 => ?_
          simp only [↓aops, ↓aop, ↓aWant, ↓aVal, bS, bA, AV.flat, AV.cl, AV.one, Value.oneCell', thenQ, blockQ, noGotoQ, ↓reduceIte, Nat.reduceEqDiff, reduceCtorEq, ↓bs1_1, ↓bs1_2, ↓bs1_3, ↓bs1_4, ↓bs1_5, ↓bs1_6, ↓bs1_7, ↓bs1_8, ↓bs1_9, ↓bs1_10, ↓bs1_11, ↓bs1_12, aBuildSl, ei88, ia87, bL, List.range_succ, List.range_zero, List.forall_mem_cons, List.not_mem_nil, false_imp_iff, implies_true, Nat.reduceAdd, Nat.reduceLeDiff, forall_eq, List.mem_singleton, GNode.cells, hb1, hb2, hw3, List.length_append, List.length_map, Int.natCast_add, Int.natCast_one]
          refine hK32 _ ⟨trivial, ?_⟩
          try clear hK32 K32
          refine AAny_all1 (i := 7) (by kernel_rfl) ?_
          · skip
            refine aAt_op rfl rfl fun K33 hK33 => ?_
            simp only [↓aops, ↓aop, ↓aWant, ↓aVal, bS, bA, AV.flat, AV.cl, AV.one, Value.oneCell', thenQ, blockQ, noGotoQ, ↓reduceIte, Nat.reduceEqDiff, reduceCtorEq, aAppend, ei88, slIn, slAt, slOf, List.length_map, getO, putO, bL, Nat.reduceAdd, GNode.cells, hb1, hb2, hw3, List.length_append, Int.natCast_add, Int.natCast_one]
            refine hK33 _ ⟨trivial, ?_⟩
            try clear hK33 K33
            refine AAny_takeK 8 rfl (by kernel_rfl) (by kernel_rfl) (by kernel_rfl) (fun _ _ h => h) fun K34 hK34 => ?_
            simp only [aQuiet, aHeldLoad, CurL, CurOk, ↓aops, ↓aop, ↓aWant, ↓aVal, bS, bA, AV.flat, AV.cl, AV.one, Value.oneCell', thenQ, blockQ, noGotoQ, ↓reduceIte, Nat.reduceEqDiff, reduceCtorEq, GNode.cells, hb1, hb2, hw3, List.length_append, List.length_map, Int.natCast_add, Int.natCast_one]
            refine hK34 _ ?_
            try clear hK34 K34
            refine AAny_takeK 9 rfl (by kernel_rfl) (by kernel_rfl) (by kernel_rfl) (fun _ _ h => h) fun K35 hK35 => ?_
            simp only [aQuiet, aHeldLoad, CurL, CurOk, ↓aops, ↓aop, ↓aWant, ↓aVal, bS, bA, AV.flat, AV.cl, AV.one, Value.oneCell', thenQ, blockQ, noGotoQ, ↓reduceIte, Nat.reduceEqDiff, reduceCtorEq, aField, fo91_0, bL, Nat.reduceAdd, GNode.cells, hb1, hb2, hw3, List.length_append, List.length_map, Int.natCast_add, Int.natCast_one]
            refine hK35 _ ?_
            try clear hK35 K35
            refine AAny_all1 (i := 10) (by kernel_rfl) ?_
            · skip
              refine aAt_op rfl rfl fun K36 hK36 => ?_
              simp only [↓aops, ↓aop, ↓aWant, ↓aVal, bS, bA, AV.flat, AV.cl, AV.one, Value.oneCell', thenQ, blockQ, noGotoQ, ↓reduceIte, Nat.reduceEqDiff, reduceCtorEq, aStore, ti88, getO, putO, splice, bL, Nat.reduceAdd, Nat.reduceLeDiff, GNode.cells, hb1, hb2, hw3, List.length_append, List.length_map, Int.natCast_add, Int.natCast_one]
              refine hK36 _ ⟨trivial, ?_⟩
              try clear hK36 K36
              refine AAny_done (by kernel_rfl) ?_
              simp only [thenQ, blockQ, noGotoQ]
              refine hK15 _ ?_
              try clear hK15 K15
              refine AWp_seqK fun K37 hK37 => ?_
              refine AWp_region ?_
              refine aops_chunk 3 fun C38 hC38 => ?_
              simp only [bL, ↓aops, ↓aop, ↓aWant, ↓aVal, bS, bA, AV.flat, AV.cl, AV.one, Value.oneCell', thenQ, blockQ, noGotoQ, ↓reduceIte, Nat.reduceEqDiff, reduceCtorEq, aField, fo91_0, Nat.reduceAdd, GNode.cells, hb1, hb2, hw3, List.length_append, List.length_map, Int.natCast_add, Int.natCast_one]
              refine hC38 _ ?_
              try clear hC38 C38
              simp only [bL]
              refine aops_chunk 3 fun C39 hC39 => ?_
              simp only [bL, ↓aops, ↓aop, ↓aWant, ↓aVal, bS, bA, AV.flat, AV.cl, AV.one, Value.oneCell', thenQ, blockQ, noGotoQ, ↓reduceIte, Nat.reduceEqDiff, reduceCtorEq, aLoad, ti88, getO, pack, Nat.reduceAdd, Nat.reduceLeDiff, aLenX, aLen, ln88, List.length_map, aBin, GNode.cells, hb1, hb2, hw3, List.length_append, Int.natCast_add, Int.natCast_one]
              refine hC39 _ ?_
              try clear hC39 C39
              simp only [bL]
              simp only [↓aops, ↓aop, ↓aWant, ↓aVal, bS, bA, AV.flat, AV.cl, AV.one, Value.oneCell', thenQ, blockQ, noGotoQ, ↓reduceIte, Nat.reduceEqDiff, reduceCtorEq, GNode.cells, hb1, hb2, hw3, List.length_append, List.length_map, Int.natCast_add, Int.natCast_one]
              refine hK37 _ ?_
              try clear hK37 K37
              refine AWp_ret ?_
              try simp only [thenQ, blockQ, noGotoQ, retQ, aRes, tupOf, bS, bA]
              subst hk
              refine ⟨_, enumO 0 (gObs (N ++ [⟨x.k, x.n, layS N 1 x.parts, x.parts⟩]) V), ⟨rfl, rfl⟩, .v _ _, gUnd (by omega) _ _, ?_, ⟨1, ?_, rfl⟩, by omega⟩
              · refine Le.of_eq (congrArg (fun n => AV.v (.int .i64 n)) ?_)
                first | exact hw3 | (simp; done)
              · simp only [gObs, enumO, List.drop_succ_cons, List.drop_zero, List.map_append, List.map_cons, List.map_nil, List.length_append, List.length_cons, List.length_nil, GNode.cells, List.take_length, Nat.reduceAdd, Nat.zero_add]
      · skip
        refine aAt_op rfl rfl fun K40 hK40 => ?_
        simp only [↓aops, ↓aop, ↓aWant, ↓aVal, bS, bA, AV.flat, AV.cl, AV.one, Value.oneCell', thenQ, blockQ, noGotoQ, ↓reduceIte, Nat.reduceEqDiff, reduceCtorEq, ↓bs1_1, ↓bs1_2, ↓bs1_3, ↓bs1_4, ↓bs1_5, ↓bs1_6, ↓bs1_7, ↓bs1_8, ↓bs1_9, ↓bs1_10, ↓bs1_11, ↓bs1_12, aBuildSl, ei88, ia87, bL, List.range_succ, List.range_zero, List.forall_mem_cons, List.not_mem_nil, false_imp_iff, implies_true, Nat.reduceAdd, Nat.reduceLeDiff, forall_eq, List.mem_singleton, GNode.cells, hb1, hb2, hw3, List.length_append, List.length_map, Int.natCast_add, Int.natCast_one]
        refine hK40 _ ⟨trivial, ?_⟩
        try clear hK40 K40
        refine AAny_all1 (i := 4) (by kernel_rfl) ?_
        · skip
          refine aAt_op rfl rfl fun K41 hK41 => ?_
          simp only [↓aops, ↓aop, ↓aWant, ↓aVal, bS, bA, AV.flat, AV.cl, AV.one, Value.oneCell', thenQ, blockQ, noGotoQ, ↓reduceIte, Nat.reduceEqDiff, reduceCtorEq, aLoad, ti88, getO, pack, bL, Nat.reduceAdd, Nat.reduceLeDiff, GNode.cells, hb1, hb2, hw3, List.length_append, List.length_map, Int.natCast_add, Int.natCast_one]
          refine hK41 _ ⟨trivial, ?_⟩
          try clear hK41 K41
          refine AAny_all1 (i := 7) (by kernel_rfl) ?_
          · skip
            refine aAt_op rfl rfl fun K42 hK42 => ?_
            simp only [↓aops, ↓aop, ↓aWant, ↓aVal, bS, bA, AV.flat, AV.cl, AV.one, Value.oneCell', thenQ, blockQ, noGotoQ, ↓reduceIte, Nat.reduceEqDiff, reduceCtorEq, aAppend, ei88, slIn, slAt, slOf, List.length_map, getO, putO, bL, Nat.reduceAdd, GNode.cells, hb1, hb2, hw3, List.length_append, Int.natCast_add, Int.natCast_one]
            refine hK42 _ ⟨trivial, ?_⟩
            try clear hK42 K42
            refine AAny_takeK 8 rfl (by kernel_rfl) (by kernel_rfl) (by kernel_rfl) (fun _ _ h => h) fun K43 hK43 => ?_
            simp only [aQuiet, aHeldLoad, CurL, CurOk, ↓aops, ↓aop, ↓aWant, ↓aVal, bS, bA, AV.flat, AV.cl, AV.one, Value.oneCell', thenQ, blockQ, noGotoQ, ↓reduceIte, Nat.reduceEqDiff, reduceCtorEq, GNode.cells, hb1, hb2, hw3, List.length_append, List.length_map, Int.natCast_add, Int.natCast_one]
            refine hK43 _ ?_
            try clear hK43 K43
            refine AAny_takeK 9 rfl (by kernel_rfl) (by kernel_rfl) (by kernel_rfl) (fun _ _ h => h) fun K44 hK44 => ?_
            simp only [aQuiet, aHeldLoad, CurL, CurOk, ↓aops, ↓aop, ↓aWant, ↓aVal, bS, bA, AV.flat, AV.cl, AV.one, Value.oneCell', thenQ, blockQ, noGotoQ, ↓reduceIte, Nat.reduceEqDiff, reduceCtorEq, aField, fo91_0, bL, Nat.reduceAdd, GNode.cells, hb1, hb2, hw3, List.length_append, List.length_map, Int.natCast_add, Int.natCast_one]
            refine hK44 _ ?_
            try clear hK44 K44
            refine AAny_all1 (i := 10) (by kernel_rfl) ?_
            · skip
              refine aAt_op rfl rfl fun K45 hK45 => ?_
              simp only [↓aops, ↓aop, ↓aWant, ↓aVal, bS, bA, AV.flat, AV.cl, AV.one, Value.oneCell', thenQ, blockQ, noGotoQ, ↓reduceIte, Nat.reduceEqDiff, reduceCtorEq, aStore, ti88, getO, putO, splice, bL, Nat.reduceAdd, Nat.reduceLeDiff, GNode.cells, hb1, hb2, hw3, List.length_append, List.length_map, Int.natCast_add, Int.natCast_one]
              refine hK45 _ ⟨trivial, ?_⟩
              try clear hK45 K45
              refine AAny_done (by kernel_rfl) ?_
              simp only [thenQ, blockQ, noGotoQ]
              refine hK15 _ ?_
              try clear hK15 K15
              refine AWp_seqK fun K46 hK46 => ?_
              refine AWp_region ?_
              refine aops_chunk 3 fun C47 hC47 => ?_
              simp only [bL, ↓aops, ↓aop, ↓aWant, ↓aVal, bS, bA, AV.flat, AV.cl, AV.one, Value.oneCell', thenQ, blockQ, noGotoQ, ↓reduceIte, Nat.reduceEqDiff, reduceCtorEq, aField, fo91_0, Nat.reduceAdd, GNode.cells, hb1, hb2, hw3, List.length_append, List.length_map, Int.natCast_add, Int.natCast_one]
              refine hC47 _ ?_
              try clear hC47 C47
              simp only [bL]
              refine aops_chunk 3 fun C48 hC48 => ?_
              simp only [bL, ↓aops, ↓aop, ↓aWant, ↓aVal, bS, bA, AV.flat, AV.cl, AV.one, Value.oneCell', thenQ, blockQ, noGotoQ, ↓reduceIte, Nat.reduceEqDiff, reduceCtorEq, aLoad, ti88, getO, pack, Nat.reduceAdd, Nat.reduceLeDiff, aLenX, aLen, ln88, List.length_map, aBin, GNode.cells, hb1, hb2, hw3, List.length_append, Int.natCast_add, Int.natCast_one]
              refine hC48 _ ?_
              try clear hC48 C48
              simp only [bL]
              simp only [↓aops, ↓aop, ↓aWant, ↓aVal, bS, bA, AV.flat, AV.cl, AV.one, Value.oneCell', thenQ, blockQ, noGotoQ, ↓reduceIte, Nat.reduceEqDiff, reduceCtorEq, GNode.cells, hb1, hb2, hw3, List.length_append, List.length_map, Int.natCast_add, Int.natCast_one]
              refine hK46 _ ?_
              try clear hK46 K46
              refine AWp_ret ?_
              try simp only [thenQ, blockQ, noGotoQ, retQ, aRes, tupOf, bS, bA]
              subst hk
              refine ⟨_, enumO 0 (gObs (N ++ [⟨x.k, x.n, layS N 1 x.parts, x.parts⟩]) V), ⟨rfl, rfl⟩, .v _ _, gUnd (by omega) _ _, ?_, ⟨1, ?_, rfl⟩, by omega⟩
              · refine Le.of_eq (congrArg (fun n => AV.v (.int .i64 n)) ?_)
                first | exact hw3 | (simp; done)
              · simp only [gObs, enumO, List.drop_succ_cons, List.drop_zero, List.map_append, List.map_cons, List.map_nil, List.length_append, List.length_cons, List.length_nil, GNode.cells, List.take_length, Nat.reduceAdd, Nat.zero_add]
end Go.Proofs.Ytohdoloalolpfaa
