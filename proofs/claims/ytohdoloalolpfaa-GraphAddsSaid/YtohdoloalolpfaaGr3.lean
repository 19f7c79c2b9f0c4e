import Derived.Test.YtohdoloalolpfaaGr2
namespace Go.Proofs.Ytohdoloalolpfaa
open Go Go.RowKit
set_option maxRecDepth 100000
set_option maxHeartbeats 1000000
set_option linter.unusedSimpArgs false
set_option linter.unusedVariables false
attribute [local irreducible] aops dRun
def Ty.gAdd (t : Ty) (G : GS) : GS × Int × Int := if t.right = true then ((t.gadd G).1, (t.gadd G).2, 0) else (G, 0, 1)
theorem lookup_at {α : Type} (l : List α) (i : Int) (h : 0 ≤ i ∧ i < l.length) : ∃ x, l[i.toNat]? = some x := ⟨_, List.getElem?_eq_getElem (by omega)⟩
def GS.there (G : GS) (i : Int) : Bool := decide (0 ≤ i ∧ i < (G.N.length : Int))
def GS.parts (G : GS) (i : Int) : List Int := if 0 ≤ i then ((G.N[i.toNat]?).map GNode.parts).getD [] else []
theorem GS.parts_in {G : GS} {i : Int} {x : GNode} (h : 0 ≤ i) (hx : G.N[i.toNat]? = some x) : G.parts i = x.parts := by rw [GS.parts, if_pos h, hx]; rfl
theorem GS.parts_out {G : GS} {i : Int} (h : ¬ (0 ≤ i ∧ i < (G.N.length : Int))) : G.parts i = [] := by
  rw [GS.parts]
  split
  · rw [List.getElem?_eq_none (by omega)]; rfl
  · rfl
theorem Add_calls (T : Ty) (G : GS) (hG : GInv G) (hl : G.N.length + T.cnt ≤ 1099511627776) : GCalls 18 [.ptr 0 0, .agg T.cells] (G.N) (G.V) (.tup [.v (.int .i64 (T.gAdd G).2.1), .v (.int .i64 (T.gAdd G).2.2)]) ((T.gAdd G).1.N) ((T.gAdd G).1.V) := by
  refine ACalls.clean (C := fun r os => r = _ ∧ os = _) ?_
  refine ACalls_intro Try.func18 (by kernel_rfl) rfl (by rw [Try.ntmps18]; simp) (fun hm => ?_)
  simp only [Try.ntmps18, Try.results18, List.length_cons, List.length_nil, Nat.reduceAdd, Nat.reduceSub, List.replicate_succ, List.replicate_zero, List.cons_append, List.nil_append]
  simp only [gObs, enumO, Nat.reduceAdd]
  refine AWp_seqK fun K1 hK1 => ?_
  refine AWp_region ?_
  simp only [↓aops, ↓aop, ↓aWant, ↓aVal, bS, bA, AV.flat, AV.cl, AV.one, Value.oneCell', thenQ, blockQ, noGotoQ, ↓reduceIte, Nat.reduceEqDiff, reduceCtorEq, tyX]
  refine hK1 _ ?_
  try clear hK1 K1
  refine AWp_seqK fun K2 hK2 => ?_
  refine AWp_block ?_
  refine AWp_seqK fun K3 hK3 => ?_
  refine AWp_region ?_
  simp only [↓aops, ↓aop, ↓aWant, ↓aVal, bS, bA, AV.flat, AV.cl, AV.one, Value.oneCell', thenQ, blockQ, noGotoQ, ↓reduceIte, Nat.reduceEqDiff, reduceCtorEq, aBin, pt25, tyX]
  refine hK3 _ ?_
  try clear hK3 K3
  refine AWp_cond rfl (fun hb6 => ?_) (fun hb6 => ?_)
  · skip
    cases hb6
  · skip
    refine AWp_seqK fun K4 hK4 => ?_
    refine AWp_region ?_
    refine aops_chunk 1 fun C5 hC5 => ?_
    simp only [bL, ↓aops, ↓aop, ↓aWant, ↓aVal, bS, bA, AV.flat, AV.cl, AV.one, Value.oneCell', thenQ, blockQ, noGotoQ, ↓reduceIte, Nat.reduceEqDiff, reduceCtorEq, aLoad, ti32, getO, pack, Nat.reduceAdd, Nat.reduceLeDiff, tyX]
    refine hC5 _ ?_
    try clear hC5 C5
    simp only [bL]
    refine aops_chunk 1 fun C6 hC6 => ?_
    simp only [bL, ↓aops, ↓aop, ↓aWant, ↓aVal, bS, bA, AV.flat, AV.cl, AV.one, Value.oneCell', thenQ, blockQ, noGotoQ, ↓reduceIte, Nat.reduceEqDiff, reduceCtorEq, aCallV, tyX]
    refine APure.call (Right_pure T) ?_
    try simp only [bS, bA, thenQ, blockQ, noGotoQ]
    refine hC6 _ ?_
    try clear hC6 C6
    simp only [bL]
    simp only [↓aops, ↓aop, ↓aWant, ↓aVal, bS, bA, AV.flat, AV.cl, AV.one, Value.oneCell', thenQ, blockQ, noGotoQ, ↓reduceIte, Nat.reduceEqDiff, reduceCtorEq, aUn, tyX]
    refine hK4 _ ?_
    try clear hK4 K4
    refine AWp_cond rfl (fun hb9 => ?_) (fun hb9 => ?_)
    · skip
      refine AWp_seqK fun K7 hK7 => ?_
      refine AWp_region ?_
      simp only [↓aops, ↓aop, ↓aWant, ↓aVal, bS, bA, AV.flat, AV.cl, AV.one, Value.oneCell', thenQ, blockQ, noGotoQ, ↓reduceIte, Nat.reduceEqDiff, reduceCtorEq, tyX]
      refine hK7 _ ?_
      try clear hK7 K7
      refine AWp_ret ?_
      try simp only [thenQ, blockQ, noGotoQ, retQ, aRes, tupOf, bS, bA]
      have hr : T.right = false := by simpa using hb9
      have hg : T.gAdd G = (G, 0, 1) := by rw [Ty.gAdd, hr]; rfl
      rw [hg]
      refine ⟨_, enumO 0 (gObs (G.N) (G.V)), ⟨rfl, rfl⟩, .tup ⟨.v _ _, .v _ _, trivial⟩, gUnd (by omega) _ _, ?_, ?_, by omega⟩
      · refine Le.of_eq ?_
        rfl
      · first | (refine ⟨1, ?_, rfl⟩; first | rfl | (simp only [gObs, enumO, List.drop_succ_cons, List.drop_zero, List.map_append, List.map_cons, List.map_nil, List.length_append, List.length_cons, List.length_nil, GNode.cells, List.take_length, Nat.reduceAdd, Nat.zero_add]; done))
    · skip
      refine AWp_skip ?_
      try simp only [thenQ, blockQ, noGotoQ]
      refine hK2 _ ?_
      try clear hK2 K2
      refine AWp_seqK fun K8 hK8 => ?_
      refine AWp_region ?_
      refine aops_chunk 2 fun C9 hC9 => ?_
      simp only [bL, ↓aops, ↓aop, ↓aWant, ↓aVal, bS, bA, AV.flat, AV.cl, AV.one, Value.oneCell', thenQ, blockQ, noGotoQ, ↓reduceIte, Nat.reduceEqDiff, reduceCtorEq, aLoad, ti32, getO, pack, Nat.reduceAdd, Nat.reduceLeDiff, tyX]
      refine hC9 _ ?_
      try clear hC9 C9
      simp only [bL]
      refine aops_chunk 1 fun C10 hC10 => ?_
      simp only [bL, ↓aops, ↓aop, ↓aWant, ↓aVal, bS, bA, AV.flat, AV.cl, AV.one, Value.oneCell', thenQ, blockQ, noGotoQ, ↓reduceIte, Nat.reduceEqDiff, reduceCtorEq, aCallV, tyX]
      refine GCalls.at (add_calls T G hG (by omega)) (.cons (Ty.dataAgg T) .nil) (.v _) (i := 0) (j := 1) (k := 2) rfl rfl rfl (by decide) (by decide) (by decide) (by first | omega | (simp only; omega)) (by first | omega | (simp only; omega)) (by first | omega | (simp only; omega)) ?_
      simp only [putO, Nat.reduceEqDiff, ↓reduceIte]
      try simp only [bS, bA, thenQ, blockQ, noGotoQ]
      refine hC10 _ ?_
      try clear hC10 C10
      simp only [bL]
      simp only [↓aops, ↓aop, ↓aWant, ↓aVal, bS, bA, AV.flat, AV.cl, AV.one, Value.oneCell', thenQ, blockQ, noGotoQ, ↓reduceIte, Nat.reduceEqDiff, reduceCtorEq, tyX]
      refine hK8 _ ?_
      try clear hK8 K8
      refine AWp_ret ?_
      try simp only [thenQ, blockQ, noGotoQ, retQ, aRes, tupOf, bS, bA]
      have hr : T.right = true := by simpa using hb9
      have hg : T.gAdd G = ((T.gadd G).1, (T.gadd G).2, 0) := by rw [Ty.gAdd, hr]; rfl
      rw [hg]
      refine ⟨_, enumO 0 (gObs ((T.gadd G).1.N) ((T.gadd G).1.V)), ⟨rfl, rfl⟩, .tup ⟨.v _ _, .v _ _, trivial⟩, gUnd (by omega) _ _, ?_, ?_, by omega⟩
      · refine Le.of_eq ?_
        rfl
      · first | (refine ⟨1, ?_, rfl⟩; first | rfl | (simp only [gObs, enumO, List.drop_succ_cons, List.drop_zero, List.map_append, List.map_cons, List.map_nil, List.length_append, List.length_cons, List.length_nil, GNode.cells, List.take_length, Nat.reduceAdd, Nat.zero_add]; done))
theorem there_calls (G : GS) (i : Int) : GCalls 52 [.ptr 0 0, .v (.int .i64 i)] (G.N) (G.V) (.v (.bool (G.there i))) (G.N) (G.V) := by
  refine ACalls.clean (C := fun r os => r = _ ∧ os = _) ?_
  refine ACalls_intro Try.func52 (by kernel_rfl) rfl (by rw [Try.ntmps52]; simp) (fun hm => ?_)
  simp only [Try.ntmps52, Try.results52, List.length_cons, List.length_nil, Nat.reduceAdd, Nat.reduceSub, List.replicate_succ, List.replicate_zero, List.cons_append, List.nil_append]
  simp only [gObs, enumO, Nat.reduceAdd]
  refine AWp_seqK fun K1 hK1 => ?_
  refine AWp_region ?_
  simp only [↓aops, ↓aop, ↓aWant, ↓aVal, bS, bA, AV.flat, AV.cl, AV.one, Value.oneCell', thenQ, blockQ, noGotoQ, ↓reduceIte, Nat.reduceEqDiff, reduceCtorEq, List.length_map]
  refine hK1 _ ?_
  try clear hK1 K1
  refine AWp_seqK fun K2 hK2 => ?_
  refine AWp_region ?_
  refine aops_chunk 3 fun C3 hC3 => ?_
  simp only [bL, ↓aops, ↓aop, ↓aWant, ↓aVal, bS, bA, AV.flat, AV.cl, AV.one, Value.oneCell', thenQ, blockQ, noGotoQ, ↓reduceIte, Nat.reduceEqDiff, reduceCtorEq, aBin, pt25, List.length_map]
  refine hC3 _ ?_
  try clear hC3 C3
  simp only [bL]
  refine aops_case 7 rfl (fun hc7 => ?_) (fun hc7 => ?_)
  · simp only [List.set_cons_zero, List.set_cons_succ]
    refine aops_chunk 4 fun C4 hC4 => ?_
    simp only [bL, ↓aops, ↓aop, ↓aWant, ↓aVal, bS, bA, AV.flat, AV.cl, AV.one, Value.oneCell', thenQ, blockQ, noGotoQ, ↓reduceIte, Nat.reduceEqDiff, reduceCtorEq, undef, aBin, aBool, List.length_map]
    refine hC4 _ ?_
    try clear hC4 C4
    simp only [bL]
    refine aops_case 11 rfl (fun hc11 => ?_) (fun hc11 => ?_)
    · simp only [List.set_cons_zero, List.set_cons_succ]
      refine aops_chunk 4 fun C5 hC5 => ?_
      simp only [bL, ↓aops, ↓aop, ↓aWant, ↓aVal, bS, bA, AV.flat, AV.cl, AV.one, Value.oneCell', thenQ, blockQ, noGotoQ, ↓reduceIte, Nat.reduceEqDiff, reduceCtorEq, undef, aField, fo91_0, Nat.reduceAdd, List.length_map]
      refine hC5 _ ?_
      try clear hC5 C5
      simp only [bL]
      refine aops_chunk 4 fun C6 hC6 => ?_
      simp only [bL, ↓aops, ↓aop, ↓aWant, ↓aVal, bS, bA, AV.flat, AV.cl, AV.one, Value.oneCell', thenQ, blockQ, noGotoQ, ↓reduceIte, Nat.reduceEqDiff, reduceCtorEq, undef, aLoad, ti88, getO, pack, Nat.reduceAdd, Nat.reduceLeDiff, aLenX, aLen, ln88, List.length_map, aBin, aBool]
      refine hC6 _ ?_
      try clear hC6 C6
      simp only [bL]
      simp only [↓aops, ↓aop, ↓aWant, ↓aVal, bS, bA, AV.flat, AV.cl, AV.one, Value.oneCell', thenQ, blockQ, noGotoQ, ↓reduceIte, Nat.reduceEqDiff, reduceCtorEq, List.length_map]
      refine hK2 _ ?_
      try clear hK2 K2
      refine AWp_ret ?_
      try simp only [thenQ, blockQ, noGotoQ, retQ, aRes, tupOf, bS, bA]
      refine ⟨_, enumO 0 (gObs (G.N) (G.V)), ⟨rfl, rfl⟩, .v _ _, gUnd (by omega) _ _, ?_, ?_, by omega⟩
      · refine Le.of_eq ?_
        refine congrArg (fun b => AV.v (.bool b)) ?_
        rw [GS.there, Bool.eq_iff_iff]
        simp only [decide_eq_true_eq, decide_eq_false_iff_not, Bool.false_eq_true, false_iff, ge_iff_le] at *
        try omega
      · first | (refine ⟨0, ?_, rfl⟩; first | rfl | (simp only [gObs, enumO, List.drop_succ_cons, List.drop_zero, List.map_append, List.map_cons, List.map_nil, List.length_append, List.length_cons, List.length_nil, GNode.cells, List.take_length, Nat.reduceAdd, Nat.zero_add]; done))
    · simp only [List.set_cons_zero, List.set_cons_succ]
      refine aops_chunk 4 fun C7 hC7 => ?_
      simp only [bL, ↓aops, ↓aop, ↓aWant, ↓aVal, bS, bA, AV.flat, AV.cl, AV.one, Value.oneCell', thenQ, blockQ, noGotoQ, ↓reduceIte, Nat.reduceEqDiff, reduceCtorEq, undef, aField, fo91_0, Nat.reduceAdd, List.length_map]
      refine hC7 _ ?_
      try clear hC7 C7
      simp only [bL]
      refine aops_chunk 4 fun C8 hC8 => ?_
      simp only [bL, ↓aops, ↓aop, ↓aWant, ↓aVal, bS, bA, AV.flat, AV.cl, AV.one, Value.oneCell', thenQ, blockQ, noGotoQ, ↓reduceIte, Nat.reduceEqDiff, reduceCtorEq, undef, aLoad, ti88, getO, pack, Nat.reduceAdd, Nat.reduceLeDiff, aLenX, aLen, ln88, List.length_map, aBin, aBool]
      refine hC8 _ ?_
      try clear hC8 C8
      simp only [bL]
      simp only [↓aops, ↓aop, ↓aWant, ↓aVal, bS, bA, AV.flat, AV.cl, AV.one, Value.oneCell', thenQ, blockQ, noGotoQ, ↓reduceIte, Nat.reduceEqDiff, reduceCtorEq, List.length_map]
      refine hK2 _ ?_
      try clear hK2 K2
      refine AWp_ret ?_
      try simp only [thenQ, blockQ, noGotoQ, retQ, aRes, tupOf, bS, bA]
      refine ⟨_, enumO 0 (gObs (G.N) (G.V)), ⟨rfl, rfl⟩, .v _ _, gUnd (by omega) _ _, ?_, ?_, by omega⟩
      · refine Le.of_eq ?_
        refine congrArg (fun b => AV.v (.bool b)) ?_
        rw [GS.there, Bool.eq_iff_iff]
        simp only [decide_eq_true_eq, decide_eq_false_iff_not, Bool.false_eq_true, false_iff, ge_iff_le] at *
        try omega
      · first | (refine ⟨0, ?_, rfl⟩; first | rfl | (simp only [gObs, enumO, List.drop_succ_cons, List.drop_zero, List.map_append, List.map_cons, List.map_nil, List.length_append, List.length_cons, List.length_nil, GNode.cells, List.take_length, Nat.reduceAdd, Nat.zero_add]; done))
  · simp only [List.set_cons_zero, List.set_cons_succ]
    cases hc7
theorem Len_calls (G : GS) : GCalls 17 [.ptr 0 0] (G.N) (G.V) (.v (.int .i64 (G.N.length : Int))) (G.N) (G.V) := by
  refine ACalls.clean (C := fun r os => r = _ ∧ os = _) ?_
  refine ACalls_intro Try.func17 (by kernel_rfl) rfl (by rw [Try.ntmps17]; simp) (fun hm => ?_)
  simp only [Try.ntmps17, Try.results17, List.length_cons, List.length_nil, Nat.reduceAdd, Nat.reduceSub, List.replicate_succ, List.replicate_zero, List.cons_append, List.nil_append]
  simp only [gObs, enumO, Nat.reduceAdd]
  refine AWp_seqK fun K1 hK1 => ?_
  refine AWp_region ?_
  simp only [↓aops, ↓aop, ↓aWant, ↓aVal, bS, bA, AV.flat, AV.cl, AV.one, Value.oneCell', thenQ, blockQ, noGotoQ, ↓reduceIte, Nat.reduceEqDiff, reduceCtorEq, List.length_map]
  refine hK1 _ ?_
  try clear hK1 K1
  refine AWp_seqK fun K2 hK2 => ?_
  refine AWp_seqK fun K3 hK3 => ?_
  refine AWp_region ?_
  simp only [↓aops, ↓aop, ↓aWant, ↓aVal, bS, bA, AV.flat, AV.cl, AV.one, Value.oneCell', thenQ, blockQ, noGotoQ, ↓reduceIte, Nat.reduceEqDiff, reduceCtorEq, aBin, pt25, List.length_map]
  refine hK3 _ ?_
  try clear hK3 K3
  refine AWp_cond rfl (fun hb4 => ?_) (fun hb4 => ?_)
  · skip
    cases hb4
  · skip
    refine AWp_skip ?_
    try simp only [thenQ, blockQ, noGotoQ]
    refine hK2 _ ?_
    try clear hK2 K2
    refine AWp_seqK fun K4 hK4 => ?_
    refine AWp_region ?_
    refine aops_chunk 4 fun C5 hC5 => ?_
    simp only [bL, ↓aops, ↓aop, ↓aWant, ↓aVal, bS, bA, AV.flat, AV.cl, AV.one, Value.oneCell', thenQ, blockQ, noGotoQ, ↓reduceIte, Nat.reduceEqDiff, reduceCtorEq, aField, fo91_0, Nat.reduceAdd, aLoad, ti88, getO, pack, Nat.reduceLeDiff, List.length_map]
    refine hC5 _ ?_
    try clear hC5 C5
    simp only [bL]
    simp only [↓aops, ↓aop, ↓aWant, ↓aVal, bS, bA, AV.flat, AV.cl, AV.one, Value.oneCell', thenQ, blockQ, noGotoQ, ↓reduceIte, Nat.reduceEqDiff, reduceCtorEq, getO, aLenX, aLen, ln88, List.length_map]
    refine hK4 _ ?_
    try clear hK4 K4
    refine AWp_ret ?_
    try simp only [thenQ, blockQ, noGotoQ, retQ, aRes, tupOf, bS, bA]
    refine ⟨_, enumO 0 (gObs (G.N) (G.V)), ⟨rfl, rfl⟩, .v _ _, gUnd (by omega) _ _, ?_, ?_, by omega⟩
    · refine Le.of_eq ?_
      rfl
    · first | (refine ⟨0, ?_, rfl⟩; first | rfl | (simp only [gObs, enumO, List.drop_succ_cons, List.drop_zero, List.map_append, List.map_cons, List.map_nil, List.length_append, List.length_cons, List.length_nil, GNode.cells, List.take_length, Nat.reduceAdd, Nat.zero_add]; done))
theorem Parts_calls (G : GS) (i : Int) (hs : ∀ x ∈ G.N, x.parts.length ≤ 1099511627776) : GCalls 20 [.ptr 0 0, .v (.int .i64 i)] (G.N) (G.V) (.sl 1 ((G.parts i).map intC)) (G.N) (G.V) := by
  refine ACalls.clean (C := fun r os => r = _ ∧ os = _) ?_
  refine ACalls_intro Try.func20 (by kernel_rfl) rfl (by rw [Try.ntmps20]; simp) (fun hm => ?_)
  simp only [Try.ntmps20, Try.results20, List.length_cons, List.length_nil, Nat.reduceAdd, Nat.reduceSub, List.replicate_succ, List.replicate_zero, List.cons_append, List.nil_append]
  simp only [gObs, enumO, Nat.reduceAdd]
  refine AWp_seqK fun K1 hK1 => ?_
  refine AWp_region ?_
  simp only [↓aops, ↓aop, ↓aWant, ↓aVal, bS, bA, AV.flat, AV.cl, AV.one, Value.oneCell', thenQ, blockQ, noGotoQ, ↓reduceIte, Nat.reduceEqDiff, reduceCtorEq, List.length_map, GNode.cells]
  refine hK1 _ ?_
  try clear hK1 K1
  refine AWp_seqK fun K2 hK2 => ?_
  refine AWp_seqK fun K3 hK3 => ?_
  refine AWp_region ?_
  refine aops_chunk 2 fun C4 hC4 => ?_
  simp only [bL, ↓aops, ↓aop, ↓aWant, ↓aVal, bS, bA, AV.flat, AV.cl, AV.one, Value.oneCell', thenQ, blockQ, noGotoQ, ↓reduceIte, Nat.reduceEqDiff, reduceCtorEq, List.length_map, GNode.cells]
  refine hC4 _ ?_
  try clear hC4 C4
  simp only [bL]
  refine aops_chunk 1 fun C5 hC5 => ?_
  simp only [bL, ↓aops, ↓aop, ↓aWant, ↓aVal, bS, bA, AV.flat, AV.cl, AV.one, Value.oneCell', thenQ, blockQ, noGotoQ, ↓reduceIte, Nat.reduceEqDiff, reduceCtorEq, aCallV, List.length_map, GNode.cells]
  refine GCalls.at (there_calls G i) (.cons (.v _) .nil) (.v _) (i := 0) (j := 1) (k := 2) rfl rfl rfl (by decide) (by decide) (by decide) (by first | omega | (simp only; omega)) (by first | omega | (simp only; omega)) (by first | omega | (simp only; omega)) ?_
  simp only [putO, Nat.reduceEqDiff, ↓reduceIte]
  try simp only [bS, bA, thenQ, blockQ, noGotoQ]
  refine hC5 _ ?_
  try clear hC5 C5
  simp only [bL]
  simp only [↓aops, ↓aop, ↓aWant, ↓aVal, bS, bA, AV.flat, AV.cl, AV.one, Value.oneCell', thenQ, blockQ, noGotoQ, ↓reduceIte, Nat.reduceEqDiff, reduceCtorEq, aUn, List.length_map, GNode.cells]
  refine hK3 _ ?_
  try clear hK3 K3
  refine AWp_cond rfl (fun hb8 => ?_) (fun hb8 => ?_)
  · skip
    have hi : ¬ (0 ≤ i ∧ i < (G.N.length : Int)) := by simp [GS.there] at hb8; omega
    refine AWp_seqK fun K6 hK6 => ?_
    refine AWp_region ?_
    simp only [↓aops, ↓aop, ↓aWant, ↓aVal, bS, bA, AV.flat, AV.cl, AV.one, Value.oneCell', thenQ, blockQ, noGotoQ, ↓reduceIte, Nat.reduceEqDiff, reduceCtorEq, List.length_map, GNode.cells]
    refine hK6 _ ?_
    try clear hK6 K6
    refine AWp_ret ?_
    try simp only [thenQ, blockQ, noGotoQ, retQ, aRes, tupOf, bS, bA]
    rw [GS.parts_out hi]
    refine ⟨_, enumO 0 (gObs (G.N) (G.V)), ⟨rfl, rfl⟩, .data (dataInts _), gUnd (by omega) _ _, ?_, ?_, by omega⟩
    · refine Le.slNil 1
    · first | (refine ⟨0, ?_, rfl⟩; first | rfl | (simp only [gObs, enumO, List.drop_succ_cons, List.drop_zero, List.map_append, List.map_cons, List.map_nil, List.length_append, List.length_cons, List.length_nil, GNode.cells, List.take_length, Nat.reduceAdd, Nat.zero_add]; done)) | (refine ⟨1, ?_, rfl⟩; first | rfl | (simp only [gObs, enumO, List.drop_succ_cons, List.drop_zero, List.map_append, List.map_cons, List.map_nil, List.length_append, List.length_cons, List.length_nil, GNode.cells, List.take_length, Nat.reduceAdd, Nat.zero_add]; done))
  · skip
    have hi : 0 ≤ i ∧ i < (G.N.length : Int) := by simp [GS.there] at hb8; omega
    obtain ⟨hi0, hi1⟩ := hi
    obtain ⟨x, hx⟩ := lookup_at G.N i ⟨hi0, hi1⟩
    have hxl := hs x (List.mem_of_getElem? hx)
    have hb1 : x.parts.length * 8 ≤ 140737488355328 := by omega
    have hb2 : x.parts.length ≤ maxLen := by simp only [maxLen]; omega
    have hon : ((x.parts.map intC).all fun y => y.all AV.one) = true := ints_one _
    refine AWp_skip ?_
    try simp only [thenQ, blockQ, noGotoQ]
    refine hK2 _ ?_
    try clear hK2 K2
    refine AWp_seqK fun K7 hK7 => ?_
    refine AWp_region ?_
    refine aops_chunk 4 fun C8 hC8 => ?_
    simp only [bL, ↓aops, ↓aop, ↓aWant, ↓aVal, bS, bA, AV.flat, AV.cl, AV.one, Value.oneCell', thenQ, blockQ, noGotoQ, ↓reduceIte, Nat.reduceEqDiff, reduceCtorEq, aField, fo91_0, Nat.reduceAdd, aLoad, ti88, getO, pack, Nat.reduceLeDiff, List.length_map, GNode.cells, hi0, hi1, hb1, hb2, hon, getD_map_cells hx]
    refine hC8 _ ?_
    try clear hC8 C8
    simp only [bL]
    refine aops_chunk 4 fun C9 hC9 => ?_
    simp only [bL, ↓aops, ↓aop, ↓aWant, ↓aVal, bS, bA, AV.flat, AV.cl, AV.one, Value.oneCell', thenQ, blockQ, noGotoQ, ↓reduceIte, Nat.reduceEqDiff, reduceCtorEq, getO, aIndexA, es88, Int.natCast_nonneg, Int.ofNat_lt, Int.toNat_natCast, List.length_map, Int.le_refl, Int.toNat_zero, Int.toNat_one, Int.reduceLE, aField, fo87_3, Nat.reduceAdd, aLoad, ti28, pack, Nat.reduceLeDiff, GNode.cells, hi0, hi1, hb1, hb2, hon, getD_map_cells hx]
    refine hC9 _ ?_
    try clear hC9 C9
    simp only [bL]
    simp only [↓aops, ↓aop, ↓aWant, ↓aVal, bS, bA, AV.flat, AV.cl, AV.one, Value.oneCell', thenQ, blockQ, noGotoQ, ↓reduceIte, Nat.reduceEqDiff, reduceCtorEq, aAppend, ei28, slIn, slAt, slOf, List.length_map, getO, putO, bL, Nat.reduceAdd, GNode.cells, hi0, hi1, hb1, hb2, hon, getD_map_cells hx]
    refine hK7 _ ?_
    try clear hK7 K7
    refine AWp_ret ?_
    try simp only [thenQ, blockQ, noGotoQ, retQ, aRes, tupOf, bS, bA]
    rw [GS.parts_in hi0 hx]
    refine ⟨_, enumO 0 (gObs (G.N) (G.V)), ⟨rfl, rfl⟩, .data (dataInts _), gUnd (by omega) _ _, ?_, ?_, by omega⟩
    · refine Le.oslL
    · first | (refine ⟨0, ?_, rfl⟩; first | rfl | (simp only [gObs, enumO, List.drop_succ_cons, List.drop_zero, List.map_append, List.map_cons, List.map_nil, List.length_append, List.length_cons, List.length_nil, GNode.cells, List.take_length, Nat.reduceAdd, Nat.zero_add]; done)) | (refine ⟨1, ?_, rfl⟩; first | rfl | (simp only [gObs, enumO, List.drop_succ_cons, List.drop_zero, List.map_append, List.map_cons, List.map_nil, List.length_append, List.length_cons, List.length_nil, GNode.cells, List.take_length, Nat.reduceAdd, Nat.zero_add]; done))
end Go.Proofs.Ytohdoloalolpfaa
