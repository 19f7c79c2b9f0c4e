import Derived.Test.YtohdoloalolpfaaGr6
namespace Go.Proofs.Ytohdoloalolpfaa
open Go Go.RowKit
set_option maxRecDepth 100000
set_option maxHeartbeats 1000000
set_option linter.unusedSimpArgs false
set_option linter.unusedVariables false
attribute [local irreducible] aops dRun
theorem AddNil (T : Ty) : APure Try.prog 18 [.v (.pointer none), .agg T.cells] (.tup [.v (.int .i64 0), .v (.int .i64 10)]) := by
  refine APure.mkL (.cons (.v _) (.cons T.dataAgg .nil)) (.tup (.cons (.v _) (.cons (.v _) .nil))) ?_
  refine ACalls_intro Try.func18 (by kernel_rfl) rfl (by rw [Try.ntmps18]; simp) (fun hm => ?_)
  simp only [Try.ntmps18, Try.results18, List.length_cons, List.length_nil, Nat.reduceAdd, Nat.reduceSub, List.replicate_succ, List.replicate_zero, List.cons_append, List.nil_append]
  refine AWp_seqK fun K1 hK1 => ?_
  refine AWp_region ?_
  simp only [↓aops, ↓aop, ↓aWant, ↓aVal, bS, bA, AV.flat, AV.cl, AV.one, Value.oneCell', thenQ, blockQ, ↓reduceIte, Nat.reduceEqDiff, reduceCtorEq, tyX]
  refine hK1 _ ?_
  try clear hK1 K1
  refine AWp_seqK fun K2 hK2 => ?_
  refine AWp_block ?_
  refine AWp_seqK fun K3 hK3 => ?_
  refine AWp_region ?_
  simp only [↓aops, ↓aop, ↓aWant, ↓aVal, bS, bA, AV.flat, AV.cl, AV.one, Value.oneCell', thenQ, blockQ, ↓reduceIte, Nat.reduceEqDiff, reduceCtorEq, aBin, pt25, tyX]
  refine hK3 _ ?_
  try clear hK3 K3
  refine AWp_cond rfl (fun hb6 => ?_) (fun hb6 => ?_)
  · skip
    refine AWp_seqK fun K4 hK4 => ?_
    refine AWp_region ?_
    simp only [↓aops, ↓aop, ↓aWant, ↓aVal, bS, bA, AV.flat, AV.cl, AV.one, Value.oneCell', thenQ, blockQ, ↓reduceIte, Nat.reduceEqDiff, reduceCtorEq, tyX]
    refine hK4 _ ?_
    try clear hK4 K4
    refine AWp_ret ?_
    simp only [thenQ, blockQ, retQ, aRes, tupOf, bS, bA]
    exact Le.refl _
  · skip
    cases hb6
theorem VarNil (i : Int) : APure Try.prog 26 [.v (.pointer none), .v (.int .i64 i)] (.tup [.v (.int .i64 0), .v (.bool false)]) := by
  refine APure.mkL (.cons (.v _) (.cons (.v _) .nil)) (.tup (.cons (.v _) (.cons (.v _) .nil))) ?_
  refine ACalls_intro Try.func26 (by kernel_rfl) rfl (by rw [Try.ntmps26]; simp) (fun hm => ?_)
  simp only [Try.ntmps26, Try.results26, List.length_cons, List.length_nil, Nat.reduceAdd, Nat.reduceSub, List.replicate_succ, List.replicate_zero, List.cons_append, List.nil_append]
  refine AWp_seqK fun K1 hK1 => ?_
  refine AWp_region ?_
  simp only [↓aops, ↓aop, ↓aWant, ↓aVal, bS, bA, AV.flat, AV.cl, AV.one, Value.oneCell', thenQ, blockQ, ↓reduceIte, Nat.reduceEqDiff, reduceCtorEq, tyX]
  refine hK1 _ ?_
  try clear hK1 K1
  refine AWp_seqK fun K2 hK2 => ?_
  refine AWp_seqK fun K3 hK3 => ?_
  refine AWp_region ?_
  simp only [↓aops, ↓aop, ↓aWant, ↓aVal, bS, bA, AV.flat, AV.cl, AV.one, Value.oneCell', thenQ, blockQ, ↓reduceIte, Nat.reduceEqDiff, reduceCtorEq, aBin, pt25, tyX]
  refine hK3 _ ?_
  try clear hK3 K3
  refine AWp_cond rfl (fun hb9 => ?_) (fun hb9 => ?_)
  · skip
    refine AWp_seqK fun K4 hK4 => ?_
    refine AWp_region ?_
    simp only [↓aops, ↓aop, ↓aWant, ↓aVal, bS, bA, AV.flat, AV.cl, AV.one, Value.oneCell', thenQ, blockQ, ↓reduceIte, Nat.reduceEqDiff, reduceCtorEq, tyX]
    refine hK4 _ ?_
    try clear hK4 K4
    refine AWp_ret ?_
    simp only [thenQ, blockQ, retQ, aRes, tupOf, bS, bA]
    exact Le.refl _
  · skip
    cases hb9
theorem thereNil (i : Int) : APure Try.prog 52 [.v (.pointer none), .v (.int .i64 i)] (.v (.bool false)) := by
  refine APure.mkL (.cons (.v _) (.cons (.v _) .nil)) (.v _) ?_
  refine ACalls_intro Try.func52 (by kernel_rfl) rfl (by rw [Try.ntmps52]; simp) (fun hm => ?_)
  simp only [Try.ntmps52, Try.results52, List.length_cons, List.length_nil, Nat.reduceAdd, Nat.reduceSub, List.replicate_succ, List.replicate_zero, List.cons_append, List.nil_append]
  refine AWp_seqK fun K1 hK1 => ?_
  refine AWp_region ?_
  simp only [↓aops, ↓aop, ↓aWant, ↓aVal, bS, bA, AV.flat, AV.cl, AV.one, Value.oneCell', thenQ, blockQ, ↓reduceIte, Nat.reduceEqDiff, reduceCtorEq, tyX]
  refine hK1 _ ?_
  try clear hK1 K1
  refine AWp_seqK fun K2 hK2 => ?_
  refine AWp_region ?_
  refine aops_chunk 3 fun C3 hC3 => ?_
  simp only [bL, ↓aops, ↓aop, ↓aWant, ↓aVal, bS, bA, AV.flat, AV.cl, AV.one, Value.oneCell', thenQ, blockQ, ↓reduceIte, Nat.reduceEqDiff, reduceCtorEq, aBin, pt25, tyX]
  refine hC3 _ ?_
  try clear hC3 C3
  simp only [bL]
  refine aops_case 7 rfl (fun hc7 => ?_) (fun hc7 => ?_)
  · simp only [List.set_cons_zero, List.set_cons_succ]
    cases hc7
  · simp only [List.set_cons_zero, List.set_cons_succ]
    refine aops_chunk 5 fun C4 hC4 => ?_
    simp only [bL, ↓aops, ↓aop, ↓aWant, ↓aVal, bS, bA, AV.flat, AV.cl, AV.one, Value.oneCell', thenQ, blockQ, ↓reduceIte, Nat.reduceEqDiff, reduceCtorEq, undef, aBin, aBool, tyX]
    refine hC4 _ ?_
    try clear hC4 C4
    simp only [bL]
    refine aops_chunk 4 fun C5 hC5 => ?_
    simp only [bL, ↓aops, ↓aop, ↓aWant, ↓aVal, bS, bA, AV.flat, AV.cl, AV.one, Value.oneCell', thenQ, blockQ, ↓reduceIte, Nat.reduceEqDiff, reduceCtorEq, undef, aField, fo91_0, Nat.reduceAdd, aLoad, ti88, getO, pack, Nat.reduceLeDiff, tyX]
    refine hC5 _ ?_
    try clear hC5 C5
    simp only [bL]
    simp only [↓aops, ↓aop, ↓aWant, ↓aVal, bS, bA, AV.flat, AV.cl, AV.one, Value.oneCell', thenQ, blockQ, ↓reduceIte, Nat.reduceEqDiff, reduceCtorEq, bL, undef, aLen, ln88, List.length_map, aBin, aBool, tyX]
    refine hK2 _ ?_
    try clear hK2 K2
    refine AWp_ret ?_
    simp only [thenQ, blockQ, retQ, aRes, tupOf, bS, bA]
    exact Le.refl _
theorem KindNil (i : Int) : APure Try.prog 25 [.v (.pointer none), .v (.int .i64 i)] (.v (.int .i64 0)) := by
  refine APure.mkL (.cons (.v _) (.cons (.v _) .nil)) (.v _) ?_
  refine ACalls_intro Try.func25 (by kernel_rfl) rfl (by rw [Try.ntmps25]; simp) (fun hm => ?_)
  simp only [Try.ntmps25, Try.results25, List.length_cons, List.length_nil, Nat.reduceAdd, Nat.reduceSub, List.replicate_succ, List.replicate_zero, List.cons_append, List.nil_append]
  refine AWp_seqK fun K1 hK1 => ?_
  refine AWp_region ?_
  simp only [↓aops, ↓aop, ↓aWant, ↓aVal, bS, bA, AV.flat, AV.cl, AV.one, Value.oneCell', thenQ, blockQ, ↓reduceIte, Nat.reduceEqDiff, reduceCtorEq, tyX]
  refine hK1 _ ?_
  try clear hK1 K1
  refine AWp_seqK fun K2 hK2 => ?_
  refine AWp_seqK fun K3 hK3 => ?_
  refine AWp_region ?_
  refine aops_chunk 2 fun C4 hC4 => ?_
  simp only [bL, ↓aops, ↓aop, ↓aWant, ↓aVal, bS, bA, AV.flat, AV.cl, AV.one, Value.oneCell', thenQ, blockQ, ↓reduceIte, Nat.reduceEqDiff, reduceCtorEq, tyX]
  refine hC4 _ ?_
  try clear hC4 C4
  simp only [bL]
  refine aops_chunk 1 fun C5 hC5 => ?_
  simp only [bL, ↓aops, ↓aop, ↓aWant, ↓aVal, bS, bA, AV.flat, AV.cl, AV.one, Value.oneCell', thenQ, blockQ, ↓reduceIte, Nat.reduceEqDiff, reduceCtorEq, aCallV, tyX]
  refine APure.call (thereNil i) ?_
  try simp only [bS, bA, thenQ, blockQ]
  refine hC5 _ ?_
  try clear hC5 C5
  simp only [bL]
  simp only [↓aops, ↓aop, ↓aWant, ↓aVal, bS, bA, AV.flat, AV.cl, AV.one, Value.oneCell', thenQ, blockQ, ↓reduceIte, Nat.reduceEqDiff, reduceCtorEq, aUn, tyX]
  refine hK3 _ ?_
  try clear hK3 K3
  refine AWp_cond rfl (fun hb8 => ?_) (fun hb8 => ?_)
  · skip
    refine AWp_seqK fun K6 hK6 => ?_
    refine AWp_region ?_
    simp only [↓aops, ↓aop, ↓aWant, ↓aVal, bS, bA, AV.flat, AV.cl, AV.one, Value.oneCell', thenQ, blockQ, ↓reduceIte, Nat.reduceEqDiff, reduceCtorEq, tyX]
    refine hK6 _ ?_
    try clear hK6 K6
    refine AWp_ret ?_
    simp only [thenQ, blockQ, retQ, aRes, tupOf, bS, bA]
    exact Le.refl _
  · skip
    cases hb8
theorem NameNil (i : Int) : APure Try.prog 24 [.v (.pointer none), .v (.int .i64 i)] (.tup [.v (.int .i64 0), .v (.bool false)]) := by
  refine APure.mkL (.cons (.v _) (.cons (.v _) .nil)) (.tup (.cons (.v _) (.cons (.v _) .nil))) ?_
  refine ACalls_intro Try.func24 (by kernel_rfl) rfl (by rw [Try.ntmps24]; simp) (fun hm => ?_)
  simp only [Try.ntmps24, Try.results24, List.length_cons, List.length_nil, Nat.reduceAdd, Nat.reduceSub, List.replicate_succ, List.replicate_zero, List.cons_append, List.nil_append]
  refine AWp_seqK fun K1 hK1 => ?_
  refine AWp_region ?_
  simp only [↓aops, ↓aop, ↓aWant, ↓aVal, bS, bA, AV.flat, AV.cl, AV.one, Value.oneCell', thenQ, blockQ, ↓reduceIte, Nat.reduceEqDiff, reduceCtorEq, tyX]
  refine hK1 _ ?_
  try clear hK1 K1
  refine AWp_seqK fun K2 hK2 => ?_
  refine AWp_seqK fun K3 hK3 => ?_
  refine AWp_region ?_
  refine aops_chunk 2 fun C4 hC4 => ?_
  simp only [bL, ↓aops, ↓aop, ↓aWant, ↓aVal, bS, bA, AV.flat, AV.cl, AV.one, Value.oneCell', thenQ, blockQ, ↓reduceIte, Nat.reduceEqDiff, reduceCtorEq, tyX]
  refine hC4 _ ?_
  try clear hC4 C4
  simp only [bL]
  refine aops_chunk 1 fun C5 hC5 => ?_
  simp only [bL, ↓aops, ↓aop, ↓aWant, ↓aVal, bS, bA, AV.flat, AV.cl, AV.one, Value.oneCell', thenQ, blockQ, ↓reduceIte, Nat.reduceEqDiff, reduceCtorEq, aCallV, tyX]
  refine APure.call (KindNil i) ?_
  try simp only [bS, bA, thenQ, blockQ]
  refine hC5 _ ?_
  try clear hC5 C5
  simp only [bL]
  simp only [↓aops, ↓aop, ↓aWant, ↓aVal, bS, bA, AV.flat, AV.cl, AV.one, Value.oneCell', thenQ, blockQ, ↓reduceIte, Nat.reduceEqDiff, reduceCtorEq, aBin, tyX]
  refine hK3 _ ?_
  try clear hK3 K3
  refine AWp_cond rfl (fun hb9 => ?_) (fun hb9 => ?_)
  · skip
    refine AWp_seqK fun K6 hK6 => ?_
    refine AWp_region ?_
    simp only [↓aops, ↓aop, ↓aWant, ↓aVal, bS, bA, AV.flat, AV.cl, AV.one, Value.oneCell', thenQ, blockQ, ↓reduceIte, Nat.reduceEqDiff, reduceCtorEq, tyX]
    refine hK6 _ ?_
    try clear hK6 K6
    refine AWp_ret ?_
    simp only [thenQ, blockQ, retQ, aRes, tupOf, bS, bA]
    exact Le.refl _
  · skip
    simp at hb9
theorem TypeNil (i k : Int) : APure Try.prog 14 [.v (.pointer none), .v (.int .i64 i), .v (.int .i64 k)] (.tup [.agg (Ty.mk 0 0 []).cells, .v (.int .i64 10)]) := by
  refine APure.mkL (.cons (.v _) (.cons (.v _) (.cons (.v _) .nil))) (.tup (.cons (Ty.dataAgg _) (.cons (.v _) .nil))) ?_
  refine ACalls_intro Try.func14 (by kernel_rfl) rfl (by rw [Try.ntmps14]; simp) (fun hm => ?_)
  simp only [Try.ntmps14, Try.results14, List.length_cons, List.length_nil, Nat.reduceAdd, Nat.reduceSub, List.replicate_succ, List.replicate_zero, List.cons_append, List.nil_append]
  refine AWp_seqK fun K1 hK1 => ?_
  refine AWp_region ?_
  simp only [↓aops, ↓aop, ↓aWant, ↓aVal, bS, bA, AV.flat, AV.cl, AV.one, Value.oneCell', thenQ, blockQ, ↓reduceIte, Nat.reduceEqDiff, reduceCtorEq, zc32, bL, tyX]
  refine hK1 _ ?_
  try clear hK1 K1
  refine AWp_seqK fun K2 hK2 => ?_
  refine AWp_block ?_
  refine AWp_seqK fun K3 hK3 => ?_
  refine AWp_region ?_
  simp only [↓aops, ↓aop, ↓aWant, ↓aVal, bS, bA, AV.flat, AV.cl, AV.one, Value.oneCell', thenQ, blockQ, ↓reduceIte, Nat.reduceEqDiff, reduceCtorEq, aLoad, ti25, getO, pack, bL, Nat.reduceAdd, Nat.reduceLeDiff, aBin, pt25, tyX]
  refine hK3 _ ?_
  try clear hK3 K3
  refine AWp_cond rfl (fun hb9 => ?_) (fun hb9 => ?_)
  · skip
    refine AWp_seqK fun K4 hK4 => ?_
    refine AWp_region ?_
    simp only [↓aops, ↓aop, ↓aWant, ↓aVal, bS, bA, AV.flat, AV.cl, AV.one, Value.oneCell', thenQ, blockQ, ↓reduceIte, Nat.reduceEqDiff, reduceCtorEq, aBuild, zc32, pc32, aFill, splice, bL, Nat.reduceAdd, Nat.reduceLeDiff, aStore, ti32, getO, putO, tyX]
    refine hK4 _ ?_
    try clear hK4 K4
    refine AWp_ret ?_
    simp only [thenQ, blockQ, retQ, aRes, tupOf, bS, bA, aLoad, getO, pack, bL, Nat.reduceAdd, Nat.reduceLeDiff, Nat.reduceEqDiff, ↓reduceIte, ti32, tyX]
    exact Le.tup ⟨Le.agg (by rw [Ty.cells_eq]; exact ⟨.refl _, .refl _, Le.slNil 3, trivial⟩), .refl _, trivial⟩
  · skip
    cases hb9
theorem PartsNil (i : Int) : APure Try.prog 20 [.v (.pointer none), .v (.int .i64 i)] (.sl 1 (([] : List Int).map intC)) := by
  refine APure.mkL (.cons (.v _) (.cons (.v _) .nil)) ((dataInts _)) ?_
  refine ACalls_intro Try.func20 (by kernel_rfl) rfl (by rw [Try.ntmps20]; simp) (fun hm => ?_)
  simp only [Try.ntmps20, Try.results20, List.length_cons, List.length_nil, Nat.reduceAdd, Nat.reduceSub, List.replicate_succ, List.replicate_zero, List.cons_append, List.nil_append]
  refine AWp_seqK fun K1 hK1 => ?_
  refine AWp_region ?_
  simp only [↓aops, ↓aop, ↓aWant, ↓aVal, bS, bA, AV.flat, AV.cl, AV.one, Value.oneCell', thenQ, blockQ, ↓reduceIte, Nat.reduceEqDiff, reduceCtorEq, tyX]
  refine hK1 _ ?_
  try clear hK1 K1
  refine AWp_seqK fun K2 hK2 => ?_
  refine AWp_seqK fun K3 hK3 => ?_
  refine AWp_region ?_
  refine aops_chunk 2 fun C4 hC4 => ?_
  simp only [bL, ↓aops, ↓aop, ↓aWant, ↓aVal, bS, bA, AV.flat, AV.cl, AV.one, Value.oneCell', thenQ, blockQ, ↓reduceIte, Nat.reduceEqDiff, reduceCtorEq, tyX]
  refine hC4 _ ?_
  try clear hC4 C4
  simp only [bL]
  refine aops_chunk 1 fun C5 hC5 => ?_
  simp only [bL, ↓aops, ↓aop, ↓aWant, ↓aVal, bS, bA, AV.flat, AV.cl, AV.one, Value.oneCell', thenQ, blockQ, ↓reduceIte, Nat.reduceEqDiff, reduceCtorEq, aCallV, tyX]
  refine APure.call (thereNil i) ?_
  try simp only [bS, bA, thenQ, blockQ]
  refine hC5 _ ?_
  try clear hC5 C5
  simp only [bL]
  simp only [↓aops, ↓aop, ↓aWant, ↓aVal, bS, bA, AV.flat, AV.cl, AV.one, Value.oneCell', thenQ, blockQ, ↓reduceIte, Nat.reduceEqDiff, reduceCtorEq, aUn, tyX]
  refine hK3 _ ?_
  try clear hK3 K3
  refine AWp_cond rfl (fun hb8 => ?_) (fun hb8 => ?_)
  · skip
    refine AWp_seqK fun K6 hK6 => ?_
    refine AWp_region ?_
    simp only [↓aops, ↓aop, ↓aWant, ↓aVal, bS, bA, AV.flat, AV.cl, AV.one, Value.oneCell', thenQ, blockQ, ↓reduceIte, Nat.reduceEqDiff, reduceCtorEq, tyX]
    refine hK6 _ ?_
    try clear hK6 K6
    refine AWp_ret ?_
    simp only [thenQ, blockQ, retQ, aRes, tupOf, bS, bA]
    exact Le.slNil 1
  · skip
    cases hb8
theorem VarsNil : APure Try.prog 22 [.v (.pointer none)] (.sl 1 (([] : List Int).map intC)) := by
  refine APure.mkL (.cons (.v _) .nil) ((dataInts _)) ?_
  refine ACalls_intro Try.func22 (by kernel_rfl) rfl (by rw [Try.ntmps22]; simp) (fun hm => ?_)
  simp only [Try.ntmps22, Try.results22, List.length_cons, List.length_nil, Nat.reduceAdd, Nat.reduceSub, List.replicate_succ, List.replicate_zero, List.cons_append, List.nil_append]
  refine AWp_seqK fun K1 hK1 => ?_
  refine AWp_region ?_
  simp only [↓aops, ↓aop, ↓aWant, ↓aVal, bS, bA, AV.flat, AV.cl, AV.one, Value.oneCell', thenQ, blockQ, ↓reduceIte, Nat.reduceEqDiff, reduceCtorEq, tyX]
  refine hK1 _ ?_
  try clear hK1 K1
  refine AWp_seqK fun K2 hK2 => ?_
  refine AWp_seqK fun K3 hK3 => ?_
  refine AWp_region ?_
  simp only [↓aops, ↓aop, ↓aWant, ↓aVal, bS, bA, AV.flat, AV.cl, AV.one, Value.oneCell', thenQ, blockQ, ↓reduceIte, Nat.reduceEqDiff, reduceCtorEq, aBin, pt25, tyX]
  refine hK3 _ ?_
  try clear hK3 K3
  refine AWp_cond rfl (fun hb4 => ?_) (fun hb4 => ?_)
  · skip
    refine AWp_seqK fun K4 hK4 => ?_
    refine AWp_region ?_
    simp only [↓aops, ↓aop, ↓aWant, ↓aVal, bS, bA, AV.flat, AV.cl, AV.one, Value.oneCell', thenQ, blockQ, ↓reduceIte, Nat.reduceEqDiff, reduceCtorEq, tyX]
    refine hK4 _ ?_
    try clear hK4 K4
    refine AWp_ret ?_
    simp only [thenQ, blockQ, retQ, aRes, tupOf, bS, bA]
    exact Le.slNil 1
  · skip
    cases hb4
theorem LenNil : APure Try.prog 17 [.v (.pointer none)] (.v (.int .i64 0)) := by
  refine APure.mkL (.cons (.v _) .nil) (.v _) ?_
  refine ACalls_intro Try.func17 (by kernel_rfl) rfl (by rw [Try.ntmps17]; simp) (fun hm => ?_)
  simp only [Try.ntmps17, Try.results17, List.length_cons, List.length_nil, Nat.reduceAdd, Nat.reduceSub, List.replicate_succ, List.replicate_zero, List.cons_append, List.nil_append]
  refine AWp_seqK fun K1 hK1 => ?_
  refine AWp_region ?_
  simp only [↓aops, ↓aop, ↓aWant, ↓aVal, bS, bA, AV.flat, AV.cl, AV.one, Value.oneCell', thenQ, blockQ, ↓reduceIte, Nat.reduceEqDiff, reduceCtorEq, tyX]
  refine hK1 _ ?_
  try clear hK1 K1
  refine AWp_seqK fun K2 hK2 => ?_
  refine AWp_seqK fun K3 hK3 => ?_
  refine AWp_region ?_
  simp only [↓aops, ↓aop, ↓aWant, ↓aVal, bS, bA, AV.flat, AV.cl, AV.one, Value.oneCell', thenQ, blockQ, ↓reduceIte, Nat.reduceEqDiff, reduceCtorEq, aBin, pt25, tyX]
  refine hK3 _ ?_
  try clear hK3 K3
  refine AWp_cond rfl (fun hb4 => ?_) (fun hb4 => ?_)
  · skip
    refine AWp_seqK fun K4 hK4 => ?_
    refine AWp_region ?_
    simp only [↓aops, ↓aop, ↓aWant, ↓aVal, bS, bA, AV.flat, AV.cl, AV.one, Value.oneCell', thenQ, blockQ, ↓reduceIte, Nat.reduceEqDiff, reduceCtorEq, tyX]
    refine hK4 _ ?_
    try clear hK4 K4
    refine AWp_ret ?_
    simp only [thenQ, blockQ, retQ, aRes, tupOf, bS, bA]
    exact Le.refl _
  · skip
    cases hb4
theorem GraphNone_pure (T : Ty) (i k : Int) : APure Try.prog 6 [.agg T.cells, .v (.int .i64 i), .v (.int .i64 k)] (.v (.bool true)) := by
  refine APure.mkL (.cons T.dataAgg (.cons (.v _) (.cons (.v _) .nil))) (.v _) ?_
  refine ACalls_intro Try.func6 (by kernel_rfl) rfl (by rw [Try.ntmps6]; simp) (fun hm => ?_)
  simp only [Try.ntmps6, Try.results6, List.length_cons, List.length_nil, Nat.reduceAdd, Nat.reduceSub, List.replicate_succ, List.replicate_zero, List.cons_append, List.nil_append]
  refine AWp_seqK fun K1 hK1 => ?_
  refine AWp_region ?_
  simp only [↓aops, ↓aop, ↓aWant, ↓aVal, bS, bA, AV.flat, AV.cl, AV.one, Value.oneCell', thenQ, blockQ, ↓reduceIte, Nat.reduceEqDiff, reduceCtorEq, tyX, bL]
  refine hK1 _ ?_
  try clear hK1 K1
  refine AWp_seqK fun K2 hK2 => ?_
  refine AWp_seqK fun K3 hK3 => ?_
  refine AWp_region ?_
  refine aops_chunk 1 fun C4 hC4 => ?_
  simp only [bL, ↓aops, ↓aop, ↓aWant, ↓aVal, bS, bA, AV.flat, AV.cl, AV.one, Value.oneCell', thenQ, blockQ, ↓reduceIte, Nat.reduceEqDiff, reduceCtorEq, aLoad, ti32, getO, pack, Nat.reduceAdd, Nat.reduceLeDiff, tyX]
  refine hC4 _ ?_
  try clear hC4 C4
  simp only [bL]
  simp only [↓aops, ↓aop, ↓aWant, ↓aVal, bS, bA, AV.flat, AV.cl, AV.one, Value.oneCell', thenQ, blockQ, ↓reduceIte, Nat.reduceEqDiff, reduceCtorEq, aCallV, bL, tyX]
  refine APure.call (Great3_pure T) ?_
  try simp only [bS, bA, thenQ, blockQ]
  refine hK3 _ ?_
  try clear hK3 K3
  refine AWp_cond rfl (fun hb17 => ?_) (fun hb17 => ?_)
  · skip
    refine AWp_seqK fun K5 hK5 => ?_
    refine AWp_region ?_
    refine aops_chunk 1 fun C6 hC6 => ?_
    simp only [bL, ↓aops, ↓aop, ↓aWant, ↓aVal, bS, bA, AV.flat, AV.cl, AV.one, Value.oneCell', thenQ, blockQ, ↓reduceIte, Nat.reduceEqDiff, reduceCtorEq, aCallV, tyX]
    refine APure.call (awake_pure) ?_
    try simp only [bS, bA, thenQ, blockQ]
    refine hC6 _ ?_
    try clear hC6 C6
    simp only [bL]
    simp only [↓aops, ↓aop, ↓aWant, ↓aVal, bS, bA, AV.flat, AV.cl, AV.one, Value.oneCell', thenQ, blockQ, ↓reduceIte, Nat.reduceEqDiff, reduceCtorEq, tyX, bL]
    refine hK5 _ ?_
    try clear hK5 K5
    refine AWp_ret ?_
    simp only [thenQ, blockQ, retQ, aRes, tupOf, bS, bA]
    exact Le.refl _
  · skip
    refine AWp_skip ?_
    simp only [thenQ, blockQ]
    refine hK2 _ ?_
    try clear hK2 K2
    refine AWp_seqK fun K7 hK7 => ?_
    refine AWp_region ?_
    simp only [↓aops, ↓aop, ↓aWant, ↓aVal, bS, bA, AV.flat, AV.cl, AV.one, Value.oneCell', thenQ, blockQ, ↓reduceIte, Nat.reduceEqDiff, reduceCtorEq, tyX, bL]
    refine hK7 _ ?_
    try clear hK7 K7
    refine AWp_seqK fun K8 hK8 => ?_
    refine AWp_region ?_
    refine aops_chunk 2 fun C9 hC9 => ?_
    simp only [bL, ↓aops, ↓aop, ↓aWant, ↓aVal, bS, bA, AV.flat, AV.cl, AV.one, Value.oneCell', thenQ, blockQ, ↓reduceIte, Nat.reduceEqDiff, reduceCtorEq, aLoad, ti32, getO, pack, Nat.reduceAdd, Nat.reduceLeDiff, tyX]
    refine hC9 _ ?_
    try clear hC9 C9
    simp only [bL]
    refine aops_chunk 1 fun C10 hC10 => ?_
    simp only [bL, ↓aops, ↓aop, ↓aWant, ↓aVal, bS, bA, AV.flat, AV.cl, AV.one, Value.oneCell', thenQ, blockQ, ↓reduceIte, Nat.reduceEqDiff, reduceCtorEq, aCallV, tyX]
    refine APure.call (AddNil T) ?_
    try simp only [bS, bA, thenQ, blockQ]
    refine hC10 _ ?_
    try clear hC10 C10
    simp only [bL]
    refine aops_chunk 2 fun C11 hC11 => ?_
    simp only [bL, ↓aops, ↓aop, ↓aWant, ↓aVal, bS, bA, AV.flat, AV.cl, AV.one, Value.oneCell', thenQ, blockQ, ↓reduceIte, Nat.reduceEqDiff, reduceCtorEq, aExtract, Nat.reduceAdd, Nat.reduceLT, Nat.zero_lt_succ, tyX]
    refine hC11 _ ?_
    try clear hC11 C11
    simp only [bL]
    refine aops_chunk 2 fun C12 hC12 => ?_
    simp only [bL, ↓aops, ↓aop, ↓aWant, ↓aVal, bS, bA, AV.flat, AV.cl, AV.one, Value.oneCell', thenQ, blockQ, ↓reduceIte, Nat.reduceEqDiff, reduceCtorEq, aExtract, Nat.reduceAdd, Nat.reduceLT, Nat.zero_lt_succ, tyX]
    refine hC12 _ ?_
    try clear hC12 C12
    simp only [bL]
    simp only [↓aops, ↓aop, ↓aWant, ↓aVal, bS, bA, AV.flat, AV.cl, AV.one, Value.oneCell', thenQ, blockQ, ↓reduceIte, Nat.reduceEqDiff, reduceCtorEq, tyX, bL]
    refine hK8 _ ?_
    try clear hK8 K8
    refine AWp_seqK fun K13 hK13 => ?_
    refine AWp_region ?_
    refine aops_chunk 2 fun C14 hC14 => ?_
    simp only [bL, ↓aops, ↓aop, ↓aWant, ↓aVal, bS, bA, AV.flat, AV.cl, AV.one, Value.oneCell', thenQ, blockQ, ↓reduceIte, Nat.reduceEqDiff, reduceCtorEq, tyX]
    refine hC14 _ ?_
    try clear hC14 C14
    simp only [bL]
    refine aops_chunk 1 fun C15 hC15 => ?_
    simp only [bL, ↓aops, ↓aop, ↓aWant, ↓aVal, bS, bA, AV.flat, AV.cl, AV.one, Value.oneCell', thenQ, blockQ, ↓reduceIte, Nat.reduceEqDiff, reduceCtorEq, aCallV, tyX]
    refine APure.call (VarNil i) ?_
    try simp only [bS, bA, thenQ, blockQ]
    refine hC15 _ ?_
    try clear hC15 C15
    simp only [bL]
    refine aops_chunk 2 fun C16 hC16 => ?_
    simp only [bL, ↓aops, ↓aop, ↓aWant, ↓aVal, bS, bA, AV.flat, AV.cl, AV.one, Value.oneCell', thenQ, blockQ, ↓reduceIte, Nat.reduceEqDiff, reduceCtorEq, aExtract, Nat.reduceAdd, Nat.reduceLT, Nat.zero_lt_succ, tyX]
    refine hC16 _ ?_
    try clear hC16 C16
    simp only [bL]
    refine aops_chunk 2 fun C17 hC17 => ?_
    simp only [bL, ↓aops, ↓aop, ↓aWant, ↓aVal, bS, bA, AV.flat, AV.cl, AV.one, Value.oneCell', thenQ, blockQ, ↓reduceIte, Nat.reduceEqDiff, reduceCtorEq, aExtract, Nat.reduceAdd, Nat.reduceLT, Nat.zero_lt_succ, tyX]
    refine hC17 _ ?_
    try clear hC17 C17
    simp only [bL]
    simp only [↓aops, ↓aop, ↓aWant, ↓aVal, bS, bA, AV.flat, AV.cl, AV.one, Value.oneCell', thenQ, blockQ, ↓reduceIte, Nat.reduceEqDiff, reduceCtorEq, tyX, bL]
    refine hK13 _ ?_
    try clear hK13 K13
    refine AWp_seqK fun K18 hK18 => ?_
    refine AWp_region ?_
    refine aops_chunk 2 fun C19 hC19 => ?_
    simp only [bL, ↓aops, ↓aop, ↓aWant, ↓aVal, bS, bA, AV.flat, AV.cl, AV.one, Value.oneCell', thenQ, blockQ, ↓reduceIte, Nat.reduceEqDiff, reduceCtorEq, tyX]
    refine hC19 _ ?_
    try clear hC19 C19
    simp only [bL]
    refine aops_chunk 1 fun C20 hC20 => ?_
    simp only [bL, ↓aops, ↓aop, ↓aWant, ↓aVal, bS, bA, AV.flat, AV.cl, AV.one, Value.oneCell', thenQ, blockQ, ↓reduceIte, Nat.reduceEqDiff, reduceCtorEq, aCallV, tyX]
    refine APure.call (NameNil i) ?_
    try simp only [bS, bA, thenQ, blockQ]
    refine hC20 _ ?_
    try clear hC20 C20
    simp only [bL]
    refine aops_chunk 2 fun C21 hC21 => ?_
    simp only [bL, ↓aops, ↓aop, ↓aWant, ↓aVal, bS, bA, AV.flat, AV.cl, AV.one, Value.oneCell', thenQ, blockQ, ↓reduceIte, Nat.reduceEqDiff, reduceCtorEq, aExtract, Nat.reduceAdd, Nat.reduceLT, Nat.zero_lt_succ, tyX]
    refine hC21 _ ?_
    try clear hC21 C21
    simp only [bL]
    refine aops_chunk 2 fun C22 hC22 => ?_
    simp only [bL, ↓aops, ↓aop, ↓aWant, ↓aVal, bS, bA, AV.flat, AV.cl, AV.one, Value.oneCell', thenQ, blockQ, ↓reduceIte, Nat.reduceEqDiff, reduceCtorEq, aExtract, Nat.reduceAdd, Nat.reduceLT, Nat.zero_lt_succ, tyX]
    refine hC22 _ ?_
    try clear hC22 C22
    simp only [bL]
    simp only [↓aops, ↓aop, ↓aWant, ↓aVal, bS, bA, AV.flat, AV.cl, AV.one, Value.oneCell', thenQ, blockQ, ↓reduceIte, Nat.reduceEqDiff, reduceCtorEq, tyX, bL]
    refine hK18 _ ?_
    try clear hK18 K18
    refine AWp_seqK fun K23 hK23 => ?_
    refine AWp_region ?_
    refine aops_chunk 2 fun C24 hC24 => ?_
    simp only [bL, ↓aops, ↓aop, ↓aWant, ↓aVal, bS, bA, AV.flat, AV.cl, AV.one, Value.oneCell', thenQ, blockQ, ↓reduceIte, Nat.reduceEqDiff, reduceCtorEq, tyX]
    refine hC24 _ ?_
    try clear hC24 C24
    simp only [bL]
    refine aops_chunk 1 fun C25 hC25 => ?_
    simp only [bL, ↓aops, ↓aop, ↓aWant, ↓aVal, bS, bA, AV.flat, AV.cl, AV.one, Value.oneCell', thenQ, blockQ, ↓reduceIte, Nat.reduceEqDiff, reduceCtorEq, tyX]
    refine hC25 _ ?_
    try clear hC25 C25
    simp only [bL]
    refine aops_chunk 1 fun C26 hC26 => ?_
    simp only [bL, ↓aops, ↓aop, ↓aWant, ↓aVal, bS, bA, AV.flat, AV.cl, AV.one, Value.oneCell', thenQ, blockQ, ↓reduceIte, Nat.reduceEqDiff, reduceCtorEq, aCallV, tyX]
    refine APure.call (TypeNil i k) ?_
    try simp only [bS, bA, thenQ, blockQ]
    refine hC26 _ ?_
    try clear hC26 C26
    simp only [bL]
    refine aops_chunk 2 fun C27 hC27 => ?_
    simp only [bL, ↓aops, ↓aop, ↓aWant, ↓aVal, bS, bA, AV.flat, AV.cl, AV.one, Value.oneCell', thenQ, blockQ, ↓reduceIte, Nat.reduceEqDiff, reduceCtorEq, aExtract, Nat.reduceAdd, Nat.reduceLT, Nat.zero_lt_succ, tyX]
    refine hC27 _ ?_
    try clear hC27 C27
    simp only [bL]
    refine aops_chunk 2 fun C28 hC28 => ?_
    simp only [bL, ↓aops, ↓aop, ↓aWant, ↓aVal, bS, bA, AV.flat, AV.cl, AV.one, Value.oneCell', thenQ, blockQ, ↓reduceIte, Nat.reduceEqDiff, reduceCtorEq, aExtract, Nat.reduceAdd, Nat.reduceLT, Nat.zero_lt_succ, zc32, tyX]
    refine hC28 _ ?_
    try clear hC28 C28
    simp only [bL]
    simp only [↓aops, ↓aop, ↓aWant, ↓aVal, bS, bA, AV.flat, AV.cl, AV.one, Value.oneCell', thenQ, blockQ, ↓reduceIte, Nat.reduceEqDiff, reduceCtorEq, aStore, ti32, getO, putO, splice, bL, Nat.reduceAdd, Nat.reduceLeDiff, tyX]
    refine hK23 _ ?_
    try clear hK23 K23
    refine AWp_seqK fun K29 hK29 => ?_
    refine AWp_region ?_
    refine aops_chunk 2 fun C30 hC30 => ?_
    simp only [bL, ↓aops, ↓aop, ↓aWant, ↓aVal, bS, bA, AV.flat, AV.cl, AV.one, Value.oneCell', thenQ, blockQ, ↓reduceIte, Nat.reduceEqDiff, reduceCtorEq, aBin, tyX]
    refine hC30 _ ?_
    try clear hC30 C30
    simp only [bL]
    refine aops_chunk 1 fun C31 hC31 => ?_
    simp only [bL, ↓aops, ↓aop, ↓aWant, ↓aVal, bS, bA, AV.flat, AV.cl, AV.one, Value.oneCell', thenQ, blockQ, ↓reduceIte, Nat.reduceEqDiff, reduceCtorEq, tyX]
    refine hC31 _ ?_
    try clear hC31 C31
    simp only [bL]
    refine aops_case 46 rfl (fun hc46 => ?_) (fun hc46 => ?_)
    · simp only [List.set_cons_zero, List.set_cons_succ]
      refine aops_chunk 2 fun C32 hC32 => ?_
      simp only [bL, ↓aops, ↓aop, ↓aWant, ↓aVal, bS, bA, AV.flat, AV.cl, AV.one, Value.oneCell', thenQ, blockQ, ↓reduceIte, Nat.reduceEqDiff, reduceCtorEq, undef, aBin, tyX]
      refine hC32 _ ?_
      try clear hC32 C32
      simp only [bL]
      refine aops_chunk 2 fun C33 hC33 => ?_
      simp only [bL, ↓aops, ↓aop, ↓aWant, ↓aVal, bS, bA, AV.flat, AV.cl, AV.one, Value.oneCell', thenQ, blockQ, ↓reduceIte, Nat.reduceEqDiff, reduceCtorEq, aBool, tyX]
      refine hC33 _ ?_
      try clear hC33 C33
      simp only [bL]
      refine aops_case 50 rfl (fun hc50 => ?_) (fun hc50 => ?_)
      · simp only [List.set_cons_zero, List.set_cons_succ]
        refine aops_chunk 2 fun C34 hC34 => ?_
        simp only [bL, ↓aops, ↓aop, ↓aWant, ↓aVal, bS, bA, AV.flat, AV.cl, AV.one, Value.oneCell', thenQ, blockQ, ↓reduceIte, Nat.reduceEqDiff, reduceCtorEq, undef, aUn, tyX]
        refine hC34 _ ?_
        try clear hC34 C34
        simp only [bL]
        refine aops_chunk 2 fun C35 hC35 => ?_
        simp only [bL, ↓aops, ↓aop, ↓aWant, ↓aVal, bS, bA, AV.flat, AV.cl, AV.one, Value.oneCell', thenQ, blockQ, ↓reduceIte, Nat.reduceEqDiff, reduceCtorEq, aBool, tyX]
        refine hC35 _ ?_
        try clear hC35 C35
        simp only [bL]
        refine aops_case 54 rfl (fun hc54 => ?_) (fun hc54 => ?_)
        · simp only [List.set_cons_zero, List.set_cons_succ]
          refine aops_chunk 2 fun C36 hC36 => ?_
          simp only [bL, ↓aops, ↓aop, ↓aWant, ↓aVal, bS, bA, AV.flat, AV.cl, AV.one, Value.oneCell', thenQ, blockQ, ↓reduceIte, Nat.reduceEqDiff, reduceCtorEq, undef, aUn, tyX]
          refine hC36 _ ?_
          try clear hC36 C36
          simp only [bL]
          refine aops_chunk 2 fun C37 hC37 => ?_
          simp only [bL, ↓aops, ↓aop, ↓aWant, ↓aVal, bS, bA, AV.flat, AV.cl, AV.one, Value.oneCell', thenQ, blockQ, ↓reduceIte, Nat.reduceEqDiff, reduceCtorEq, aBool, tyX]
          refine hC37 _ ?_
          try clear hC37 C37
          simp only [bL]
          refine aops_case 58 rfl (fun hc58 => ?_) (fun hc58 => ?_)
          · simp only [List.set_cons_zero, List.set_cons_succ]
            refine aops_chunk 2 fun C38 hC38 => ?_
            simp only [bL, ↓aops, ↓aop, ↓aWant, ↓aVal, bS, bA, AV.flat, AV.cl, AV.one, Value.oneCell', thenQ, blockQ, ↓reduceIte, Nat.reduceEqDiff, reduceCtorEq, undef, aBin, tyX]
            refine hC38 _ ?_
            try clear hC38 C38
            simp only [bL]
            refine aops_chunk 2 fun C39 hC39 => ?_
            simp only [bL, ↓aops, ↓aop, ↓aWant, ↓aVal, bS, bA, AV.flat, AV.cl, AV.one, Value.oneCell', thenQ, blockQ, ↓reduceIte, Nat.reduceEqDiff, reduceCtorEq, aBool, tyX]
            refine hC39 _ ?_
            try clear hC39 C39
            simp only [bL]
            refine aops_case 62 rfl (fun hc62 => ?_) (fun hc62 => ?_)
            · simp only [List.set_cons_zero, List.set_cons_succ]
              refine aops_chunk 2 fun C40 hC40 => ?_
              simp only [bL, ↓aops, ↓aop, ↓aWant, ↓aVal, bS, bA, AV.flat, AV.cl, AV.one, Value.oneCell', thenQ, blockQ, ↓reduceIte, Nat.reduceEqDiff, reduceCtorEq, undef, aLoad, ti32, getO, pack, Nat.reduceAdd, Nat.reduceLeDiff, aBuild, zc32, pc32, aFill, splice, tyX]
              refine hC40 _ ?_
              try clear hC40 C40
              simp only [bL]
              refine aops_chunk 1 fun C41 hC41 => ?_
              simp only [bL, ↓aops, ↓aop, ↓aWant, ↓aVal, bS, bA, AV.flat, AV.cl, AV.one, Value.oneCell', thenQ, blockQ, ↓reduceIte, Nat.reduceEqDiff, reduceCtorEq, undef, aCallV, tyX]
              refine APure.callL (args := [.agg (Ty.cells (.mk 0 0 [])), .agg [.v (.int .i64 0), .v (.int .i64 0), .v (.slice none 0 0)]]) (Same_pure (.mk 0 0 []) (.mk 0 0 [])) ⟨.refl _, Le.agg (by rw [Ty.cells_eq]; exact ⟨.refl _, .refl _, Le.slNil 3, trivial⟩), trivial⟩ ?_
              try simp only [bS, bA, thenQ, blockQ]
              refine hC41 _ ?_
              try clear hC41 C41
              simp only [bL]
              refine aops_chunk 2 fun C42 hC42 => ?_
              simp only [bL, ↓aops, ↓aop, ↓aWant, ↓aVal, bS, bA, AV.flat, AV.cl, AV.one, Value.oneCell', thenQ, blockQ, ↓reduceIte, Nat.reduceEqDiff, reduceCtorEq, aBool, tyX]
              refine hC42 _ ?_
              try clear hC42 C42
              simp only [bL]
              refine aops_case 67 rfl (fun hc67 => ?_) (fun hc67 => ?_)
              · simp only [List.set_cons_zero, List.set_cons_succ]
                refine aops_chunk 2 fun C43 hC43 => ?_
                simp only [bL, ↓aops, ↓aop, ↓aWant, ↓aVal, bS, bA, AV.flat, AV.cl, AV.one, Value.oneCell', thenQ, blockQ, ↓reduceIte, Nat.reduceEqDiff, reduceCtorEq, undef, tyX]
                refine hC43 _ ?_
                try clear hC43 C43
                simp only [bL]
                refine aops_chunk 1 fun C44 hC44 => ?_
                simp only [bL, ↓aops, ↓aop, ↓aWant, ↓aVal, bS, bA, AV.flat, AV.cl, AV.one, Value.oneCell', thenQ, blockQ, ↓reduceIte, Nat.reduceEqDiff, reduceCtorEq, undef, aCallV, tyX]
                refine APure.call (KindNil i) ?_
                try simp only [bS, bA, thenQ, blockQ]
                refine hC44 _ ?_
                try clear hC44 C44
                simp only [bL]
                refine aops_chunk 2 fun C45 hC45 => ?_
                simp only [bL, ↓aops, ↓aop, ↓aWant, ↓aVal, bS, bA, AV.flat, AV.cl, AV.one, Value.oneCell', thenQ, blockQ, ↓reduceIte, Nat.reduceEqDiff, reduceCtorEq, undef, aBin, aBool, tyX]
                refine hC45 _ ?_
                try clear hC45 C45
                simp only [bL]
                refine aops_chunk 1 fun C46 hC46 => ?_
                simp only [bL, ↓aops, ↓aop, ↓aWant, ↓aVal, bS, bA, AV.flat, AV.cl, AV.one, Value.oneCell', thenQ, blockQ, ↓reduceIte, Nat.reduceEqDiff, reduceCtorEq, tyX]
                refine hC46 _ ?_
                try clear hC46 C46
                simp only [bL]
                refine aops_case 73 rfl (fun hc73 => ?_) (fun hc73 => ?_)
                · simp only [List.set_cons_zero, List.set_cons_succ]
                  refine aops_chunk 2 fun C47 hC47 => ?_
                  simp only [bL, ↓aops, ↓aop, ↓aWant, ↓aVal, bS, bA, AV.flat, AV.cl, AV.one, Value.oneCell', thenQ, blockQ, ↓reduceIte, Nat.reduceEqDiff, reduceCtorEq, undef, tyX]
                  refine hC47 _ ?_
                  try clear hC47 C47
                  simp only [bL]
                  refine aops_chunk 1 fun C48 hC48 => ?_
                  simp only [bL, ↓aops, ↓aop, ↓aWant, ↓aVal, bS, bA, AV.flat, AV.cl, AV.one, Value.oneCell', thenQ, blockQ, ↓reduceIte, Nat.reduceEqDiff, reduceCtorEq, undef, aCallV, tyX]
                  refine APure.call (PartsNil i) ?_
                  try simp only [bS, bA, thenQ, blockQ]
                  refine hC48 _ ?_
                  try clear hC48 C48
                  simp only [bL]
                  refine aops_chunk 2 fun C49 hC49 => ?_
                  simp only [bL, ↓aops, ↓aop, ↓aWant, ↓aVal, bS, bA, AV.flat, AV.cl, AV.one, Value.oneCell', thenQ, blockQ, ↓reduceIte, Nat.reduceEqDiff, reduceCtorEq, undef, aLen, ln28, List.length_map, aBin, tyX]
                  refine hC49 _ ?_
                  try clear hC49 C49
                  simp only [bL]
                  refine aops_chunk 2 fun C50 hC50 => ?_
                  simp only [bL, ↓aops, ↓aop, ↓aWant, ↓aVal, bS, bA, AV.flat, AV.cl, AV.one, Value.oneCell', thenQ, blockQ, ↓reduceIte, Nat.reduceEqDiff, reduceCtorEq, aBool, tyX]
                  refine hC50 _ ?_
                  try clear hC50 C50
                  simp only [bL]
                  refine aops_case 80 rfl (fun hc80 => ?_) (fun hc80 => ?_)
                  · simp only [List.set_cons_zero, List.set_cons_succ]
                    refine aops_chunk 1 fun C51 hC51 => ?_
                    simp only [bL, ↓aops, ↓aop, ↓aWant, ↓aVal, bS, bA, AV.flat, AV.cl, AV.one, Value.oneCell', thenQ, blockQ, ↓reduceIte, Nat.reduceEqDiff, reduceCtorEq, undef, tyX]
                    refine hC51 _ ?_
                    try clear hC51 C51
                    simp only [bL]
                    refine aops_chunk 1 fun C52 hC52 => ?_
                    simp only [bL, ↓aops, ↓aop, ↓aWant, ↓aVal, bS, bA, AV.flat, AV.cl, AV.one, Value.oneCell', thenQ, blockQ, ↓reduceIte, Nat.reduceEqDiff, reduceCtorEq, undef, aCallV, tyX]
                    refine APure.call (VarsNil) ?_
                    try simp only [bS, bA, thenQ, blockQ]
                    refine hC52 _ ?_
                    try clear hC52 C52
                    simp only [bL]
                    refine aops_chunk 2 fun C53 hC53 => ?_
                    simp only [bL, ↓aops, ↓aop, ↓aWant, ↓aVal, bS, bA, AV.flat, AV.cl, AV.one, Value.oneCell', thenQ, blockQ, ↓reduceIte, Nat.reduceEqDiff, reduceCtorEq, undef, aLen, ln28, List.length_map, aBin, tyX]
                    refine hC53 _ ?_
                    try clear hC53 C53
                    simp only [bL]
                    refine aops_chunk 2 fun C54 hC54 => ?_
                    simp only [bL, ↓aops, ↓aop, ↓aWant, ↓aVal, bS, bA, AV.flat, AV.cl, AV.one, Value.oneCell', thenQ, blockQ, ↓reduceIte, Nat.reduceEqDiff, reduceCtorEq, aBool, tyX]
                    refine hC54 _ ?_
                    try clear hC54 C54
                    simp only [bL]
                    refine aops_case 86 rfl (fun hc86 => ?_) (fun hc86 => ?_)
                    · simp only [List.set_cons_zero, List.set_cons_succ]
                      refine aops_chunk 1 fun C55 hC55 => ?_
                      simp only [bL, ↓aops, ↓aop, ↓aWant, ↓aVal, bS, bA, AV.flat, AV.cl, AV.one, Value.oneCell', thenQ, blockQ, ↓reduceIte, Nat.reduceEqDiff, reduceCtorEq, undef, tyX]
                      refine hC55 _ ?_
                      try clear hC55 C55
                      simp only [bL]
                      refine aops_chunk 1 fun C56 hC56 => ?_
                      simp only [bL, ↓aops, ↓aop, ↓aWant, ↓aVal, bS, bA, AV.flat, AV.cl, AV.one, Value.oneCell', thenQ, blockQ, ↓reduceIte, Nat.reduceEqDiff, reduceCtorEq, undef, aCallV, tyX]
                      refine APure.call (LenNil) ?_
                      try simp only [bS, bA, thenQ, blockQ]
                      refine hC56 _ ?_
                      try clear hC56 C56
                      simp only [bL]
                      refine aops_chunk 2 fun C57 hC57 => ?_
                      simp only [bL, ↓aops, ↓aop, ↓aWant, ↓aVal, bS, bA, AV.flat, AV.cl, AV.one, Value.oneCell', thenQ, blockQ, ↓reduceIte, Nat.reduceEqDiff, reduceCtorEq, undef, aBin, aBool, tyX]
                      refine hC57 _ ?_
                      try clear hC57 C57
                      simp only [bL]
                      refine aops_chunk 1 fun C58 hC58 => ?_
                      simp only [bL, ↓aops, ↓aop, ↓aWant, ↓aVal, bS, bA, AV.flat, AV.cl, AV.one, Value.oneCell', thenQ, blockQ, ↓reduceIte, Nat.reduceEqDiff, reduceCtorEq, tyX]
                      refine hC58 _ ?_
                      try clear hC58 C58
                      simp only [bL]
                      refine aops_case 91 rfl (fun hc91 => ?_) (fun hc91 => ?_)
                      · simp only [List.set_cons_zero, List.set_cons_succ]
                        refine aops_chunk 1 fun C59 hC59 => ?_
                        simp only [bL, ↓aops, ↓aop, ↓aWant, ↓aVal, bS, bA, AV.flat, AV.cl, AV.one, Value.oneCell', thenQ, blockQ, ↓reduceIte, Nat.reduceEqDiff, reduceCtorEq, undef, aCallV, tyX]
                        refine APure.call (awake_pure) ?_
                        try simp only [bS, bA, thenQ, blockQ]
                        refine hC59 _ ?_
                        try clear hC59 C59
                        simp only [bL]
                        simp only [↓aops, ↓aop, ↓aWant, ↓aVal, bS, bA, AV.flat, AV.cl, AV.one, Value.oneCell', thenQ, blockQ, ↓reduceIte, Nat.reduceEqDiff, reduceCtorEq, aBool, tyX, bL]
                        refine hK29 _ ?_
                        try clear hK29 K29
                        refine AWp_ret ?_
                        simp only [thenQ, blockQ, retQ, aRes, tupOf, bS, bA]
                        exact Le.refl _
                      · simp only [List.set_cons_zero, List.set_cons_succ]
                        exact absurd hc91 (by simp [Ty.same_refl])
                    · simp only [List.set_cons_zero, List.set_cons_succ]
                      exact absurd hc86 (by simp [Ty.same_refl])
                  · simp only [List.set_cons_zero, List.set_cons_succ]
                    exact absurd hc80 (by simp [Ty.same_refl])
                · simp only [List.set_cons_zero, List.set_cons_succ]
                  exact absurd hc73 (by simp [Ty.same_refl])
              · simp only [List.set_cons_zero, List.set_cons_succ]
                exact absurd hc67 (by simp [Ty.same_refl])
            · simp only [List.set_cons_zero, List.set_cons_succ]
              exact absurd hc62 (by simp [Ty.same_refl])
          · simp only [List.set_cons_zero, List.set_cons_succ]
            exact absurd hc58 (by simp [Ty.same_refl])
        · simp only [List.set_cons_zero, List.set_cons_succ]
          exact absurd hc54 (by simp [Ty.same_refl])
      · simp only [List.set_cons_zero, List.set_cons_succ]
        exact absurd hc50 (by simp [Ty.same_refl])
    · simp only [List.set_cons_zero, List.set_cons_succ]
      exact absurd hc46 (by simp [Ty.same_refl])
end Go.Proofs.Ytohdoloalolpfaa
