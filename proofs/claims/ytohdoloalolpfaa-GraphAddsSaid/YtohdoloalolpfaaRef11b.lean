import Derived.Test.YtohdoloalolpfaaRef11
namespace Go.Proofs.Ytohdoloalolpfaa
open Go Go.RowKit
set_option maxRecDepth 100000
set_option maxHeartbeats 1000000
set_option linter.unusedSimpArgs false
set_option linter.unusedVariables false
attribute [local irreducible] aops dRun
theorem RAdd_pure : ∀ (T : Ty) (g : List RNode) (hg : g.length + T.cnt ≤ 1099511627776), APure Try.prog 51 [.sl 4 (g.map RNode.cells), .agg T.cells] (.tup [.sl 4 ((T.radd g).1.map RNode.cells), .v (.int .i64 (T.radd g).2)]) := by
  refine Ty.ind fun T ih => ?_
  intro g hg
  refine APure.mkL (.cons (RNode.dataSl g) (.cons T.dataAgg .nil)) (.tup (.cons (RNode.dataSl _) (.cons (.v _) .nil))) ?_
  refine ACalls_intro Try.func51 (by kernel_rfl) rfl (by rw [Try.ntmps51]; simp) (fun hm => ?_)
  simp only [Try.ntmps51, Try.results51, List.length_cons, List.length_nil, Nat.reduceAdd, Nat.reduceSub, List.replicate_succ, List.replicate_zero, List.cons_append, List.nil_append]
  have hm1 := hm.wide (t := T) (by simp)
  have hcn := T.cnt_eq
  have hcl := Ty.cntL_len T.ps
  refine AWp_seqK fun K1 hK1 => ?_
  refine AWp_region ?_
  simp only [↓aops, ↓aop, ↓aWant, ↓aVal, bS, bA, AV.flat, AV.cl, AV.one, Value.oneCell', thenQ, blockQ, noGotoQ, ↓reduceIte, Nat.reduceEqDiff, reduceCtorEq, tyX, List.all_append, bL, List.length_append]
  refine hK1 _ ?_
  try clear hK1 K1
  refine AWp_joinC [true, false, false, true, false, false, false, false, false, false, false, false, false, false, false, false, false, false, false, false, false, false, false, false, false, false, false, false, false, false, false, false, false, false, false, false, false, false, false, false, false, false, false, false, false, false, false, false, false, false, false, false, false, false, false, false] ([(0, .sl 4 (g.map RNode.cells))]) ([]) (¬ (T.k = 1 ∧ 0 ≤ idxI (RNode.isVar T.n) g)) ?_ (fun hno => ?_)
  · skip
    refine AWp_seqK fun K2 hK2 => ?_
    refine AWp_region ?_
    simp only [↓aops, ↓aop, ↓aWant, ↓aVal, bS, bA, AV.flat, AV.cl, AV.one, Value.oneCell', thenQ, blockQ, noGotoQ, ↓reduceIte, Nat.reduceEqDiff, reduceCtorEq, aField, fo32_0, bL, Nat.reduceAdd, aLoad, ti3, getO, pack, Nat.reduceLeDiff, aBin, tyX, List.all_append, List.length_append]
    refine hK2 _ ?_
    try clear hK2 K2
    refine AWp_cond rfl (fun hb13 => ?_) (fun hb13 => ?_)
    · skip
      refine AWp_seqK fun K3 hK3 => ?_
      refine AWp_region ?_
      refine aops_chunk 3 fun C4 hC4 => ?_
      simp only [bL, ↓aops, ↓aop, ↓aWant, ↓aVal, bS, bA, AV.flat, AV.cl, AV.one, Value.oneCell', thenQ, blockQ, noGotoQ, ↓reduceIte, Nat.reduceEqDiff, reduceCtorEq, aField, fo32_1, Nat.reduceAdd, aLoad, ti3, getO, pack, Nat.reduceLeDiff, tyX, List.all_append, List.length_append]
      refine hC4 _ ?_
      try clear hC4 C4
      simp only [bL]
      refine aops_chunk 1 fun C5 hC5 => ?_
      simp only [bL, ↓aops, ↓aop, ↓aWant, ↓aVal, bS, bA, AV.flat, AV.cl, AV.one, Value.oneCell', thenQ, blockQ, noGotoQ, ↓reduceIte, Nat.reduceEqDiff, reduceCtorEq, aCallV, tyX, List.all_append, List.length_append]
      refine APure.call (RVar_pure g T.n) ?_
      try simp only [bS, bA, thenQ, blockQ, noGotoQ]
      refine hC5 _ ?_
      try clear hC5 C5
      simp only [bL]
      simp only [↓aops, ↓aop, ↓aWant, ↓aVal, bS, bA, AV.flat, AV.cl, AV.one, Value.oneCell', thenQ, blockQ, noGotoQ, ↓reduceIte, Nat.reduceEqDiff, reduceCtorEq, tyX, List.all_append, bL, List.length_append]
      refine hK3 _ ?_
      try clear hK3 K3
      refine AWp_seqK fun K6 hK6 => ?_
      refine AWp_region ?_
      simp only [↓aops, ↓aop, ↓aWant, ↓aVal, bS, bA, AV.flat, AV.cl, AV.one, Value.oneCell', thenQ, blockQ, noGotoQ, ↓reduceIte, Nat.reduceEqDiff, reduceCtorEq, aBin, tyX, List.all_append, bL, List.length_append]
      refine hK6 _ ?_
      try clear hK6 K6
      refine AWp_cond rfl (fun hb19 => ?_) (fun hb19 => ?_)
      · skip
        refine AWp_seqK fun K7 hK7 => ?_
        refine AWp_region ?_
        refine aops_chunk 3 fun C8 hC8 => ?_
        simp only [bL, ↓aops, ↓aop, ↓aWant, ↓aVal, bS, bA, AV.flat, AV.cl, AV.one, Value.oneCell', thenQ, blockQ, noGotoQ, ↓reduceIte, Nat.reduceEqDiff, reduceCtorEq, tyX, List.all_append, List.length_append]
        refine hC8 _ ?_
        try clear hC8 C8
        simp only [bL]
        simp only [↓aops, ↓aop, ↓aWant, ↓aVal, bS, bA, AV.flat, AV.cl, AV.one, Value.oneCell', thenQ, blockQ, noGotoQ, ↓reduceIte, Nat.reduceEqDiff, reduceCtorEq, tyX, List.all_append, bL, List.length_append]
        refine hK7 _ ?_
        try clear hK7 K7
        refine AWp_ret ?_
        try simp only [thenQ, blockQ, noGotoQ, retQ, aRes, tupOf, bS, bA]
        rw [Ty.radd_eq]
        first | (rw [if_neg hno]; exact Le.refl _) | (rw [if_pos (by simp at *; omega)]; exact Le.refl _)
      · skip
        refine AWp_skip ?_
        try simp only [thenQ, blockQ, noGotoQ]
        try simp only [maskL, setsL, putsO, putO, bA, Nat.reduceEqDiff, ↓reduceIte]
        refine ⟨(by simp only [beq_iff_eq, beq_eq_false_iff_ne, decide_eq_false_iff_not, ne_eq] at *; omega), ?_⟩
        exact Weak.mk (by simp only [LeL, Le.refl, Le.any, and_self]) (fun _ _ h => h) rfl rfl
    · skip
      refine AWp_skip ?_
      try simp only [thenQ, blockQ, noGotoQ]
      try simp only [maskL, setsL, putsO, putO, bA, Nat.reduceEqDiff, ↓reduceIte]
      refine ⟨(by simp only [beq_iff_eq, beq_eq_false_iff_ne, decide_eq_false_iff_not, ne_eq] at *; omega), ?_⟩
      exact Weak.mk (by simp only [LeL, Le.refl, Le.any, and_self]) (fun _ _ h => h) rfl rfl
  simp only [maskL, setsL, putsO, putO, bA, Nat.reduceEqDiff, ↓reduceIte]
  refine AWp_seqK fun K9 hK9 => ?_
  refine AWp_region ?_
  refine aops_chunk 3 fun C10 hC10 => ?_
  simp only [bL, ↓aops, ↓aop, ↓aWant, ↓aVal, bS, bA, AV.flat, AV.cl, AV.one, Value.oneCell', thenQ, blockQ, noGotoQ, ↓reduceIte, Nat.reduceEqDiff, reduceCtorEq, aLoad, ti32, getO, pack, Nat.reduceAdd, Nat.reduceLeDiff, aBuild, zc38, pc38, aFill, splice, tyX, List.all_append, List.length_append]
  refine hC10 _ ?_
  try clear hC10 C10
  simp only [bL]
  simp only [↓aops, ↓aop, ↓aWant, ↓aVal, bS, bA, AV.flat, AV.cl, AV.one, Value.oneCell', thenQ, blockQ, noGotoQ, ↓reduceIte, Nat.reduceEqDiff, reduceCtorEq, aStore, ti38, getO, putO, splice, bL, Nat.reduceAdd, Nat.reduceLeDiff, tyX, List.all_append, List.length_append]
  refine hK9 _ ?_
  try clear hK9 K9
  refine AWp_seqK fun K11 hK11 => ?_
  simp only [Ty.cells_eq T, List.cons_append, List.nil_append]
  refine AWp_seqK fun K12 hK12 => ?_
  refine AWp_region ?_
  simp only [↓aops, ↓aop, ↓aWant, ↓aVal, bS, bA, AV.flat, AV.cl, AV.one, Value.oneCell', thenQ, blockQ, noGotoQ, ↓reduceIte, Nat.reduceEqDiff, reduceCtorEq, tyX, List.all_append, bL, List.length_append]
  refine hK12 _ ?_
  try clear hK12 K12
  refine AWp_block ?_
  refine AWp_weak (Weak.tokCell 3 1 (id := 1) (t := 38) [.v (.int .i64 T.k), .v (.int .i64 T.n), .sl 3 (T.ps.map Ty.cells), .osl 2 1 []] rfl ⟨.inl (.refl _), .inl (.refl _), .inl (.refl _), .inr ⟨rfl, rfl⟩, trivial⟩) ?_
  simp only [putO, Nat.reduceEqDiff, ↓reduceIte]
  refine AWp_loopM (σ := Nat) [true, false, false, true, false, false, false, true, true, false, false, false, false, false, false, false, false, false, false, false, false, false, false, false, false, false, false, false, false, false, false, false, false, false, false, false, false, false, false, false, false, false, false, false, false, false, false, false, false, false, false, false, false, false, false, false] (fun s => s ≤ T.ps.length) (fun s => [(0, .sl 4 ((Ty.raddL (T.ps.take s) g []).1.map RNode.cells)), (8, .v (.int .i64 (s : Int)))]) (fun s => [(1, .cells 38 [.v (.int .i64 T.k), .v (.int .i64 T.n), .sl 3 (T.ps.map Ty.cells), .osl 2 1 ((Ty.raddL (T.ps.take s) g []).2.map intC)]), (2, .tok 3 1 s)]) (fun s => T.ps.length - s) 0 (by omega) ?_ (fun s hs => ?_)
  · skip
    simp only [maskL, setsL, putsO, putO, bA, Nat.reduceEqDiff, ↓reduceIte, bL, Ty.raddL]
    exact Weak.mk (by simp only [LeL, Le.refl, Le.any, Le.slNil, and_self, Int.natCast_add, Int.cast_ofNat_Int, Int.natCast_one]) (fun _ _ h => h) rfl rfl
  simp only [maskL, setsL, putsO, putO, bA, Nat.reduceEqDiff, ↓reduceIte]
  refine AWp_seqK fun K13 hK13 => ?_
  refine AWp_seqK fun K14 hK14 => ?_
  refine AWp_region ?_
  refine aops_chunk 3 fun C15 hC15 => ?_
  simp only [bL, ↓aops, ↓aop, ↓aWant, ↓aVal, bS, bA, AV.flat, AV.cl, AV.one, Value.oneCell', thenQ, blockQ, noGotoQ, ↓reduceIte, Nat.reduceEqDiff, reduceCtorEq, aField, fo32_2, Nat.reduceAdd, aLoad, ti22, getO, pack, Nat.reduceLeDiff, tyX, List.all_append, List.length_append]
  refine hC15 _ ?_
  try clear hC15 C15
  simp only [bL]
  simp only [↓aops, ↓aop, ↓aWant, ↓aVal, bS, bA, AV.flat, AV.cl, AV.one, Value.oneCell', thenQ, blockQ, noGotoQ, ↓reduceIte, Nat.reduceEqDiff, reduceCtorEq, getO, aLenX, aLen, ln22, List.length_map, aBin, tyX, List.all_append, bL, List.length_append]
  refine hK14 _ ?_
  try clear hK14 K14
  refine AWp_cond rfl (fun hb28 => ?_) (fun hb28 => ?_)
  · skip
    have hk : s < T.ps.length := by simpa using hb28
    obtain ⟨p, hp⟩ : ∃ p, T.ps[s]? = some p := ⟨_, List.getElem?_eq_getElem hk⟩
    have hw : IntKind.i64.wrap ((s : Int) + 1) = (s : Int) + 1 := wrap_in (by omega) (by have := hm1.len; simp only [maxLen] at this; omega)
    have hln : (Ty.raddL (T.ps.take s) g []).2.length = s := by rw [Ty.raddL_len2]; simp; omega
    have hl1 := Ty.raddL_len (T.ps.take s) g []
    have hl2 := Ty.cntL_step hp
    have hb1 : (s + 1) * 8 ≤ 140737488355328 := by omega
    have hb2 : s + 1 ≤ maxLen := by simp only [maxLen]; omega
    refine AWp_skip ?_
    try simp only [thenQ, blockQ, noGotoQ]
    refine hK13 _ ?_
    try clear hK13 K13
    refine AWp_seqK fun K16 hK16 => ?_
    refine AWp_block ?_
    refine AWp_seqK fun K17 hK17 => ?_
    refine AWp_region ?_
    refine aops_chunk 3 fun C18 hC18 => ?_
    simp only [bL, ↓aops, ↓aop, ↓aWant, ↓aVal, bS, bA, AV.flat, AV.cl, AV.one, Value.oneCell', thenQ, blockQ, noGotoQ, ↓reduceIte, Nat.reduceEqDiff, reduceCtorEq, aField, fo32_2, Nat.reduceAdd, aLoad, ti22, getO, pack, Nat.reduceLeDiff, tyX, List.all_append, List.length_append, hk, getD_map_cells hp, Int.natCast_add, Int.natCast_one, hw, hln, hb1, hb2, List.map_append, Ty.raddL_step hp g []]
    refine hC18 _ ?_
    try clear hC18 C18
    simp only [bL]
    refine aops_chunk 3 fun C19 hC19 => ?_
    simp only [bL, ↓aops, ↓aop, ↓aWant, ↓aVal, bS, bA, AV.flat, AV.cl, AV.one, Value.oneCell', thenQ, blockQ, noGotoQ, ↓reduceIte, Nat.reduceEqDiff, reduceCtorEq, getO, aIndexA, es22, Int.natCast_nonneg, Int.ofNat_lt, Int.toNat_natCast, List.length_map, Int.le_refl, Int.toNat_zero, Int.toNat_one, Int.reduceLE, aLoad, ti32, pack, Nat.reduceAdd, Nat.reduceLeDiff, tyX, List.all_append, List.length_append, hk, getD_map_cells hp, Int.natCast_add, Int.natCast_one, hw, hln, hb1, hb2, List.map_append, Ty.raddL_step hp g []]
    refine hC19 _ ?_
    try clear hC19 C19
    simp only [bL]
    refine aops_chunk 1 fun C20 hC20 => ?_
    simp only [bL, ↓aops, ↓aop, ↓aWant, ↓aVal, bS, bA, AV.flat, AV.cl, AV.one, Value.oneCell', thenQ, blockQ, noGotoQ, ↓reduceIte, Nat.reduceEqDiff, reduceCtorEq, aCallV, tyX, List.all_append, List.length_append, hk, getD_map_cells hp, Int.natCast_add, Int.natCast_one, hw, hln, hb1, hb2, List.map_append, Ty.raddL_step hp g []]
    refine APure.call (ih p (List.mem_of_getElem? hp) (Ty.raddL (T.ps.take s) g []).1 (by omega)) ?_
    try simp only [bS, bA, thenQ, blockQ, noGotoQ]
    refine hC20 _ ?_
    try clear hC20 C20
    simp only [bL]
    refine aops_chunk 3 fun C21 hC21 => ?_
    simp only [bL, ↓aops, ↓aop, ↓aWant, ↓aVal, bS, bA, AV.flat, AV.cl, AV.one, Value.oneCell', thenQ, blockQ, noGotoQ, ↓reduceIte, Nat.reduceEqDiff, reduceCtorEq, aExtract, Nat.reduceAdd, Nat.reduceLT, Nat.zero_lt_succ, tyX, List.all_append, List.length_append, hk, getD_map_cells hp, Int.natCast_add, Int.natCast_one, hw, hln, hb1, hb2, List.map_append, Ty.raddL_step hp g []]
    refine hC21 _ ?_
    try clear hC21 C21
    simp only [bL]
    simp only [↓aops, ↓aop, ↓aWant, ↓aVal, bS, bA, AV.flat, AV.cl, AV.one, Value.oneCell', thenQ, blockQ, noGotoQ, ↓reduceIte, Nat.reduceEqDiff, reduceCtorEq, tyX, List.all_append, bL, List.length_append, hk, getD_map_cells hp, Int.natCast_add, Int.natCast_one, hw, hln, hb1, hb2, List.map_append, Ty.raddL_step hp g []]
    refine hK17 _ ?_
    try clear hK17 K17
    refine AWp_seqK fun K22 hK22 => ?_
    refine AWp_region ?_
    simp only [↓aops, ↓aop, ↓aWant, ↓aVal, bS, bA, AV.flat, AV.cl, AV.one, Value.oneCell', thenQ, blockQ, noGotoQ, ↓reduceIte, Nat.reduceEqDiff, reduceCtorEq, tyX, List.all_append, bL, List.length_append, hk, getD_map_cells hp, Int.natCast_add, Int.natCast_one, hw, hln, hb1, hb2, List.map_append, Ty.raddL_step hp g []]
    refine hK22 _ ?_
    try clear hK22 K22
    refine AWp_region ?_
    refine aops_chunk 3 fun C23 hC23 => ?_
    simp only [bL, ↓aops, ↓aop, ↓aWant, ↓aVal, bS, bA, AV.flat, AV.cl, AV.one, Value.oneCell', thenQ, blockQ, noGotoQ, ↓reduceIte, Nat.reduceEqDiff, reduceCtorEq, aField, fo38_1, Nat.reduceAdd, aLoad, ti28, getO, pack, Nat.reduceLeDiff, tyX, List.all_append, List.length_append, hk, getD_map_cells hp, Int.natCast_add, Int.natCast_one, hw, hln, hb1, hb2, List.map_append, Ty.raddL_step hp g []]
    refine hC23 _ ?_
    try clear hC23 C23
    simp only [bL]
    refine aops_chunk 3 fun C24 hC24 => ?_
    simp only [bL, ↓aops, ↓aop, ↓aWant, ↓aVal, bS, bA, AV.flat, AV.cl, AV.one, Value.oneCell', thenQ, blockQ, noGotoQ, ↓reduceIte, Nat.reduceEqDiff, reduceCtorEq, ↓bs1_1, ↓bs1_2, ↓bs1_3, ↓bs1_4, ↓bs1_5, ↓bs1_6, ↓bs1_7, ↓bs1_8, ↓bs1_9, ↓bs1_10, ↓bs1_11, ↓bs1_12, aBuildSl, ei28, ia3, List.range_succ, List.range_zero, List.forall_mem_cons, List.not_mem_nil, false_imp_iff, implies_true, Nat.reduceAdd, Nat.reduceLeDiff, forall_eq, List.mem_singleton, aAppend, slIn, slAt, slOf, List.length_map, getO, putO, aField, fo38_1, tyX, List.all_append, List.length_append, hk, getD_map_cells hp, Int.natCast_add, Int.natCast_one, hw, hln, hb1, hb2, List.map_append, Ty.raddL_step hp g []]
    refine hC24 _ ?_
    try clear hC24 C24
    simp only [bL]
    simp only [↓aops, ↓aop, ↓aWant, ↓aVal, bS, bA, AV.flat, AV.cl, AV.one, Value.oneCell', thenQ, blockQ, noGotoQ, ↓reduceIte, Nat.reduceEqDiff, reduceCtorEq, aStore, ti28, getO, putO, splice, bL, Nat.reduceAdd, Nat.reduceLeDiff, tyX, List.all_append, List.length_append, hk, getD_map_cells hp, Int.natCast_add, Int.natCast_one, hw, hln, hb1, hb2, List.map_append, Ty.raddL_step hp g []]
    refine hK16 _ ?_
    try clear hK16 K16
    refine AWp_region ?_
    simp only [↓aops, ↓aop, ↓aWant, ↓aVal, bS, bA, AV.flat, AV.cl, AV.one, Value.oneCell', thenQ, blockQ, noGotoQ, ↓reduceIte, Nat.reduceEqDiff, reduceCtorEq, aBin, tyX, List.all_append, bL, List.length_append, hk, getD_map_cells hp, Int.natCast_add, Int.natCast_one, hw, hln, hb1, hb2, List.map_append, Ty.raddL_step hp g []]
    refine ⟨(s + 1), (by omega), by omega, ?_⟩
    simp only [maskL, setsL, putsO, putO, bA, Nat.reduceEqDiff, ↓reduceIte, hk, getD_map_cells hp, Int.natCast_add, Int.natCast_one, hw, hln, hb1, hb2, List.map_append, bL, Ty.raddL_step hp g []]
    exact Weak.mk (by simp only [LeL, Le.refl, Le.any, Le.slNil, and_self, Int.natCast_add, Int.cast_ofNat_Int, Int.natCast_one]) (fun _ _ h => h) rfl rfl
  · skip
    have hk : s = T.ps.length := by simp at hb28; omega
    refine AWp_exit ?_
    simp only [thenQ, blockQ, noGotoQ, bA, Nat.reduceEqDiff, ↓reduceIte]
    refine hK11 _ ?_
    try clear hK11 K11
    subst hk
    rw [List.take_length]
    have hq0 := Ty.raddL_len T.ps g []
    have hq1 : (((Ty.raddL T.ps g []).1.map RNode.cells).all fun y => y.all AV.one) = true := RNode.all_one _
    have hq2 : (Ty.raddL T.ps g []).1.length * 64 ≤ 140737488355328 := by omega
    have hq3 : (Ty.raddL T.ps g []).1.length ≤ maxLen := by simp only [maxLen]; omega
    have hq4 : ((Ty.raddL T.ps g []).1.length + 1) * 64 ≤ 140737488355328 := by omega
    have hq5 : (Ty.raddL T.ps g []).1.length + 1 ≤ maxLen := by simp only [maxLen]; omega
    refine AWp_weak (Weak.recell (id := 1) (t := 38) [.v (.int .i64 T.k), .v (.int .i64 T.n), .sl 3 (T.ps.map Ty.cells), .sl 1 ((Ty.raddL T.ps g []).2.map intC)] rfl ⟨.refl _, .refl _, .refl _, Le.oslL, trivial⟩) ?_
    simp only [putO, Nat.reduceEqDiff, ↓reduceIte]
    refine AWp_joinZ [false, false, false, false, true, true, false, false, false, false, false, false, false, false, false, false, false, false, false, false, false, false, false, false, false, false, false, false, false, false, false, false, false, false, false, false, false, false, false, false, false, false, false, false, false, false, false, false, false, false, false, false, false, false, false, false] ([(4, .sl 4 (((Ty.raddL T.ps g []).1 ++ [RNode.mk T (Ty.raddL T.ps g []).2]).map RNode.cells)), (5, .v (.int .i64 ((Ty.raddL T.ps g []).1.length : Int)))]) [] 0 (True) ?_ (fun hC => ?_)
    · skip
      refine AAny_start [] 10 rfl mixed (trivial) rfl ?_
      dsimp only
      refine AAny_takeK 1 rfl (by kernel_rfl) (by kernel_rfl) (by kernel_rfl) (fun _ _ h => h) fun K25 hK25 => ?_
      simp only [aQuiet, aHeldLoad, CurL, CurOk, ↓aops, ↓aop, ↓aWant, ↓aVal, bS, bA, AV.flat, AV.cl, AV.one, Value.oneCell', thenQ, blockQ, noGotoQ, ↓reduceIte, Nat.reduceEqDiff, reduceCtorEq, tyX, List.all_append, bL, List.length_append, hq1, hq2, hq3, hq4, hq5]
      refine hK25 _ ?_
      try clear hK25 K25
      refine AAny_takeK 6 rfl (by kernel_rfl) (by kernel_rfl) (by kernel_rfl) (fun _ _ h => h) fun K26 hK26 => ?_
      simp only [aQuiet, aHeldLoad, CurL, CurOk, ↓aops, ↓aop, ↓aWant, ↓aVal, bS, bA, AV.flat, AV.cl, AV.one, Value.oneCell', thenQ, blockQ, noGotoQ, ↓reduceIte, Nat.reduceEqDiff, reduceCtorEq, tyX, List.all_append, bL, List.length_append, hq1, hq2, hq3, hq4, hq5]
      refine hK26 _ ?_
      try clear hK26 K26
      refine AAny_takeK 7 rfl (by kernel_rfl) (by kernel_rfl) (by kernel_rfl) (fun _ _ h => h) fun K27 hK27 => ?_
      simp only [aQuiet, aHeldLoad, CurL, CurOk, ↓aops, ↓aop, ↓aWant, ↓aVal, bS, bA, AV.flat, AV.cl, AV.one, Value.oneCell', thenQ, blockQ, noGotoQ, ↓reduceIte, Nat.reduceEqDiff, reduceCtorEq, getO, aLenX, aLen, ln27, List.length_map, tyX, List.all_append, bL, List.length_append, hq1, hq2, hq3, hq4, hq5]
      refine hK27 _ ?_
      try clear hK27 K27
      refine AAny_all2 (i := 0) (j := 3) (by kernel_rfl) ?_ ?_
      · skip
        refine aAt_op rfl rfl fun K28 hK28 => ?_
        simp only [↓aops, ↓aop, ↓aWant, ↓aVal, bS, bA, AV.flat, AV.cl, AV.one, Value.oneCell', thenQ, blockQ, noGotoQ, ↓reduceIte, Nat.reduceEqDiff, reduceCtorEq, ↓bs0_1, ↓bs0_2, ↓bs0_3, ↓bs0_4, ↓bs0_5, ↓bs0_6, ↓bs0_7, ↓bs0_8, ↓bs0_9, ↓bs0_10, ↓bs0_11, ↓bs0_12, aBuildSl, ei27, ia38, bL, List.range_succ, List.range_zero, List.forall_mem_cons, List.not_mem_nil, false_imp_iff, implies_true, Nat.reduceAdd, Nat.reduceLeDiff, forall_eq, List.mem_singleton, tyX, List.all_append, List.length_append, hq1, hq2, hq3, hq4, hq5]
        refine hK28 _ ⟨trivial, ?_⟩
        try clear hK28 K28
        refine AAny_all2 (i := 2) (j := 3) (by kernel_rfl) ?_ ?_
        · skip
          refine aAt_op rfl rfl fun K29 hK29 => ?_
          simp only [↓aops, ↓aop, ↓aWant, ↓aVal, bS, bA, AV.flat, AV.cl, AV.one, Value.oneCell', thenQ, blockQ, noGotoQ, ↓reduceIte, Nat.reduceEqDiff, reduceCtorEq, aAppend, ei27, slIn, slAt, slOf, List.length_map, getO, putO, bL, Nat.reduceAdd, tyX, List.all_append, List.length_append, hq1, hq2, hq3, hq4, hq5]
          refine hK29 _ ⟨trivial, ?_⟩
          try clear hK29 K29
          refine AAny_all1 (i := 3) (by kernel_rfl) ?_
          · skip
            refine aAt_op rfl rfl fun K30 hK30 => ?_
            simp only [↓aops, ↓aop, ↓aWant, ↓aVal, bS, bA, AV.flat, AV.cl, AV.one, Value.oneCell', thenQ, blockQ, noGotoQ, ↓reduceIte, Nat.reduceEqDiff, reduceCtorEq, aLoad, ti38, getO, pack, bL, Nat.reduceAdd, Nat.reduceLeDiff, tyX, List.all_append, List.length_append, hq1, hq2, hq3, hq4, hq5]
            refine hK30 _ ⟨trivial, ?_⟩
            try clear hK30 K30
            refine AAny_all1 (i := 4) (by kernel_rfl) ?_
            · skip
              refine aAt_op rfl rfl fun K31 hK31 => ?_
              simp only [↓aops, ↓aop, ↓aWant, ↓aVal, bS, bA, AV.flat, AV.cl, AV.one, Value.oneCell', thenQ, blockQ, noGotoQ, ↓reduceIte, Nat.reduceEqDiff, reduceCtorEq, ↓bs1_1, ↓bs1_2, ↓bs1_3, ↓bs1_4, ↓bs1_5, ↓bs1_6, ↓bs1_7, ↓bs1_8, ↓bs1_9, ↓bs1_10, ↓bs1_11, ↓bs1_12, aBuildSl, ei27, ia38, bL, List.range_succ, List.range_zero, List.forall_mem_cons, List.not_mem_nil, false_imp_iff, implies_true, Nat.reduceAdd, Nat.reduceLeDiff, forall_eq, List.mem_singleton, tyX, List.all_append, List.length_append, hq1, hq2, hq3, hq4, hq5]
              refine hK31 _ ⟨trivial, ?_⟩
              try clear hK31 K31
              refine AAny_all1 (i := 5) (by kernel_rfl) ?_
              · skip
                refine aAt_op rfl rfl fun K32 hK32 => ?_
                simp only [↓aops, ↓aop, ↓aWant, ↓aVal, bS, bA, AV.flat, AV.cl, AV.one, Value.oneCell', thenQ, blockQ, noGotoQ, ↓reduceIte, Nat.reduceEqDiff, reduceCtorEq, aAppend, ei27, slIn, slAt, slOf, List.length_map, getO, putO, bL, Nat.reduceAdd, tyX, List.all_append, List.length_append, hq1, hq2, hq3, hq4, hq5]
                refine hK32 _ ⟨trivial, ?_⟩
                try clear hK32 K32
                refine AAny_takeK 8 rfl (by kernel_rfl) (by kernel_rfl) (by kernel_rfl) (fun _ _ h => h) fun K33 hK33 => ?_
                simp only [aQuiet, aHeldLoad, CurL, CurOk, ↓aops, ↓aop, ↓aWant, ↓aVal, bS, bA, AV.flat, AV.cl, AV.one, Value.oneCell', thenQ, blockQ, noGotoQ, ↓reduceIte, Nat.reduceEqDiff, reduceCtorEq, tyX, List.all_append, bL, List.length_append, hq1, hq2, hq3, hq4, hq5]
                refine hK33 _ ?_
                try clear hK33 K33
                refine AAny_takeK 9 rfl (by kernel_rfl) (by kernel_rfl) (by kernel_rfl) (fun _ _ h => h) fun K34 hK34 => ?_
                simp only [aQuiet, aHeldLoad, CurL, CurOk, ↓aops, ↓aop, ↓aWant, ↓aVal, bS, bA, AV.flat, AV.cl, AV.one, Value.oneCell', thenQ, blockQ, noGotoQ, ↓reduceIte, Nat.reduceEqDiff, reduceCtorEq, tyX, List.all_append, bL, List.length_append, hq1, hq2, hq3, hq4, hq5]
                refine hK34 _ ?_
                try clear hK34 K34
                refine AAny_done (by kernel_rfl) ?_
                simp only [thenQ, blockQ, noGotoQ]
                try simp only [maskL, setsL, putsO, putO, bA, Nat.reduceEqDiff, ↓reduceIte]
                first | refine ⟨trivial, ?_⟩ | skip
                refine Weak.bare ?_ rfl ?_
                · simp only [LeL, Le.refl, Le.any, and_self, and_true, true_and, List.map_append, List.map_cons, List.map_nil, RNode.cells]
                  first | done | exact Le.oslL
                · simp only [UndL, and_true, true_and, Und.any, Und.v]
                  first | done | exact .data (RNode.dataSl _)
        · skip
          refine aAt_op rfl rfl fun K35 hK35 => ?_
          simp only [↓aops, ↓aop, ↓aWant, ↓aVal, bS, bA, AV.flat, AV.cl, AV.one, Value.oneCell', thenQ, blockQ, noGotoQ, ↓reduceIte, Nat.reduceEqDiff, reduceCtorEq, aLoad, ti38, getO, pack, bL, Nat.reduceAdd, Nat.reduceLeDiff, tyX, List.all_append, List.length_append, hq1, hq2, hq3, hq4, hq5]
          refine hK35 _ ⟨trivial, ?_⟩
          try clear hK35 K35
          refine AAny_all2 (i := 2) (j := 4) (by kernel_rfl) ?_ ?_
          · skip
            refine aAt_op rfl rfl fun K36 hK36 => ?_
            simp only [↓aops, ↓aop, ↓aWant, ↓aVal, bS, bA, AV.flat, AV.cl, AV.one, Value.oneCell', thenQ, blockQ, noGotoQ, ↓reduceIte, Nat.reduceEqDiff, reduceCtorEq, aAppend, ei27, slIn, slAt, slOf, List.length_map, getO, putO, bL, Nat.reduceAdd, tyX, List.all_append, List.length_append, hq1, hq2, hq3, hq4, hq5]
            refine hK36 _ ⟨trivial, ?_⟩
            try clear hK36 K36
            refine AAny_all1 (i := 4) (by kernel_rfl) ?_
            · skip
              refine aAt_op rfl rfl fun K37 hK37 => ?_
              simp only [↓aops, ↓aop, ↓aWant, ↓aVal, bS, bA, AV.flat, AV.cl, AV.one, Value.oneCell', thenQ, blockQ, noGotoQ, ↓reduceIte, Nat.reduceEqDiff, reduceCtorEq, ↓bs1_1, ↓bs1_2, ↓bs1_3, ↓bs1_4, ↓bs1_5, ↓bs1_6, ↓bs1_7, ↓bs1_8, ↓bs1_9, ↓bs1_10, ↓bs1_11, ↓bs1_12, aBuildSl, ei27, ia38, bL, List.range_succ, List.range_zero, List.forall_mem_cons, List.not_mem_nil, false_imp_iff, implies_true, Nat.reduceAdd, Nat.reduceLeDiff, forall_eq, List.mem_singleton, tyX, List.all_append, List.length_append, hq1, hq2, hq3, hq4, hq5]
              refine hK37 _ ⟨trivial, ?_⟩
              try clear hK37 K37
              refine AAny_all1 (i := 5) (by kernel_rfl) ?_
              · skip
                refine aAt_op rfl rfl fun K38 hK38 => ?_
                simp only [↓aops, ↓aop, ↓aWant, ↓aVal, bS, bA, AV.flat, AV.cl, AV.one, Value.oneCell', thenQ, blockQ, noGotoQ, ↓reduceIte, Nat.reduceEqDiff, reduceCtorEq, aAppend, ei27, slIn, slAt, slOf, List.length_map, getO, putO, bL, Nat.reduceAdd, tyX, List.all_append, List.length_append, hq1, hq2, hq3, hq4, hq5]
                refine hK38 _ ⟨trivial, ?_⟩
                try clear hK38 K38
                refine AAny_takeK 8 rfl (by kernel_rfl) (by kernel_rfl) (by kernel_rfl) (fun _ _ h => h) fun K39 hK39 => ?_
                simp only [aQuiet, aHeldLoad, CurL, CurOk, ↓aops, ↓aop, ↓aWant, ↓aVal, bS, bA, AV.flat, AV.cl, AV.one, Value.oneCell', thenQ, blockQ, noGotoQ, ↓reduceIte, Nat.reduceEqDiff, reduceCtorEq, tyX, List.all_append, bL, List.length_append, hq1, hq2, hq3, hq4, hq5]
                refine hK39 _ ?_
                try clear hK39 K39
                refine AAny_takeK 9 rfl (by kernel_rfl) (by kernel_rfl) (by kernel_rfl) (fun _ _ h => h) fun K40 hK40 => ?_
                simp only [aQuiet, aHeldLoad, CurL, CurOk, ↓aops, ↓aop, ↓aWant, ↓aVal, bS, bA, AV.flat, AV.cl, AV.one, Value.oneCell', thenQ, blockQ, noGotoQ, ↓reduceIte, Nat.reduceEqDiff, reduceCtorEq, tyX, List.all_append, bL, List.length_append, hq1, hq2, hq3, hq4, hq5]
                refine hK40 _ ?_
                try clear hK40 K40
                refine AAny_done (by kernel_rfl) ?_
                simp only [thenQ, blockQ, noGotoQ]
                try simp only [maskL, setsL, putsO, putO, bA, Nat.reduceEqDiff, ↓reduceIte]
                first | refine ⟨trivial, ?_⟩ | skip
                refine Weak.bare ?_ rfl ?_
                · simp only [LeL, Le.refl, Le.any, and_self, and_true, true_and, List.map_append, List.map_cons, List.map_nil, RNode.cells]
                  first | done | exact Le.oslL
                · simp only [UndL, and_true, true_and, Und.any, Und.v]
                  first | done | exact .data (RNode.dataSl _)
          · skip
            refine aAt_op rfl rfl fun K41 hK41 => ?_
            simp only [↓aops, ↓aop, ↓aWant, ↓aVal, bS, bA, AV.flat, AV.cl, AV.one, Value.oneCell', thenQ, blockQ, noGotoQ, ↓reduceIte, Nat.reduceEqDiff, reduceCtorEq, ↓bs1_1, ↓bs1_2, ↓bs1_3, ↓bs1_4, ↓bs1_5, ↓bs1_6, ↓bs1_7, ↓bs1_8, ↓bs1_9, ↓bs1_10, ↓bs1_11, ↓bs1_12, aBuildSl, ei27, ia38, bL, List.range_succ, List.range_zero, List.forall_mem_cons, List.not_mem_nil, false_imp_iff, implies_true, Nat.reduceAdd, Nat.reduceLeDiff, forall_eq, List.mem_singleton, tyX, List.all_append, List.length_append, hq1, hq2, hq3, hq4, hq5]
            refine hK41 _ ⟨trivial, ?_⟩
            try clear hK41 K41
            refine AAny_all1 (i := 2) (by kernel_rfl) ?_
            · skip
              refine aAt_op rfl rfl fun K42 hK42 => ?_
              simp only [↓aops, ↓aop, ↓aWant, ↓aVal, bS, bA, AV.flat, AV.cl, AV.one, Value.oneCell', thenQ, blockQ, noGotoQ, ↓reduceIte, Nat.reduceEqDiff, reduceCtorEq, aAppend, ei27, slIn, slAt, slOf, List.length_map, getO, putO, bL, Nat.reduceAdd, tyX, List.all_append, List.length_append, hq1, hq2, hq3, hq4, hq5]
              refine hK42 _ ⟨trivial, ?_⟩
              try clear hK42 K42
              refine AAny_all1 (i := 5) (by kernel_rfl) ?_
              · skip
                refine aAt_op rfl rfl fun K43 hK43 => ?_
                simp only [↓aops, ↓aop, ↓aWant, ↓aVal, bS, bA, AV.flat, AV.cl, AV.one, Value.oneCell', thenQ, blockQ, noGotoQ, ↓reduceIte, Nat.reduceEqDiff, reduceCtorEq, aAppend, ei27, slIn, slAt, slOf, List.length_map, getO, putO, bL, Nat.reduceAdd, tyX, List.all_append, List.length_append, hq1, hq2, hq3, hq4, hq5]
                refine hK43 _ ⟨trivial, ?_⟩
                try clear hK43 K43
                refine AAny_takeK 8 rfl (by kernel_rfl) (by kernel_rfl) (by kernel_rfl) (fun _ _ h => h) fun K44 hK44 => ?_
                simp only [aQuiet, aHeldLoad, CurL, CurOk, ↓aops, ↓aop, ↓aWant, ↓aVal, bS, bA, AV.flat, AV.cl, AV.one, Value.oneCell', thenQ, blockQ, noGotoQ, ↓reduceIte, Nat.reduceEqDiff, reduceCtorEq, tyX, List.all_append, bL, List.length_append, hq1, hq2, hq3, hq4, hq5]
                refine hK44 _ ?_
                try clear hK44 K44
                refine AAny_takeK 9 rfl (by kernel_rfl) (by kernel_rfl) (by kernel_rfl) (fun _ _ h => h) fun K45 hK45 => ?_
                simp only [aQuiet, aHeldLoad, CurL, CurOk, ↓aops, ↓aop, ↓aWant, ↓aVal, bS, bA, AV.flat, AV.cl, AV.one, Value.oneCell', thenQ, blockQ, noGotoQ, ↓reduceIte, Nat.reduceEqDiff, reduceCtorEq, tyX, List.all_append, bL, List.length_append, hq1, hq2, hq3, hq4, hq5]
                refine hK45 _ ?_
                try clear hK45 K45
                refine AAny_done (by kernel_rfl) ?_
                simp only [thenQ, blockQ, noGotoQ]
                try simp only [maskL, setsL, putsO, putO, bA, Nat.reduceEqDiff, ↓reduceIte]
                first | refine ⟨trivial, ?_⟩ | skip
                refine Weak.bare ?_ rfl ?_
                · simp only [LeL, Le.refl, Le.any, and_self, and_true, true_and, List.map_append, List.map_cons, List.map_nil, RNode.cells]
                  first | done | exact Le.oslL
                · simp only [UndL, and_true, true_and, Und.any, Und.v]
                  first | done | exact .data (RNode.dataSl _)
      · skip
        refine aAt_op rfl rfl fun K46 hK46 => ?_
        simp only [↓aops, ↓aop, ↓aWant, ↓aVal, bS, bA, AV.flat, AV.cl, AV.one, Value.oneCell', thenQ, blockQ, noGotoQ, ↓reduceIte, Nat.reduceEqDiff, reduceCtorEq, aLoad, ti38, getO, pack, bL, Nat.reduceAdd, Nat.reduceLeDiff, tyX, List.all_append, List.length_append, hq1, hq2, hq3, hq4, hq5]
        refine hK46 _ ⟨trivial, ?_⟩
        try clear hK46 K46
        refine AAny_all2 (i := 0) (j := 4) (by kernel_rfl) ?_ ?_
        · skip
          refine aAt_op rfl rfl fun K47 hK47 => ?_
          simp only [↓aops, ↓aop, ↓aWant, ↓aVal, bS, bA, AV.flat, AV.cl, AV.one, Value.oneCell', thenQ, blockQ, noGotoQ, ↓reduceIte, Nat.reduceEqDiff, reduceCtorEq, ↓bs0_1, ↓bs0_2, ↓bs0_3, ↓bs0_4, ↓bs0_5, ↓bs0_6, ↓bs0_7, ↓bs0_8, ↓bs0_9, ↓bs0_10, ↓bs0_11, ↓bs0_12, aBuildSl, ei27, ia38, bL, List.range_succ, List.range_zero, List.forall_mem_cons, List.not_mem_nil, false_imp_iff, implies_true, Nat.reduceAdd, Nat.reduceLeDiff, forall_eq, List.mem_singleton, tyX, List.all_append, List.length_append, hq1, hq2, hq3, hq4, hq5]
          refine hK47 _ ⟨trivial, ?_⟩
          try clear hK47 K47
          refine AAny_all2 (i := 2) (j := 4) (by kernel_rfl) ?_ ?_
          · skip
            refine aAt_op rfl rfl fun K48 hK48 => ?_
            simp only [↓aops, ↓aop, ↓aWant, ↓aVal, bS, bA, AV.flat, AV.cl, AV.one, Value.oneCell', thenQ, blockQ, noGotoQ, ↓reduceIte, Nat.reduceEqDiff, reduceCtorEq, aAppend, ei27, slIn, slAt, slOf, List.length_map, getO, putO, bL, Nat.reduceAdd, tyX, List.all_append, List.length_append, hq1, hq2, hq3, hq4, hq5]
            refine hK48 _ ⟨trivial, ?_⟩
            try clear hK48 K48
            refine AAny_all1 (i := 4) (by kernel_rfl) ?_
            · skip
              refine aAt_op rfl rfl fun K49 hK49 => ?_
              simp only [↓aops, ↓aop, ↓aWant, ↓aVal, bS, bA, AV.flat, AV.cl, AV.one, Value.oneCell', thenQ, blockQ, noGotoQ, ↓reduceIte, Nat.reduceEqDiff, reduceCtorEq, ↓bs1_1, ↓bs1_2, ↓bs1_3, ↓bs1_4, ↓bs1_5, ↓bs1_6, ↓bs1_7, ↓bs1_8, ↓bs1_9, ↓bs1_10, ↓bs1_11, ↓bs1_12, aBuildSl, ei27, ia38, bL, List.range_succ, List.range_zero, List.forall_mem_cons, List.not_mem_nil, false_imp_iff, implies_true, Nat.reduceAdd, Nat.reduceLeDiff, forall_eq, List.mem_singleton, tyX, List.all_append, List.length_append, hq1, hq2, hq3, hq4, hq5]
              refine hK49 _ ⟨trivial, ?_⟩
              try clear hK49 K49
              refine AAny_all1 (i := 5) (by kernel_rfl) ?_
              · skip
                refine aAt_op rfl rfl fun K50 hK50 => ?_
                simp only [↓aops, ↓aop, ↓aWant, ↓aVal, bS, bA, AV.flat, AV.cl, AV.one, Value.oneCell', thenQ, blockQ, noGotoQ, ↓reduceIte, Nat.reduceEqDiff, reduceCtorEq, aAppend, ei27, slIn, slAt, slOf, List.length_map, getO, putO, bL, Nat.reduceAdd, tyX, List.all_append, List.length_append, hq1, hq2, hq3, hq4, hq5]
                refine hK50 _ ⟨trivial, ?_⟩
                try clear hK50 K50
                refine AAny_takeK 8 rfl (by kernel_rfl) (by kernel_rfl) (by kernel_rfl) (fun _ _ h => h) fun K51 hK51 => ?_
                simp only [aQuiet, aHeldLoad, CurL, CurOk, ↓aops, ↓aop, ↓aWant, ↓aVal, bS, bA, AV.flat, AV.cl, AV.one, Value.oneCell', thenQ, blockQ, noGotoQ, ↓reduceIte, Nat.reduceEqDiff, reduceCtorEq, tyX, List.all_append, bL, List.length_append, hq1, hq2, hq3, hq4, hq5]
                refine hK51 _ ?_
                try clear hK51 K51
                refine AAny_takeK 9 rfl (by kernel_rfl) (by kernel_rfl) (by kernel_rfl) (fun _ _ h => h) fun K52 hK52 => ?_
                simp only [aQuiet, aHeldLoad, CurL, CurOk, ↓aops, ↓aop, ↓aWant, ↓aVal, bS, bA, AV.flat, AV.cl, AV.one, Value.oneCell', thenQ, blockQ, noGotoQ, ↓reduceIte, Nat.reduceEqDiff, reduceCtorEq, tyX, List.all_append, bL, List.length_append, hq1, hq2, hq3, hq4, hq5]
                refine hK52 _ ?_
                try clear hK52 K52
                refine AAny_done (by kernel_rfl) ?_
                simp only [thenQ, blockQ, noGotoQ]
                try simp only [maskL, setsL, putsO, putO, bA, Nat.reduceEqDiff, ↓reduceIte]
                first | refine ⟨trivial, ?_⟩ | skip
                refine Weak.bare ?_ rfl ?_
                · simp only [LeL, Le.refl, Le.any, and_self, and_true, true_and, List.map_append, List.map_cons, List.map_nil, RNode.cells]
                  first | done | exact Le.oslL
                · simp only [UndL, and_true, true_and, Und.any, Und.v]
                  first | done | exact .data (RNode.dataSl _)
          · skip
            refine aAt_op rfl rfl fun K53 hK53 => ?_
            simp only [↓aops, ↓aop, ↓aWant, ↓aVal, bS, bA, AV.flat, AV.cl, AV.one, Value.oneCell', thenQ, blockQ, noGotoQ, ↓reduceIte, Nat.reduceEqDiff, reduceCtorEq, ↓bs1_1, ↓bs1_2, ↓bs1_3, ↓bs1_4, ↓bs1_5, ↓bs1_6, ↓bs1_7, ↓bs1_8, ↓bs1_9, ↓bs1_10, ↓bs1_11, ↓bs1_12, aBuildSl, ei27, ia38, bL, List.range_succ, List.range_zero, List.forall_mem_cons, List.not_mem_nil, false_imp_iff, implies_true, Nat.reduceAdd, Nat.reduceLeDiff, forall_eq, List.mem_singleton, tyX, List.all_append, List.length_append, hq1, hq2, hq3, hq4, hq5]
            refine hK53 _ ⟨trivial, ?_⟩
            try clear hK53 K53
            refine AAny_all1 (i := 2) (by kernel_rfl) ?_
            · skip
              refine aAt_op rfl rfl fun K54 hK54 => ?_
              simp only [↓aops, ↓aop, ↓aWant, ↓aVal, bS, bA, AV.flat, AV.cl, AV.one, Value.oneCell', thenQ, blockQ, noGotoQ, ↓reduceIte, Nat.reduceEqDiff, reduceCtorEq, aAppend, ei27, slIn, slAt, slOf, List.length_map, getO, putO, bL, Nat.reduceAdd, tyX, List.all_append, List.length_append, hq1, hq2, hq3, hq4, hq5]
              refine hK54 _ ⟨trivial, ?_⟩
              try clear hK54 K54
              refine AAny_all1 (i := 5) (by kernel_rfl) ?_
              · skip
                refine aAt_op rfl rfl fun K55 hK55 => ?_
                simp only [↓aops, ↓aop, ↓aWant, ↓aVal, bS, bA, AV.flat, AV.cl, AV.one, Value.oneCell', thenQ, blockQ, noGotoQ, ↓reduceIte, Nat.reduceEqDiff, reduceCtorEq, aAppend, ei27, slIn, slAt, slOf, List.length_map, getO, putO, bL, Nat.reduceAdd, tyX, List.all_append, List.length_append, hq1, hq2, hq3, hq4, hq5]
                refine hK55 _ ⟨trivial, ?_⟩
                try clear hK55 K55
                refine AAny_takeK 8 rfl (by kernel_rfl) (by kernel_rfl) (by kernel_rfl) (fun _ _ h => h) fun K56 hK56 => ?_
                simp only [aQuiet, aHeldLoad, CurL, CurOk, ↓aops, ↓aop, ↓aWant, ↓aVal, bS, bA, AV.flat, AV.cl, AV.one, Value.oneCell', thenQ, blockQ, noGotoQ, ↓reduceIte, Nat.reduceEqDiff, reduceCtorEq, tyX, List.all_append, bL, List.length_append, hq1, hq2, hq3, hq4, hq5]
                refine hK56 _ ?_
                try clear hK56 K56
                refine AAny_takeK 9 rfl (by kernel_rfl) (by kernel_rfl) (by kernel_rfl) (fun _ _ h => h) fun K57 hK57 => ?_
                simp only [aQuiet, aHeldLoad, CurL, CurOk, ↓aops, ↓aop, ↓aWant, ↓aVal, bS, bA, AV.flat, AV.cl, AV.one, Value.oneCell', thenQ, blockQ, noGotoQ, ↓reduceIte, Nat.reduceEqDiff, reduceCtorEq, tyX, List.all_append, bL, List.length_append, hq1, hq2, hq3, hq4, hq5]
                refine hK57 _ ?_
                try clear hK57 K57
                refine AAny_done (by kernel_rfl) ?_
                simp only [thenQ, blockQ, noGotoQ]
                try simp only [maskL, setsL, putsO, putO, bA, Nat.reduceEqDiff, ↓reduceIte]
                first | refine ⟨trivial, ?_⟩ | skip
                refine Weak.bare ?_ rfl ?_
                · simp only [LeL, Le.refl, Le.any, and_self, and_true, true_and, List.map_append, List.map_cons, List.map_nil, RNode.cells]
                  first | done | exact Le.oslL
                · simp only [UndL, and_true, true_and, Und.any, Und.v]
                  first | done | exact .data (RNode.dataSl _)
        · skip
          refine aAt_op rfl rfl fun K58 hK58 => ?_
          simp only [↓aops, ↓aop, ↓aWant, ↓aVal, bS, bA, AV.flat, AV.cl, AV.one, Value.oneCell', thenQ, blockQ, noGotoQ, ↓reduceIte, Nat.reduceEqDiff, reduceCtorEq, ↓bs1_1, ↓bs1_2, ↓bs1_3, ↓bs1_4, ↓bs1_5, ↓bs1_6, ↓bs1_7, ↓bs1_8, ↓bs1_9, ↓bs1_10, ↓bs1_11, ↓bs1_12, aBuildSl, ei27, ia38, bL, List.range_succ, List.range_zero, List.forall_mem_cons, List.not_mem_nil, false_imp_iff, implies_true, Nat.reduceAdd, Nat.reduceLeDiff, forall_eq, List.mem_singleton, tyX, List.all_append, List.length_append, hq1, hq2, hq3, hq4, hq5]
          refine hK58 _ ⟨trivial, ?_⟩
          try clear hK58 K58
          refine AAny_all1 (i := 0) (by kernel_rfl) ?_
          · skip
            refine aAt_op rfl rfl fun K59 hK59 => ?_
            simp only [↓aops, ↓aop, ↓aWant, ↓aVal, bS, bA, AV.flat, AV.cl, AV.one, Value.oneCell', thenQ, blockQ, noGotoQ, ↓reduceIte, Nat.reduceEqDiff, reduceCtorEq, ↓bs0_1, ↓bs0_2, ↓bs0_3, ↓bs0_4, ↓bs0_5, ↓bs0_6, ↓bs0_7, ↓bs0_8, ↓bs0_9, ↓bs0_10, ↓bs0_11, ↓bs0_12, aBuildSl, ei27, ia38, bL, List.range_succ, List.range_zero, List.forall_mem_cons, List.not_mem_nil, false_imp_iff, implies_true, Nat.reduceAdd, Nat.reduceLeDiff, forall_eq, List.mem_singleton, tyX, List.all_append, List.length_append, hq1, hq2, hq3, hq4, hq5]
            refine hK59 _ ⟨trivial, ?_⟩
            try clear hK59 K59
            refine AAny_all1 (i := 2) (by kernel_rfl) ?_
            · skip
              refine aAt_op rfl rfl fun K60 hK60 => ?_
              simp only [↓aops, ↓aop, ↓aWant, ↓aVal, bS, bA, AV.flat, AV.cl, AV.one, Value.oneCell', thenQ, blockQ, noGotoQ, ↓reduceIte, Nat.reduceEqDiff, reduceCtorEq, aAppend, ei27, slIn, slAt, slOf, List.length_map, getO, putO, bL, Nat.reduceAdd, tyX, List.all_append, List.length_append, hq1, hq2, hq3, hq4, hq5]
              refine hK60 _ ⟨trivial, ?_⟩
              try clear hK60 K60
              refine AAny_all1 (i := 5) (by kernel_rfl) ?_
              · skip
                refine aAt_op rfl rfl fun K61 hK61 => ?_
                simp only [↓aops, ↓aop, ↓aWant, ↓aVal, bS, bA, AV.flat, AV.cl, AV.one, Value.oneCell', thenQ, blockQ, noGotoQ, ↓reduceIte, Nat.reduceEqDiff, reduceCtorEq, aAppend, ei27, slIn, slAt, slOf, List.length_map, getO, putO, bL, Nat.reduceAdd, tyX, List.all_append, List.length_append, hq1, hq2, hq3, hq4, hq5]
                refine hK61 _ ⟨trivial, ?_⟩
                try clear hK61 K61
                refine AAny_takeK 8 rfl (by kernel_rfl) (by kernel_rfl) (by kernel_rfl) (fun _ _ h => h) fun K62 hK62 => ?_
                simp only [aQuiet, aHeldLoad, CurL, CurOk, ↓aops, ↓aop, ↓aWant, ↓aVal, bS, bA, AV.flat, AV.cl, AV.one, Value.oneCell', thenQ, blockQ, noGotoQ, ↓reduceIte, Nat.reduceEqDiff, reduceCtorEq, tyX, List.all_append, bL, List.length_append, hq1, hq2, hq3, hq4, hq5]
                refine hK62 _ ?_
                try clear hK62 K62
                refine AAny_takeK 9 rfl (by kernel_rfl) (by kernel_rfl) (by kernel_rfl) (fun _ _ h => h) fun K63 hK63 => ?_
                simp only [aQuiet, aHeldLoad, CurL, CurOk, ↓aops, ↓aop, ↓aWant, ↓aVal, bS, bA, AV.flat, AV.cl, AV.one, Value.oneCell', thenQ, blockQ, noGotoQ, ↓reduceIte, Nat.reduceEqDiff, reduceCtorEq, tyX, List.all_append, bL, List.length_append, hq1, hq2, hq3, hq4, hq5]
                refine hK63 _ ?_
                try clear hK63 K63
                refine AAny_done (by kernel_rfl) ?_
                simp only [thenQ, blockQ, noGotoQ]
                try simp only [maskL, setsL, putsO, putO, bA, Nat.reduceEqDiff, ↓reduceIte]
                first | refine ⟨trivial, ?_⟩ | skip
                refine Weak.bare ?_ rfl ?_
                · simp only [LeL, Le.refl, Le.any, and_self, and_true, true_and, List.map_append, List.map_cons, List.map_nil, RNode.cells]
                  first | done | exact Le.oslL
                · simp only [UndL, and_true, true_and, Und.any, Und.v]
                  first | done | exact .data (RNode.dataSl _)
    simp only [maskL, setsL, putsO, putO, bA, Nat.reduceEqDiff, ↓reduceIte]
    refine AWp_ret ?_
    try simp only [thenQ, blockQ, noGotoQ, retQ, aRes, tupOf, bS, bA]
    rw [Ty.radd_eq]
    first | (rw [if_neg hno]; exact Le.refl _) | (rw [if_pos (by simp at *; omega)]; exact Le.refl _)
end Go.Proofs.Ytohdoloalolpfaa
