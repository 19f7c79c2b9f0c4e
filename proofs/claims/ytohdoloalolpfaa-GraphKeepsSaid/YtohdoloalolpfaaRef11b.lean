import Derived.Test.YtohdoloalolpfaaRef11
namespace Go.Proofs.Ytohdoloalolpfaa
open Go Go.RowKit
set_option maxRecDepth 100000
set_option linter.unusedSimpArgs false
set_option linter.unusedVariables false
theorem RAdd_pure : ∀ (T : Ty) (g : List RNode) (hg : g.length + T.cnt ≤ 1099511627776), APure Try.prog 51 [.sl 4 (g.map RNode.cells), .agg T.cells] (.tup [.sl 4 ((T.radd g).1.map RNode.cells), .v (.int .i64 (T.radd g).2)]) := by
  refine Ty.ind fun T ih => ?_
  intro g hg
  refine APure.mkL (.cons (RNode.dataSl g) (.cons T.dataAgg .nil)) (.tup (.cons (RNode.dataSl _) (.cons (.v _) .nil))) ?_
  refine ACalls_intro Try.func51 (by kernel_rfl) rfl (by rw [Try.ntmps51]; simp) (fun hm => ?_)
  simp only [Try.ntmps51, Try.results51, List.length_cons, List.length_nil, Nat.reduceAdd, Nat.reduceSub, List.replicate_succ, List.replicate_zero, List.cons_append, List.nil_append]
  have hm1 := hm.wide (t := T) (by simp)
  have hcn := T.cnt_eq
  have hcl := Ty.cntL_len T.ps
  refine AWp_seqK fun K1 hK1 => ?_
  refine AWp_region ?_
  refine aops_chunk 2 fun C2 hC2 => ?_
  simp only [List.take_succ_cons, List.take_zero, ↓aops, ↓aop, ↓aWant, ↓aVal, St.ev, St.get, St.put, St.new, List.getD_cons_zero, List.getD_cons_succ, List.set_cons_zero, List.set_cons_succ, AV.flat, AV.cl, AV.one, Value.oneCell', true_and, and_true, thenQ, blockQ, if_true, if_false, ↓reduceIte, Bool.false_eq_true, Bool.not_true, Bool.not_false, Nat.reduceEqDiff, reduceCtorEq, Ty.cells_one, List.all_append, Bool.true_and, Bool.and_true, List.all_cons, List.all_nil, Ty.cells_len, Ty.cells_take1, Ty.cells_drop1, Ty.cells_drop2, Ty.cells_take3, List.length_append]
  refine hC2 _ ?_
  try clear hC2 C2
  simp only [List.drop_succ_cons, List.drop_zero]
  simp only [↓aops, ↓aop, ↓aWant, ↓aVal, St.ev, St.get, St.put, St.new, List.getD_cons_zero, List.getD_cons_succ, List.set_cons_zero, List.set_cons_succ, AV.flat, AV.cl, AV.one, Value.oneCell', true_and, and_true, thenQ, blockQ, if_true, if_false, ↓reduceIte, Bool.false_eq_true, Bool.not_true, Bool.not_false, Nat.reduceEqDiff, reduceCtorEq, Ty.cells_one, List.all_append, Bool.true_and, Bool.and_true, List.all_cons, List.all_nil, Ty.cells_len, Ty.cells_take1, Ty.cells_drop1, Ty.cells_drop2, Ty.cells_take3, List.length_append]
  refine hK1 _ ?_
  try clear hK1 K1
  refine AWp_joinC [true, false, false, true, false, false, false, false, false, false, false, false, false, false, false, false, false, false, false, false, false, false, false, false, false, false, false, false, false, false, false, false, false, false, false, false, false, false, false, false, false, false, false, false, false, false, false, false, false, false, false, false, false, false, false, false] ([(0, .sl 4 (g.map RNode.cells))]) ([]) (¬ (T.k = 1 ∧ 0 ≤ idxI (RNode.isVar T.n) g)) ?_ (fun hno => ?_)
  · skip
    refine AWp_seqK fun K3 hK3 => ?_
    refine AWp_region ?_
    refine aops_chunk 2 fun C4 hC4 => ?_
    simp only [List.take_succ_cons, List.take_zero, ↓aops, ↓aop, ↓aWant, ↓aVal, St.ev, St.get, St.put, St.new, List.getD_cons_zero, List.getD_cons_succ, List.set_cons_zero, List.set_cons_succ, AV.flat, AV.cl, AV.one, Value.oneCell', true_and, and_true, thenQ, blockQ, if_true, if_false, ↓reduceIte, Bool.false_eq_true, Bool.not_true, Bool.not_false, Nat.reduceEqDiff, reduceCtorEq, aField, fo32_0, Nat.zero_add, Nat.reduceAdd, Nat.add_zero, List.drop_succ_cons, List.drop_zero, aLoad, ti3, getO, pack, List.length_cons, List.length_nil, Nat.reduceLeDiff, Nat.le_refl, Ty.cells_one, List.all_append, Bool.true_and, Bool.and_true, List.all_cons, List.all_nil, Ty.cells_len, Ty.cells_take1, Ty.cells_drop1, Ty.cells_drop2, Ty.cells_take3, List.length_append]
    refine hC4 _ ?_
    try clear hC4 C4
    simp only [List.drop_succ_cons, List.drop_zero]
    simp only [↓aops, ↓aop, ↓aWant, ↓aVal, St.ev, St.get, St.put, St.new, List.getD_cons_zero, List.getD_cons_succ, List.set_cons_zero, List.set_cons_succ, AV.flat, AV.cl, AV.one, Value.oneCell', true_and, and_true, thenQ, blockQ, if_true, if_false, ↓reduceIte, Bool.false_eq_true, Bool.not_true, Bool.not_false, Nat.reduceEqDiff, reduceCtorEq, aBin, Ty.cells_one, List.all_append, Bool.true_and, Bool.and_true, List.all_cons, List.all_nil, Ty.cells_len, Ty.cells_take1, Ty.cells_drop1, Ty.cells_drop2, Ty.cells_take3, List.length_append]
    refine hK3 _ ?_
    try clear hK3 K3
    refine AWp_cond (by rfl) (fun hb13 => ?_) (fun hb13 => ?_)
    · skip
      refine AWp_seqK fun K5 hK5 => ?_
      refine AWp_region ?_
      refine aops_chunk 2 fun C6 hC6 => ?_
      simp only [List.take_succ_cons, List.take_zero, ↓aops, ↓aop, ↓aWant, ↓aVal, St.ev, St.get, St.put, St.new, List.getD_cons_zero, List.getD_cons_succ, List.set_cons_zero, List.set_cons_succ, AV.flat, AV.cl, AV.one, Value.oneCell', true_and, and_true, thenQ, blockQ, if_true, if_false, ↓reduceIte, Bool.false_eq_true, Bool.not_true, Bool.not_false, Nat.reduceEqDiff, reduceCtorEq, aField, fo32_1, Nat.zero_add, Nat.reduceAdd, Nat.add_zero, List.drop_succ_cons, List.drop_zero, Ty.cells_one, List.all_append, Bool.true_and, Bool.and_true, List.all_cons, List.all_nil, Ty.cells_len, Ty.cells_take1, Ty.cells_drop1, Ty.cells_drop2, Ty.cells_take3, List.length_append]
      refine hC6 _ ?_
      try clear hC6 C6
      simp only [List.drop_succ_cons, List.drop_zero]
      refine aops_chunk 1 fun C7 hC7 => ?_
      simp only [List.take_succ_cons, List.take_zero, ↓aops, ↓aop, ↓aWant, ↓aVal, St.ev, St.get, St.put, St.new, List.getD_cons_zero, List.getD_cons_succ, List.set_cons_zero, List.set_cons_succ, AV.flat, AV.cl, AV.one, Value.oneCell', true_and, and_true, thenQ, blockQ, if_true, if_false, ↓reduceIte, Bool.false_eq_true, Bool.not_true, Bool.not_false, Nat.reduceEqDiff, reduceCtorEq, aLoad, ti3, getO, pack, List.length_cons, List.length_nil, Nat.reduceAdd, Nat.reduceLeDiff, Nat.zero_add, Nat.le_refl, List.drop_succ_cons, List.drop_zero, Ty.cells_one, List.all_append, Bool.true_and, Bool.and_true, List.all_cons, List.all_nil, Ty.cells_len, Ty.cells_take1, Ty.cells_drop1, Ty.cells_drop2, Ty.cells_take3, List.length_append]
      refine hC7 _ ?_
      try clear hC7 C7
      simp only [List.drop_succ_cons, List.drop_zero]
      refine aops_chunk 1 fun C8 hC8 => ?_
      simp only [List.take_succ_cons, List.take_zero, ↓aops, ↓aop, ↓aWant, ↓aVal, St.ev, St.get, St.put, St.new, List.getD_cons_zero, List.getD_cons_succ, List.set_cons_zero, List.set_cons_succ, AV.flat, AV.cl, AV.one, Value.oneCell', true_and, and_true, thenQ, blockQ, if_true, if_false, ↓reduceIte, Bool.false_eq_true, Bool.not_true, Bool.not_false, Nat.reduceEqDiff, reduceCtorEq, aCallV, Array.toList_map, List.map_cons, List.map_nil, List.append_nil, List.cons_append, List.nil_append, Ty.cells_one, List.all_append, Bool.true_and, Bool.and_true, List.all_cons, List.all_nil, Ty.cells_len, Ty.cells_take1, Ty.cells_drop1, Ty.cells_drop2, Ty.cells_take3, List.length_append]
      refine APure.call (RVar_pure g T.n) ?_
      try simp only [St.put, List.set_cons_zero, List.set_cons_succ, thenQ, blockQ]
      refine hC8 _ ?_
      try clear hC8 C8
      simp only [List.drop_succ_cons, List.drop_zero]
      simp only [↓aops, ↓aop, ↓aWant, ↓aVal, St.ev, St.get, St.put, St.new, List.getD_cons_zero, List.getD_cons_succ, List.set_cons_zero, List.set_cons_succ, AV.flat, AV.cl, AV.one, Value.oneCell', true_and, and_true, thenQ, blockQ, if_true, if_false, ↓reduceIte, Bool.false_eq_true, Bool.not_true, Bool.not_false, Nat.reduceEqDiff, reduceCtorEq, Ty.cells_one, List.all_append, Bool.true_and, Bool.and_true, List.all_cons, List.all_nil, Ty.cells_len, Ty.cells_take1, Ty.cells_drop1, Ty.cells_drop2, Ty.cells_take3, List.length_append]
      refine hK5 _ ?_
      try clear hK5 K5
      refine AWp_seqK fun K9 hK9 => ?_
      refine AWp_region ?_
      simp only [↓aops, ↓aop, ↓aWant, ↓aVal, St.ev, St.get, St.put, St.new, List.getD_cons_zero, List.getD_cons_succ, List.set_cons_zero, List.set_cons_succ, AV.flat, AV.cl, AV.one, Value.oneCell', true_and, and_true, thenQ, blockQ, if_true, if_false, ↓reduceIte, Bool.false_eq_true, Bool.not_true, Bool.not_false, Nat.reduceEqDiff, reduceCtorEq, aBin, Ty.cells_one, List.all_append, Bool.true_and, Bool.and_true, List.all_cons, List.all_nil, Ty.cells_len, Ty.cells_take1, Ty.cells_drop1, Ty.cells_drop2, Ty.cells_take3, List.length_append]
      refine hK9 _ ?_
      try clear hK9 K9
      refine AWp_cond (by rfl) (fun hb19 => ?_) (fun hb19 => ?_)
      · skip
        refine AWp_seqK fun K10 hK10 => ?_
        refine AWp_region ?_
        refine aops_chunk 2 fun C11 hC11 => ?_
        simp only [List.take_succ_cons, List.take_zero, ↓aops, ↓aop, ↓aWant, ↓aVal, St.ev, St.get, St.put, St.new, List.getD_cons_zero, List.getD_cons_succ, List.set_cons_zero, List.set_cons_succ, AV.flat, AV.cl, AV.one, Value.oneCell', true_and, and_true, thenQ, blockQ, if_true, if_false, ↓reduceIte, Bool.false_eq_true, Bool.not_true, Bool.not_false, Nat.reduceEqDiff, reduceCtorEq, Ty.cells_one, List.all_append, Bool.true_and, Bool.and_true, List.all_cons, List.all_nil, Ty.cells_len, Ty.cells_take1, Ty.cells_drop1, Ty.cells_drop2, Ty.cells_take3, List.length_append]
        refine hC11 _ ?_
        try clear hC11 C11
        simp only [List.drop_succ_cons, List.drop_zero]
        simp only [↓aops, ↓aop, ↓aWant, ↓aVal, St.ev, St.get, St.put, St.new, List.getD_cons_zero, List.getD_cons_succ, List.set_cons_zero, List.set_cons_succ, AV.flat, AV.cl, AV.one, Value.oneCell', true_and, and_true, thenQ, blockQ, if_true, if_false, ↓reduceIte, Bool.false_eq_true, Bool.not_true, Bool.not_false, Nat.reduceEqDiff, reduceCtorEq, Ty.cells_one, List.all_append, Bool.true_and, Bool.and_true, List.all_cons, List.all_nil, Ty.cells_len, Ty.cells_take1, Ty.cells_drop1, Ty.cells_drop2, Ty.cells_take3, List.length_append]
        refine hK10 _ ?_
        try clear hK10 K10
        refine AWp_ret ?_
        simp only [thenQ, blockQ, retQ, aRes, tupOf, St.get, List.getD_cons_zero, List.getD_cons_succ]
        rw [Ty.radd_eq]
        first | (rw [if_neg hno]; exact Le.refl _) | (rw [if_pos (by simp at *; omega)]; exact Le.refl _)
      · skip
        refine AWp_skip ?_
        simp only [thenQ, blockQ]
        simp only [maskL, setsL, putsO, putO, List.set_cons_zero, List.set_cons_succ, Nat.reduceEqDiff, ↓reduceIte]
        refine ⟨(by simp only [beq_iff_eq, beq_eq_false_iff_ne, decide_eq_false_iff_not, ne_eq] at *; omega), ?_⟩
        exact Weak.mk (by simp only [LeL, Le.refl, Le.any, and_self]) (fun _ _ h => h) rfl rfl
    · skip
      refine AWp_skip ?_
      simp only [thenQ, blockQ]
      simp only [maskL, setsL, putsO, putO, List.set_cons_zero, List.set_cons_succ, Nat.reduceEqDiff, ↓reduceIte]
      refine ⟨(by simp only [beq_iff_eq, beq_eq_false_iff_ne, decide_eq_false_iff_not, ne_eq] at *; omega), ?_⟩
      exact Weak.mk (by simp only [LeL, Le.refl, Le.any, and_self]) (fun _ _ h => h) rfl rfl
  simp only [maskL, setsL, putsO, putO, List.set_cons_zero, List.set_cons_succ, Nat.reduceEqDiff, ↓reduceIte]
  refine AWp_seqK fun K12 hK12 => ?_
  refine AWp_region ?_
  refine aops_chunk 2 fun C13 hC13 => ?_
  simp only [List.take_succ_cons, List.take_zero, ↓aops, ↓aop, ↓aWant, ↓aVal, St.ev, St.get, St.put, St.new, List.getD_cons_zero, List.getD_cons_succ, List.set_cons_zero, List.set_cons_succ, AV.flat, AV.cl, AV.one, Value.oneCell', true_and, and_true, thenQ, blockQ, if_true, if_false, ↓reduceIte, Bool.false_eq_true, Bool.not_true, Bool.not_false, Nat.reduceEqDiff, reduceCtorEq, aLoad, ti32, getO, pack, List.length_cons, List.length_nil, Nat.reduceAdd, Nat.reduceLeDiff, Nat.zero_add, Nat.le_refl, List.drop_succ_cons, List.drop_zero, aBuild, zc38, pc38, aFill, splice, Array.toList_map, List.map_cons, List.map_nil, List.getElem?_cons_zero, List.getElem?_cons_succ, List.nil_append, List.cons_append, List.append_nil, Ty.cells_one, List.all_append, Bool.true_and, Bool.and_true, List.all_cons, List.all_nil, Ty.cells_len, Ty.cells_take1, Ty.cells_drop1, Ty.cells_drop2, Ty.cells_take3, List.length_append]
  refine hC13 _ ?_
  try clear hC13 C13
  simp only [List.drop_succ_cons, List.drop_zero]
  simp only [↓aops, ↓aop, ↓aWant, ↓aVal, St.ev, St.get, St.put, St.new, List.getD_cons_zero, List.getD_cons_succ, List.set_cons_zero, List.set_cons_succ, AV.flat, AV.cl, AV.one, Value.oneCell', true_and, and_true, thenQ, blockQ, if_true, if_false, ↓reduceIte, Bool.false_eq_true, Bool.not_true, Bool.not_false, Nat.reduceEqDiff, reduceCtorEq, zc38, List.map_cons, List.map_nil, aStore, ti38, getO, putO, splice, List.length_cons, List.length_nil, Nat.reduceAdd, Nat.reduceLeDiff, Nat.zero_add, Nat.le_refl, List.take_succ_cons, List.take_zero, List.drop_succ_cons, List.drop_zero, List.all_cons, List.all_nil, Bool.and_true, List.nil_append, List.cons_append, List.append_nil, Ty.cells_one, List.all_append, Bool.true_and, Ty.cells_len, Ty.cells_take1, Ty.cells_drop1, Ty.cells_drop2, Ty.cells_take3, List.length_append]
  refine hK12 _ ?_
  try clear hK12 K12
  refine AWp_seqK fun K14 hK14 => ?_
  simp only [Ty.cells_eq T, List.cons_append, List.nil_append]
  refine AWp_seqK fun K15 hK15 => ?_
  refine AWp_region ?_
  simp only [↓aops, ↓aop, ↓aWant, ↓aVal, St.ev, St.get, St.put, St.new, List.getD_cons_zero, List.getD_cons_succ, List.set_cons_zero, List.set_cons_succ, AV.flat, AV.cl, AV.one, Value.oneCell', true_and, and_true, thenQ, blockQ, if_true, if_false, ↓reduceIte, Bool.false_eq_true, Bool.not_true, Bool.not_false, Nat.reduceEqDiff, reduceCtorEq, Ty.cells_one, List.all_append, Bool.true_and, Bool.and_true, List.all_cons, List.all_nil, Ty.cells_len, Ty.cells_take1, Ty.cells_drop1, Ty.cells_drop2, Ty.cells_take3, List.length_append]
  refine hK15 _ ?_
  try clear hK15 K15
  refine AWp_block ?_
  refine AWp_weak (Weak.tokCell 3 1 (id := 1) (t := 38) [.v (.int .i64 T.k), .v (.int .i64 T.n), .sl 3 (T.ps.map Ty.cells), .osl 2 1 []] rfl ⟨.inl (.refl _), .inl (.refl _), .inl (.refl _), .inr ⟨rfl, rfl⟩, trivial⟩) ?_
  simp only [putO, Nat.reduceEqDiff, ↓reduceIte]
  refine AWp_loopM (σ := Nat) [true, false, false, true, false, false, false, true, true, false, false, false, false, false, false, false, false, false, false, false, false, false, false, false, false, false, false, false, false, false, false, false, false, false, false, false, false, false, false, false, false, false, false, false, false, false, false, false, false, false, false, false, false, false, false, false] (fun s => s ≤ T.ps.length) (fun s => [(0, .sl 4 ((Ty.raddL (T.ps.take s) g []).1.map RNode.cells)), (8, .v (.int .i64 (s : Int)))]) (fun s => [(1, .cells 38 [.v (.int .i64 T.k), .v (.int .i64 T.n), .sl 3 (T.ps.map Ty.cells), .osl 2 1 ((Ty.raddL (T.ps.take s) g []).2.map intC)]), (2, .tok 3 1 s)]) (fun s => T.ps.length - s) 0 (by omega) ?_ (fun s hs => ?_)
  · skip
    simp only [maskL, setsL, putsO, putO, List.set_cons_zero, List.set_cons_succ, Nat.reduceEqDiff, ↓reduceIte, List.take_zero, Ty.raddL, List.map_nil]
    exact Weak.mk (by simp only [LeL, Le.refl, Le.any, Le.slNil, and_self, Int.natCast_add, Int.cast_ofNat_Int, Int.natCast_one]) (fun _ _ h => h) rfl rfl
  simp only [maskL, setsL, putsO, putO, List.set_cons_zero, List.set_cons_succ, Nat.reduceEqDiff, ↓reduceIte]
  refine AWp_seqK fun K16 hK16 => ?_
  refine AWp_seqK fun K17 hK17 => ?_
  refine AWp_region ?_
  refine aops_chunk 2 fun C18 hC18 => ?_
  simp only [List.take_succ_cons, List.take_zero, ↓aops, ↓aop, ↓aWant, ↓aVal, St.ev, St.get, St.put, St.new, List.getD_cons_zero, List.getD_cons_succ, List.set_cons_zero, List.set_cons_succ, AV.flat, AV.cl, AV.one, Value.oneCell', true_and, and_true, thenQ, blockQ, if_true, if_false, ↓reduceIte, Bool.false_eq_true, Bool.not_true, Bool.not_false, Nat.reduceEqDiff, reduceCtorEq, aField, fo32_2, Nat.zero_add, Nat.reduceAdd, Nat.add_zero, List.drop_succ_cons, List.drop_zero, Ty.cells_one, List.all_append, Bool.true_and, Bool.and_true, List.all_cons, List.all_nil, Ty.cells_len, Ty.cells_take1, Ty.cells_drop1, Ty.cells_drop2, Ty.cells_take3, List.length_append]
  refine hC18 _ ?_
  try clear hC18 C18
  simp only [List.drop_succ_cons, List.drop_zero]
  refine aops_chunk 2 fun C19 hC19 => ?_
  simp only [List.take_succ_cons, List.take_zero, ↓aops, ↓aop, ↓aWant, ↓aVal, St.ev, St.get, St.put, St.new, List.getD_cons_zero, List.getD_cons_succ, List.set_cons_zero, List.set_cons_succ, AV.flat, AV.cl, AV.one, Value.oneCell', true_and, and_true, thenQ, blockQ, if_true, if_false, ↓reduceIte, Bool.false_eq_true, Bool.not_true, Bool.not_false, Nat.reduceEqDiff, reduceCtorEq, aLoad, ti22, getO, pack, List.length_cons, List.length_nil, Nat.reduceAdd, Nat.reduceLeDiff, Nat.zero_add, Nat.le_refl, List.drop_succ_cons, List.drop_zero, aLen, ln22, List.length_map, Ty.cells_one, List.all_append, Bool.true_and, Bool.and_true, List.all_cons, List.all_nil, Ty.cells_len, Ty.cells_take1, Ty.cells_drop1, Ty.cells_drop2, Ty.cells_take3, List.length_append]
  refine hC19 _ ?_
  try clear hC19 C19
  simp only [List.drop_succ_cons, List.drop_zero]
  simp only [↓aops, ↓aop, ↓aWant, ↓aVal, St.ev, St.get, St.put, St.new, List.getD_cons_zero, List.getD_cons_succ, List.set_cons_zero, List.set_cons_succ, AV.flat, AV.cl, AV.one, Value.oneCell', true_and, and_true, thenQ, blockQ, if_true, if_false, ↓reduceIte, Bool.false_eq_true, Bool.not_true, Bool.not_false, Nat.reduceEqDiff, reduceCtorEq, aBin, Ty.cells_one, List.all_append, Bool.true_and, Bool.and_true, List.all_cons, List.all_nil, Ty.cells_len, Ty.cells_take1, Ty.cells_drop1, Ty.cells_drop2, Ty.cells_take3, List.length_append]
  refine hK17 _ ?_
  try clear hK17 K17
  refine AWp_cond (by rfl) (fun hb28 => ?_) (fun hb28 => ?_)
  · skip
    have hk : s < T.ps.length := by simpa using hb28
    obtain ⟨p, hp⟩ : ∃ p, T.ps[s]? = some p := ⟨_, List.getElem?_eq_getElem hk⟩
    have hw : IntKind.i64.wrap ((s : Int) + 1) = (s : Int) + 1 := wrap_in (by omega) (by have := hm1.len; simp only [maxLen] at this; omega)
    have hln : (Ty.raddL (T.ps.take s) g []).2.length = s := by rw [Ty.raddL_len2]; simp; omega
    have hl1 := Ty.raddL_len (T.ps.take s) g []
    have hl2 := Ty.cntL_step hp
    have hb1 : (s + 1) * 8 ≤ 140737488355328 := by omega
    have hb2 : s + 1 ≤ maxLen := by simp only [maxLen]; omega
    refine AWp_skip ?_
    simp only [thenQ, blockQ]
    refine hK16 _ ?_
    try clear hK16 K16
    refine AWp_seqK fun K20 hK20 => ?_
    refine AWp_block ?_
    refine AWp_seqK fun K21 hK21 => ?_
    refine AWp_region ?_
    refine aops_chunk 2 fun C22 hC22 => ?_
    simp only [List.take_succ_cons, List.take_zero, ↓aops, ↓aop, ↓aWant, ↓aVal, St.ev, St.get, St.put, St.new, List.getD_cons_zero, List.getD_cons_succ, List.set_cons_zero, List.set_cons_succ, AV.flat, AV.cl, AV.one, Value.oneCell', true_and, and_true, thenQ, blockQ, if_true, if_false, ↓reduceIte, Bool.false_eq_true, Bool.not_true, Bool.not_false, Nat.reduceEqDiff, reduceCtorEq, aField, fo32_2, Nat.zero_add, Nat.reduceAdd, Nat.add_zero, List.drop_succ_cons, List.drop_zero, Ty.cells_one, List.all_append, Bool.true_and, Bool.and_true, List.all_cons, List.all_nil, Ty.cells_len, Ty.cells_take1, Ty.cells_drop1, Ty.cells_drop2, Ty.cells_take3, List.length_append, hk, getD_map_cells hp, Int.natCast_add, Int.natCast_one, hw, hln, hb1, hb2, List.map_append, List.map_cons, List.map_nil, Ty.raddL_step hp g []]
    refine hC22 _ ?_
    try clear hC22 C22
    simp only [List.drop_succ_cons, List.drop_zero]
    refine aops_chunk 2 fun C23 hC23 => ?_
    simp only [List.take_succ_cons, List.take_zero, ↓aops, ↓aop, ↓aWant, ↓aVal, St.ev, St.get, St.put, St.new, List.getD_cons_zero, List.getD_cons_succ, List.set_cons_zero, List.set_cons_succ, AV.flat, AV.cl, AV.one, Value.oneCell', true_and, and_true, thenQ, blockQ, if_true, if_false, ↓reduceIte, Bool.false_eq_true, Bool.not_true, Bool.not_false, Nat.reduceEqDiff, reduceCtorEq, aLoad, ti22, getO, pack, List.length_cons, List.length_nil, Nat.reduceAdd, Nat.reduceLeDiff, Nat.zero_add, Nat.le_refl, List.drop_succ_cons, List.drop_zero, Ty.cells_one, List.all_append, Bool.true_and, Bool.and_true, List.all_cons, List.all_nil, Ty.cells_len, Ty.cells_take1, Ty.cells_drop1, Ty.cells_drop2, Ty.cells_take3, List.length_append, hk, getD_map_cells hp, Int.natCast_add, Int.natCast_one, hw, hln, hb1, hb2, List.map_append, List.map_cons, List.map_nil, Ty.raddL_step hp g []]
    refine hC23 _ ?_
    try clear hC23 C23
    simp only [List.drop_succ_cons, List.drop_zero]
    refine aops_chunk 2 fun C24 hC24 => ?_
    simp only [List.take_succ_cons, List.take_zero, ↓aops, ↓aop, ↓aWant, ↓aVal, St.ev, St.get, St.put, St.new, List.getD_cons_zero, List.getD_cons_succ, List.set_cons_zero, List.set_cons_succ, AV.flat, AV.cl, AV.one, Value.oneCell', true_and, and_true, thenQ, blockQ, if_true, if_false, ↓reduceIte, Bool.false_eq_true, Bool.not_true, Bool.not_false, Nat.reduceEqDiff, reduceCtorEq, aIndexA, es22, Int.natCast_nonneg, Int.ofNat_lt, Int.toNat_natCast, List.length_map, Int.le_refl, Int.toNat_zero, Int.toNat_one, Int.reduceLE, aLoad, ti32, getO, pack, List.length_cons, List.length_nil, Nat.reduceAdd, Nat.reduceLeDiff, Nat.zero_add, Nat.le_refl, List.drop_succ_cons, List.drop_zero, Ty.cells_one, List.all_append, Bool.true_and, Bool.and_true, List.all_cons, List.all_nil, Ty.cells_len, Ty.cells_take1, Ty.cells_drop1, Ty.cells_drop2, Ty.cells_take3, List.length_append, hk, getD_map_cells hp, Int.natCast_add, Int.natCast_one, hw, hln, hb1, hb2, List.map_append, List.map_cons, List.map_nil, Ty.raddL_step hp g []]
    refine hC24 _ ?_
    try clear hC24 C24
    simp only [List.drop_succ_cons, List.drop_zero]
    refine aops_chunk 1 fun C25 hC25 => ?_
    simp only [List.take_succ_cons, List.take_zero, ↓aops, ↓aop, ↓aWant, ↓aVal, St.ev, St.get, St.put, St.new, List.getD_cons_zero, List.getD_cons_succ, List.set_cons_zero, List.set_cons_succ, AV.flat, AV.cl, AV.one, Value.oneCell', true_and, and_true, thenQ, blockQ, if_true, if_false, ↓reduceIte, Bool.false_eq_true, Bool.not_true, Bool.not_false, Nat.reduceEqDiff, reduceCtorEq, aCallV, Array.toList_map, List.map_cons, List.map_nil, List.append_nil, List.cons_append, List.nil_append, Ty.cells_one, List.all_append, Bool.true_and, Bool.and_true, List.all_cons, List.all_nil, Ty.cells_len, Ty.cells_take1, Ty.cells_drop1, Ty.cells_drop2, Ty.cells_take3, List.length_append, hk, getD_map_cells hp, Int.natCast_add, Int.natCast_one, hw, hln, hb1, hb2, List.map_append, Ty.raddL_step hp g []]
    refine APure.call (ih p (List.mem_of_getElem? hp) (Ty.raddL (T.ps.take s) g []).1 (by omega)) ?_
    try simp only [St.put, List.set_cons_zero, List.set_cons_succ, thenQ, blockQ]
    refine hC25 _ ?_
    try clear hC25 C25
    simp only [List.drop_succ_cons, List.drop_zero]
    refine aops_chunk 2 fun C26 hC26 => ?_
    simp only [List.take_succ_cons, List.take_zero, ↓aops, ↓aop, ↓aWant, ↓aVal, St.ev, St.get, St.put, St.new, List.getD_cons_zero, List.getD_cons_succ, List.set_cons_zero, List.set_cons_succ, AV.flat, AV.cl, AV.one, Value.oneCell', true_and, and_true, thenQ, blockQ, if_true, if_false, ↓reduceIte, Bool.false_eq_true, Bool.not_true, Bool.not_false, Nat.reduceEqDiff, reduceCtorEq, aExtract, List.length_cons, List.length_nil, Nat.reduceAdd, Nat.reduceLT, Nat.zero_lt_succ, Ty.cells_one, List.all_append, Bool.true_and, Bool.and_true, List.all_cons, List.all_nil, Ty.cells_len, Ty.cells_take1, Ty.cells_drop1, Ty.cells_drop2, Ty.cells_take3, List.length_append, hk, getD_map_cells hp, Int.natCast_add, Int.natCast_one, hw, hln, hb1, hb2, List.map_append, List.map_cons, List.map_nil, Ty.raddL_step hp g []]
    refine hC26 _ ?_
    try clear hC26 C26
    simp only [List.drop_succ_cons, List.drop_zero]
    refine aops_chunk 2 fun C27 hC27 => ?_
    simp only [List.take_succ_cons, List.take_zero, ↓aops, ↓aop, ↓aWant, ↓aVal, St.ev, St.get, St.put, St.new, List.getD_cons_zero, List.getD_cons_succ, List.set_cons_zero, List.set_cons_succ, AV.flat, AV.cl, AV.one, Value.oneCell', true_and, and_true, thenQ, blockQ, if_true, if_false, ↓reduceIte, Bool.false_eq_true, Bool.not_true, Bool.not_false, Nat.reduceEqDiff, reduceCtorEq, aExtract, List.length_cons, List.length_nil, Nat.reduceAdd, Nat.reduceLT, Nat.zero_lt_succ, Ty.cells_one, List.all_append, Bool.true_and, Bool.and_true, List.all_cons, List.all_nil, Ty.cells_len, Ty.cells_take1, Ty.cells_drop1, Ty.cells_drop2, Ty.cells_take3, List.length_append, hk, getD_map_cells hp, Int.natCast_add, Int.natCast_one, hw, hln, hb1, hb2, List.map_append, List.map_cons, List.map_nil, Ty.raddL_step hp g []]
    refine hC27 _ ?_
    try clear hC27 C27
    simp only [List.drop_succ_cons, List.drop_zero]
    simp only [↓aops, ↓aop, ↓aWant, ↓aVal, St.ev, St.get, St.put, St.new, List.getD_cons_zero, List.getD_cons_succ, List.set_cons_zero, List.set_cons_succ, AV.flat, AV.cl, AV.one, Value.oneCell', true_and, and_true, thenQ, blockQ, if_true, if_false, ↓reduceIte, Bool.false_eq_true, Bool.not_true, Bool.not_false, Nat.reduceEqDiff, reduceCtorEq, Ty.cells_one, List.all_append, Bool.true_and, Bool.and_true, List.all_cons, List.all_nil, Ty.cells_len, Ty.cells_take1, Ty.cells_drop1, Ty.cells_drop2, Ty.cells_take3, List.length_append, hk, getD_map_cells hp, Int.natCast_add, Int.natCast_one, hw, hln, hb1, hb2, List.map_append, List.map_cons, List.map_nil, Ty.raddL_step hp g []]
    refine hK21 _ ?_
    try clear hK21 K21
    refine AWp_seqK fun K28 hK28 => ?_
    refine AWp_region ?_
    simp only [↓aops, ↓aop, ↓aWant, ↓aVal, St.ev, St.get, St.put, St.new, List.getD_cons_zero, List.getD_cons_succ, List.set_cons_zero, List.set_cons_succ, AV.flat, AV.cl, AV.one, Value.oneCell', true_and, and_true, thenQ, blockQ, if_true, if_false, ↓reduceIte, Bool.false_eq_true, Bool.not_true, Bool.not_false, Nat.reduceEqDiff, reduceCtorEq, Ty.cells_one, List.all_append, Bool.true_and, Bool.and_true, List.all_cons, List.all_nil, Ty.cells_len, Ty.cells_take1, Ty.cells_drop1, Ty.cells_drop2, Ty.cells_take3, List.length_append, hk, getD_map_cells hp, Int.natCast_add, Int.natCast_one, hw, hln, hb1, hb2, List.map_append, List.map_cons, List.map_nil, Ty.raddL_step hp g []]
    refine hK28 _ ?_
    try clear hK28 K28
    refine AWp_region ?_
    refine aops_chunk 2 fun C29 hC29 => ?_
    simp only [List.take_succ_cons, List.take_zero, ↓aops, ↓aop, ↓aWant, ↓aVal, St.ev, St.get, St.put, St.new, List.getD_cons_zero, List.getD_cons_succ, List.set_cons_zero, List.set_cons_succ, AV.flat, AV.cl, AV.one, Value.oneCell', true_and, and_true, thenQ, blockQ, if_true, if_false, ↓reduceIte, Bool.false_eq_true, Bool.not_true, Bool.not_false, Nat.reduceEqDiff, reduceCtorEq, aField, fo38_1, Nat.zero_add, Nat.reduceAdd, Nat.add_zero, List.drop_succ_cons, List.drop_zero, aLoad, ti28, getO, pack, List.length_cons, List.length_nil, Nat.reduceLeDiff, Nat.le_refl, Ty.cells_one, List.all_append, Bool.true_and, Bool.and_true, List.all_cons, List.all_nil, Ty.cells_len, Ty.cells_take1, Ty.cells_drop1, Ty.cells_drop2, Ty.cells_take3, List.length_append, hk, getD_map_cells hp, Int.natCast_add, Int.natCast_one, hw, hln, hb1, hb2, List.map_append, List.map_cons, List.map_nil, Ty.raddL_step hp g []]
    refine hC29 _ ?_
    try clear hC29 C29
    simp only [List.drop_succ_cons, List.drop_zero]
    refine aops_chunk 2 fun C30 hC30 => ?_
    simp only [List.take_succ_cons, List.take_zero, ↓aops, ↓aop, ↓aWant, ↓aVal, St.ev, St.get, St.put, St.new, List.getD_cons_zero, List.getD_cons_succ, List.set_cons_zero, List.set_cons_succ, AV.flat, AV.cl, AV.one, Value.oneCell', true_and, and_true, thenQ, blockQ, if_true, if_false, ↓reduceIte, Bool.false_eq_true, Bool.not_true, Bool.not_false, Nat.reduceEqDiff, reduceCtorEq, ↓bs1_1, ↓bs1_2, ↓bs1_3, ↓bs1_4, ↓bs1_5, ↓bs1_6, ↓bs1_7, ↓bs1_8, ↓bs1_9, ↓bs1_10, ↓bs1_11, ↓bs1_12, aBuildSl, ei28, Array.toList_map, List.map_cons, List.map_nil, List.range_succ, List.range_zero, List.nil_append, List.cons_append, List.append_nil, List.forall_mem_cons, List.not_mem_nil, false_imp_iff, implies_true, List.length_cons, List.length_nil, Nat.reduceAdd, Nat.reduceLeDiff, Nat.zero_add, forall_eq, List.mem_singleton, Ty.cells_one, List.all_append, Bool.true_and, Bool.and_true, List.all_cons, List.all_nil, Ty.cells_len, Ty.cells_take1, Ty.cells_drop1, Ty.cells_drop2, Ty.cells_take3, List.length_append, hk, getD_map_cells hp, Int.natCast_add, Int.natCast_one, hw, hln, hb1, hb2, List.map_append, Ty.raddL_step hp g []]
    refine hC30 _ ?_
    try clear hC30 C30
    simp only [List.drop_succ_cons, List.drop_zero]
    refine aops_chunk 2 fun C31 hC31 => ?_
    simp only [List.take_succ_cons, List.take_zero, ↓aops, ↓aop, ↓aWant, ↓aVal, St.ev, St.get, St.put, St.new, List.getD_cons_zero, List.getD_cons_succ, List.set_cons_zero, List.set_cons_succ, AV.flat, AV.cl, AV.one, Value.oneCell', true_and, and_true, thenQ, blockQ, if_true, if_false, ↓reduceIte, Bool.false_eq_true, Bool.not_true, Bool.not_false, Nat.reduceEqDiff, reduceCtorEq, aAppend, ei28, slOf, List.length_map, getO, putO, List.all_cons, List.all_nil, Bool.and_true, List.length_cons, List.length_nil, Nat.reduceAdd, aField, fo38_1, Nat.zero_add, Nat.add_zero, List.drop_succ_cons, List.drop_zero, Ty.cells_one, List.all_append, Bool.true_and, Ty.cells_len, Ty.cells_take1, Ty.cells_drop1, Ty.cells_drop2, Ty.cells_take3, List.length_append, hk, getD_map_cells hp, Int.natCast_add, Int.natCast_one, hw, hln, hb1, hb2, List.map_append, List.map_cons, List.map_nil, Ty.raddL_step hp g []]
    refine hC31 _ ?_
    try clear hC31 C31
    simp only [List.drop_succ_cons, List.drop_zero]
    simp only [↓aops, ↓aop, ↓aWant, ↓aVal, St.ev, St.get, St.put, St.new, List.getD_cons_zero, List.getD_cons_succ, List.set_cons_zero, List.set_cons_succ, AV.flat, AV.cl, AV.one, Value.oneCell', true_and, and_true, thenQ, blockQ, if_true, if_false, ↓reduceIte, Bool.false_eq_true, Bool.not_true, Bool.not_false, Nat.reduceEqDiff, reduceCtorEq, aStore, ti28, getO, putO, splice, List.length_cons, List.length_nil, Nat.reduceAdd, Nat.reduceLeDiff, Nat.zero_add, Nat.le_refl, List.take_succ_cons, List.take_zero, List.drop_succ_cons, List.drop_zero, List.all_cons, List.all_nil, Bool.and_true, List.nil_append, List.cons_append, List.append_nil, List.map_cons, List.map_nil, Ty.cells_one, List.all_append, Bool.true_and, Ty.cells_len, Ty.cells_take1, Ty.cells_drop1, Ty.cells_drop2, Ty.cells_take3, List.length_append, hk, getD_map_cells hp, Int.natCast_add, Int.natCast_one, hw, hln, hb1, hb2, List.map_append, Ty.raddL_step hp g []]
    refine hK20 _ ?_
    try clear hK20 K20
    refine AWp_region ?_
    refine aops_chunk 2 fun C32 hC32 => ?_
    simp only [List.take_succ_cons, List.take_zero, ↓aops, ↓aop, ↓aWant, ↓aVal, St.ev, St.get, St.put, St.new, List.getD_cons_zero, List.getD_cons_succ, List.set_cons_zero, List.set_cons_succ, AV.flat, AV.cl, AV.one, Value.oneCell', true_and, and_true, thenQ, blockQ, if_true, if_false, ↓reduceIte, Bool.false_eq_true, Bool.not_true, Bool.not_false, Nat.reduceEqDiff, reduceCtorEq, aBin, Ty.cells_one, List.all_append, Bool.true_and, Bool.and_true, List.all_cons, List.all_nil, Ty.cells_len, Ty.cells_take1, Ty.cells_drop1, Ty.cells_drop2, Ty.cells_take3, List.length_append, hk, getD_map_cells hp, Int.natCast_add, Int.natCast_one, hw, hln, hb1, hb2, List.map_append, List.map_cons, List.map_nil, Ty.raddL_step hp g []]
    refine hC32 _ ?_
    try clear hC32 C32
    simp only [List.drop_succ_cons, List.drop_zero]
    simp only [↓aops, ↓aop, ↓aWant, ↓aVal, St.ev, St.get, St.put, St.new, List.getD_cons_zero, List.getD_cons_succ, List.set_cons_zero, List.set_cons_succ, AV.flat, AV.cl, AV.one, Value.oneCell', true_and, and_true, thenQ, blockQ, if_true, if_false, ↓reduceIte, Bool.false_eq_true, Bool.not_true, Bool.not_false, Nat.reduceEqDiff, reduceCtorEq, Ty.cells_one, List.all_append, Bool.true_and, Bool.and_true, List.all_cons, List.all_nil, Ty.cells_len, Ty.cells_take1, Ty.cells_drop1, Ty.cells_drop2, Ty.cells_take3, List.length_append, hk, getD_map_cells hp, Int.natCast_add, Int.natCast_one, hw, hln, hb1, hb2, List.map_append, List.map_cons, List.map_nil, Ty.raddL_step hp g []]
    refine ⟨(s + 1), (by omega), by omega, ?_⟩
    simp only [maskL, setsL, putsO, putO, List.set_cons_zero, List.set_cons_succ, Nat.reduceEqDiff, ↓reduceIte, hk, getD_map_cells hp, Int.natCast_add, Int.natCast_one, hw, hln, hb1, hb2, List.map_append, List.map_cons, List.map_nil, Ty.raddL_step hp g []]
    exact Weak.mk (by simp only [LeL, Le.refl, Le.any, Le.slNil, and_self, Int.natCast_add, Int.cast_ofNat_Int, Int.natCast_one]) (fun _ _ h => h) rfl rfl
  · skip
    have hk : s = T.ps.length := by simp at hb28; omega
    refine AWp_exit ?_
    simp only [thenQ, blockQ, if_true, Nat.reduceEqDiff, ↓reduceIte, if_false]
    refine hK14 _ ?_
    try clear hK14 K14
    subst hk
    rw [List.take_length]
    have hq0 := Ty.raddL_len T.ps g []
    have hq1 : (((Ty.raddL T.ps g []).1.map RNode.cells).all fun y => y.all AV.one) = true := RNode.all_one _
    have hq2 : (Ty.raddL T.ps g []).1.length * 64 ≤ 140737488355328 := by omega
    have hq3 : (Ty.raddL T.ps g []).1.length ≤ maxLen := by simp only [maxLen]; omega
    have hq4 : ((Ty.raddL T.ps g []).1.length + 1) * 64 ≤ 140737488355328 := by omega
    have hq5 : (Ty.raddL T.ps g []).1.length + 1 ≤ maxLen := by simp only [maxLen]; omega
    refine AWp_weak (Weak.recell (id := 1) (t := 38) [.v (.int .i64 T.k), .v (.int .i64 T.n), .sl 3 (T.ps.map Ty.cells), .sl 1 ((Ty.raddL T.ps g []).2.map intC)] rfl ⟨.refl _, .refl _, .refl _, Le.oslL, trivial⟩) ?_
    simp only [putO, Nat.reduceEqDiff, ↓reduceIte]
    refine AWp_joinZ [false, false, false, false, true, true, false, false, false, false, false, false, false, false, false, false, false, false, false, false, false, false, false, false, false, false, false, false, false, false, false, false, false, false, false, false, false, false, false, false, false, false, false, false, false, false, false, false, false, false, false, false, false, false, false, false] ([(4, .sl 4 (((Ty.raddL T.ps g []).1 ++ [RNode.mk T (Ty.raddL T.ps g []).2]).map RNode.cells)), (5, .v (.int .i64 ((Ty.raddL T.ps g []).1.length : Int)))]) [] 0 (True) ?_ (fun hC => ?_)
    · skip
      refine AAny_start [] 10 (by rfl) mixed (trivial) (by rfl) ?_
      dsimp only
      refine AAny_takeK 1 rfl (by kernel_rfl) (by kernel_rfl) (by kernel_rfl) (fun _ _ h => h) fun K33 hK33 => ?_
      simp only [aQuiet, aHeldLoad, ↓aops, ↓aop, ↓aWant, ↓aVal, St.ev, St.get, St.put, St.new, List.getD_cons_zero, List.getD_cons_succ, List.set_cons_zero, List.set_cons_succ, AV.flat, AV.cl, AV.one, Value.oneCell', true_and, and_true, thenQ, blockQ, if_true, if_false, ↓reduceIte, Bool.false_eq_true, Bool.not_true, Bool.not_false, Nat.reduceEqDiff, reduceCtorEq, Ty.cells_one, List.all_append, Bool.true_and, Bool.and_true, List.all_cons, List.all_nil, Ty.cells_len, Ty.cells_take1, Ty.cells_drop1, Ty.cells_drop2, Ty.cells_take3, List.length_append, Nat.zero_add, hq1, hq2, hq3, hq4, hq5]
      refine hK33 _ ?_
      try clear hK33 K33
      refine AAny_takeK 6 rfl (by kernel_rfl) (by kernel_rfl) (by kernel_rfl) (fun _ _ h => h) fun K34 hK34 => ?_
      simp only [aQuiet, aHeldLoad, ↓aops, ↓aop, ↓aWant, ↓aVal, St.ev, St.get, St.put, St.new, List.getD_cons_zero, List.getD_cons_succ, List.set_cons_zero, List.set_cons_succ, AV.flat, AV.cl, AV.one, Value.oneCell', true_and, and_true, thenQ, blockQ, if_true, if_false, ↓reduceIte, Bool.false_eq_true, Bool.not_true, Bool.not_false, Nat.reduceEqDiff, reduceCtorEq, Ty.cells_one, List.all_append, Bool.true_and, Bool.and_true, List.all_cons, List.all_nil, Ty.cells_len, Ty.cells_take1, Ty.cells_drop1, Ty.cells_drop2, Ty.cells_take3, List.length_append, Nat.zero_add, hq1, hq2, hq3, hq4, hq5]
      refine hK34 _ ?_
      try clear hK34 K34
      refine AAny_takeK 7 rfl (by kernel_rfl) (by kernel_rfl) (by kernel_rfl) (fun _ _ h => h) fun K35 hK35 => ?_
      simp only [aQuiet, aHeldLoad, ↓aops, ↓aop, ↓aWant, ↓aVal, St.ev, St.get, St.put, St.new, List.getD_cons_zero, List.getD_cons_succ, List.set_cons_zero, List.set_cons_succ, AV.flat, AV.cl, AV.one, Value.oneCell', true_and, and_true, thenQ, blockQ, if_true, if_false, ↓reduceIte, Bool.false_eq_true, Bool.not_true, Bool.not_false, Nat.reduceEqDiff, reduceCtorEq, aLen, ln27, List.length_map, Ty.cells_one, List.all_append, Bool.true_and, Bool.and_true, List.all_cons, List.all_nil, Ty.cells_len, Ty.cells_take1, Ty.cells_drop1, Ty.cells_drop2, Ty.cells_take3, List.length_append, Nat.zero_add, hq1, hq2, hq3, hq4, hq5]
      refine hK35 _ ?_
      try clear hK35 K35
      refine AAny_all2 (i := 0) (j := 3) (by kernel_rfl) ?_ ?_
      · skip
        refine aAt_op rfl rfl fun K36 hK36 => ?_
        simp only [↓aops, ↓aop, ↓aWant, ↓aVal, St.ev, St.get, St.put, St.new, List.getD_cons_zero, List.getD_cons_succ, List.set_cons_zero, List.set_cons_succ, AV.flat, AV.cl, AV.one, Value.oneCell', true_and, and_true, thenQ, blockQ, if_true, if_false, ↓reduceIte, Bool.false_eq_true, Bool.not_true, Bool.not_false, Nat.reduceEqDiff, reduceCtorEq, ↓bs0_1, ↓bs0_2, ↓bs0_3, ↓bs0_4, ↓bs0_5, ↓bs0_6, ↓bs0_7, ↓bs0_8, ↓bs0_9, ↓bs0_10, ↓bs0_11, ↓bs0_12, aBuildSl, ei27, Array.toList_map, List.map_cons, List.map_nil, List.range_succ, List.range_zero, List.nil_append, List.cons_append, List.append_nil, List.forall_mem_cons, List.not_mem_nil, false_imp_iff, implies_true, List.length_cons, List.length_nil, Nat.reduceAdd, Nat.reduceLeDiff, Nat.zero_add, forall_eq, List.mem_singleton, Ty.cells_one, List.all_append, Bool.true_and, Bool.and_true, List.all_cons, List.all_nil, Ty.cells_len, Ty.cells_take1, Ty.cells_drop1, Ty.cells_drop2, Ty.cells_take3, List.length_append, hq1, hq2, hq3, hq4, hq5]
        refine hK36 _ ⟨trivial, ?_⟩
        try clear hK36 K36
        refine AAny_all2 (i := 2) (j := 3) (by kernel_rfl) ?_ ?_
        · skip
          refine aAt_op rfl rfl fun K37 hK37 => ?_
          simp only [↓aops, ↓aop, ↓aWant, ↓aVal, St.ev, St.get, St.put, St.new, List.getD_cons_zero, List.getD_cons_succ, List.set_cons_zero, List.set_cons_succ, AV.flat, AV.cl, AV.one, Value.oneCell', true_and, and_true, thenQ, blockQ, if_true, if_false, ↓reduceIte, Bool.false_eq_true, Bool.not_true, Bool.not_false, Nat.reduceEqDiff, reduceCtorEq, aAppend, ei27, slOf, List.length_map, getO, putO, List.all_cons, List.all_nil, Bool.and_true, List.length_cons, List.length_nil, Nat.reduceAdd, Ty.cells_one, List.all_append, Bool.true_and, Ty.cells_len, Ty.cells_take1, Ty.cells_drop1, Ty.cells_drop2, Ty.cells_take3, List.length_append, Nat.zero_add, hq1, hq2, hq3, hq4, hq5]
          refine hK37 _ ⟨trivial, ?_⟩
          try clear hK37 K37
          refine AAny_all1 (i := 3) (by kernel_rfl) ?_
          · skip
            refine aAt_op rfl rfl fun K38 hK38 => ?_
            simp only [↓aops, ↓aop, ↓aWant, ↓aVal, St.ev, St.get, St.put, St.new, List.getD_cons_zero, List.getD_cons_succ, List.set_cons_zero, List.set_cons_succ, AV.flat, AV.cl, AV.one, Value.oneCell', true_and, and_true, thenQ, blockQ, if_true, if_false, ↓reduceIte, Bool.false_eq_true, Bool.not_true, Bool.not_false, Nat.reduceEqDiff, reduceCtorEq, aLoad, ti38, getO, pack, List.length_cons, List.length_nil, Nat.reduceAdd, Nat.reduceLeDiff, Nat.zero_add, Nat.le_refl, List.take_succ_cons, List.take_zero, List.drop_succ_cons, List.drop_zero, Ty.cells_one, List.all_append, Bool.true_and, Bool.and_true, List.all_cons, List.all_nil, Ty.cells_len, Ty.cells_take1, Ty.cells_drop1, Ty.cells_drop2, Ty.cells_take3, List.length_append, hq1, hq2, hq3, hq4, hq5]
            refine hK38 _ ⟨trivial, ?_⟩
            try clear hK38 K38
            refine AAny_all1 (i := 4) (by kernel_rfl) ?_
            · skip
              refine aAt_op rfl rfl fun K39 hK39 => ?_
              simp only [↓aops, ↓aop, ↓aWant, ↓aVal, St.ev, St.get, St.put, St.new, List.getD_cons_zero, List.getD_cons_succ, List.set_cons_zero, List.set_cons_succ, AV.flat, AV.cl, AV.one, Value.oneCell', true_and, and_true, thenQ, blockQ, if_true, if_false, ↓reduceIte, Bool.false_eq_true, Bool.not_true, Bool.not_false, Nat.reduceEqDiff, reduceCtorEq, ↓bs1_1, ↓bs1_2, ↓bs1_3, ↓bs1_4, ↓bs1_5, ↓bs1_6, ↓bs1_7, ↓bs1_8, ↓bs1_9, ↓bs1_10, ↓bs1_11, ↓bs1_12, aBuildSl, ei27, Array.toList_map, List.map_cons, List.map_nil, List.range_succ, List.range_zero, List.nil_append, List.cons_append, List.append_nil, List.forall_mem_cons, List.not_mem_nil, false_imp_iff, implies_true, List.length_cons, List.length_nil, Nat.reduceAdd, Nat.reduceLeDiff, Nat.zero_add, forall_eq, List.mem_singleton, Ty.cells_one, List.all_append, Bool.true_and, Bool.and_true, List.all_cons, List.all_nil, Ty.cells_len, Ty.cells_take1, Ty.cells_drop1, Ty.cells_drop2, Ty.cells_take3, List.length_append, hq1, hq2, hq3, hq4, hq5]
              refine hK39 _ ⟨trivial, ?_⟩
              try clear hK39 K39
              refine AAny_all1 (i := 5) (by kernel_rfl) ?_
              · skip
                refine aAt_op rfl rfl fun K40 hK40 => ?_
                simp only [↓aops, ↓aop, ↓aWant, ↓aVal, St.ev, St.get, St.put, St.new, List.getD_cons_zero, List.getD_cons_succ, List.set_cons_zero, List.set_cons_succ, AV.flat, AV.cl, AV.one, Value.oneCell', true_and, and_true, thenQ, blockQ, if_true, if_false, ↓reduceIte, Bool.false_eq_true, Bool.not_true, Bool.not_false, Nat.reduceEqDiff, reduceCtorEq, aAppend, ei27, slOf, List.length_map, getO, putO, List.all_cons, List.all_nil, Bool.and_true, List.length_cons, List.length_nil, Nat.reduceAdd, Ty.cells_one, List.all_append, Bool.true_and, Ty.cells_len, Ty.cells_take1, Ty.cells_drop1, Ty.cells_drop2, Ty.cells_take3, List.length_append, Nat.zero_add, hq1, hq2, hq3, hq4, hq5]
                refine hK40 _ ⟨trivial, ?_⟩
                try clear hK40 K40
                refine AAny_takeK 8 rfl (by kernel_rfl) (by kernel_rfl) (by kernel_rfl) (fun _ _ h => h) fun K41 hK41 => ?_
                simp only [aQuiet, aHeldLoad, ↓aops, ↓aop, ↓aWant, ↓aVal, St.ev, St.get, St.put, St.new, List.getD_cons_zero, List.getD_cons_succ, List.set_cons_zero, List.set_cons_succ, AV.flat, AV.cl, AV.one, Value.oneCell', true_and, and_true, thenQ, blockQ, if_true, if_false, ↓reduceIte, Bool.false_eq_true, Bool.not_true, Bool.not_false, Nat.reduceEqDiff, reduceCtorEq, Ty.cells_one, List.all_append, Bool.true_and, Bool.and_true, List.all_cons, List.all_nil, Ty.cells_len, Ty.cells_take1, Ty.cells_drop1, Ty.cells_drop2, Ty.cells_take3, List.length_append, Nat.zero_add, hq1, hq2, hq3, hq4, hq5]
                refine hK41 _ ?_
                try clear hK41 K41
                refine AAny_takeK 9 rfl (by kernel_rfl) (by kernel_rfl) (by kernel_rfl) (fun _ _ h => h) fun K42 hK42 => ?_
                simp only [aQuiet, aHeldLoad, ↓aops, ↓aop, ↓aWant, ↓aVal, St.ev, St.get, St.put, St.new, List.getD_cons_zero, List.getD_cons_succ, List.set_cons_zero, List.set_cons_succ, AV.flat, AV.cl, AV.one, Value.oneCell', true_and, and_true, thenQ, blockQ, if_true, if_false, ↓reduceIte, Bool.false_eq_true, Bool.not_true, Bool.not_false, Nat.reduceEqDiff, reduceCtorEq, Ty.cells_one, List.all_append, Bool.true_and, Bool.and_true, List.all_cons, List.all_nil, Ty.cells_len, Ty.cells_take1, Ty.cells_drop1, Ty.cells_drop2, Ty.cells_take3, List.length_append, Nat.zero_add, hq1, hq2, hq3, hq4, hq5]
                refine hK42 _ ?_
                try clear hK42 K42
                refine AAny_done (by kernel_rfl) ?_
                simp only [thenQ, blockQ]
                simp only [maskL, setsL, putsO, putO, List.set_cons_zero, List.set_cons_succ, Nat.reduceEqDiff, ↓reduceIte]
                refine ⟨trivial, ?_⟩
                refine Weak.bare ?_ rfl ?_
                · simp only [LeL, Le.refl, Le.any, and_self, and_true, true_and, List.map_append, List.map_cons, List.map_nil, RNode.cells]
                  first | done | exact Le.oslL
                · simp only [UndL, and_true, true_and, Und.any, Und.v]
                  first | done | exact .data (RNode.dataSl _)
        · skip
          refine aAt_op rfl rfl fun K43 hK43 => ?_
          simp only [↓aops, ↓aop, ↓aWant, ↓aVal, St.ev, St.get, St.put, St.new, List.getD_cons_zero, List.getD_cons_succ, List.set_cons_zero, List.set_cons_succ, AV.flat, AV.cl, AV.one, Value.oneCell', true_and, and_true, thenQ, blockQ, if_true, if_false, ↓reduceIte, Bool.false_eq_true, Bool.not_true, Bool.not_false, Nat.reduceEqDiff, reduceCtorEq, aLoad, ti38, getO, pack, List.length_cons, List.length_nil, Nat.reduceAdd, Nat.reduceLeDiff, Nat.zero_add, Nat.le_refl, List.take_succ_cons, List.take_zero, List.drop_succ_cons, List.drop_zero, Ty.cells_one, List.all_append, Bool.true_and, Bool.and_true, List.all_cons, List.all_nil, Ty.cells_len, Ty.cells_take1, Ty.cells_drop1, Ty.cells_drop2, Ty.cells_take3, List.length_append, hq1, hq2, hq3, hq4, hq5]
          refine hK43 _ ⟨trivial, ?_⟩
          try clear hK43 K43
          refine AAny_all2 (i := 2) (j := 4) (by kernel_rfl) ?_ ?_
          · skip
            refine aAt_op rfl rfl fun K44 hK44 => ?_
            simp only [↓aops, ↓aop, ↓aWant, ↓aVal, St.ev, St.get, St.put, St.new, List.getD_cons_zero, List.getD_cons_succ, List.set_cons_zero, List.set_cons_succ, AV.flat, AV.cl, AV.one, Value.oneCell', true_and, and_true, thenQ, blockQ, if_true, if_false, ↓reduceIte, Bool.false_eq_true, Bool.not_true, Bool.not_false, Nat.reduceEqDiff, reduceCtorEq, aAppend, ei27, slOf, List.length_map, getO, putO, List.all_cons, List.all_nil, Bool.and_true, List.length_cons, List.length_nil, Nat.reduceAdd, Ty.cells_one, List.all_append, Bool.true_and, Ty.cells_len, Ty.cells_take1, Ty.cells_drop1, Ty.cells_drop2, Ty.cells_take3, List.length_append, Nat.zero_add, hq1, hq2, hq3, hq4, hq5]
            refine hK44 _ ⟨trivial, ?_⟩
            try clear hK44 K44
            refine AAny_all1 (i := 4) (by kernel_rfl) ?_
            · skip
              refine aAt_op rfl rfl fun K45 hK45 => ?_
              simp only [↓aops, ↓aop, ↓aWant, ↓aVal, St.ev, St.get, St.put, St.new, List.getD_cons_zero, List.getD_cons_succ, List.set_cons_zero, List.set_cons_succ, AV.flat, AV.cl, AV.one, Value.oneCell', true_and, and_true, thenQ, blockQ, if_true, if_false, ↓reduceIte, Bool.false_eq_true, Bool.not_true, Bool.not_false, Nat.reduceEqDiff, reduceCtorEq, ↓bs1_1, ↓bs1_2, ↓bs1_3, ↓bs1_4, ↓bs1_5, ↓bs1_6, ↓bs1_7, ↓bs1_8, ↓bs1_9, ↓bs1_10, ↓bs1_11, ↓bs1_12, aBuildSl, ei27, Array.toList_map, List.map_cons, List.map_nil, List.range_succ, List.range_zero, List.nil_append, List.cons_append, List.append_nil, List.forall_mem_cons, List.not_mem_nil, false_imp_iff, implies_true, List.length_cons, List.length_nil, Nat.reduceAdd, Nat.reduceLeDiff, Nat.zero_add, forall_eq, List.mem_singleton, Ty.cells_one, List.all_append, Bool.true_and, Bool.and_true, List.all_cons, List.all_nil, Ty.cells_len, Ty.cells_take1, Ty.cells_drop1, Ty.cells_drop2, Ty.cells_take3, List.length_append, hq1, hq2, hq3, hq4, hq5]
              refine hK45 _ ⟨trivial, ?_⟩
              try clear hK45 K45
              refine AAny_all1 (i := 5) (by kernel_rfl) ?_
              · skip
                refine aAt_op rfl rfl fun K46 hK46 => ?_
                simp only [↓aops, ↓aop, ↓aWant, ↓aVal, St.ev, St.get, St.put, St.new, List.getD_cons_zero, List.getD_cons_succ, List.set_cons_zero, List.set_cons_succ, AV.flat, AV.cl, AV.one, Value.oneCell', true_and, and_true, thenQ, blockQ, if_true, if_false, ↓reduceIte, Bool.false_eq_true, Bool.not_true, Bool.not_false, Nat.reduceEqDiff, reduceCtorEq, aAppend, ei27, slOf, List.length_map, getO, putO, List.all_cons, List.all_nil, Bool.and_true, List.length_cons, List.length_nil, Nat.reduceAdd, Ty.cells_one, List.all_append, Bool.true_and, Ty.cells_len, Ty.cells_take1, Ty.cells_drop1, Ty.cells_drop2, Ty.cells_take3, List.length_append, Nat.zero_add, hq1, hq2, hq3, hq4, hq5]
                refine hK46 _ ⟨trivial, ?_⟩
                try clear hK46 K46
                refine AAny_takeK 8 rfl (by kernel_rfl) (by kernel_rfl) (by kernel_rfl) (fun _ _ h => h) fun K47 hK47 => ?_
                simp only [aQuiet, aHeldLoad, ↓aops, ↓aop, ↓aWant, ↓aVal, St.ev, St.get, St.put, St.new, List.getD_cons_zero, List.getD_cons_succ, List.set_cons_zero, List.set_cons_succ, AV.flat, AV.cl, AV.one, Value.oneCell', true_and, and_true, thenQ, blockQ, if_true, if_false, ↓reduceIte, Bool.false_eq_true, Bool.not_true, Bool.not_false, Nat.reduceEqDiff, reduceCtorEq, Ty.cells_one, List.all_append, Bool.true_and, Bool.and_true, List.all_cons, List.all_nil, Ty.cells_len, Ty.cells_take1, Ty.cells_drop1, Ty.cells_drop2, Ty.cells_take3, List.length_append, Nat.zero_add, hq1, hq2, hq3, hq4, hq5]
                refine hK47 _ ?_
                try clear hK47 K47
                refine AAny_takeK 9 rfl (by kernel_rfl) (by kernel_rfl) (by kernel_rfl) (fun _ _ h => h) fun K48 hK48 => ?_
                simp only [aQuiet, aHeldLoad, ↓aops, ↓aop, ↓aWant, ↓aVal, St.ev, St.get, St.put, St.new, List.getD_cons_zero, List.getD_cons_succ, List.set_cons_zero, List.set_cons_succ, AV.flat, AV.cl, AV.one, Value.oneCell', true_and, and_true, thenQ, blockQ, if_true, if_false, ↓reduceIte, Bool.false_eq_true, Bool.not_true, Bool.not_false, Nat.reduceEqDiff, reduceCtorEq, Ty.cells_one, List.all_append, Bool.true_and, Bool.and_true, List.all_cons, List.all_nil, Ty.cells_len, Ty.cells_take1, Ty.cells_drop1, Ty.cells_drop2, Ty.cells_take3, List.length_append, Nat.zero_add, hq1, hq2, hq3, hq4, hq5]
                refine hK48 _ ?_
                try clear hK48 K48
                refine AAny_done (by kernel_rfl) ?_
                simp only [thenQ, blockQ]
                simp only [maskL, setsL, putsO, putO, List.set_cons_zero, List.set_cons_succ, Nat.reduceEqDiff, ↓reduceIte]
                refine ⟨trivial, ?_⟩
                refine Weak.bare ?_ rfl ?_
                · simp only [LeL, Le.refl, Le.any, and_self, and_true, true_and, List.map_append, List.map_cons, List.map_nil, RNode.cells]
                  first | done | exact Le.oslL
                · simp only [UndL, and_true, true_and, Und.any, Und.v]
                  first | done | exact .data (RNode.dataSl _)
          · skip
            refine aAt_op rfl rfl fun K49 hK49 => ?_
            simp only [↓aops, ↓aop, ↓aWant, ↓aVal, St.ev, St.get, St.put, St.new, List.getD_cons_zero, List.getD_cons_succ, List.set_cons_zero, List.set_cons_succ, AV.flat, AV.cl, AV.one, Value.oneCell', true_and, and_true, thenQ, blockQ, if_true, if_false, ↓reduceIte, Bool.false_eq_true, Bool.not_true, Bool.not_false, Nat.reduceEqDiff, reduceCtorEq, ↓bs1_1, ↓bs1_2, ↓bs1_3, ↓bs1_4, ↓bs1_5, ↓bs1_6, ↓bs1_7, ↓bs1_8, ↓bs1_9, ↓bs1_10, ↓bs1_11, ↓bs1_12, aBuildSl, ei27, Array.toList_map, List.map_cons, List.map_nil, List.range_succ, List.range_zero, List.nil_append, List.cons_append, List.append_nil, List.forall_mem_cons, List.not_mem_nil, false_imp_iff, implies_true, List.length_cons, List.length_nil, Nat.reduceAdd, Nat.reduceLeDiff, Nat.zero_add, forall_eq, List.mem_singleton, Ty.cells_one, List.all_append, Bool.true_and, Bool.and_true, List.all_cons, List.all_nil, Ty.cells_len, Ty.cells_take1, Ty.cells_drop1, Ty.cells_drop2, Ty.cells_take3, List.length_append, hq1, hq2, hq3, hq4, hq5]
            refine hK49 _ ⟨trivial, ?_⟩
            try clear hK49 K49
            refine AAny_all1 (i := 2) (by kernel_rfl) ?_
            · skip
              refine aAt_op rfl rfl fun K50 hK50 => ?_
              simp only [↓aops, ↓aop, ↓aWant, ↓aVal, St.ev, St.get, St.put, St.new, List.getD_cons_zero, List.getD_cons_succ, List.set_cons_zero, List.set_cons_succ, AV.flat, AV.cl, AV.one, Value.oneCell', true_and, and_true, thenQ, blockQ, if_true, if_false, ↓reduceIte, Bool.false_eq_true, Bool.not_true, Bool.not_false, Nat.reduceEqDiff, reduceCtorEq, aAppend, ei27, slOf, List.length_map, getO, putO, List.all_cons, List.all_nil, Bool.and_true, List.length_cons, List.length_nil, Nat.reduceAdd, Ty.cells_one, List.all_append, Bool.true_and, Ty.cells_len, Ty.cells_take1, Ty.cells_drop1, Ty.cells_drop2, Ty.cells_take3, List.length_append, Nat.zero_add, hq1, hq2, hq3, hq4, hq5]
              refine hK50 _ ⟨trivial, ?_⟩
              try clear hK50 K50
              refine AAny_all1 (i := 5) (by kernel_rfl) ?_
              · skip
                refine aAt_op rfl rfl fun K51 hK51 => ?_
                simp only [↓aops, ↓aop, ↓aWant, ↓aVal, St.ev, St.get, St.put, St.new, List.getD_cons_zero, List.getD_cons_succ, List.set_cons_zero, List.set_cons_succ, AV.flat, AV.cl, AV.one, Value.oneCell', true_and, and_true, thenQ, blockQ, if_true, if_false, ↓reduceIte, Bool.false_eq_true, Bool.not_true, Bool.not_false, Nat.reduceEqDiff, reduceCtorEq, aAppend, ei27, slOf, List.length_map, getO, putO, List.all_cons, List.all_nil, Bool.and_true, List.length_cons, List.length_nil, Nat.reduceAdd, Ty.cells_one, List.all_append, Bool.true_and, Ty.cells_len, Ty.cells_take1, Ty.cells_drop1, Ty.cells_drop2, Ty.cells_take3, List.length_append, Nat.zero_add, hq1, hq2, hq3, hq4, hq5]
                refine hK51 _ ⟨trivial, ?_⟩
                try clear hK51 K51
                refine AAny_takeK 8 rfl (by kernel_rfl) (by kernel_rfl) (by kernel_rfl) (fun _ _ h => h) fun K52 hK52 => ?_
                simp only [aQuiet, aHeldLoad, ↓aops, ↓aop, ↓aWant, ↓aVal, St.ev, St.get, St.put, St.new, List.getD_cons_zero, List.getD_cons_succ, List.set_cons_zero, List.set_cons_succ, AV.flat, AV.cl, AV.one, Value.oneCell', true_and, and_true, thenQ, blockQ, if_true, if_false, ↓reduceIte, Bool.false_eq_true, Bool.not_true, Bool.not_false, Nat.reduceEqDiff, reduceCtorEq, Ty.cells_one, List.all_append, Bool.true_and, Bool.and_true, List.all_cons, List.all_nil, Ty.cells_len, Ty.cells_take1, Ty.cells_drop1, Ty.cells_drop2, Ty.cells_take3, List.length_append, Nat.zero_add, hq1, hq2, hq3, hq4, hq5]
                refine hK52 _ ?_
                try clear hK52 K52
                refine AAny_takeK 9 rfl (by kernel_rfl) (by kernel_rfl) (by kernel_rfl) (fun _ _ h => h) fun K53 hK53 => ?_
                simp only [aQuiet, aHeldLoad, ↓aops, ↓aop, ↓aWant, ↓aVal, St.ev, St.get, St.put, St.new, List.getD_cons_zero, List.getD_cons_succ, List.set_cons_zero, List.set_cons_succ, AV.flat, AV.cl, AV.one, Value.oneCell', true_and, and_true, thenQ, blockQ, if_true, if_false, ↓reduceIte, Bool.false_eq_true, Bool.not_true, Bool.not_false, Nat.reduceEqDiff, reduceCtorEq, Ty.cells_one, List.all_append, Bool.true_and, Bool.and_true, List.all_cons, List.all_nil, Ty.cells_len, Ty.cells_take1, Ty.cells_drop1, Ty.cells_drop2, Ty.cells_take3, List.length_append, Nat.zero_add, hq1, hq2, hq3, hq4, hq5]
                refine hK53 _ ?_
                try clear hK53 K53
                refine AAny_done (by kernel_rfl) ?_
                simp only [thenQ, blockQ]
                simp only [maskL, setsL, putsO, putO, List.set_cons_zero, List.set_cons_succ, Nat.reduceEqDiff, ↓reduceIte]
                refine ⟨trivial, ?_⟩
                refine Weak.bare ?_ rfl ?_
                · simp only [LeL, Le.refl, Le.any, and_self, and_true, true_and, List.map_append, List.map_cons, List.map_nil, RNode.cells]
                  first | done | exact Le.oslL
                · simp only [UndL, and_true, true_and, Und.any, Und.v]
                  first | done | exact .data (RNode.dataSl _)
      · skip
        refine aAt_op rfl rfl fun K54 hK54 => ?_
        simp only [↓aops, ↓aop, ↓aWant, ↓aVal, St.ev, St.get, St.put, St.new, List.getD_cons_zero, List.getD_cons_succ, List.set_cons_zero, List.set_cons_succ, AV.flat, AV.cl, AV.one, Value.oneCell', true_and, and_true, thenQ, blockQ, if_true, if_false, ↓reduceIte, Bool.false_eq_true, Bool.not_true, Bool.not_false, Nat.reduceEqDiff, reduceCtorEq, aLoad, ti38, getO, pack, List.length_cons, List.length_nil, Nat.reduceAdd, Nat.reduceLeDiff, Nat.zero_add, Nat.le_refl, List.take_succ_cons, List.take_zero, List.drop_succ_cons, List.drop_zero, Ty.cells_one, List.all_append, Bool.true_and, Bool.and_true, List.all_cons, List.all_nil, Ty.cells_len, Ty.cells_take1, Ty.cells_drop1, Ty.cells_drop2, Ty.cells_take3, List.length_append, hq1, hq2, hq3, hq4, hq5]
        refine hK54 _ ⟨trivial, ?_⟩
        try clear hK54 K54
        refine AAny_all2 (i := 0) (j := 4) (by kernel_rfl) ?_ ?_
        · skip
          refine aAt_op rfl rfl fun K55 hK55 => ?_
          simp only [↓aops, ↓aop, ↓aWant, ↓aVal, St.ev, St.get, St.put, St.new, List.getD_cons_zero, List.getD_cons_succ, List.set_cons_zero, List.set_cons_succ, AV.flat, AV.cl, AV.one, Value.oneCell', true_and, and_true, thenQ, blockQ, if_true, if_false, ↓reduceIte, Bool.false_eq_true, Bool.not_true, Bool.not_false, Nat.reduceEqDiff, reduceCtorEq, ↓bs0_1, ↓bs0_2, ↓bs0_3, ↓bs0_4, ↓bs0_5, ↓bs0_6, ↓bs0_7, ↓bs0_8, ↓bs0_9, ↓bs0_10, ↓bs0_11, ↓bs0_12, aBuildSl, ei27, Array.toList_map, List.map_cons, List.map_nil, List.range_succ, List.range_zero, List.nil_append, List.cons_append, List.append_nil, List.forall_mem_cons, List.not_mem_nil, false_imp_iff, implies_true, List.length_cons, List.length_nil, Nat.reduceAdd, Nat.reduceLeDiff, Nat.zero_add, forall_eq, List.mem_singleton, Ty.cells_one, List.all_append, Bool.true_and, Bool.and_true, List.all_cons, List.all_nil, Ty.cells_len, Ty.cells_take1, Ty.cells_drop1, Ty.cells_drop2, Ty.cells_take3, List.length_append, hq1, hq2, hq3, hq4, hq5]
          refine hK55 _ ⟨trivial, ?_⟩
          try clear hK55 K55
          refine AAny_all2 (i := 2) (j := 4) (by kernel_rfl) ?_ ?_
          · skip
            refine aAt_op rfl rfl fun K56 hK56 => ?_
            simp only [↓aops, ↓aop, ↓aWant, ↓aVal, St.ev, St.get, St.put, St.new, List.getD_cons_zero, List.getD_cons_succ, List.set_cons_zero, List.set_cons_succ, AV.flat, AV.cl, AV.one, Value.oneCell', true_and, and_true, thenQ, blockQ, if_true, if_false, ↓reduceIte, Bool.false_eq_true, Bool.not_true, Bool.not_false, Nat.reduceEqDiff, reduceCtorEq, aAppend, ei27, slOf, List.length_map, getO, putO, List.all_cons, List.all_nil, Bool.and_true, List.length_cons, List.length_nil, Nat.reduceAdd, Ty.cells_one, List.all_append, Bool.true_and, Ty.cells_len, Ty.cells_take1, Ty.cells_drop1, Ty.cells_drop2, Ty.cells_take3, List.length_append, Nat.zero_add, hq1, hq2, hq3, hq4, hq5]
            refine hK56 _ ⟨trivial, ?_⟩
            try clear hK56 K56
            refine AAny_all1 (i := 4) (by kernel_rfl) ?_
            · skip
              refine aAt_op rfl rfl fun K57 hK57 => ?_
              simp only [↓aops, ↓aop, ↓aWant, ↓aVal, St.ev, St.get, St.put, St.new, List.getD_cons_zero, List.getD_cons_succ, List.set_cons_zero, List.set_cons_succ, AV.flat, AV.cl, AV.one, Value.oneCell', true_and, and_true, thenQ, blockQ, if_true, if_false, ↓reduceIte, Bool.false_eq_true, Bool.not_true, Bool.not_false, Nat.reduceEqDiff, reduceCtorEq, ↓bs1_1, ↓bs1_2, ↓bs1_3, ↓bs1_4, ↓bs1_5, ↓bs1_6, ↓bs1_7, ↓bs1_8, ↓bs1_9, ↓bs1_10, ↓bs1_11, ↓bs1_12, aBuildSl, ei27, Array.toList_map, List.map_cons, List.map_nil, List.range_succ, List.range_zero, List.nil_append, List.cons_append, List.append_nil, List.forall_mem_cons, List.not_mem_nil, false_imp_iff, implies_true, List.length_cons, List.length_nil, Nat.reduceAdd, Nat.reduceLeDiff, Nat.zero_add, forall_eq, List.mem_singleton, Ty.cells_one, List.all_append, Bool.true_and, Bool.and_true, List.all_cons, List.all_nil, Ty.cells_len, Ty.cells_take1, Ty.cells_drop1, Ty.cells_drop2, Ty.cells_take3, List.length_append, hq1, hq2, hq3, hq4, hq5]
              refine hK57 _ ⟨trivial, ?_⟩
              try clear hK57 K57
              refine AAny_all1 (i := 5) (by kernel_rfl) ?_
              · skip
                refine aAt_op rfl rfl fun K58 hK58 => ?_
                simp only [↓aops, ↓aop, ↓aWant, ↓aVal, St.ev, St.get, St.put, St.new, List.getD_cons_zero, List.getD_cons_succ, List.set_cons_zero, List.set_cons_succ, AV.flat, AV.cl, AV.one, Value.oneCell', true_and, and_true, thenQ, blockQ, if_true, if_false, ↓reduceIte, Bool.false_eq_true, Bool.not_true, Bool.not_false, Nat.reduceEqDiff, reduceCtorEq, aAppend, ei27, slOf, List.length_map, getO, putO, List.all_cons, List.all_nil, Bool.and_true, List.length_cons, List.length_nil, Nat.reduceAdd, Ty.cells_one, List.all_append, Bool.true_and, Ty.cells_len, Ty.cells_take1, Ty.cells_drop1, Ty.cells_drop2, Ty.cells_take3, List.length_append, Nat.zero_add, hq1, hq2, hq3, hq4, hq5]
                refine hK58 _ ⟨trivial, ?_⟩
                try clear hK58 K58
                refine AAny_takeK 8 rfl (by kernel_rfl) (by kernel_rfl) (by kernel_rfl) (fun _ _ h => h) fun K59 hK59 => ?_
                simp only [aQuiet, aHeldLoad, ↓aops, ↓aop, ↓aWant, ↓aVal, St.ev, St.get, St.put, St.new, List.getD_cons_zero, List.getD_cons_succ, List.set_cons_zero, List.set_cons_succ, AV.flat, AV.cl, AV.one, Value.oneCell', true_and, and_true, thenQ, blockQ, if_true, if_false, ↓reduceIte, Bool.false_eq_true, Bool.not_true, Bool.not_false, Nat.reduceEqDiff, reduceCtorEq, Ty.cells_one, List.all_append, Bool.true_and, Bool.and_true, List.all_cons, List.all_nil, Ty.cells_len, Ty.cells_take1, Ty.cells_drop1, Ty.cells_drop2, Ty.cells_take3, List.length_append, Nat.zero_add, hq1, hq2, hq3, hq4, hq5]
                refine hK59 _ ?_
                try clear hK59 K59
                refine AAny_takeK 9 rfl (by kernel_rfl) (by kernel_rfl) (by kernel_rfl) (fun _ _ h => h) fun K60 hK60 => ?_
                simp only [aQuiet, aHeldLoad, ↓aops, ↓aop, ↓aWant, ↓aVal, St.ev, St.get, St.put, St.new, List.getD_cons_zero, List.getD_cons_succ, List.set_cons_zero, List.set_cons_succ, AV.flat, AV.cl, AV.one, Value.oneCell', true_and, and_true, thenQ, blockQ, if_true, if_false, ↓reduceIte, Bool.false_eq_true, Bool.not_true, Bool.not_false, Nat.reduceEqDiff, reduceCtorEq, Ty.cells_one, List.all_append, Bool.true_and, Bool.and_true, List.all_cons, List.all_nil, Ty.cells_len, Ty.cells_take1, Ty.cells_drop1, Ty.cells_drop2, Ty.cells_take3, List.length_append, Nat.zero_add, hq1, hq2, hq3, hq4, hq5]
                refine hK60 _ ?_
                try clear hK60 K60
                refine AAny_done (by kernel_rfl) ?_
                simp only [thenQ, blockQ]
                simp only [maskL, setsL, putsO, putO, List.set_cons_zero, List.set_cons_succ, Nat.reduceEqDiff, ↓reduceIte]
                refine ⟨trivial, ?_⟩
                refine Weak.bare ?_ rfl ?_
                · simp only [LeL, Le.refl, Le.any, and_self, and_true, true_and, List.map_append, List.map_cons, List.map_nil, RNode.cells]
                  first | done | exact Le.oslL
                · simp only [UndL, and_true, true_and, Und.any, Und.v]
                  first | done | exact .data (RNode.dataSl _)
          · skip
            refine aAt_op rfl rfl fun K61 hK61 => ?_
            simp only [↓aops, ↓aop, ↓aWant, ↓aVal, St.ev, St.get, St.put, St.new, List.getD_cons_zero, List.getD_cons_succ, List.set_cons_zero, List.set_cons_succ, AV.flat, AV.cl, AV.one, Value.oneCell', true_and, and_true, thenQ, blockQ, if_true, if_false, ↓reduceIte, Bool.false_eq_true, Bool.not_true, Bool.not_false, Nat.reduceEqDiff, reduceCtorEq, ↓bs1_1, ↓bs1_2, ↓bs1_3, ↓bs1_4, ↓bs1_5, ↓bs1_6, ↓bs1_7, ↓bs1_8, ↓bs1_9, ↓bs1_10, ↓bs1_11, ↓bs1_12, aBuildSl, ei27, Array.toList_map, List.map_cons, List.map_nil, List.range_succ, List.range_zero, List.nil_append, List.cons_append, List.append_nil, List.forall_mem_cons, List.not_mem_nil, false_imp_iff, implies_true, List.length_cons, List.length_nil, Nat.reduceAdd, Nat.reduceLeDiff, Nat.zero_add, forall_eq, List.mem_singleton, Ty.cells_one, List.all_append, Bool.true_and, Bool.and_true, List.all_cons, List.all_nil, Ty.cells_len, Ty.cells_take1, Ty.cells_drop1, Ty.cells_drop2, Ty.cells_take3, List.length_append, hq1, hq2, hq3, hq4, hq5]
            refine hK61 _ ⟨trivial, ?_⟩
            try clear hK61 K61
            refine AAny_all1 (i := 2) (by kernel_rfl) ?_
            · skip
              refine aAt_op rfl rfl fun K62 hK62 => ?_
              simp only [↓aops, ↓aop, ↓aWant, ↓aVal, St.ev, St.get, St.put, St.new, List.getD_cons_zero, List.getD_cons_succ, List.set_cons_zero, List.set_cons_succ, AV.flat, AV.cl, AV.one, Value.oneCell', true_and, and_true, thenQ, blockQ, if_true, if_false, ↓reduceIte, Bool.false_eq_true, Bool.not_true, Bool.not_false, Nat.reduceEqDiff, reduceCtorEq, aAppend, ei27, slOf, List.length_map, getO, putO, List.all_cons, List.all_nil, Bool.and_true, List.length_cons, List.length_nil, Nat.reduceAdd, Ty.cells_one, List.all_append, Bool.true_and, Ty.cells_len, Ty.cells_take1, Ty.cells_drop1, Ty.cells_drop2, Ty.cells_take3, List.length_append, Nat.zero_add, hq1, hq2, hq3, hq4, hq5]
              refine hK62 _ ⟨trivial, ?_⟩
              try clear hK62 K62
              refine AAny_all1 (i := 5) (by kernel_rfl) ?_
              · skip
                refine aAt_op rfl rfl fun K63 hK63 => ?_
                simp only [↓aops, ↓aop, ↓aWant, ↓aVal, St.ev, St.get, St.put, St.new, List.getD_cons_zero, List.getD_cons_succ, List.set_cons_zero, List.set_cons_succ, AV.flat, AV.cl, AV.one, Value.oneCell', true_and, and_true, thenQ, blockQ, if_true, if_false, ↓reduceIte, Bool.false_eq_true, Bool.not_true, Bool.not_false, Nat.reduceEqDiff, reduceCtorEq, aAppend, ei27, slOf, List.length_map, getO, putO, List.all_cons, List.all_nil, Bool.and_true, List.length_cons, List.length_nil, Nat.reduceAdd, Ty.cells_one, List.all_append, Bool.true_and, Ty.cells_len, Ty.cells_take1, Ty.cells_drop1, Ty.cells_drop2, Ty.cells_take3, List.length_append, Nat.zero_add, hq1, hq2, hq3, hq4, hq5]
                refine hK63 _ ⟨trivial, ?_⟩
                try clear hK63 K63
                refine AAny_takeK 8 rfl (by kernel_rfl) (by kernel_rfl) (by kernel_rfl) (fun _ _ h => h) fun K64 hK64 => ?_
                simp only [aQuiet, aHeldLoad, ↓aops, ↓aop, ↓aWant, ↓aVal, St.ev, St.get, St.put, St.new, List.getD_cons_zero, List.getD_cons_succ, List.set_cons_zero, List.set_cons_succ, AV.flat, AV.cl, AV.one, Value.oneCell', true_and, and_true, thenQ, blockQ, if_true, if_false, ↓reduceIte, Bool.false_eq_true, Bool.not_true, Bool.not_false, Nat.reduceEqDiff, reduceCtorEq, Ty.cells_one, List.all_append, Bool.true_and, Bool.and_true, List.all_cons, List.all_nil, Ty.cells_len, Ty.cells_take1, Ty.cells_drop1, Ty.cells_drop2, Ty.cells_take3, List.length_append, Nat.zero_add, hq1, hq2, hq3, hq4, hq5]
                refine hK64 _ ?_
                try clear hK64 K64
                refine AAny_takeK 9 rfl (by kernel_rfl) (by kernel_rfl) (by kernel_rfl) (fun _ _ h => h) fun K65 hK65 => ?_
                simp only [aQuiet, aHeldLoad, ↓aops, ↓aop, ↓aWant, ↓aVal, St.ev, St.get, St.put, St.new, List.getD_cons_zero, List.getD_cons_succ, List.set_cons_zero, List.set_cons_succ, AV.flat, AV.cl, AV.one, Value.oneCell', true_and, and_true, thenQ, blockQ, if_true, if_false, ↓reduceIte, Bool.false_eq_true, Bool.not_true, Bool.not_false, Nat.reduceEqDiff, reduceCtorEq, Ty.cells_one, List.all_append, Bool.true_and, Bool.and_true, List.all_cons, List.all_nil, Ty.cells_len, Ty.cells_take1, Ty.cells_drop1, Ty.cells_drop2, Ty.cells_take3, List.length_append, Nat.zero_add, hq1, hq2, hq3, hq4, hq5]
                refine hK65 _ ?_
                try clear hK65 K65
                refine AAny_done (by kernel_rfl) ?_
                simp only [thenQ, blockQ]
                simp only [maskL, setsL, putsO, putO, List.set_cons_zero, List.set_cons_succ, Nat.reduceEqDiff, ↓reduceIte]
                refine ⟨trivial, ?_⟩
                refine Weak.bare ?_ rfl ?_
                · simp only [LeL, Le.refl, Le.any, and_self, and_true, true_and, List.map_append, List.map_cons, List.map_nil, RNode.cells]
                  first | done | exact Le.oslL
                · simp only [UndL, and_true, true_and, Und.any, Und.v]
                  first | done | exact .data (RNode.dataSl _)
        · skip
          refine aAt_op rfl rfl fun K66 hK66 => ?_
          simp only [↓aops, ↓aop, ↓aWant, ↓aVal, St.ev, St.get, St.put, St.new, List.getD_cons_zero, List.getD_cons_succ, List.set_cons_zero, List.set_cons_succ, AV.flat, AV.cl, AV.one, Value.oneCell', true_and, and_true, thenQ, blockQ, if_true, if_false, ↓reduceIte, Bool.false_eq_true, Bool.not_true, Bool.not_false, Nat.reduceEqDiff, reduceCtorEq, ↓bs1_1, ↓bs1_2, ↓bs1_3, ↓bs1_4, ↓bs1_5, ↓bs1_6, ↓bs1_7, ↓bs1_8, ↓bs1_9, ↓bs1_10, ↓bs1_11, ↓bs1_12, aBuildSl, ei27, Array.toList_map, List.map_cons, List.map_nil, List.range_succ, List.range_zero, List.nil_append, List.cons_append, List.append_nil, List.forall_mem_cons, List.not_mem_nil, false_imp_iff, implies_true, List.length_cons, List.length_nil, Nat.reduceAdd, Nat.reduceLeDiff, Nat.zero_add, forall_eq, List.mem_singleton, Ty.cells_one, List.all_append, Bool.true_and, Bool.and_true, List.all_cons, List.all_nil, Ty.cells_len, Ty.cells_take1, Ty.cells_drop1, Ty.cells_drop2, Ty.cells_take3, List.length_append, hq1, hq2, hq3, hq4, hq5]
          refine hK66 _ ⟨trivial, ?_⟩
          try clear hK66 K66
          refine AAny_all1 (i := 0) (by kernel_rfl) ?_
          · skip
            refine aAt_op rfl rfl fun K67 hK67 => ?_
            simp only [↓aops, ↓aop, ↓aWant, ↓aVal, St.ev, St.get, St.put, St.new, List.getD_cons_zero, List.getD_cons_succ, List.set_cons_zero, List.set_cons_succ, AV.flat, AV.cl, AV.one, Value.oneCell', true_and, and_true, thenQ, blockQ, if_true, if_false, ↓reduceIte, Bool.false_eq_true, Bool.not_true, Bool.not_false, Nat.reduceEqDiff, reduceCtorEq, ↓bs0_1, ↓bs0_2, ↓bs0_3, ↓bs0_4, ↓bs0_5, ↓bs0_6, ↓bs0_7, ↓bs0_8, ↓bs0_9, ↓bs0_10, ↓bs0_11, ↓bs0_12, aBuildSl, ei27, Array.toList_map, List.map_cons, List.map_nil, List.range_succ, List.range_zero, List.nil_append, List.cons_append, List.append_nil, List.forall_mem_cons, List.not_mem_nil, false_imp_iff, implies_true, List.length_cons, List.length_nil, Nat.reduceAdd, Nat.reduceLeDiff, Nat.zero_add, forall_eq, List.mem_singleton, Ty.cells_one, List.all_append, Bool.true_and, Bool.and_true, List.all_cons, List.all_nil, Ty.cells_len, Ty.cells_take1, Ty.cells_drop1, Ty.cells_drop2, Ty.cells_take3, List.length_append, hq1, hq2, hq3, hq4, hq5]
            refine hK67 _ ⟨trivial, ?_⟩
            try clear hK67 K67
            refine AAny_all1 (i := 2) (by kernel_rfl) ?_
            · skip
              refine aAt_op rfl rfl fun K68 hK68 => ?_
              simp only [↓aops, ↓aop, ↓aWant, ↓aVal, St.ev, St.get, St.put, St.new, List.getD_cons_zero, List.getD_cons_succ, List.set_cons_zero, List.set_cons_succ, AV.flat, AV.cl, AV.one, Value.oneCell', true_and, and_true, thenQ, blockQ, if_true, if_false, ↓reduceIte, Bool.false_eq_true, Bool.not_true, Bool.not_false, Nat.reduceEqDiff, reduceCtorEq, aAppend, ei27, slOf, List.length_map, getO, putO, List.all_cons, List.all_nil, Bool.and_true, List.length_cons, List.length_nil, Nat.reduceAdd, Ty.cells_one, List.all_append, Bool.true_and, Ty.cells_len, Ty.cells_take1, Ty.cells_drop1, Ty.cells_drop2, Ty.cells_take3, List.length_append, Nat.zero_add, hq1, hq2, hq3, hq4, hq5]
              refine hK68 _ ⟨trivial, ?_⟩
              try clear hK68 K68
              refine AAny_all1 (i := 5) (by kernel_rfl) ?_
              · skip
                refine aAt_op rfl rfl fun K69 hK69 => ?_
                simp only [↓aops, ↓aop, ↓aWant, ↓aVal, St.ev, St.get, St.put, St.new, List.getD_cons_zero, List.getD_cons_succ, List.set_cons_zero, List.set_cons_succ, AV.flat, AV.cl, AV.one, Value.oneCell', true_and, and_true, thenQ, blockQ, if_true, if_false, ↓reduceIte, Bool.false_eq_true, Bool.not_true, Bool.not_false, Nat.reduceEqDiff, reduceCtorEq, aAppend, ei27, slOf, List.length_map, getO, putO, List.all_cons, List.all_nil, Bool.and_true, List.length_cons, List.length_nil, Nat.reduceAdd, Ty.cells_one, List.all_append, Bool.true_and, Ty.cells_len, Ty.cells_take1, Ty.cells_drop1, Ty.cells_drop2, Ty.cells_take3, List.length_append, Nat.zero_add, hq1, hq2, hq3, hq4, hq5]
                refine hK69 _ ⟨trivial, ?_⟩
                try clear hK69 K69
                refine AAny_takeK 8 rfl (by kernel_rfl) (by kernel_rfl) (by kernel_rfl) (fun _ _ h => h) fun K70 hK70 => ?_
                simp only [aQuiet, aHeldLoad, ↓aops, ↓aop, ↓aWant, ↓aVal, St.ev, St.get, St.put, St.new, List.getD_cons_zero, List.getD_cons_succ, List.set_cons_zero, List.set_cons_succ, AV.flat, AV.cl, AV.one, Value.oneCell', true_and, and_true, thenQ, blockQ, if_true, if_false, ↓reduceIte, Bool.false_eq_true, Bool.not_true, Bool.not_false, Nat.reduceEqDiff, reduceCtorEq, Ty.cells_one, List.all_append, Bool.true_and, Bool.and_true, List.all_cons, List.all_nil, Ty.cells_len, Ty.cells_take1, Ty.cells_drop1, Ty.cells_drop2, Ty.cells_take3, List.length_append, Nat.zero_add, hq1, hq2, hq3, hq4, hq5]
                refine hK70 _ ?_
                try clear hK70 K70
                refine AAny_takeK 9 rfl (by kernel_rfl) (by kernel_rfl) (by kernel_rfl) (fun _ _ h => h) fun K71 hK71 => ?_
                simp only [aQuiet, aHeldLoad, ↓aops, ↓aop, ↓aWant, ↓aVal, St.ev, St.get, St.put, St.new, List.getD_cons_zero, List.getD_cons_succ, List.set_cons_zero, List.set_cons_succ, AV.flat, AV.cl, AV.one, Value.oneCell', true_and, and_true, thenQ, blockQ, if_true, if_false, ↓reduceIte, Bool.false_eq_true, Bool.not_true, Bool.not_false, Nat.reduceEqDiff, reduceCtorEq, Ty.cells_one, List.all_append, Bool.true_and, Bool.and_true, List.all_cons, List.all_nil, Ty.cells_len, Ty.cells_take1, Ty.cells_drop1, Ty.cells_drop2, Ty.cells_take3, List.length_append, Nat.zero_add, hq1, hq2, hq3, hq4, hq5]
                refine hK71 _ ?_
                try clear hK71 K71
                refine AAny_done (by kernel_rfl) ?_
                simp only [thenQ, blockQ]
                simp only [maskL, setsL, putsO, putO, List.set_cons_zero, List.set_cons_succ, Nat.reduceEqDiff, ↓reduceIte]
                refine ⟨trivial, ?_⟩
                refine Weak.bare ?_ rfl ?_
                · simp only [LeL, Le.refl, Le.any, and_self, and_true, true_and, List.map_append, List.map_cons, List.map_nil, RNode.cells]
                  first | done | exact Le.oslL
                · simp only [UndL, and_true, true_and, Und.any, Und.v]
                  first | done | exact .data (RNode.dataSl _)
    simp only [maskL, setsL, putsO, putO, List.set_cons_zero, List.set_cons_succ, Nat.reduceEqDiff, ↓reduceIte]
    refine AWp_ret ?_
    simp only [thenQ, blockQ, retQ, aRes, tupOf, St.get, List.getD_cons_zero, List.getD_cons_succ]
    rw [Ty.radd_eq]
    first | (rw [if_neg hno]; exact Le.refl _) | (rw [if_pos (by simp at *; omega)]; exact Le.refl _)
end Go.Proofs.Ytohdoloalolpfaa
