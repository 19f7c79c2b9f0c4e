import Derived.Test.YtohdoloalolpfaaGr6
namespace Go.Proofs.Ytohdoloalolpfaa
open Go Go.RowKit
set_option maxRecDepth 100000
set_option maxHeartbeats 1000000
set_option linter.unusedSimpArgs false
set_option linter.unusedVariables false
attribute [local irreducible] aops dRun
theorem GraphTypes_pure (ps : List Ty) (i most : Int) : APure Try.prog 3 [.sl 3 (ps.map Ty.cells), .v (.int .i64 i), .v (.int .i64 most)] (.v (.bool true)) := by
  refine APure.mkL (.cons (Ty.dataSl ps) (.cons (.v _) (.cons (.v _) .nil))) (.v _) ?_
  refine ACalls_intro Try.func3 (by kernel_rfl) rfl (by rw [Try.ntmps3]; simp) (fun hm => ?_)
  simp only [Try.ntmps3, Try.results3, List.length_cons, List.length_nil, Nat.reduceAdd, Nat.reduceSub, List.replicate_succ, List.replicate_zero, List.cons_append, List.nil_append]
  refine AWp_seqK fun K1 hK1 => ?_
  refine AWp_region ?_
  simp only [↓aops, ↓aop, ↓aWant, ↓aVal, bS, bA, AV.flat, AV.cl, AV.one, Value.oneCell', thenQ, blockQ, noGotoQ, ↓reduceIte, Nat.reduceEqDiff, reduceCtorEq, tyX, RNode.cells, List.length_map, Ty.refold]
  refine hK1 _ ?_
  try clear hK1 K1
  refine AWp_seqK fun K2 hK2 => ?_
  refine AWp_seqK fun K3 hK3 => ?_
  refine AWp_region ?_
  refine aops_chunk 1 fun C4 hC4 => ?_
  simp only [bL, ↓aops, ↓aop, ↓aWant, ↓aVal, bS, bA, AV.flat, AV.cl, AV.one, Value.oneCell', thenQ, blockQ, noGotoQ, ↓reduceIte, Nat.reduceEqDiff, reduceCtorEq, tyX, RNode.cells, List.length_map, Ty.refold]
  refine hC4 _ ?_
  try clear hC4 C4
  simp only [bL]
  simp only [↓aops, ↓aop, ↓aWant, ↓aVal, bS, bA, AV.flat, AV.cl, AV.one, Value.oneCell', thenQ, blockQ, noGotoQ, ↓reduceIte, Nat.reduceEqDiff, reduceCtorEq, aCallV, bL, tyX, RNode.cells, List.length_map, Ty.refold]
  refine APure.call (Great11_pure ps) ?_
  try simp only [bS, bA, thenQ, blockQ, noGotoQ]
  refine hK3 _ ?_
  try clear hK3 K3
  refine AWp_cond rfl (fun hb17 => ?_) (fun hb17 => ?_)
  · skip
    refine AWp_seqK fun K5 hK5 => ?_
    refine AWp_region ?_
    refine aops_chunk 1 fun C6 hC6 => ?_
    simp only [bL, ↓aops, ↓aop, ↓aWant, ↓aVal, bS, bA, AV.flat, AV.cl, AV.one, Value.oneCell', thenQ, blockQ, noGotoQ, ↓reduceIte, Nat.reduceEqDiff, reduceCtorEq, aCallV, tyX, RNode.cells, List.length_map, Ty.refold]
    refine APure.call (awake_pure) ?_
    try simp only [bS, bA, thenQ, blockQ, noGotoQ]
    refine hC6 _ ?_
    try clear hC6 C6
    simp only [bL]
    simp only [↓aops, ↓aop, ↓aWant, ↓aVal, bS, bA, AV.flat, AV.cl, AV.one, Value.oneCell', thenQ, blockQ, noGotoQ, ↓reduceIte, Nat.reduceEqDiff, reduceCtorEq, tyX, RNode.cells, List.length_map, Ty.refold]
    refine hK5 _ ?_
    try clear hK5 K5
    refine AWp_ret ?_
    try simp only [thenQ, blockQ, noGotoQ, retQ, aRes, tupOf, bS, bA]
    first | exact Le.refl _ | (refine Le.of_eq (congrArg (fun b => AV.v (.bool b)) ?_); simp_all [Ty.same_refl]; done)
  · skip
    have hg : greatL ps = false := hb17
    obtain ⟨hg1, hg2, hg3⟩ := greatL_spec hg
    have hcs : ∀ t ∈ ps, t.cnt ≤ 400 := fun t ht => by have := Ty.great_cnt (hg3 t ht); omega
    have hI := bothF_inv ps hcs ps.length (Nat.le_refl _)
    rw [List.take_length] at hI
    have hrl := hI.rel
    have hln := hrl.len
    have hlc := hI.len
    refine AWp_skip ?_
    try simp only [thenQ, blockQ, noGotoQ]
    refine hK2 _ ?_
    try clear hK2 K2
    refine AWp_seqK fun K7 hK7 => ?_
    refine AWp_region ?_
    refine aops_chunk 1 fun C8 hC8 => ?_
    simp only [bL, ↓aops, ↓aop, ↓aWant, ↓aVal, bS, bA, AV.flat, AV.cl, AV.one, Value.oneCell', thenQ, blockQ, noGotoQ, ↓reduceIte, Nat.reduceEqDiff, reduceCtorEq, tyX, RNode.cells, List.length_map, Ty.refold]
    refine hC8 _ ?_
    try clear hC8 C8
    simp only [bL]
    refine aops_chunk 1 fun C9 hC9 => ?_
    simp only [bL, ↓aops, ↓aop, ↓aWant, ↓aVal, bS, bA, AV.flat, AV.cl, AV.one, Value.oneCell', thenQ, blockQ, noGotoQ, ↓reduceIte, Nat.reduceEqDiff, reduceCtorEq, aCallV, tyX, RNode.cells, List.length_map, Ty.refold]
    refine (both_calls ps hg).mono ?_
    rintro r os' nx' ⟨⟨rfl, rfl⟩, rfl⟩
    simp only [gO]
    try simp only [bS, bA, thenQ, blockQ, noGotoQ]
    refine hC9 _ ?_
    try clear hC9 C9
    simp only [bL]
    refine aops_chunk 2 fun C10 hC10 => ?_
    simp only [bL, ↓aops, ↓aop, ↓aWant, ↓aVal, bS, bA, AV.flat, AV.cl, AV.one, Value.oneCell', thenQ, blockQ, noGotoQ, ↓reduceIte, Nat.reduceEqDiff, reduceCtorEq, aExtract, Nat.reduceAdd, Nat.reduceLT, Nat.zero_lt_succ, tyX, RNode.cells, List.length_map, Ty.refold]
    refine hC10 _ ?_
    try clear hC10 C10
    simp only [bL]
    refine aops_chunk 2 fun C11 hC11 => ?_
    simp only [bL, ↓aops, ↓aop, ↓aWant, ↓aVal, bS, bA, AV.flat, AV.cl, AV.one, Value.oneCell', thenQ, blockQ, noGotoQ, ↓reduceIte, Nat.reduceEqDiff, reduceCtorEq, aExtract, Nat.reduceAdd, Nat.reduceLT, Nat.zero_lt_succ, tyX, RNode.cells, List.length_map, Ty.refold]
    refine hC11 _ ?_
    try clear hC11 C11
    simp only [bL]
    refine aops_chunk 2 fun C12 hC12 => ?_
    simp only [bL, ↓aops, ↓aop, ↓aWant, ↓aVal, bS, bA, AV.flat, AV.cl, AV.one, Value.oneCell', thenQ, blockQ, noGotoQ, ↓reduceIte, Nat.reduceEqDiff, reduceCtorEq, aExtract, Nat.reduceAdd, Nat.reduceLT, Nat.zero_lt_succ, tyX, RNode.cells, List.length_map, Ty.refold]
    refine hC12 _ ?_
    try clear hC12 C12
    simp only [bL]
    refine aops_chunk 2 fun C13 hC13 => ?_
    simp only [bL, ↓aops, ↓aop, ↓aWant, ↓aVal, bS, bA, AV.flat, AV.cl, AV.one, Value.oneCell', thenQ, blockQ, noGotoQ, ↓reduceIte, Nat.reduceEqDiff, reduceCtorEq, tyX, RNode.cells, List.length_map, Ty.refold]
    refine hC13 _ ?_
    try clear hC13 C13
    simp only [bL]
    simp only [↓aops, ↓aop, ↓aWant, ↓aVal, bS, bA, AV.flat, AV.cl, AV.one, Value.oneCell', thenQ, blockQ, noGotoQ, ↓reduceIte, Nat.reduceEqDiff, reduceCtorEq, tyX, RNode.cells, List.length_map, Ty.refold]
    refine hK7 _ ?_
    try clear hK7 K7
    refine AWp_seqK fun K14 hK14 => ?_
    refine AWp_seqK fun K15 hK15 => ?_
    refine AWp_region ?_
    simp only [↓aops, ↓aop, ↓aWant, ↓aVal, bS, bA, AV.flat, AV.cl, AV.one, Value.oneCell', thenQ, blockQ, noGotoQ, ↓reduceIte, Nat.reduceEqDiff, reduceCtorEq, aUn, tyX, RNode.cells, List.length_map, Ty.refold]
    refine hK15 _ ?_
    try clear hK15 K15
    refine AWp_cond rfl (fun hb27 => ?_) (fun hb27 => ?_)
    · skip
      exact absurd hb27 (by simp)
    · skip
      refine AWp_skip ?_
      try simp only [thenQ, blockQ, noGotoQ]
      refine hK14 _ ?_
      try clear hK14 K14
      refine AWp_seqK fun K16 hK16 => ?_
      refine AWp_seqK fun K17 hK17 => ?_
      refine AWp_region ?_
      simp only [↓aops, ↓aop, ↓aWant, ↓aVal, bS, bA, AV.flat, AV.cl, AV.one, Value.oneCell', thenQ, blockQ, noGotoQ, ↓reduceIte, Nat.reduceEqDiff, reduceCtorEq, tyX, RNode.cells, List.length_map, Ty.refold]
      refine hK17 _ ?_
      try clear hK17 K17
      refine AWp_block ?_
      refine AWp_loopM (σ := Nat) [false, true, true, false, false, false, false, true, true, false, false, true, false, false, false, false, false, false, false, false, false, false, false, false, false, false, false, false, false, false, false, false, false, false, false, false, false, false, false, false, false, false, false, false, false, false, false, false, false, false, false, false, false, false, false, false, false, false, false, false, false, false, false, false, false, false, false, false, false, false, false, false, false, false, false, false, false, false, false, false, false, false, false, false, false, false, false, false, false, false, false, false, false, false, false, false, false, false, false, false, false, false, false, false, false, false] (fun s => s ≤ (bothF ps).m.length) (fun s => [(11, .v (.int .i64 (s : Int)))]) (fun s => []) (fun s => (bothF ps).m.length - s) 0 (by omega) ?_ (fun s hs => ?_)
      · skip
        simp only [maskL, setsL, putsO, putO, bA, Nat.reduceEqDiff, ↓reduceIte]
        exact Weak.mk (by simp only [LeL, Le.refl, Le.any, Le.slNil, and_self, Int.natCast_add, Int.cast_ofNat_Int, Int.natCast_one]) (fun _ _ h => h) rfl rfl
      simp only [maskL, setsL, putsO, putO, bA, Nat.reduceEqDiff, ↓reduceIte]
      refine AWp_seqK fun K18 hK18 => ?_
      refine AWp_seqK fun K19 hK19 => ?_
      refine AWp_region ?_
      refine aops_chunk 2 fun C20 hC20 => ?_
      simp only [bL, ↓aops, ↓aop, ↓aWant, ↓aVal, bS, bA, AV.flat, AV.cl, AV.one, Value.oneCell', thenQ, blockQ, noGotoQ, ↓reduceIte, Nat.reduceEqDiff, reduceCtorEq, tyX, RNode.cells, List.length_map, Ty.refold]
      refine hC20 _ ?_
      try clear hC20 C20
      simp only [bL]
      simp only [↓aops, ↓aop, ↓aWant, ↓aVal, bS, bA, AV.flat, AV.cl, AV.one, Value.oneCell', thenQ, blockQ, noGotoQ, ↓reduceIte, Nat.reduceEqDiff, reduceCtorEq, getO, aLenX, aLen, ln27, List.length_map, aBin, tyX, RNode.cells, Ty.refold]
      refine hK19 _ ?_
      try clear hK19 K19
      refine AWp_cond rfl (fun hb31 => ?_) (fun hb31 => ?_)
      · skip
        have hk : s < (bothF ps).m.length := by simpa using hb31
        obtain ⟨r, hr⟩ : ∃ r, (bothF ps).m[s]? = some r := ⟨_, List.getElem?_eq_getElem hk⟩
        obtain ⟨x, hx⟩ : ∃ x, (bothF ps).G.N[s]? = some x := ⟨_, List.getElem?_eq_getElem (by omega)⟩
        have hrc := (hrl.node s x r hx hr).2.2.2.2.1
        have hty0 := hrl.type hr 400
        rw [if_neg (by omega)] at hty0
        have hw : IntKind.i64.wrap ((s : Int) + 1) = (s : Int) + 1 := wrap_in (by omega) (by omega)
        refine AWp_skip ?_
        try simp only [thenQ, blockQ, noGotoQ]
        refine hK18 _ ?_
        try clear hK18 K18
        refine AWp_seqK fun K21 hK21 => ?_
        refine AWp_block ?_
        refine AWp_seqK fun K22 hK22 => ?_
        refine AWp_region ?_
        refine aops_chunk 2 fun C23 hC23 => ?_
        simp only [bL, ↓aops, ↓aop, ↓aWant, ↓aVal, bS, bA, AV.flat, AV.cl, AV.one, Value.oneCell', thenQ, blockQ, noGotoQ, ↓reduceIte, Nat.reduceEqDiff, reduceCtorEq, tyX, RNode.cells, List.length_map, Ty.refold, hk, getD_map_cells hr, hty0, Int.natCast_add, Int.natCast_one, hw]
        refine hC23 _ ?_
        try clear hC23 C23
        simp only [bL]
        refine aops_chunk 1 fun C24 hC24 => ?_
        simp only [bL, ↓aops, ↓aop, ↓aWant, ↓aVal, bS, bA, AV.flat, AV.cl, AV.one, Value.oneCell', thenQ, blockQ, noGotoQ, ↓reduceIte, Nat.reduceEqDiff, reduceCtorEq, aCallV, tyX, RNode.cells, List.length_map, Ty.refold, hk, getD_map_cells hr, hty0, Int.natCast_add, Int.natCast_one, hw]
        refine GCalls.at (Type_calls (bothF ps).G (s : Int) 400 hrl.wf) (.cons (.v _) (.cons (.v _) .nil)) (.tup (.cons (Ty.dataAgg _) (.cons (.v _) .nil))) (i := 1) (j := 2) (k := 0) rfl rfl rfl (by decide) (by decide) (by decide) (by first | omega | (simp only; omega)) (by first | omega | (simp only; omega)) (by first | omega | (simp only; omega)) ?_
        simp only [putO, Nat.reduceEqDiff, ↓reduceIte]
        try simp only [bS, bA, thenQ, blockQ, noGotoQ]
        refine hC24 _ ?_
        try clear hC24 C24
        simp only [bL]
        refine aops_chunk 2 fun C25 hC25 => ?_
        simp only [bL, ↓aops, ↓aop, ↓aWant, ↓aVal, bS, bA, AV.flat, AV.cl, AV.one, Value.oneCell', thenQ, blockQ, noGotoQ, ↓reduceIte, Nat.reduceEqDiff, reduceCtorEq, aExtract, Nat.reduceAdd, Nat.reduceLT, Nat.zero_lt_succ, tyX, RNode.cells, List.length_map, Ty.refold, hk, getD_map_cells hr, hty0, Int.natCast_add, Int.natCast_one, hw]
        refine hC25 _ ?_
        try clear hC25 C25
        simp only [bL]
        refine aops_chunk 2 fun C26 hC26 => ?_
        simp only [bL, ↓aops, ↓aop, ↓aWant, ↓aVal, bS, bA, AV.flat, AV.cl, AV.one, Value.oneCell', thenQ, blockQ, noGotoQ, ↓reduceIte, Nat.reduceEqDiff, reduceCtorEq, aExtract, Nat.reduceAdd, Nat.reduceLT, Nat.zero_lt_succ, zc32, tyX, RNode.cells, List.length_map, Ty.refold, hk, getD_map_cells hr, hty0, Int.natCast_add, Int.natCast_one, hw]
        refine hC26 _ ?_
        try clear hC26 C26
        simp only [bL]
        simp only [↓aops, ↓aop, ↓aWant, ↓aVal, bS, bA, AV.flat, AV.cl, AV.one, Value.oneCell', thenQ, blockQ, noGotoQ, ↓reduceIte, Nat.reduceEqDiff, reduceCtorEq, aStore, ti32, getO, putO, splice, bL, Nat.reduceAdd, Nat.reduceLeDiff, tyX, RNode.cells, List.length_map, Ty.refold, hk, getD_map_cells hr, hty0, Int.natCast_add, Int.natCast_one, hw]
        refine hK22 _ ?_
        try clear hK22 K22
        refine AWp_seqK fun K27 hK27 => ?_
        refine AWp_drawK 12 mixed (by kernel_rfl) fun K28 hK28 => ?_
        simp only [bL]
        refine dRun_chunk 2 fun C29 hC29 => ?_
        simp only [bL, ↓dRun, ↓dOp, ↓aops, ↓aop, ↓aWant, ↓aVal, bS, bA, AV.flat, AV.cl, AV.one, Value.oneCell', thenQ, blockQ, noGotoQ, ↓reduceIte, Nat.reduceEqDiff, reduceCtorEq, aBin, tyX, RNode.cells, List.length_map, Ty.refold, hk, getD_map_cells hr, hty0, Int.natCast_add, Int.natCast_one, hw]
        refine hC29 _ ?_
        try clear hC29 C29
        simp only [bL]
        refine dRun_chunk 1 fun C30 hC30 => ?_
        simp only [bL, ↓dRun, ↓dOp, ↓aops, ↓aop, ↓aWant, ↓aVal, bS, bA, AV.flat, AV.cl, AV.one, Value.oneCell', thenQ, blockQ, noGotoQ, ↓reduceIte, Nat.reduceEqDiff, reduceCtorEq, tyX, RNode.cells, List.length_map, Ty.refold, hk, getD_map_cells hr, hty0, Int.natCast_add, Int.natCast_one, hw]
        refine hC30 _ ?_
        try clear hC30 C30
        simp only [bL]
        refine dRun_case 42 rfl (fun hc42 => ?_) (fun hc42 => ?_)
        · simp only [List.set_cons_zero, List.set_cons_succ]
          exact absurd hc42 (by simp [Ty.same_refl])
        · simp only [List.set_cons_zero, List.set_cons_succ]
          refine dRun_chunk 2 fun C31 hC31 => ?_
          simp only [bL, ↓dRun, ↓dOp, ↓aops, ↓aop, ↓aWant, ↓aVal, bS, bA, AV.flat, AV.cl, AV.one, Value.oneCell', thenQ, blockQ, noGotoQ, ↓reduceIte, Nat.reduceEqDiff, reduceCtorEq, undef, aLoad, ti32, getO, pack, Nat.reduceAdd, Nat.reduceLeDiff, tyX, RNode.cells, List.length_map, Ty.refold, hk, getD_map_cells hr, hty0, Int.natCast_add, Int.natCast_one, hw]
          refine hC31 _ ?_
          try clear hC31 C31
          simp only [bL]
          refine dRun_chunk 2 fun C32 hC32 => ?_
          simp only [bL, ↓dRun, ↓dOp, ↓aops, ↓aop, ↓aWant, ↓aVal, bS, bA, AV.flat, AV.cl, AV.one, Value.oneCell', thenQ, blockQ, noGotoQ, ↓reduceIte, Nat.reduceEqDiff, reduceCtorEq, undef, getO, aIndexA, es27, Int.natCast_nonneg, Int.ofNat_lt, Int.toNat_natCast, List.length_map, Int.le_refl, Int.toNat_zero, Int.toNat_one, Int.reduceLE, tyX, RNode.cells, Ty.refold, hk, getD_map_cells hr, hty0, Int.natCast_add, Int.natCast_one, hw]
          refine hC32 _ ?_
          try clear hC32 C32
          simp only [bL]
          refine dRun_chunk 2 fun C33 hC33 => ?_
          simp only [bL, ↓dRun, ↓dOp, ↓aops, ↓aop, ↓aWant, ↓aVal, bS, bA, AV.flat, AV.cl, AV.one, Value.oneCell', thenQ, blockQ, noGotoQ, ↓reduceIte, Nat.reduceEqDiff, reduceCtorEq, undef, aField, fo38_0, Nat.reduceAdd, aLoad, ti32, getO, pack, Nat.reduceLeDiff, tyX, RNode.cells, List.length_map, Ty.refold, hk, getD_map_cells hr, hty0, Int.natCast_add, Int.natCast_one, hw]
          refine hC33 _ ?_
          try clear hC33 C33
          simp only [bL]
          refine dRun_chunk 1 fun C34 hC34 => ?_
          simp only [bL, ↓dRun, ↓dOp, ↓aops, ↓aop, ↓aWant, ↓aVal, bS, bA, AV.flat, AV.cl, AV.one, Value.oneCell', thenQ, blockQ, noGotoQ, ↓reduceIte, Nat.reduceEqDiff, reduceCtorEq, undef, aCallV, tyX, RNode.cells, List.length_map, Ty.refold, hk, getD_map_cells hr, hty0, Int.natCast_add, Int.natCast_one, hw]
          refine ⟨_, Same_pure r.t r.t, ?_⟩
          try simp only [bS, bA, thenQ, blockQ, noGotoQ]
          refine hC34 _ ?_
          try clear hC34 C34
          simp only [bL]
          simp only [↓dRun, ↓dOp, bL, ↓aops, ↓aop, ↓aWant, ↓aVal, bS, bA, AV.flat, AV.cl, AV.one, Value.oneCell', thenQ, blockQ, noGotoQ, ↓reduceIte, Nat.reduceEqDiff, reduceCtorEq, undef, aUn, aBool, tyX, RNode.cells, List.length_map, Ty.refold, hk, getD_map_cells hr, hty0, Int.natCast_add, Int.natCast_one, hw]
          refine hK28 _ ?_
          try clear hK28 K28
          simp only [bL, aops, thenQ, blockQ, noGotoQ]
          refine hK27 _ ?_
          try clear hK27 K27
          refine AWp_cond rfl (fun hb51 => ?_) (fun hb51 => ?_)
          · skip
            exact absurd hb51 (by simp [Ty.same_refl])
          · skip
            refine AWp_skip ?_
            try simp only [thenQ, blockQ, noGotoQ]
            refine hK21 _ ?_
            try clear hK21 K21
            refine AWp_region ?_
            refine aops_chunk 2 fun C35 hC35 => ?_
            simp only [bL, ↓aops, ↓aop, ↓aWant, ↓aVal, bS, bA, AV.flat, AV.cl, AV.one, Value.oneCell', thenQ, blockQ, noGotoQ, ↓reduceIte, Nat.reduceEqDiff, reduceCtorEq, aBin, tyX, RNode.cells, List.length_map, Ty.refold, hk, getD_map_cells hr, hty0, Int.natCast_add, Int.natCast_one, hw]
            refine hC35 _ ?_
            try clear hC35 C35
            simp only [bL]
            simp only [↓aops, ↓aop, ↓aWant, ↓aVal, bS, bA, AV.flat, AV.cl, AV.one, Value.oneCell', thenQ, blockQ, noGotoQ, ↓reduceIte, Nat.reduceEqDiff, reduceCtorEq, tyX, RNode.cells, List.length_map, Ty.refold, hk, getD_map_cells hr, hty0, Int.natCast_add, Int.natCast_one, hw]
            refine ⟨(s + 1), (by omega), by omega, ?_⟩
            simp only [maskL, setsL, putsO, putO, bA, Nat.reduceEqDiff, ↓reduceIte, hk, getD_map_cells hr, hty0, Int.natCast_add, Int.natCast_one, hw]
            first | (refine Weak.drops 1 3 rfl rfl (by simp only; omega) (by simp only; omega) ?_ ?_ ?_) | (refine Weak.drops 0 3 rfl rfl (by simp only; omega) (by simp only; omega) ?_ ?_ ?_)
            · simp only [LeL, Le.refl, Le.any, and_self, Int.natCast_add, Int.cast_ofNat_Int, Int.natCast_one]
            · simp only [UndL, UndOs, Ob.Und, and_true, true_and, and_self, Und.v, Und.any, Und.ptr, Und.map, Nat.reduceLT, Nat.zero_lt_succ, Und.tys, Und.tyAgg, Und.oslTys, Und.oslTys1, Und.clo0, Und.ty, Und.oslG, Und.oslI, Und.oslI1, Und.oslI2, Und.mapG, und_nodes, und_ints]
            · simp only [UndL, UndOs, Ob.Und, and_true, true_and, and_self, Und.v, Und.any, Und.ptr, Und.map, Nat.reduceLT, Nat.zero_lt_succ, Und.tys, Und.tyAgg, Und.oslTys, Und.oslTys1, Und.clo0, Und.ty, Und.oslG, Und.oslI, Und.oslI1, Und.oslI2, Und.mapG, und_nodes, und_ints]
      · skip
        refine AWp_exit ?_
        simp only [thenQ, blockQ, noGotoQ, bA, Nat.reduceEqDiff, ↓reduceIte]
        refine hK16 _ ?_
        try clear hK16 K16
        refine AWp_seqK fun K36 hK36 => ?_
        refine AWp_region ?_
        refine aops_chunk 2 fun C37 hC37 => ?_
        simp only [bL, ↓aops, ↓aop, ↓aWant, ↓aVal, bS, bA, AV.flat, AV.cl, AV.one, Value.oneCell', thenQ, blockQ, noGotoQ, ↓reduceIte, Nat.reduceEqDiff, reduceCtorEq, tyX, RNode.cells, List.length_map, Ty.refold]
        refine hC37 _ ?_
        try clear hC37 C37
        simp only [bL]
        refine aops_chunk 1 fun C38 hC38 => ?_
        simp only [bL, ↓aops, ↓aop, ↓aWant, ↓aVal, bS, bA, AV.flat, AV.cl, AV.one, Value.oneCell', thenQ, blockQ, noGotoQ, ↓reduceIte, Nat.reduceEqDiff, reduceCtorEq, tyX, RNode.cells, List.length_map, Ty.refold]
        refine hC38 _ ?_
        try clear hC38 C38
        simp only [bL]
        refine aops_chunk 1 fun C39 hC39 => ?_
        simp only [bL, ↓aops, ↓aop, ↓aWant, ↓aVal, bS, bA, AV.flat, AV.cl, AV.one, Value.oneCell', thenQ, blockQ, noGotoQ, ↓reduceIte, Nat.reduceEqDiff, reduceCtorEq, aCallV, tyX, RNode.cells, List.length_map, Ty.refold]
        refine GCalls.at (Type_calls (bothF ps).G i most hrl.wf) (.cons (.v _) (.cons (.v _) .nil)) (.tup (.cons (Ty.dataAgg _) (.cons (.v _) .nil))) (i := 1) (j := 2) (k := 0) rfl rfl rfl (by decide) (by decide) (by decide) (by first | omega | (simp only; omega)) (by first | omega | (simp only; omega)) (by first | omega | (simp only; omega)) ?_
        simp only [putO, Nat.reduceEqDiff, ↓reduceIte]
        try simp only [bS, bA, thenQ, blockQ, noGotoQ]
        refine hC39 _ ?_
        try clear hC39 C39
        simp only [bL]
        refine aops_chunk 2 fun C40 hC40 => ?_
        simp only [bL, ↓aops, ↓aop, ↓aWant, ↓aVal, bS, bA, AV.flat, AV.cl, AV.one, Value.oneCell', thenQ, blockQ, noGotoQ, ↓reduceIte, Nat.reduceEqDiff, reduceCtorEq, aExtract, Nat.reduceAdd, Nat.reduceLT, Nat.zero_lt_succ, tyX, RNode.cells, List.length_map, Ty.refold]
        refine hC40 _ ?_
        try clear hC40 C40
        simp only [bL]
        refine aops_chunk 2 fun C41 hC41 => ?_
        simp only [bL, ↓aops, ↓aop, ↓aWant, ↓aVal, bS, bA, AV.flat, AV.cl, AV.one, Value.oneCell', thenQ, blockQ, noGotoQ, ↓reduceIte, Nat.reduceEqDiff, reduceCtorEq, aExtract, Nat.reduceAdd, Nat.reduceLT, Nat.zero_lt_succ, zc32, tyX, RNode.cells, List.length_map, Ty.refold]
        refine hC41 _ ?_
        try clear hC41 C41
        simp only [bL]
        simp only [↓aops, ↓aop, ↓aWant, ↓aVal, bS, bA, AV.flat, AV.cl, AV.one, Value.oneCell', thenQ, blockQ, noGotoQ, ↓reduceIte, Nat.reduceEqDiff, reduceCtorEq, aStore, ti32, getO, putO, splice, bL, Nat.reduceAdd, Nat.reduceLeDiff, tyX, RNode.cells, List.length_map, Ty.refold]
        refine hK36 _ ?_
        try clear hK36 K36
        refine AWp_seqK fun K42 hK42 => ?_
        refine AWp_joinM [false, true, true, false, false, false, false, false, true, false, false, false, false, false, true, true, false, false, false, false, false, false, false, false, false, false, false, false, false, false, false, false, false, false, false, false, false, false, false, false, false, false, false, false, false, false, false, false, false, false, false, false, false, false, false, false, false, false, false, false, false, false, false, false, false, false, true, false, false, false, false, false, false, false, false, false, false, false, false, false, false, false, false, false, false, false, false, false, false, false, false, false, false, false, false, false, false, false, false, false, false, false, false, false, false, false] ([(66, .v (.bool (decide (i < 0 ∨ ((bothF ps).m.length : Int) ≤ i))))]) ([]) ?_ ?_
        · skip
          refine AWp_region ?_
          refine aops_chunk 2 fun C43 hC43 => ?_
          simp only [bL, ↓aops, ↓aop, ↓aWant, ↓aVal, bS, bA, AV.flat, AV.cl, AV.one, Value.oneCell', thenQ, blockQ, noGotoQ, ↓reduceIte, Nat.reduceEqDiff, reduceCtorEq, aBin, tyX, RNode.cells, List.length_map, Ty.refold]
          refine hC43 _ ?_
          try clear hC43 C43
          simp only [bL]
          refine aops_chunk 1 fun C44 hC44 => ?_
          simp only [bL, ↓aops, ↓aop, ↓aWant, ↓aVal, bS, bA, AV.flat, AV.cl, AV.one, Value.oneCell', thenQ, blockQ, noGotoQ, ↓reduceIte, Nat.reduceEqDiff, reduceCtorEq, tyX, RNode.cells, List.length_map, Ty.refold]
          refine hC44 _ ?_
          try clear hC44 C44
          simp only [bL]
          refine aops_case 61 rfl (fun hc61 => ?_) (fun hc61 => ?_)
          · simp only [List.set_cons_zero, List.set_cons_succ]
            refine aops_chunk 2 fun C45 hC45 => ?_
            simp only [bL, ↓aops, ↓aop, ↓aWant, ↓aVal, bS, bA, AV.flat, AV.cl, AV.one, Value.oneCell', thenQ, blockQ, noGotoQ, ↓reduceIte, Nat.reduceEqDiff, reduceCtorEq, undef, tyX, RNode.cells, List.length_map, Ty.refold]
            refine hC45 _ ?_
            try clear hC45 C45
            simp only [bL]
            refine aops_chunk 2 fun C46 hC46 => ?_
            simp only [bL, ↓aops, ↓aop, ↓aWant, ↓aVal, bS, bA, AV.flat, AV.cl, AV.one, Value.oneCell', thenQ, blockQ, noGotoQ, ↓reduceIte, Nat.reduceEqDiff, reduceCtorEq, undef, getO, aLenX, aLen, ln27, List.length_map, aBin, tyX, RNode.cells, Ty.refold]
            refine hC46 _ ?_
            try clear hC46 C46
            simp only [bL]
            simp only [↓aops, ↓aop, ↓aWant, ↓aVal, bS, bA, AV.flat, AV.cl, AV.one, Value.oneCell', thenQ, blockQ, noGotoQ, ↓reduceIte, Nat.reduceEqDiff, reduceCtorEq, aBool, tyX, RNode.cells, List.length_map, Ty.refold]
            try simp only [maskL, setsL, putsO, putO, bA, Nat.reduceEqDiff, ↓reduceIte]
            refine Weak.mk ?_ (fun _ _ h => h) rfl rfl
            simp only [LeL, Le.refl, Le.any, and_self, and_true, true_and]
            all_goals (refine Le.of_eq (congrArg (fun b => AV.v (.bool b)) ?_); rw [Bool.eq_iff_iff]; simp only [decide_eq_true_eq, decide_eq_false_iff_not, ge_iff_le, Bool.false_eq_true, false_iff, true_iff] at *; omega)
          · simp only [List.set_cons_zero, List.set_cons_succ]
            refine aops_chunk 2 fun C47 hC47 => ?_
            simp only [bL, ↓aops, ↓aop, ↓aWant, ↓aVal, bS, bA, AV.flat, AV.cl, AV.one, Value.oneCell', thenQ, blockQ, noGotoQ, ↓reduceIte, Nat.reduceEqDiff, reduceCtorEq, undef, tyX, RNode.cells, List.length_map, Ty.refold]
            refine hC47 _ ?_
            try clear hC47 C47
            simp only [bL]
            refine aops_chunk 2 fun C48 hC48 => ?_
            simp only [bL, ↓aops, ↓aop, ↓aWant, ↓aVal, bS, bA, AV.flat, AV.cl, AV.one, Value.oneCell', thenQ, blockQ, noGotoQ, ↓reduceIte, Nat.reduceEqDiff, reduceCtorEq, undef, getO, aLenX, aLen, ln27, List.length_map, aBin, tyX, RNode.cells, Ty.refold]
            refine hC48 _ ?_
            try clear hC48 C48
            simp only [bL]
            simp only [↓aops, ↓aop, ↓aWant, ↓aVal, bS, bA, AV.flat, AV.cl, AV.one, Value.oneCell', thenQ, blockQ, noGotoQ, ↓reduceIte, Nat.reduceEqDiff, reduceCtorEq, aBool, tyX, RNode.cells, List.length_map, Ty.refold]
            try simp only [maskL, setsL, putsO, putO, bA, Nat.reduceEqDiff, ↓reduceIte]
            refine Weak.mk ?_ (fun _ _ h => h) rfl rfl
            simp only [LeL, Le.refl, Le.any, and_self, and_true, true_and]
            all_goals (refine Le.of_eq (congrArg (fun b => AV.v (.bool b)) ?_); rw [Bool.eq_iff_iff]; simp only [decide_eq_true_eq, decide_eq_false_iff_not, ge_iff_le, Bool.false_eq_true, false_iff, true_iff] at *; omega)
        simp only [maskL, setsL, putsO, putO, bA, Nat.reduceEqDiff, ↓reduceIte]
        refine AWp_cond rfl (fun hb66 => ?_) (fun hb66 => ?_)
        · skip
          have hout : (bothF ps).G.there i = false := by simp [GS.there] at hb66 ⊢; omega
          have hty := GS.type_out (most := most) hout
          refine AWp_seqK fun K49 hK49 => ?_
          refine AWp_region ?_
          refine aops_chunk 2 fun C50 hC50 => ?_
          simp only [bL, ↓aops, ↓aop, ↓aWant, ↓aVal, bS, bA, AV.flat, AV.cl, AV.one, Value.oneCell', thenQ, blockQ, noGotoQ, ↓reduceIte, Nat.reduceEqDiff, reduceCtorEq, aBin, tyX, RNode.cells, List.length_map, Ty.refold, hty]
          refine hC50 _ ?_
          try clear hC50 C50
          simp only [bL]
          refine aops_chunk 1 fun C51 hC51 => ?_
          simp only [bL, ↓aops, ↓aop, ↓aWant, ↓aVal, bS, bA, AV.flat, AV.cl, AV.one, Value.oneCell', thenQ, blockQ, noGotoQ, ↓reduceIte, Nat.reduceEqDiff, reduceCtorEq, tyX, RNode.cells, List.length_map, Ty.refold, hty]
          refine hC51 _ ?_
          try clear hC51 C51
          simp only [bL]
          refine aops_case 69 rfl (fun hc69 => ?_) (fun hc69 => ?_)
          · simp only [List.set_cons_zero, List.set_cons_succ]
            refine aops_chunk 2 fun C52 hC52 => ?_
            simp only [bL, ↓aops, ↓aop, ↓aWant, ↓aVal, bS, bA, AV.flat, AV.cl, AV.one, Value.oneCell', thenQ, blockQ, noGotoQ, ↓reduceIte, Nat.reduceEqDiff, reduceCtorEq, undef, aLoad, ti32, getO, pack, Nat.reduceAdd, Nat.reduceLeDiff, aBuild, zc32, pc32, aFill, splice, tyX, RNode.cells, List.length_map, Ty.refold, hty]
            refine hC52 _ ?_
            try clear hC52 C52
            simp only [bL]
            refine aops_chunk 1 fun C53 hC53 => ?_
            simp only [bL, ↓aops, ↓aop, ↓aWant, ↓aVal, bS, bA, AV.flat, AV.cl, AV.one, Value.oneCell', thenQ, blockQ, noGotoQ, ↓reduceIte, Nat.reduceEqDiff, reduceCtorEq, undef, aCallV, tyX, RNode.cells, List.length_map, Ty.refold, hty]
            refine APure.callL (args := [.agg (Ty.cells (.mk 0 0 [])), .agg [.v (.int .i64 0), .v (.int .i64 0), .v (.slice none 0 0)]]) (Same_pure (.mk 0 0 []) (.mk 0 0 [])) ⟨.refl _, Le.agg (by rw [Ty.cells_eq]; exact ⟨.refl _, .refl _, Le.slNil 3, trivial⟩), trivial⟩ ?_
            try simp only [bS, bA, thenQ, blockQ, noGotoQ]
            refine hC53 _ ?_
            try clear hC53 C53
            simp only [bL]
            refine aops_chunk 2 fun C54 hC54 => ?_
            simp only [bL, ↓aops, ↓aop, ↓aWant, ↓aVal, bS, bA, AV.flat, AV.cl, AV.one, Value.oneCell', thenQ, blockQ, noGotoQ, ↓reduceIte, Nat.reduceEqDiff, reduceCtorEq, aBool, tyX, RNode.cells, List.length_map, Ty.refold, hty]
            refine hC54 _ ?_
            try clear hC54 C54
            simp only [bL]
            refine aops_case 74 rfl (fun hc74 => ?_) (fun hc74 => ?_)
            · simp only [List.set_cons_zero, List.set_cons_succ]
              refine aops_chunk 1 fun C55 hC55 => ?_
              simp only [bL, ↓aops, ↓aop, ↓aWant, ↓aVal, bS, bA, AV.flat, AV.cl, AV.one, Value.oneCell', thenQ, blockQ, noGotoQ, ↓reduceIte, Nat.reduceEqDiff, reduceCtorEq, undef, aCallV, tyX, RNode.cells, List.length_map, Ty.refold, hty]
              refine APure.call (awake_pure) ?_
              try simp only [bS, bA, thenQ, blockQ, noGotoQ]
              refine hC55 _ ?_
              try clear hC55 C55
              simp only [bL]
              simp only [↓aops, ↓aop, ↓aWant, ↓aVal, bS, bA, AV.flat, AV.cl, AV.one, Value.oneCell', thenQ, blockQ, noGotoQ, ↓reduceIte, Nat.reduceEqDiff, reduceCtorEq, aBool, tyX, RNode.cells, List.length_map, Ty.refold, hty]
              refine hK49 _ ?_
              try clear hK49 K49
              refine AWp_ret ?_
              try simp only [thenQ, blockQ, noGotoQ, retQ, aRes, tupOf, bS, bA]
              first | exact Le.refl _ | (refine Le.of_eq (congrArg (fun b => AV.v (.bool b)) ?_); simp_all [Ty.same_refl]; done)
            · simp only [List.set_cons_zero, List.set_cons_succ]
              exact absurd hc74 (by simp [Ty.same_refl])
          · simp only [List.set_cons_zero, List.set_cons_succ]
            exact absurd hc69 (by simp [Ty.same_refl])
        · skip
          obtain ⟨n, rfl⟩ : ∃ n : Nat, i = (n : Int) := ⟨i.toNat, by simp at hb66; omega⟩
          have hn : n < (bothF ps).m.length := by simp at hb66; omega
          obtain ⟨r, hr⟩ : ∃ r, (bothF ps).m[n]? = some r := ⟨_, List.getElem?_eq_getElem hn⟩
          have hty := hrl.type hr most
          obtain ⟨x, hx⟩ : ∃ x, (bothF ps).G.N[n]? = some x := ⟨_, List.getElem?_eq_getElem (by omega)⟩
          have hrc := (hrl.node n x r hx hr).2.2.2.2.1
          have hsz := Ty.sizeW_cnt r.t (by omega)
          refine AWp_skip ?_
          try simp only [thenQ, blockQ, noGotoQ]
          refine hK42 _ ?_
          try clear hK42 K42
          refine AWp_seqK fun K56 hK56 => ?_
          refine AWp_seqK fun K57 hK57 => ?_
          refine AWp_region ?_
          refine aops_chunk 2 fun C58 hC58 => ?_
          simp only [bL, ↓aops, ↓aop, ↓aWant, ↓aVal, bS, bA, AV.flat, AV.cl, AV.one, Value.oneCell', thenQ, blockQ, noGotoQ, ↓reduceIte, Nat.reduceEqDiff, reduceCtorEq, tyX, RNode.cells, List.length_map, Ty.refold, hsz, hn, getD_map_cells hr]
          refine hC58 _ ?_
          try clear hC58 C58
          simp only [bL]
          refine aops_chunk 1 fun C59 hC59 => ?_
          simp only [bL, ↓aops, ↓aop, ↓aWant, ↓aVal, bS, bA, AV.flat, AV.cl, AV.one, Value.oneCell', thenQ, blockQ, noGotoQ, ↓reduceIte, Nat.reduceEqDiff, reduceCtorEq, aCallV, tyX, RNode.cells, List.length_map, Ty.refold, hsz, hn, getD_map_cells hr]
          refine APure.call (RSize_pure (bothF ps).m n r hr) ?_
          try simp only [bS, bA, thenQ, blockQ, noGotoQ]
          refine hC59 _ ?_
          try clear hC59 C59
          simp only [bL]
          simp only [↓aops, ↓aop, ↓aWant, ↓aVal, bS, bA, AV.flat, AV.cl, AV.one, Value.oneCell', thenQ, blockQ, noGotoQ, ↓reduceIte, Nat.reduceEqDiff, reduceCtorEq, aBin, tyX, RNode.cells, List.length_map, Ty.refold, hsz, hn, getD_map_cells hr]
          refine hK57 _ ?_
          try clear hK57 K57
          refine AWp_cond rfl (fun hb81 => ?_) (fun hb81 => ?_)
          · skip
            have hlt : most < (r.t.cnt : Int) := by simpa using hb81
            rw [if_pos hlt] at hty
            refine AWp_seqK fun K60 hK60 => ?_
            refine AWp_region ?_
            refine aops_chunk 2 fun C61 hC61 => ?_
            simp only [bL, ↓aops, ↓aop, ↓aWant, ↓aVal, bS, bA, AV.flat, AV.cl, AV.one, Value.oneCell', thenQ, blockQ, noGotoQ, ↓reduceIte, Nat.reduceEqDiff, reduceCtorEq, aBin, tyX, RNode.cells, List.length_map, Ty.refold, hsz, hn, getD_map_cells hr, hty]
            refine hC61 _ ?_
            try clear hC61 C61
            simp only [bL]
            refine aops_chunk 1 fun C62 hC62 => ?_
            simp only [bL, ↓aops, ↓aop, ↓aWant, ↓aVal, bS, bA, AV.flat, AV.cl, AV.one, Value.oneCell', thenQ, blockQ, noGotoQ, ↓reduceIte, Nat.reduceEqDiff, reduceCtorEq, tyX, RNode.cells, List.length_map, Ty.refold, hsz, hn, getD_map_cells hr, hty]
            refine hC62 _ ?_
            try clear hC62 C62
            simp only [bL]
            refine aops_case 84 rfl (fun hc84 => ?_) (fun hc84 => ?_)
            · simp only [List.set_cons_zero, List.set_cons_succ]
              refine aops_chunk 2 fun C63 hC63 => ?_
              simp only [bL, ↓aops, ↓aop, ↓aWant, ↓aVal, bS, bA, AV.flat, AV.cl, AV.one, Value.oneCell', thenQ, blockQ, noGotoQ, ↓reduceIte, Nat.reduceEqDiff, reduceCtorEq, undef, aLoad, ti32, getO, pack, Nat.reduceAdd, Nat.reduceLeDiff, aBuild, zc32, pc32, aFill, splice, tyX, RNode.cells, List.length_map, Ty.refold, hsz, hn, getD_map_cells hr, hty]
              refine hC63 _ ?_
              try clear hC63 C63
              simp only [bL]
              refine aops_chunk 1 fun C64 hC64 => ?_
              simp only [bL, ↓aops, ↓aop, ↓aWant, ↓aVal, bS, bA, AV.flat, AV.cl, AV.one, Value.oneCell', thenQ, blockQ, noGotoQ, ↓reduceIte, Nat.reduceEqDiff, reduceCtorEq, undef, aCallV, tyX, RNode.cells, List.length_map, Ty.refold, hsz, hn, getD_map_cells hr, hty]
              refine APure.callL (args := [.agg (Ty.cells (.mk 0 0 [])), .agg [.v (.int .i64 0), .v (.int .i64 0), .v (.slice none 0 0)]]) (Same_pure (.mk 0 0 []) (.mk 0 0 [])) ⟨.refl _, Le.agg (by rw [Ty.cells_eq]; exact ⟨.refl _, .refl _, Le.slNil 3, trivial⟩), trivial⟩ ?_
              try simp only [bS, bA, thenQ, blockQ, noGotoQ]
              refine hC64 _ ?_
              try clear hC64 C64
              simp only [bL]
              refine aops_chunk 2 fun C65 hC65 => ?_
              simp only [bL, ↓aops, ↓aop, ↓aWant, ↓aVal, bS, bA, AV.flat, AV.cl, AV.one, Value.oneCell', thenQ, blockQ, noGotoQ, ↓reduceIte, Nat.reduceEqDiff, reduceCtorEq, aBool, tyX, RNode.cells, List.length_map, Ty.refold, hsz, hn, getD_map_cells hr, hty]
              refine hC65 _ ?_
              try clear hC65 C65
              simp only [bL]
              refine aops_case 89 rfl (fun hc89 => ?_) (fun hc89 => ?_)
              · simp only [List.set_cons_zero, List.set_cons_succ]
                refine aops_chunk 1 fun C66 hC66 => ?_
                simp only [bL, ↓aops, ↓aop, ↓aWant, ↓aVal, bS, bA, AV.flat, AV.cl, AV.one, Value.oneCell', thenQ, blockQ, noGotoQ, ↓reduceIte, Nat.reduceEqDiff, reduceCtorEq, undef, aCallV, tyX, RNode.cells, List.length_map, Ty.refold, hsz, hn, getD_map_cells hr, hty]
                refine APure.call (awake_pure) ?_
                try simp only [bS, bA, thenQ, blockQ, noGotoQ]
                refine hC66 _ ?_
                try clear hC66 C66
                simp only [bL]
                simp only [↓aops, ↓aop, ↓aWant, ↓aVal, bS, bA, AV.flat, AV.cl, AV.one, Value.oneCell', thenQ, blockQ, noGotoQ, ↓reduceIte, Nat.reduceEqDiff, reduceCtorEq, aBool, tyX, RNode.cells, List.length_map, Ty.refold, hsz, hn, getD_map_cells hr, hty]
                refine hK60 _ ?_
                try clear hK60 K60
                refine AWp_ret ?_
                try simp only [thenQ, blockQ, noGotoQ, retQ, aRes, tupOf, bS, bA]
                first | exact Le.refl _ | (refine Le.of_eq (congrArg (fun b => AV.v (.bool b)) ?_); simp_all [Ty.same_refl]; done)
              · simp only [List.set_cons_zero, List.set_cons_succ]
                exact absurd hc89 (by simp [Ty.same_refl])
            · simp only [List.set_cons_zero, List.set_cons_succ]
              exact absurd hc84 (by simp [Ty.same_refl])
          · skip
            have hlt : ¬ most < (r.t.cnt : Int) := by simpa using hb81
            rw [if_neg hlt] at hty
            refine AWp_skip ?_
            try simp only [thenQ, blockQ, noGotoQ]
            refine hK56 _ ?_
            try clear hK56 K56
            refine AWp_seqK fun K67 hK67 => ?_
            refine AWp_drawK 14 mixed (by kernel_rfl) fun K68 hK68 => ?_
            simp only [bL]
            refine dRun_chunk 2 fun C69 hC69 => ?_
            simp only [bL, ↓dRun, ↓dOp, ↓aops, ↓aop, ↓aWant, ↓aVal, bS, bA, AV.flat, AV.cl, AV.one, Value.oneCell', thenQ, blockQ, noGotoQ, ↓reduceIte, Nat.reduceEqDiff, reduceCtorEq, aBin, tyX, RNode.cells, List.length_map, Ty.refold, hsz, hn, getD_map_cells hr, hty]
            refine hC69 _ ?_
            try clear hC69 C69
            simp only [bL]
            refine dRun_chunk 1 fun C70 hC70 => ?_
            simp only [bL, ↓dRun, ↓dOp, ↓aops, ↓aop, ↓aWant, ↓aVal, bS, bA, AV.flat, AV.cl, AV.one, Value.oneCell', thenQ, blockQ, noGotoQ, ↓reduceIte, Nat.reduceEqDiff, reduceCtorEq, tyX, RNode.cells, List.length_map, Ty.refold, hsz, hn, getD_map_cells hr, hty]
            refine hC70 _ ?_
            try clear hC70 C70
            simp only [bL]
            refine dRun_case 94 rfl (fun hc94 => ?_) (fun hc94 => ?_)
            · simp only [List.set_cons_zero, List.set_cons_succ]
              refine dRun_chunk 2 fun C71 hC71 => ?_
              simp only [bL, ↓dRun, ↓dOp, ↓aops, ↓aop, ↓aWant, ↓aVal, bS, bA, AV.flat, AV.cl, AV.one, Value.oneCell', thenQ, blockQ, noGotoQ, ↓reduceIte, Nat.reduceEqDiff, reduceCtorEq, undef, aLoad, ti32, getO, pack, Nat.reduceAdd, Nat.reduceLeDiff, tyX, RNode.cells, List.length_map, Ty.refold, hsz, hn, getD_map_cells hr, hty]
              refine hC71 _ ?_
              try clear hC71 C71
              simp only [bL]
              refine dRun_chunk 2 fun C72 hC72 => ?_
              simp only [bL, ↓dRun, ↓dOp, ↓aops, ↓aop, ↓aWant, ↓aVal, bS, bA, AV.flat, AV.cl, AV.one, Value.oneCell', thenQ, blockQ, noGotoQ, ↓reduceIte, Nat.reduceEqDiff, reduceCtorEq, undef, getO, aIndexA, es27, Int.natCast_nonneg, Int.ofNat_lt, Int.toNat_natCast, List.length_map, Int.le_refl, Int.toNat_zero, Int.toNat_one, Int.reduceLE, tyX, RNode.cells, Ty.refold, hsz, hn, getD_map_cells hr, hty]
              refine hC72 _ ?_
              try clear hC72 C72
              simp only [bL]
              refine dRun_chunk 2 fun C73 hC73 => ?_
              simp only [bL, ↓dRun, ↓dOp, ↓aops, ↓aop, ↓aWant, ↓aVal, bS, bA, AV.flat, AV.cl, AV.one, Value.oneCell', thenQ, blockQ, noGotoQ, ↓reduceIte, Nat.reduceEqDiff, reduceCtorEq, undef, aField, fo38_0, Nat.reduceAdd, aLoad, ti32, getO, pack, Nat.reduceLeDiff, tyX, RNode.cells, List.length_map, Ty.refold, hsz, hn, getD_map_cells hr, hty]
              refine hC73 _ ?_
              try clear hC73 C73
              simp only [bL]
              refine dRun_chunk 1 fun C74 hC74 => ?_
              simp only [bL, ↓dRun, ↓dOp, ↓aops, ↓aop, ↓aWant, ↓aVal, bS, bA, AV.flat, AV.cl, AV.one, Value.oneCell', thenQ, blockQ, noGotoQ, ↓reduceIte, Nat.reduceEqDiff, reduceCtorEq, undef, aCallV, tyX, RNode.cells, List.length_map, Ty.refold, hsz, hn, getD_map_cells hr, hty]
              refine ⟨_, Same_pure r.t r.t, ?_⟩
              try simp only [bS, bA, thenQ, blockQ, noGotoQ]
              refine hC74 _ ?_
              try clear hC74 C74
              simp only [bL]
              refine dRun_chunk 2 fun C75 hC75 => ?_
              simp only [bL, ↓dRun, ↓dOp, ↓aops, ↓aop, ↓aWant, ↓aVal, bS, bA, AV.flat, AV.cl, AV.one, Value.oneCell', thenQ, blockQ, noGotoQ, ↓reduceIte, Nat.reduceEqDiff, reduceCtorEq, aBool, tyX, RNode.cells, List.length_map, Ty.refold, hsz, hn, getD_map_cells hr, hty]
              refine hC75 _ ?_
              try clear hC75 C75
              simp only [bL]
              refine dRun_case 103 rfl (fun hc103 => ?_) (fun hc103 => ?_)
              · simp only [List.set_cons_zero, List.set_cons_succ]
                refine dRun_chunk 1 fun C76 hC76 => ?_
                simp only [bL, ↓dRun, ↓dOp, ↓aops, ↓aop, ↓aWant, ↓aVal, bS, bA, AV.flat, AV.cl, AV.one, Value.oneCell', thenQ, blockQ, noGotoQ, ↓reduceIte, Nat.reduceEqDiff, reduceCtorEq, undef, aCallV, tyX, RNode.cells, List.length_map, Ty.refold, hsz, hn, getD_map_cells hr, hty]
                refine ⟨_, awake_pure, ?_⟩
                try simp only [bS, bA, thenQ, blockQ, noGotoQ]
                refine hC76 _ ?_
                try clear hC76 C76
                simp only [bL]
                simp only [↓dRun, ↓dOp, bL, ↓aops, ↓aop, ↓aWant, ↓aVal, bS, bA, AV.flat, AV.cl, AV.one, Value.oneCell', thenQ, blockQ, noGotoQ, ↓reduceIte, Nat.reduceEqDiff, reduceCtorEq, aBool, tyX, RNode.cells, List.length_map, Ty.refold, hsz, hn, getD_map_cells hr, hty]
                refine hK68 _ ?_
                try clear hK68 K68
                simp only [bL]
                simp only [↓aops, ↓aop, ↓aWant, ↓aVal, bS, bA, AV.flat, AV.cl, AV.one, Value.oneCell', thenQ, blockQ, noGotoQ, ↓reduceIte, Nat.reduceEqDiff, reduceCtorEq, tyX, RNode.cells, List.length_map, Ty.refold, hsz, hn, getD_map_cells hr, hty]
                refine hK67 _ ?_
                try clear hK67 K67
                refine AWp_ret ?_
                try simp only [thenQ, blockQ, noGotoQ, retQ, aRes, tupOf, bS, bA]
                first | exact Le.refl _ | (refine Le.of_eq (congrArg (fun b => AV.v (.bool b)) ?_); simp_all [Ty.same_refl]; done)
              · simp only [List.set_cons_zero, List.set_cons_succ]
                exact absurd hc103 (by simp [Ty.same_refl])
            · simp only [List.set_cons_zero, List.set_cons_succ]
              exact absurd hc94 (by simp [Ty.same_refl])
end Go.Proofs.Ytohdoloalolpfaa
