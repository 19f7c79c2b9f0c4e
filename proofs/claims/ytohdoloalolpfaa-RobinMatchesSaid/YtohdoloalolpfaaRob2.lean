import Derived.Test.YtohdoloalolpfaaRob1
namespace Go.Proofs.Ytohdoloalolpfaa
open Go Go.RowKit
set_option maxRecDepth 100000
set_option maxHeartbeats 1000000
set_option linter.unusedSimpArgs false
set_option linter.unusedVariables false
attribute [local irreducible] aops dRun
theorem APure.le {P : Program} {f : Nat} {args args' : List AV} {x : AV} (h : APure P f args' x) (hl : LeL args args') (hd : DataL args) : APure P f args x := ⟨hd, h.2.1, h.2.2.args hl⟩
theorem numF_end {l : List Int} {k n : Int} {s : Nat} (h : s = l.length ∨ ¬ k = 1) (h2 : k = 1 ∨ s = 0) : numF n (l.take s) 0 n = if k = 1 then numF n l 0 n else n := by
  split
  · rename_i hk
    rcases h with h | h
    · rw [h, List.take_length]
    · exact absurd hk h
  · rename_i hk
    rcases h2 with h2 | h2
    · exact absurd h2 hk
    · rw [h2]; simp [numF]
theorem bfind_get {l : List Bd} {n : Int} (h : 0 ≤ bfind l n) : ∃ b : Bd, l[(bfind l n).toNat]? = some b ∧ b.v = n := by
  unfold bfind idxI at h ⊢
  split at h
  · rename_i ha
    rw [if_pos ha, Int.toNat_natCast]
    have h2 := List.findIdx_lt_length_of_exists (List.any_eq_true.1 ha)
    have h3 := List.findIdx_getElem (w := h2)
    exact ⟨_, List.getElem?_eq_getElem h2, by simpa using h3⟩
  · omega
theorem Number_pure : ∀ (T : Ty) (l : List Int) (hT : T.cnt ≤ 1099511627776), APure Try.prog 67 [.agg T.cells, .sl 1 (l.map intC)] (.agg (T.number l).cells) := by
  refine Ty.ind fun T ih => ?_
  intro l hT
  refine APure.mkL (.cons T.dataAgg (.cons (dataInts l) .nil)) ((Ty.dataAgg _)) ?_
  refine ACalls_intro Try.func67 (by kernel_rfl) rfl (by rw [Try.ntmps67]; simp) (fun hm => ?_)
  simp only [Try.ntmps67, Try.results67, List.length_cons, List.length_nil, Nat.reduceAdd, Nat.reduceSub, List.replicate_succ, List.replicate_zero, List.cons_append, List.nil_append]
  have hm1 := hm.len (sz := 1) (xs := l.map intC) (by simp)
  rw [List.length_map] at hm1
  have hcn := T.cnt_eq
  have hcl := Ty.cntL_len T.ps
  simp only [Ty.cells_eq T, List.cons_append, List.nil_append]
  refine AWp_seqK fun K1 hK1 => ?_
  refine AWp_region ?_
  simp only [↓aops, ↓aop, ↓aWant, ↓aVal, bS, bA, AV.flat, AV.cl, AV.one, Value.oneCell', thenQ, blockQ, noGotoQ, ↓reduceIte, Nat.reduceEqDiff, reduceCtorEq, zc32, bL, tyX]
  refine hK1 _ ?_
  try clear hK1 K1
  refine AWp_seqK fun K2 hK2 => ?_
  refine AWp_region ?_
  simp only [↓aops, ↓aop, ↓aWant, ↓aVal, bS, bA, AV.flat, AV.cl, AV.one, Value.oneCell', thenQ, blockQ, noGotoQ, ↓reduceIte, Nat.reduceEqDiff, reduceCtorEq, aLoad, ti32, getO, pack, bL, Nat.reduceAdd, Nat.reduceLeDiff, zc32, aStore, putO, splice, tyX]
  refine hK2 _ ?_
  try clear hK2 K2
  refine AWp_seqK fun K3 hK3 => ?_
  refine AWp_region ?_
  simp only [↓aops, ↓aop, ↓aWant, ↓aVal, bS, bA, AV.flat, AV.cl, AV.one, Value.oneCell', thenQ, blockQ, noGotoQ, ↓reduceIte, Nat.reduceEqDiff, reduceCtorEq, aField, fo32_2, bL, Nat.reduceAdd, aStore, ti22, getO, putO, splice, Nat.reduceLeDiff, tyX]
  refine hK3 _ ?_
  try clear hK3 K3
  refine AWp_joinM [false, true, true, false, true, true, false, false, false, false, false, false, false, false, false, false, false, false, false, false, false, false, false, false, false, false, false, false, false, false, false, false, false, false, false, false, false, false, false, false, false, false, false, false, false, false, false, false, false, false] ([]) ([(2, .cells 32 [.v (.int .i64 T.k), .v (.int .i64 (if T.k = 1 then numF T.n l 0 T.n else T.n)), .v (.slice none 0 0)])]) ?_ ?_
  · skip
    refine AWp_seqK fun K4 hK4 => ?_
    refine AWp_region ?_
    simp only [↓aops, ↓aop, ↓aWant, ↓aVal, bS, bA, AV.flat, AV.cl, AV.one, Value.oneCell', thenQ, blockQ, noGotoQ, ↓reduceIte, Nat.reduceEqDiff, reduceCtorEq, tyX]
    refine hK4 _ ?_
    try clear hK4 K4
    refine AWp_block ?_
    refine AWp_loopM (σ := Nat) [false, true, true, false, true, true, true, false, false, false, false, false, false, false, false, false, false, false, false, false, false, false, false, false, false, false, false, false, false, false, false, false, false, false, false, false, false, false, false, false, false, false, false, false, false, false, false, false, false, false] (fun s => s ≤ l.length ∧ (T.k = 1 ∨ s = 0)) (fun s => [(6, .v (.int .i64 (s : Int)))]) (fun s => [(2, .cells 32 [.v (.int .i64 T.k), .v (.int .i64 (numF T.n (l.take s) 0 T.n)), .v (.slice none 0 0)])]) (fun s => l.length - s) 0 (⟨by omega, .inr rfl⟩) ?_ (fun s hs => ?_)
    · skip
      simp only [maskL, setsL, putsO, putO, bA, Nat.reduceEqDiff, ↓reduceIte, bL, numF]
      exact Weak.mk (by simp only [LeL, Le.refl, Le.any, Le.slNil, and_self, Int.natCast_add, Int.cast_ofNat_Int, Int.natCast_one]) (fun _ _ h => h) rfl rfl
    simp only [maskL, setsL, putsO, putO, bA, Nat.reduceEqDiff, ↓reduceIte]
    refine AWp_seqK fun K5 hK5 => ?_
    refine AWp_seqK fun K6 hK6 => ?_
    refine AWp_region ?_
    refine aops_chunk 3 fun C7 hC7 => ?_
    simp only [bL, ↓aops, ↓aop, ↓aWant, ↓aVal, bS, bA, AV.flat, AV.cl, AV.one, Value.oneCell', thenQ, blockQ, noGotoQ, ↓reduceIte, Nat.reduceEqDiff, reduceCtorEq, aLen, ln28, List.length_map, tyX]
    refine hC7 _ ?_
    try clear hC7 C7
    simp only [bL]
    refine aops_chunk 2 fun C8 hC8 => ?_
    simp only [bL, ↓aops, ↓aop, ↓aWant, ↓aVal, bS, bA, AV.flat, AV.cl, AV.one, Value.oneCell', thenQ, blockQ, noGotoQ, ↓reduceIte, Nat.reduceEqDiff, reduceCtorEq, aBin, tyX]
    refine hC8 _ ?_
    try clear hC8 C8
    simp only [bL]
    refine aops_case 14 rfl (fun hc14 => ?_) (fun hc14 => ?_)
    · simp only [List.set_cons_zero, List.set_cons_succ]
      have hk : s < l.length := by simpa using hc14
      obtain ⟨p, hp⟩ : ∃ p, l[s]? = some p := ⟨_, List.getElem?_eq_getElem hk⟩
      have hw : IntKind.i64.wrap ((s : Int) + 1) = (s : Int) + 1 := wrap_in (by omega) (by simp only [maxLen] at hm1; omega)
      refine aops_chunk 3 fun C9 hC9 => ?_
      simp only [bL, ↓aops, ↓aop, ↓aWant, ↓aVal, bS, bA, AV.flat, AV.cl, AV.one, Value.oneCell', thenQ, blockQ, noGotoQ, ↓reduceIte, Nat.reduceEqDiff, reduceCtorEq, undef, aField, fo32_0, Nat.reduceAdd, aLoad, ti3, getO, pack, Nat.reduceLeDiff, aBin, tyX]
      refine hC9 _ ?_
      try clear hC9 C9
      simp only [bL]
      simp only [↓aops, ↓aop, ↓aWant, ↓aVal, bS, bA, AV.flat, AV.cl, AV.one, Value.oneCell', thenQ, blockQ, noGotoQ, ↓reduceIte, Nat.reduceEqDiff, reduceCtorEq, aBool, tyX]
      refine hK6 _ ?_
      try clear hK6 K6
      refine AWp_cond rfl (fun hb18 => ?_) (fun hb18 => ?_)
      · skip
        have hk1 : T.k = 1 := by simpa using hb18
        refine AWp_skip ?_
        simp only [thenQ, blockQ, noGotoQ]
        refine hK5 _ ?_
        try clear hK5 K5
        refine AWp_joinM [false, true, true, false, true, true, true, false, false, false, false, false, false, false, false, false, false, false, false, false, false, false, false, false, false, false, false, false, false, false, false, false, false, false, false, false, false, false, false, false, false, false, false, false, false, false, false, false, false, false] ([]) ([(2, .cells 32 [.v (.int .i64 T.k), .v (.int .i64 (numF T.n (l.take (s + 1)) 0 T.n)), .v (.slice none 0 0)])]) ?_ ?_
        · skip
          refine AWp_block ?_
          refine AWp_seqK fun K10 hK10 => ?_
          refine AWp_drawK 7 mixed (by kernel_rfl) fun K11 hK11 => ?_
          simp only [bL]
          refine dRun_chunk 3 fun C12 hC12 => ?_
          simp only [bL, ↓dRun, ↓dOp, ↓aops, ↓aop, ↓aWant, ↓aVal, bS, bA, AV.flat, AV.cl, AV.one, Value.oneCell', thenQ, blockQ, noGotoQ, ↓reduceIte, Nat.reduceEqDiff, reduceCtorEq, aIndexA, es28, Int.natCast_nonneg, Int.ofNat_lt, Int.toNat_natCast, List.length_map, Int.le_refl, Int.toNat_zero, Int.toNat_one, Int.reduceLE, tyX, hk, getD_map_cells hp, intC, Int.natCast_add, Int.natCast_one, hw]
          refine hC12 _ ?_
          try clear hC12 C12
          simp only [bL]
          refine dRun_chunk 3 fun C13 hC13 => ?_
          simp only [bL, ↓dRun, ↓dOp, ↓aops, ↓aop, ↓aWant, ↓aVal, bS, bA, AV.flat, AV.cl, AV.one, Value.oneCell', thenQ, blockQ, noGotoQ, ↓reduceIte, Nat.reduceEqDiff, reduceCtorEq, aLoad, ti3, getO, pack, Nat.reduceAdd, Nat.reduceLeDiff, aField, fo32_1, tyX, hk, getD_map_cells hp, intC, Int.natCast_add, Int.natCast_one, hw]
          refine hC13 _ ?_
          try clear hC13 C13
          simp only [bL]
          simp only [↓dRun, ↓dOp, bL, ↓aops, ↓aop, ↓aWant, ↓aVal, bS, bA, AV.flat, AV.cl, AV.one, Value.oneCell', thenQ, blockQ, noGotoQ, ↓reduceIte, Nat.reduceEqDiff, reduceCtorEq, aBin, tyX, hk, getD_map_cells hp, intC, Int.natCast_add, Int.natCast_one, hw]
          refine hK11 _ ?_
          try clear hK11 K11
          simp only [bL, aops, thenQ, blockQ, noGotoQ]
          refine hK10 _ ?_
          try clear hK10 K10
          refine AWp_cond rfl (fun hb27 => ?_) (fun hb27 => ?_)
          · skip
            refine AWp_region ?_
            simp only [↓aops, ↓aop, ↓aWant, ↓aVal, bS, bA, AV.flat, AV.cl, AV.one, Value.oneCell', thenQ, blockQ, noGotoQ, ↓reduceIte, Nat.reduceEqDiff, reduceCtorEq, aField, fo32_1, bL, Nat.reduceAdd, aStore, ti3, getO, putO, splice, Nat.reduceLeDiff, tyX, hk, getD_map_cells hp, intC, Int.natCast_add, Int.natCast_one, hw]
            try simp only [maskL, setsL, putsO, putO, bA, Nat.reduceEqDiff, ↓reduceIte]
            rw [numF_step hp]
            first | rw [if_pos (by simpa using hb27)] | rw [if_neg (by simpa using hb27)]
            exact Weak.mk (by simp only [LeL, Le.refl, Le.any, and_self]) (fun _ _ h => h) rfl rfl
          · skip
            refine AWp_skip ?_
            simp only [thenQ, blockQ, noGotoQ]
            try simp only [maskL, setsL, putsO, putO, bA, Nat.reduceEqDiff, ↓reduceIte]
            rw [numF_step hp]
            first | rw [if_pos (by simpa using hb27)] | rw [if_neg (by simpa using hb27)]
            exact Weak.mk (by simp only [LeL, Le.refl, Le.any, and_self]) (fun _ _ h => h) rfl rfl
        simp only [maskL, setsL, putsO, putO, bA, Nat.reduceEqDiff, ↓reduceIte]
        refine AWp_region ?_
        simp only [↓aops, ↓aop, ↓aWant, ↓aVal, bS, bA, AV.flat, AV.cl, AV.one, Value.oneCell', thenQ, blockQ, noGotoQ, ↓reduceIte, Nat.reduceEqDiff, reduceCtorEq, aBin, tyX, hk, getD_map_cells hp, intC, Int.natCast_add, Int.natCast_one, hw]
        refine ⟨(s + 1), ⟨by omega, .inl hk1⟩, by omega, ?_⟩
        simp only [maskL, setsL, putsO, putO, bA, Nat.reduceEqDiff, ↓reduceIte, hk, getD_map_cells hp, intC, Int.natCast_add, Int.natCast_one, hw]
        exact Weak.mk (by simp only [LeL, Le.refl, Le.any, Le.slNil, and_self, Int.natCast_add, Int.cast_ofNat_Int, Int.natCast_one]) (fun _ _ h => h) rfl rfl
      · skip
        have hk9 : s = l.length ∨ ¬ T.k = 1 := .inr (by simpa using hb18)
        refine AWp_exit ?_
        simp only [thenQ, blockQ, noGotoQ, bA, Nat.reduceEqDiff, ↓reduceIte]
        try simp only [maskL, setsL, putsO, putO, bA, Nat.reduceEqDiff, ↓reduceIte]
        rw [← numF_end (l := l) (k := T.k) (n := T.n) (s := s) hk9 hs.2]
        exact Weak.mk (by simp only [LeL, Le.refl, Le.any, and_self]) (fun _ _ h => h) rfl rfl
    · simp only [List.set_cons_zero, List.set_cons_succ]
      have hk9 : s = l.length ∨ ¬ T.k = 1 := .inl (by have := hs.1; simp at hc14; omega)
      refine aops_chunk 3 fun C14 hC14 => ?_
      simp only [bL, ↓aops, ↓aop, ↓aWant, ↓aVal, bS, bA, AV.flat, AV.cl, AV.one, Value.oneCell', thenQ, blockQ, noGotoQ, ↓reduceIte, Nat.reduceEqDiff, reduceCtorEq, undef, aField, fo32_0, Nat.reduceAdd, aLoad, ti3, getO, pack, Nat.reduceLeDiff, aBin, tyX]
      refine hC14 _ ?_
      try clear hC14 C14
      simp only [bL]
      simp only [↓aops, ↓aop, ↓aWant, ↓aVal, bS, bA, AV.flat, AV.cl, AV.one, Value.oneCell', thenQ, blockQ, noGotoQ, ↓reduceIte, Nat.reduceEqDiff, reduceCtorEq, aBool, tyX]
      refine hK6 _ ?_
      try clear hK6 K6
      refine AWp_cond (b := false) (by first | exact rfl | exact congrArg (fun b => AV.v (.bool b)) hb18) (fun h => (by cases h)) (fun _ => ?_)
      refine AWp_exit ?_
      simp only [thenQ, blockQ, noGotoQ, bA, Nat.reduceEqDiff, ↓reduceIte]
      try simp only [maskL, setsL, putsO, putO, bA, Nat.reduceEqDiff, ↓reduceIte]
      rw [← numF_end (l := l) (k := T.k) (n := T.n) (s := s) hk9 hs.2]
      exact Weak.mk (by simp only [LeL, Le.refl, Le.any, and_self]) (fun _ _ h => h) rfl rfl
  simp only [maskL, setsL, putsO, putO, bA, Nat.reduceEqDiff, ↓reduceIte]
  refine AWp_seqK fun K15 hK15 => ?_
  refine AWp_seqK fun K16 hK16 => ?_
  refine AWp_region ?_
  simp only [↓aops, ↓aop, ↓aWant, ↓aVal, bS, bA, AV.flat, AV.cl, AV.one, Value.oneCell', thenQ, blockQ, noGotoQ, ↓reduceIte, Nat.reduceEqDiff, reduceCtorEq, tyX]
  refine hK16 _ ?_
  try clear hK16 K16
  refine AWp_block ?_
  refine AWp_weak (Weak.tokCell 32 3 (id := 2) (t := 32) [.v (.int .i64 T.k), .v (.int .i64 (if T.k = 1 then numF T.n l 0 T.n else T.n)), .osl 3 3 []] rfl ⟨.inl (.refl _), .inl (.refl _), .inr ⟨rfl, rfl⟩, trivial⟩) ?_
  simp only [putO, Nat.reduceEqDiff, ↓reduceIte]
  refine AWp_loopM (σ := Nat) [false, true, true, false, true, true, false, true, false, false, false, false, false, false, false, false, false, false, false, false, false, false, false, false, false, false, false, false, false, false, false, false, false, false, false, false, false, false, false, false, false, false, false, false, false, false, false, false, false, false] (fun s => s ≤ T.ps.length) (fun s => [(7, .v (.int .i64 (s : Int)))]) (fun s => [(2, .cells 32 [.v (.int .i64 T.k), .v (.int .i64 (if T.k = 1 then numF T.n l 0 T.n else T.n)), .osl 3 3 (((T.ps.take s).map (Ty.number l)).map Ty.cells)]), (3, .tok 32 3 s)]) (fun s => T.ps.length - s) 0 (by omega) ?_ (fun s hs => ?_)
  · skip
    simp only [maskL, setsL, putsO, putO, bA, Nat.reduceEqDiff, ↓reduceIte, bL]
    exact Weak.mk (by simp only [LeL, Le.refl, Le.any, Le.slNil, and_self, Int.natCast_add, Int.cast_ofNat_Int, Int.natCast_one]) (fun _ _ h => h) rfl rfl
  simp only [maskL, setsL, putsO, putO, bA, Nat.reduceEqDiff, ↓reduceIte]
  refine AWp_seqK fun K17 hK17 => ?_
  refine AWp_seqK fun K18 hK18 => ?_
  refine AWp_region ?_
  refine aops_chunk 3 fun C19 hC19 => ?_
  simp only [bL, ↓aops, ↓aop, ↓aWant, ↓aVal, bS, bA, AV.flat, AV.cl, AV.one, Value.oneCell', thenQ, blockQ, noGotoQ, ↓reduceIte, Nat.reduceEqDiff, reduceCtorEq, aField, fo32_2, Nat.reduceAdd, aLoad, ti22, getO, pack, Nat.reduceLeDiff, tyX]
  refine hC19 _ ?_
  try clear hC19 C19
  simp only [bL]
  simp only [↓aops, ↓aop, ↓aWant, ↓aVal, bS, bA, AV.flat, AV.cl, AV.one, Value.oneCell', thenQ, blockQ, noGotoQ, ↓reduceIte, Nat.reduceEqDiff, reduceCtorEq, aLen, ln22, List.length_map, aBin, tyX]
  refine hK18 _ ?_
  try clear hK18 K18
  refine AWp_cond rfl (fun hb34 => ?_) (fun hb34 => ?_)
  · skip
    have hk : s < T.ps.length := by simpa using hb34
    obtain ⟨p, hp⟩ : ∃ p, T.ps[s]? = some p := ⟨_, List.getElem?_eq_getElem hk⟩
    have hpm := Ty.cnt_mem (List.mem_of_getElem? hp)
    have hw : IntKind.i64.wrap ((s : Int) + 1) = (s : Int) + 1 := wrap_in (by omega) (by omega)
    have hln : (((T.ps.take s).map (Ty.number l)).map Ty.cells).length = s := by simp; omega
    have hb1 : (s + 1) * 40 ≤ 140737488355328 := by omega
    have hb2 : s + 1 ≤ maxLen := by simp only [maxLen]; omega
    refine AWp_skip ?_
    simp only [thenQ, blockQ, noGotoQ]
    refine hK17 _ ?_
    try clear hK17 K17
    refine AWp_seqK fun K20 hK20 => ?_
    refine AWp_block ?_
    refine AWp_drawK 10 mixed (by kernel_rfl) fun K21 hK21 => ?_
    simp only [bL]
    refine dRun_chunk 3 fun C22 hC22 => ?_
    simp only [bL, ↓dRun, ↓dOp, ↓aops, ↓aop, ↓aWant, ↓aVal, bS, bA, AV.flat, AV.cl, AV.one, Value.oneCell', thenQ, blockQ, noGotoQ, ↓reduceIte, Nat.reduceEqDiff, reduceCtorEq, aField, fo32_2, Nat.reduceAdd, aLoad, ti22, getO, pack, Nat.reduceLeDiff, tyX, hk, getD_map_cells hp, Int.natCast_add, Int.natCast_one, hw, hln, hb1, hb2, List.map_append, take_map_step (Ty.number l) hp]
    refine hC22 _ ?_
    try clear hC22 C22
    simp only [bL]
    refine dRun_chunk 3 fun C23 hC23 => ?_
    simp only [bL, ↓dRun, ↓dOp, ↓aops, ↓aop, ↓aWant, ↓aVal, bS, bA, AV.flat, AV.cl, AV.one, Value.oneCell', thenQ, blockQ, noGotoQ, ↓reduceIte, Nat.reduceEqDiff, reduceCtorEq, aLoad, ti22, getO, pack, Nat.reduceAdd, Nat.reduceLeDiff, aIndexA, es22, Int.natCast_nonneg, Int.ofNat_lt, Int.toNat_natCast, List.length_map, Int.le_refl, Int.toNat_zero, Int.toNat_one, Int.reduceLE, tyX, hk, getD_map_cells hp, Int.natCast_add, Int.natCast_one, hw, hln, hb1, hb2, List.map_append, take_map_step (Ty.number l) hp]
    refine hC23 _ ?_
    try clear hC23 C23
    simp only [bL]
    refine dRun_chunk 2 fun C24 hC24 => ?_
    simp only [bL, ↓dRun, ↓dOp, ↓aops, ↓aop, ↓aWant, ↓aVal, bS, bA, AV.flat, AV.cl, AV.one, Value.oneCell', thenQ, blockQ, noGotoQ, ↓reduceIte, Nat.reduceEqDiff, reduceCtorEq, aLoad, ti32, getO, pack, Nat.reduceAdd, Nat.reduceLeDiff, tyX, hk, getD_map_cells hp, Int.natCast_add, Int.natCast_one, hw, hln, hb1, hb2, List.map_append, take_map_step (Ty.number l) hp]
    refine hC24 _ ?_
    try clear hC24 C24
    simp only [bL]
    refine dRun_chunk 1 fun C25 hC25 => ?_
    simp only [bL, ↓dRun, ↓dOp, ↓aops, ↓aop, ↓aWant, ↓aVal, bS, bA, AV.flat, AV.cl, AV.one, Value.oneCell', thenQ, blockQ, noGotoQ, ↓reduceIte, Nat.reduceEqDiff, reduceCtorEq, aCallV, tyX, hk, getD_map_cells hp, Int.natCast_add, Int.natCast_one, hw, hln, hb1, hb2, List.map_append, take_map_step (Ty.number l) hp]
    refine ⟨_, ih p (List.mem_of_getElem? hp) l (by omega), ?_⟩
    try simp only [bS, bA, thenQ, blockQ, noGotoQ]
    refine hC25 _ ?_
    try clear hC25 C25
    simp only [bL]
    simp only [↓dRun, ↓dOp, bL, ↓aops, ↓aop, ↓aWant, ↓aVal, bS, bA, AV.flat, AV.cl, AV.one, Value.oneCell', thenQ, blockQ, noGotoQ, ↓reduceIte, Nat.reduceEqDiff, reduceCtorEq, ↓bs1_1, ↓bs1_2, ↓bs1_3, ↓bs1_4, ↓bs1_5, ↓bs1_6, ↓bs1_7, ↓bs1_8, ↓bs1_9, ↓bs1_10, ↓bs1_11, ↓bs1_12, aBuildSl, ei22, List.range_succ, List.range_zero, List.forall_mem_cons, List.not_mem_nil, false_imp_iff, implies_true, Nat.reduceAdd, Nat.reduceLeDiff, forall_eq, List.mem_singleton, tyX, hk, getD_map_cells hp, Int.natCast_add, Int.natCast_one, hw, hln, hb1, hb2, List.map_append, take_map_step (Ty.number l) hp]
    refine hK21 _ ?_
    try clear hK21 K21
    simp only [bL]
    simp only [↓aops, ↓aop, ↓aWant, ↓aVal, bS, bA, AV.flat, AV.cl, AV.one, Value.oneCell', thenQ, blockQ, noGotoQ, ↓reduceIte, Nat.reduceEqDiff, reduceCtorEq, aAppend, ei22, slOf, List.length_map, getO, putO, bL, Nat.reduceAdd, aField, fo32_2, aStore, ti22, splice, Nat.reduceLeDiff, tyX, hk, getD_map_cells hp, Int.natCast_add, Int.natCast_one, hw, hln, hb1, hb2, List.map_append, take_map_step (Ty.number l) hp]
    refine hK20 _ ?_
    try clear hK20 K20
    refine AWp_region ?_
    simp only [↓aops, ↓aop, ↓aWant, ↓aVal, bS, bA, AV.flat, AV.cl, AV.one, Value.oneCell', thenQ, blockQ, noGotoQ, ↓reduceIte, Nat.reduceEqDiff, reduceCtorEq, aBin, tyX, hk, getD_map_cells hp, Int.natCast_add, Int.natCast_one, hw, hln, hb1, hb2, List.map_append, bL, take_map_step (Ty.number l) hp]
    refine ⟨(s + 1), (by omega), by omega, ?_⟩
    simp only [maskL, setsL, putsO, putO, bA, Nat.reduceEqDiff, ↓reduceIte, hk, getD_map_cells hp, Int.natCast_add, Int.natCast_one, hw, hln, hb1, hb2, List.map_append, bL, take_map_step (Ty.number l) hp]
    exact Weak.mk (by simp only [LeL, Le.refl, Le.any, Le.slNil, and_self, Int.natCast_add, Int.cast_ofNat_Int, Int.natCast_one]) (fun _ _ h => h) rfl rfl
  · skip
    have hk : s = T.ps.length := by simp at hb34; omega
    refine AWp_exit ?_
    simp only [thenQ, blockQ, noGotoQ, bA, Nat.reduceEqDiff, ↓reduceIte]
    refine hK15 _ ?_
    try clear hK15 K15
    refine AWp_seqK fun K26 hK26 => ?_
    refine AWp_region ?_
    simp only [↓aops, ↓aop, ↓aWant, ↓aVal, bS, bA, AV.flat, AV.cl, AV.one, Value.oneCell', thenQ, blockQ, noGotoQ, ↓reduceIte, Nat.reduceEqDiff, reduceCtorEq, aLoad, ti32, getO, pack, bL, Nat.reduceAdd, Nat.reduceLeDiff, aStore, putO, splice, tyX]
    refine hK26 _ ?_
    try clear hK26 K26
    refine AWp_ret ?_
    simp only [thenQ, blockQ, noGotoQ, retQ, aRes, tupOf, bS, bA, aLoad, getO, pack, bL, Nat.reduceAdd, Nat.reduceLeDiff, Nat.reduceEqDiff, ↓reduceIte, ti32, tyX]
    refine Le.agg ?_
    rw [Ty.number_eq, Ty.cells_eq, hk, List.take_length]
    exact ⟨.refl _, .refl _, Le.oslL, trivial⟩
theorem Canon_pure (T : Ty) (hT : T.cnt ≤ 1099511627776) : APure Try.prog 32 [.agg T.cells] (.agg T.canon.cells) := by
  refine APure.mkL (.cons T.dataAgg .nil) ((Ty.dataAgg _)) ?_
  refine ACalls_intro Try.func32 (by kernel_rfl) rfl (by rw [Try.ntmps32]; simp) (fun hm => ?_)
  simp only [Try.ntmps32, Try.results32, List.length_cons, List.length_nil, Nat.reduceAdd, Nat.reduceSub, List.replicate_succ, List.replicate_zero, List.cons_append, List.nil_append]
  simp only [Ty.cells_eq T, List.cons_append, List.nil_append]
  refine AWp_seqK fun K1 hK1 => ?_
  refine AWp_region ?_
  simp only [↓aops, ↓aop, ↓aWant, ↓aVal, bS, bA, AV.flat, AV.cl, AV.one, Value.oneCell', thenQ, blockQ, noGotoQ, ↓reduceIte, Nat.reduceEqDiff, reduceCtorEq, zc32, bL, tyX]
  refine hK1 _ ?_
  try clear hK1 K1
  refine AWp_seqK fun K2 hK2 => ?_
  refine AWp_drawK 4 mixed (by kernel_rfl) fun K3 hK3 => ?_
  simp only [bL]
  refine dRun_chunk 2 fun C4 hC4 => ?_
  simp only [bL, ↓dRun, ↓dOp, ↓aops, ↓aop, ↓aWant, ↓aVal, bS, bA, AV.flat, AV.cl, AV.one, Value.oneCell', thenQ, blockQ, noGotoQ, ↓reduceIte, Nat.reduceEqDiff, reduceCtorEq, aLoad, ti32, getO, pack, Nat.reduceAdd, Nat.reduceLeDiff, tyX]
  refine hC4 _ ?_
  try clear hC4 C4
  simp only [bL]
  refine dRun_chunk 1 fun C5 hC5 => ?_
  simp only [bL, ↓dRun, ↓dOp, ↓aops, ↓aop, ↓aWant, ↓aVal, bS, bA, AV.flat, AV.cl, AV.one, Value.oneCell', thenQ, blockQ, noGotoQ, ↓reduceIte, Nat.reduceEqDiff, reduceCtorEq, aCallV, tyX]
  refine ⟨_, by have h9 := RVars_pure T [] (by simpa using hT); rw [Ty.cells_eq T] at h9; exact h9.le ⟨.refl _, Le.slNil 1, trivial⟩ (.cons (by rw [← Ty.cells_eq]; exact T.dataAgg) (.cons (.v _) .nil)), ?_⟩
  try simp only [bS, bA, thenQ, blockQ, noGotoQ]
  refine hC5 _ ?_
  try clear hC5 C5
  simp only [bL]
  simp only [↓dRun, ↓dOp, bL, ↓aops, ↓aop, ↓aWant, ↓aVal, bS, bA, AV.flat, AV.cl, AV.one, Value.oneCell', thenQ, blockQ, noGotoQ, ↓reduceIte, Nat.reduceEqDiff, reduceCtorEq, aCallV, tyX]
  refine ⟨_, by have h9 := Number_pure T (T.rvars []) hT; rw [Ty.cells_eq T] at h9; exact h9, ?_⟩
  try simp only [bS, bA, thenQ, blockQ, noGotoQ]
  refine hK3 _ ?_
  try clear hK3 K3
  simp only [bL]
  simp only [↓aops, ↓aop, ↓aWant, ↓aVal, bS, bA, AV.flat, AV.cl, AV.one, Value.oneCell', thenQ, blockQ, noGotoQ, ↓reduceIte, Nat.reduceEqDiff, reduceCtorEq, aStore, ti32, getO, putO, splice, bL, Nat.reduceAdd, Nat.reduceLeDiff, tyX]
  refine hK2 _ ?_
  try clear hK2 K2
  refine AWp_ret ?_
  simp only [thenQ, blockQ, noGotoQ, retQ, aRes, tupOf, bS, bA, aLoad, getO, pack, bL, Nat.reduceAdd, Nat.reduceLeDiff, Nat.reduceEqDiff, ↓reduceIte, ti32, tyX]
  exact Le.of_eq rfl
theorem Find_pure (l : List Bd) (n : Int) : APure Try.prog 68 [.sl 4 (l.map Bd.cells), .v (.int .i64 n)] (.v (.int .i64 (bfind l n))) := by
  refine APure.mkL (.cons (Bd.dataSl l) (.cons (.v _) .nil)) (.v _) ?_
  refine ACalls_intro Try.func68 (by kernel_rfl) rfl (by rw [Try.ntmps68]; simp) (fun hm => ?_)
  simp only [Try.ntmps68, Try.results68, List.length_cons, List.length_nil, Nat.reduceAdd, Nat.reduceSub, List.replicate_succ, List.replicate_zero, List.cons_append, List.nil_append]
  have hm1 := hm.len (sz := 4) (xs := l.map Bd.cells) (by simp)
  rw [List.length_map] at hm1
  refine AWp_seqK fun K1 hK1 => ?_
  refine AWp_region ?_
  simp only [↓aops, ↓aop, ↓aWant, ↓aVal, bS, bA, AV.flat, AV.cl, AV.one, Value.oneCell', thenQ, blockQ, noGotoQ, ↓reduceIte, Nat.reduceEqDiff, reduceCtorEq, tyX, Bd.take1, Bd.drop1, Bd.cells_len, Bd.one]
  refine hK1 _ ?_
  try clear hK1 K1
  refine AWp_seqK fun K2 hK2 => ?_
  refine AWp_seqK fun K3 hK3 => ?_
  refine AWp_region ?_
  simp only [↓aops, ↓aop, ↓aWant, ↓aVal, bS, bA, AV.flat, AV.cl, AV.one, Value.oneCell', thenQ, blockQ, noGotoQ, ↓reduceIte, Nat.reduceEqDiff, reduceCtorEq, tyX, Bd.take1, Bd.drop1, Bd.cells_len, Bd.one]
  refine hK3 _ ?_
  try clear hK3 K3
  refine AWp_block ?_
  refine AWp_loopM (σ := Nat) [true, true, false, false, false, true, false, false, false, false, false, false, false, false, false, false, false, false, false, false] (fun s => s ≤ l.length ∧ ∀ (i : Nat) (b : Bd), i < s → l[i]? = some b → (b.v == n) = false) (fun s => [(5, .v (.int .i64 (s : Int)))]) (fun s => []) (fun s => l.length - s) 0 (⟨by omega, fun i p hi => by omega⟩) ?_ (fun s hs => ?_)
  · skip
    simp only [maskL, setsL, putsO, putO, bA, Nat.reduceEqDiff, ↓reduceIte]
    exact Weak.mk (by simp only [LeL, Le.refl, Le.any, Le.slNil, and_self, Int.natCast_add, Int.cast_ofNat_Int, Int.natCast_one]) (fun _ _ h => h) rfl rfl
  simp only [maskL, setsL, putsO, putO, bA, Nat.reduceEqDiff, ↓reduceIte]
  refine AWp_seqK fun K4 hK4 => ?_
  refine AWp_seqK fun K5 hK5 => ?_
  refine AWp_region ?_
  simp only [↓aops, ↓aop, ↓aWant, ↓aVal, bS, bA, AV.flat, AV.cl, AV.one, Value.oneCell', thenQ, blockQ, noGotoQ, ↓reduceIte, Nat.reduceEqDiff, reduceCtorEq, aLen, ln53, List.length_map, aBin, tyX, Bd.take1, Bd.drop1, Bd.cells_len, Bd.one]
  refine hK5 _ ?_
  try clear hK5 K5
  refine AWp_cond rfl (fun hb9 => ?_) (fun hb9 => ?_)
  · skip
    have hk : s < l.length := by simpa using hb9
    obtain ⟨p, hp⟩ : ∃ p, l[s]? = some p := ⟨_, List.getElem?_eq_getElem hk⟩
    have hw : IntKind.i64.wrap ((s : Int) + 1) = (s : Int) + 1 := wrap_in (by omega) (by simp only [maxLen] at hm1; omega)
    refine AWp_skip ?_
    simp only [thenQ, blockQ, noGotoQ]
    refine hK4 _ ?_
    try clear hK4 K4
    refine AWp_seqK fun K6 hK6 => ?_
    refine AWp_block ?_
    refine AWp_seqK fun K7 hK7 => ?_
    refine AWp_region ?_
    refine aops_chunk 4 fun C8 hC8 => ?_
    simp only [bL, ↓aops, ↓aop, ↓aWant, ↓aVal, bS, bA, AV.flat, AV.cl, AV.one, Value.oneCell', thenQ, blockQ, noGotoQ, ↓reduceIte, Nat.reduceEqDiff, reduceCtorEq, aIndexA, es53, Int.natCast_nonneg, Int.ofNat_lt, Int.toNat_natCast, List.length_map, Int.le_refl, Int.toNat_zero, Int.toNat_one, Int.reduceLE, aField, fo103_0, Nat.reduceAdd, tyX, Bd.take1, Bd.drop1, Bd.cells_len, Bd.one, hk, getD_map_cells hp, Int.natCast_add, Int.natCast_one, hw]
    refine hC8 _ ?_
    try clear hC8 C8
    simp only [bL]
    simp only [↓aops, ↓aop, ↓aWant, ↓aVal, bS, bA, AV.flat, AV.cl, AV.one, Value.oneCell', thenQ, blockQ, noGotoQ, ↓reduceIte, Nat.reduceEqDiff, reduceCtorEq, aLoad, ti3, getO, pack, bL, Nat.reduceAdd, Nat.reduceLeDiff, aBin, tyX, Bd.take1, Bd.drop1, Bd.cells_len, Bd.one, hk, getD_map_cells hp, Int.natCast_add, Int.natCast_one, hw]
    refine hK7 _ ?_
    try clear hK7 K7
    refine AWp_cond rfl (fun hb18 => ?_) (fun hb18 => ?_)
    · skip
      refine AWp_seqK fun K9 hK9 => ?_
      refine AWp_region ?_
      simp only [↓aops, ↓aop, ↓aWant, ↓aVal, bS, bA, AV.flat, AV.cl, AV.one, Value.oneCell', thenQ, blockQ, noGotoQ, ↓reduceIte, Nat.reduceEqDiff, reduceCtorEq, tyX, Bd.take1, Bd.drop1, Bd.cells_len, Bd.one, hk, getD_map_cells hp, Int.natCast_add, Int.natCast_one, hw]
      refine hK9 _ ?_
      try clear hK9 K9
      refine AWp_ret ?_
      simp only [thenQ, blockQ, noGotoQ, retQ, aRes, tupOf, bS, bA]
      refine Le.of_eq (congrArg (fun b => AV.v (.int .i64 b)) ?_)
      first | (exact (idxI_some hp (by exact hb18) hs.2).symm) | (exact (idxI_none fun i p hi hp => hs.2 i p (by omega) hp).symm)
    · skip
      refine AWp_skip ?_
      simp only [thenQ, blockQ, noGotoQ]
      refine hK6 _ ?_
      try clear hK6 K6
      refine AWp_region ?_
      simp only [↓aops, ↓aop, ↓aWant, ↓aVal, bS, bA, AV.flat, AV.cl, AV.one, Value.oneCell', thenQ, blockQ, noGotoQ, ↓reduceIte, Nat.reduceEqDiff, reduceCtorEq, aBin, tyX, Bd.take1, Bd.drop1, Bd.cells_len, Bd.one, hk, getD_map_cells hp, Int.natCast_add, Int.natCast_one, hw]
      refine ⟨(s + 1), ⟨by omega, fun i p' hi h1 => (by rcases Nat.lt_or_ge i s with h3 | h3 <;> first | exact hs.2 i p' h3 h1 | (obtain rfl : i = s := (by omega); rw [hp] at h1; cases h1; exact hb18))⟩, by omega, ?_⟩
      simp only [maskL, setsL, putsO, putO, bA, Nat.reduceEqDiff, ↓reduceIte, hk, getD_map_cells hp, Int.natCast_add, Int.natCast_one, hw]
      exact Weak.mk (by simp only [LeL, Le.refl, Le.any, Le.slNil, and_self, Int.natCast_add, Int.cast_ofNat_Int, Int.natCast_one]) (fun _ _ h => h) rfl rfl
  · skip
    have hk : s = l.length := by have := hs.1; simp at hb9; omega
    refine AWp_exit ?_
    simp only [thenQ, blockQ, noGotoQ, bA, Nat.reduceEqDiff, ↓reduceIte]
    refine hK2 _ ?_
    try clear hK2 K2
    refine AWp_seqK fun K10 hK10 => ?_
    refine AWp_region ?_
    simp only [↓aops, ↓aop, ↓aWant, ↓aVal, bS, bA, AV.flat, AV.cl, AV.one, Value.oneCell', thenQ, blockQ, noGotoQ, ↓reduceIte, Nat.reduceEqDiff, reduceCtorEq, tyX, Bd.take1, Bd.drop1, Bd.cells_len, Bd.one]
    refine hK10 _ ?_
    try clear hK10 K10
    refine AWp_ret ?_
    simp only [thenQ, blockQ, noGotoQ, retQ, aRes, tupOf, bS, bA]
    refine Le.of_eq (congrArg (fun b => AV.v (.int .i64 b)) ?_)
    first | (exact (idxI_some hp (by exact hb18) hs.2).symm) | (exact (idxI_none fun i p hi hp => hs.2 i p (by omega) hp).symm)
theorem Apply_pure : ∀ (T : Ty) (l : List Bd) (hT : T.cnt ≤ 1099511627776), APure Try.prog 34 [.sl 4 (l.map Bd.cells), .agg T.cells] (.agg (T.sub l).cells) := by
  refine Ty.ind fun T ih => ?_
  intro l hT
  refine APure.mkL (.cons (Bd.dataSl l) (.cons T.dataAgg .nil)) ((Ty.dataAgg _)) ?_
  refine ACalls_intro Try.func34 (by kernel_rfl) rfl (by rw [Try.ntmps34]; simp) (fun hm => ?_)
  simp only [Try.ntmps34, Try.results34, List.length_cons, List.length_nil, Nat.reduceAdd, Nat.reduceSub, List.replicate_succ, List.replicate_zero, List.cons_append, List.nil_append]
  have hcn := T.cnt_eq
  have hcl := Ty.cntL_len T.ps
  simp only [Ty.cells_eq T, List.cons_append, List.nil_append]
  refine AWp_seqK fun K1 hK1 => ?_
  refine AWp_region ?_
  simp only [↓aops, ↓aop, ↓aWant, ↓aVal, bS, bA, AV.flat, AV.cl, AV.one, Value.oneCell', thenQ, blockQ, noGotoQ, ↓reduceIte, Nat.reduceEqDiff, reduceCtorEq, zc32, bL, tyX, Bd.take1, Bd.drop1, Bd.cells_len, Bd.one]
  refine hK1 _ ?_
  try clear hK1 K1
  refine AWp_joinC [true, false, false, true, true, false, false, false, false, false, false, false, false, false, false, false, false, false, false, false, false, false, false, false, false, false, false, false, false, false, false, false, false, false, false, false, false, false, false, false, false, false, false, false] ([]) ([]) (¬ (T.k = 1 ∧ 0 ≤ bfind l T.n)) ?_ (fun hN => ?_)
  · skip
    refine AWp_seqK fun K2 hK2 => ?_
    refine AWp_region ?_
    simp only [↓aops, ↓aop, ↓aWant, ↓aVal, bS, bA, AV.flat, AV.cl, AV.one, Value.oneCell', thenQ, blockQ, noGotoQ, ↓reduceIte, Nat.reduceEqDiff, reduceCtorEq, aField, fo32_0, bL, Nat.reduceAdd, aLoad, ti3, getO, pack, Nat.reduceLeDiff, aBin, tyX, Bd.take1, Bd.drop1, Bd.cells_len, Bd.one]
    refine hK2 _ ?_
    try clear hK2 K2
    refine AWp_cond rfl (fun hb10 => ?_) (fun hb10 => ?_)
    · skip
      have h10 : T.k = 1 := by simpa using hb10
      refine AWp_seqK fun K3 hK3 => ?_
      refine AWp_region ?_
      refine aops_chunk 3 fun C4 hC4 => ?_
      simp only [bL, ↓aops, ↓aop, ↓aWant, ↓aVal, bS, bA, AV.flat, AV.cl, AV.one, Value.oneCell', thenQ, blockQ, noGotoQ, ↓reduceIte, Nat.reduceEqDiff, reduceCtorEq, aField, fo32_1, Nat.reduceAdd, aLoad, ti3, getO, pack, Nat.reduceLeDiff, tyX, Bd.take1, Bd.drop1, Bd.cells_len, Bd.one]
      refine hC4 _ ?_
      try clear hC4 C4
      simp only [bL]
      refine aops_chunk 1 fun C5 hC5 => ?_
      simp only [bL, ↓aops, ↓aop, ↓aWant, ↓aVal, bS, bA, AV.flat, AV.cl, AV.one, Value.oneCell', thenQ, blockQ, noGotoQ, ↓reduceIte, Nat.reduceEqDiff, reduceCtorEq, aCallV, tyX, Bd.take1, Bd.drop1, Bd.cells_len, Bd.one]
      refine APure.call (Find_pure l T.n) ?_
      try simp only [bS, bA, thenQ, blockQ, noGotoQ]
      refine hC5 _ ?_
      try clear hC5 C5
      simp only [bL]
      simp only [↓aops, ↓aop, ↓aWant, ↓aVal, bS, bA, AV.flat, AV.cl, AV.one, Value.oneCell', thenQ, blockQ, noGotoQ, ↓reduceIte, Nat.reduceEqDiff, reduceCtorEq, tyX, Bd.take1, Bd.drop1, Bd.cells_len, Bd.one]
      refine hK3 _ ?_
      try clear hK3 K3
      refine AWp_seqK fun K6 hK6 => ?_
      refine AWp_region ?_
      simp only [↓aops, ↓aop, ↓aWant, ↓aVal, bS, bA, AV.flat, AV.cl, AV.one, Value.oneCell', thenQ, blockQ, noGotoQ, ↓reduceIte, Nat.reduceEqDiff, reduceCtorEq, aBin, tyX, Bd.take1, Bd.drop1, Bd.cells_len, Bd.one]
      refine hK6 _ ?_
      try clear hK6 K6
      refine AWp_cond rfl (fun hb16 => ?_) (fun hb16 => ?_)
      · skip
        have h16 : 0 ≤ bfind l T.n := by simpa using hb16
        obtain ⟨b, hb, hbi⟩ := bfind_get h16
        have hbl : bfind l T.n < (l.length : Int) := by have := (List.getElem?_eq_some_iff.1 hb).1; omega
        refine AWp_seqK fun K7 hK7 => ?_
        refine AWp_region ?_
        refine aops_chunk 3 fun C8 hC8 => ?_
        simp only [bL, ↓aops, ↓aop, ↓aWant, ↓aVal, bS, bA, AV.flat, AV.cl, AV.one, Value.oneCell', thenQ, blockQ, noGotoQ, ↓reduceIte, Nat.reduceEqDiff, reduceCtorEq, aIndexA, es53, Int.natCast_nonneg, Int.ofNat_lt, Int.toNat_natCast, List.length_map, Int.le_refl, Int.toNat_zero, Int.toNat_one, Int.reduceLE, tyX, Bd.take1, Bd.drop1, Bd.cells_len, Bd.one, h16, hbl, getD_map_at hb]
        refine hC8 _ ?_
        try clear hC8 C8
        simp only [bL]
        simp only [↓aops, ↓aop, ↓aWant, ↓aVal, bS, bA, AV.flat, AV.cl, AV.one, Value.oneCell', thenQ, blockQ, noGotoQ, ↓reduceIte, Nat.reduceEqDiff, reduceCtorEq, aField, fo103_1, bL, Nat.reduceAdd, aLoad, ti32, getO, pack, Nat.reduceLeDiff, aStore, putO, splice, tyX, Bd.take1, Bd.drop1, Bd.cells_len, Bd.one, h16, hbl, getD_map_at hb]
        refine hK7 _ ?_
        try clear hK7 K7
        refine AWp_ret ?_
        simp only [thenQ, blockQ, noGotoQ, retQ, aRes, tupOf, bS, bA, aLoad, getO, pack, bL, Nat.reduceAdd, Nat.reduceLeDiff, Nat.reduceEqDiff, ↓reduceIte, ti32, tyX, Bd.take1, Bd.drop1, Bd.cells_len, Bd.one, h16, hbl, getD_map_at hb]
        refine Le.agg ?_
        first | (rw [Ty.sub_yes h10 h16 hb]; exact LeL.refl _) | (rw [Ty.sub_no hN, Ty.cells_eq, hk, List.take_length]; exact ⟨.refl _, .refl _, Le.oslL, trivial⟩)
      · skip
        have hN : ¬ (T.k = 1 ∧ 0 ≤ bfind l T.n) := fun h9 => by simp at hb16; omega
        refine AWp_skip ?_
        simp only [thenQ, blockQ, noGotoQ]
        try simp only [maskL, setsL, putsO, putO, bA, Nat.reduceEqDiff, ↓reduceIte]
        refine ⟨hN, ?_⟩
        exact Weak.mk (by simp only [LeL, Le.refl, Le.any, and_self]) (fun _ _ h => h) rfl rfl
    · skip
      have hN : ¬ (T.k = 1 ∧ 0 ≤ bfind l T.n) := fun h9 => by simp [h9.1] at hb10
      refine AWp_skip ?_
      simp only [thenQ, blockQ, noGotoQ]
      try simp only [maskL, setsL, putsO, putO, bA, Nat.reduceEqDiff, ↓reduceIte]
      refine ⟨hN, ?_⟩
      exact Weak.mk (by simp only [LeL, Le.refl, Le.any, and_self]) (fun _ _ h => h) rfl rfl
  simp only [maskL, setsL, putsO, putO, bA, Nat.reduceEqDiff, ↓reduceIte]
  refine AWp_seqK fun K9 hK9 => ?_
  refine AWp_region ?_
  simp only [↓aops, ↓aop, ↓aWant, ↓aVal, bS, bA, AV.flat, AV.cl, AV.one, Value.oneCell', thenQ, blockQ, noGotoQ, ↓reduceIte, Nat.reduceEqDiff, reduceCtorEq, aLoad, ti32, getO, pack, bL, Nat.reduceAdd, Nat.reduceLeDiff, zc32, aStore, putO, splice, tyX, Bd.take1, Bd.drop1, Bd.cells_len, Bd.one]
  refine hK9 _ ?_
  try clear hK9 K9
  refine AWp_seqK fun K10 hK10 => ?_
  refine AWp_region ?_
  simp only [↓aops, ↓aop, ↓aWant, ↓aVal, bS, bA, AV.flat, AV.cl, AV.one, Value.oneCell', thenQ, blockQ, noGotoQ, ↓reduceIte, Nat.reduceEqDiff, reduceCtorEq, aField, fo32_2, bL, Nat.reduceAdd, aStore, ti22, getO, putO, splice, Nat.reduceLeDiff, tyX, Bd.take1, Bd.drop1, Bd.cells_len, Bd.one]
  refine hK10 _ ?_
  try clear hK10 K10
  refine AWp_seqK fun K11 hK11 => ?_
  refine AWp_seqK fun K12 hK12 => ?_
  refine AWp_region ?_
  simp only [↓aops, ↓aop, ↓aWant, ↓aVal, bS, bA, AV.flat, AV.cl, AV.one, Value.oneCell', thenQ, blockQ, noGotoQ, ↓reduceIte, Nat.reduceEqDiff, reduceCtorEq, tyX, Bd.take1, Bd.drop1, Bd.cells_len, Bd.one]
  refine hK12 _ ?_
  try clear hK12 K12
  refine AWp_block ?_
  refine AWp_weak (Weak.tokCell 32 3 (id := 2) (t := 32) [.v (.int .i64 T.k), .v (.int .i64 T.n), .osl 3 3 []] rfl ⟨.inl (.refl _), .inl (.refl _), .inr ⟨rfl, rfl⟩, trivial⟩) ?_
  simp only [putO, Nat.reduceEqDiff, ↓reduceIte]
  refine AWp_loopM (σ := Nat) [true, false, false, true, true, false, true, true, false, false, false, false, false, false, false, false, false, false, false, false, false, false, false, false, false, false, false, false, false, false, false, false, false, false, false, false, false, false, false, false, false, false, false, false] (fun s => s ≤ T.ps.length) (fun s => [(7, .v (.int .i64 (s : Int)))]) (fun s => [(2, .cells 32 [.v (.int .i64 T.k), .v (.int .i64 T.n), .osl 3 3 (((T.ps.take s).map (Ty.sub l)).map Ty.cells)]), (3, .tok 32 3 s)]) (fun s => T.ps.length - s) 0 (by omega) ?_ (fun s hs => ?_)
  · skip
    simp only [maskL, setsL, putsO, putO, bA, Nat.reduceEqDiff, ↓reduceIte, bL]
    exact Weak.mk (by simp only [LeL, Le.refl, Le.any, Le.slNil, and_self, Int.natCast_add, Int.cast_ofNat_Int, Int.natCast_one]) (fun _ _ h => h) rfl rfl
  simp only [maskL, setsL, putsO, putO, bA, Nat.reduceEqDiff, ↓reduceIte]
  refine AWp_seqK fun K13 hK13 => ?_
  refine AWp_seqK fun K14 hK14 => ?_
  refine AWp_region ?_
  refine aops_chunk 3 fun C15 hC15 => ?_
  simp only [bL, ↓aops, ↓aop, ↓aWant, ↓aVal, bS, bA, AV.flat, AV.cl, AV.one, Value.oneCell', thenQ, blockQ, noGotoQ, ↓reduceIte, Nat.reduceEqDiff, reduceCtorEq, aField, fo32_2, Nat.reduceAdd, aLoad, ti22, getO, pack, Nat.reduceLeDiff, tyX, Bd.take1, Bd.drop1, Bd.cells_len, Bd.one]
  refine hC15 _ ?_
  try clear hC15 C15
  simp only [bL]
  simp only [↓aops, ↓aop, ↓aWant, ↓aVal, bS, bA, AV.flat, AV.cl, AV.one, Value.oneCell', thenQ, blockQ, noGotoQ, ↓reduceIte, Nat.reduceEqDiff, reduceCtorEq, aLen, ln22, List.length_map, aBin, tyX, Bd.take1, Bd.drop1, Bd.cells_len, Bd.one]
  refine hK14 _ ?_
  try clear hK14 K14
  refine AWp_cond rfl (fun hb28 => ?_) (fun hb28 => ?_)
  · skip
    have hk : s < T.ps.length := by simpa using hb28
    obtain ⟨p, hp⟩ : ∃ p, T.ps[s]? = some p := ⟨_, List.getElem?_eq_getElem hk⟩
    have hpm := Ty.cnt_mem (List.mem_of_getElem? hp)
    have hw : IntKind.i64.wrap ((s : Int) + 1) = (s : Int) + 1 := wrap_in (by omega) (by omega)
    have hln : (((T.ps.take s).map (Ty.sub l)).map Ty.cells).length = s := by simp; omega
    have hb1 : (s + 1) * 40 ≤ 140737488355328 := by omega
    have hb2 : s + 1 ≤ maxLen := by simp only [maxLen]; omega
    refine AWp_skip ?_
    simp only [thenQ, blockQ, noGotoQ]
    refine hK13 _ ?_
    try clear hK13 K13
    refine AWp_seqK fun K16 hK16 => ?_
    refine AWp_block ?_
    refine AWp_drawK 10 mixed (by kernel_rfl) fun K17 hK17 => ?_
    simp only [bL]
    refine dRun_chunk 3 fun C18 hC18 => ?_
    simp only [bL, ↓dRun, ↓dOp, ↓aops, ↓aop, ↓aWant, ↓aVal, bS, bA, AV.flat, AV.cl, AV.one, Value.oneCell', thenQ, blockQ, noGotoQ, ↓reduceIte, Nat.reduceEqDiff, reduceCtorEq, aField, fo32_2, Nat.reduceAdd, aLoad, ti22, getO, pack, Nat.reduceLeDiff, tyX, Bd.take1, Bd.drop1, Bd.cells_len, Bd.one, hk, getD_map_cells hp, Int.natCast_add, Int.natCast_one, hw, hln, hb1, hb2, List.map_append, take_map_step (Ty.sub l) hp]
    refine hC18 _ ?_
    try clear hC18 C18
    simp only [bL]
    refine dRun_chunk 3 fun C19 hC19 => ?_
    simp only [bL, ↓dRun, ↓dOp, ↓aops, ↓aop, ↓aWant, ↓aVal, bS, bA, AV.flat, AV.cl, AV.one, Value.oneCell', thenQ, blockQ, noGotoQ, ↓reduceIte, Nat.reduceEqDiff, reduceCtorEq, aField, fo32_2, Nat.reduceAdd, aLoad, ti22, getO, pack, Nat.reduceLeDiff, tyX, Bd.take1, Bd.drop1, Bd.cells_len, Bd.one, hk, getD_map_cells hp, Int.natCast_add, Int.natCast_one, hw, hln, hb1, hb2, List.map_append, take_map_step (Ty.sub l) hp]
    refine hC19 _ ?_
    try clear hC19 C19
    simp only [bL]
    refine dRun_chunk 2 fun C20 hC20 => ?_
    simp only [bL, ↓dRun, ↓dOp, ↓aops, ↓aop, ↓aWant, ↓aVal, bS, bA, AV.flat, AV.cl, AV.one, Value.oneCell', thenQ, blockQ, noGotoQ, ↓reduceIte, Nat.reduceEqDiff, reduceCtorEq, aIndexA, es22, Int.natCast_nonneg, Int.ofNat_lt, Int.toNat_natCast, List.length_map, Int.le_refl, Int.toNat_zero, Int.toNat_one, Int.reduceLE, aLoad, ti32, getO, pack, Nat.reduceAdd, Nat.reduceLeDiff, tyX, Bd.take1, Bd.drop1, Bd.cells_len, Bd.one, hk, getD_map_cells hp, Int.natCast_add, Int.natCast_one, hw, hln, hb1, hb2, List.map_append, take_map_step (Ty.sub l) hp]
    refine hC20 _ ?_
    try clear hC20 C20
    simp only [bL]
    refine dRun_chunk 1 fun C21 hC21 => ?_
    simp only [bL, ↓dRun, ↓dOp, ↓aops, ↓aop, ↓aWant, ↓aVal, bS, bA, AV.flat, AV.cl, AV.one, Value.oneCell', thenQ, blockQ, noGotoQ, ↓reduceIte, Nat.reduceEqDiff, reduceCtorEq, aCallV, tyX, Bd.take1, Bd.drop1, Bd.cells_len, Bd.one, hk, getD_map_cells hp, Int.natCast_add, Int.natCast_one, hw, hln, hb1, hb2, List.map_append, take_map_step (Ty.sub l) hp]
    refine ⟨_, ih p (List.mem_of_getElem? hp) l (by omega), ?_⟩
    try simp only [bS, bA, thenQ, blockQ, noGotoQ]
    refine hC21 _ ?_
    try clear hC21 C21
    simp only [bL]
    simp only [↓dRun, ↓dOp, bL, ↓aops, ↓aop, ↓aWant, ↓aVal, bS, bA, AV.flat, AV.cl, AV.one, Value.oneCell', thenQ, blockQ, noGotoQ, ↓reduceIte, Nat.reduceEqDiff, reduceCtorEq, ↓bs1_1, ↓bs1_2, ↓bs1_3, ↓bs1_4, ↓bs1_5, ↓bs1_6, ↓bs1_7, ↓bs1_8, ↓bs1_9, ↓bs1_10, ↓bs1_11, ↓bs1_12, aBuildSl, ei22, List.range_succ, List.range_zero, List.forall_mem_cons, List.not_mem_nil, false_imp_iff, implies_true, Nat.reduceAdd, Nat.reduceLeDiff, forall_eq, List.mem_singleton, tyX, Bd.take1, Bd.drop1, Bd.cells_len, Bd.one, hk, getD_map_cells hp, Int.natCast_add, Int.natCast_one, hw, hln, hb1, hb2, List.map_append, take_map_step (Ty.sub l) hp]
    refine hK17 _ ?_
    try clear hK17 K17
    simp only [bL]
    simp only [↓aops, ↓aop, ↓aWant, ↓aVal, bS, bA, AV.flat, AV.cl, AV.one, Value.oneCell', thenQ, blockQ, noGotoQ, ↓reduceIte, Nat.reduceEqDiff, reduceCtorEq, aAppend, ei22, slOf, List.length_map, getO, putO, bL, Nat.reduceAdd, aField, fo32_2, aStore, ti22, splice, Nat.reduceLeDiff, tyX, Bd.take1, Bd.drop1, Bd.cells_len, Bd.one, hk, getD_map_cells hp, Int.natCast_add, Int.natCast_one, hw, hln, hb1, hb2, List.map_append, take_map_step (Ty.sub l) hp]
    refine hK16 _ ?_
    try clear hK16 K16
    refine AWp_region ?_
    simp only [↓aops, ↓aop, ↓aWant, ↓aVal, bS, bA, AV.flat, AV.cl, AV.one, Value.oneCell', thenQ, blockQ, noGotoQ, ↓reduceIte, Nat.reduceEqDiff, reduceCtorEq, aBin, tyX, Bd.take1, Bd.drop1, Bd.cells_len, Bd.one, hk, getD_map_cells hp, Int.natCast_add, Int.natCast_one, hw, hln, hb1, hb2, List.map_append, bL, take_map_step (Ty.sub l) hp]
    refine ⟨(s + 1), (by omega), by omega, ?_⟩
    simp only [maskL, setsL, putsO, putO, bA, Nat.reduceEqDiff, ↓reduceIte, hk, getD_map_cells hp, Int.natCast_add, Int.natCast_one, hw, hln, hb1, hb2, List.map_append, bL, take_map_step (Ty.sub l) hp]
    exact Weak.mk (by simp only [LeL, Le.refl, Le.any, Le.slNil, and_self, Int.natCast_add, Int.cast_ofNat_Int, Int.natCast_one]) (fun _ _ h => h) rfl rfl
  · skip
    have hk : s = T.ps.length := by simp at hb28; omega
    refine AWp_exit ?_
    simp only [thenQ, blockQ, noGotoQ, bA, Nat.reduceEqDiff, ↓reduceIte]
    refine hK11 _ ?_
    try clear hK11 K11
    refine AWp_seqK fun K22 hK22 => ?_
    refine AWp_region ?_
    simp only [↓aops, ↓aop, ↓aWant, ↓aVal, bS, bA, AV.flat, AV.cl, AV.one, Value.oneCell', thenQ, blockQ, noGotoQ, ↓reduceIte, Nat.reduceEqDiff, reduceCtorEq, aLoad, ti32, getO, pack, bL, Nat.reduceAdd, Nat.reduceLeDiff, aStore, putO, splice, tyX, Bd.take1, Bd.drop1, Bd.cells_len, Bd.one]
    refine hK22 _ ?_
    try clear hK22 K22
    refine AWp_ret ?_
    simp only [thenQ, blockQ, noGotoQ, retQ, aRes, tupOf, bS, bA, aLoad, getO, pack, bL, Nat.reduceAdd, Nat.reduceLeDiff, Nat.reduceEqDiff, ↓reduceIte, ti32, tyX, Bd.take1, Bd.drop1, Bd.cells_len, Bd.one]
    refine Le.agg ?_
    first | (rw [Ty.sub_yes h10 h16 hb]; exact LeL.refl _) | (rw [Ty.sub_no hN, Ty.cells_eq, hk, List.take_length]; exact ⟨.refl _, .refl _, Le.oslL, trivial⟩)
theorem SameB_pure (a b : List Bd) : APure Try.prog 33 [.sl 4 (a.map Bd.cells), .sl 4 (b.map Bd.cells)] (.v (.bool (sameB a b))) := by
  refine APure.mkL (.cons (Bd.dataSl a) (.cons (Bd.dataSl b) .nil)) (.v _) ?_
  refine ACalls_intro Try.func33 (by kernel_rfl) rfl (by rw [Try.ntmps33]; simp) (fun hm => ?_)
  simp only [Try.ntmps33, Try.results33, List.length_cons, List.length_nil, Nat.reduceAdd, Nat.reduceSub, List.replicate_succ, List.replicate_zero, List.cons_append, List.nil_append]
  have hm1 := hm.len (sz := 4) (xs := a.map Bd.cells) (by simp)
  rw [List.length_map] at hm1
  refine AWp_seqK fun K1 hK1 => ?_
  refine AWp_region ?_
  simp only [↓aops, ↓aop, ↓aWant, ↓aVal, bS, bA, AV.flat, AV.cl, AV.one, Value.oneCell', thenQ, blockQ, noGotoQ, ↓reduceIte, Nat.reduceEqDiff, reduceCtorEq, tyX, Bd.take1, Bd.drop1, Bd.cells_len, Bd.one]
  refine hK1 _ ?_
  try clear hK1 K1
  refine AWp_seqK fun K2 hK2 => ?_
  refine AWp_seqK fun K3 hK3 => ?_
  refine AWp_region ?_
  refine aops_chunk 3 fun C4 hC4 => ?_
  simp only [bL, ↓aops, ↓aop, ↓aWant, ↓aVal, bS, bA, AV.flat, AV.cl, AV.one, Value.oneCell', thenQ, blockQ, noGotoQ, ↓reduceIte, Nat.reduceEqDiff, reduceCtorEq, aLen, ln53, List.length_map, tyX, Bd.take1, Bd.drop1, Bd.cells_len, Bd.one]
  refine hC4 _ ?_
  try clear hC4 C4
  simp only [bL]
  simp only [↓aops, ↓aop, ↓aWant, ↓aVal, bS, bA, AV.flat, AV.cl, AV.one, Value.oneCell', thenQ, blockQ, noGotoQ, ↓reduceIte, Nat.reduceEqDiff, reduceCtorEq, aLen, ln53, List.length_map, aBin, tyX, Bd.take1, Bd.drop1, Bd.cells_len, Bd.one]
  refine hK3 _ ?_
  try clear hK3 K3
  refine AWp_cond rfl (fun hb10 => ?_) (fun hb10 => ?_)
  · skip
    refine AWp_seqK fun K5 hK5 => ?_
    refine AWp_region ?_
    simp only [↓aops, ↓aop, ↓aWant, ↓aVal, bS, bA, AV.flat, AV.cl, AV.one, Value.oneCell', thenQ, blockQ, noGotoQ, ↓reduceIte, Nat.reduceEqDiff, reduceCtorEq, tyX, Bd.take1, Bd.drop1, Bd.cells_len, Bd.one]
    refine hK5 _ ?_
    try clear hK5 K5
    refine AWp_ret ?_
    simp only [thenQ, blockQ, noGotoQ, retQ, aRes, tupOf, bS, bA]
    refine Le.of_eq (congrArg (fun b => AV.v (.bool b)) ?_)
    unfold sameB
    first | (rw [eqF_len (ps := a) (qs := b) (by simp at hb10; omega)]; done) | (have h9 : (p.v == q.v && p.t.same q.t) = false := (by first | (have h8 := hb41; simp at h8; simp [h8]; done) | (have h8 := hc28; simp at h8; simp [h8]; done)); rw [eqF_false (f := fun x y : Bd => x.v == y.v && x.t.same y.t) hp hq h9]; done) | (rw [eqF_true hl fun k p q hp hq => hs.2 k p q (by have := (List.getElem?_eq_some_iff.1 hp).1; omega) hp hq]; done)
  · skip
    have hl : a.length = b.length := by simp at hb10; omega
    refine AWp_skip ?_
    simp only [thenQ, blockQ, noGotoQ]
    refine hK2 _ ?_
    try clear hK2 K2
    refine AWp_seqK fun K6 hK6 => ?_
    refine AWp_seqK fun K7 hK7 => ?_
    refine AWp_region ?_
    simp only [↓aops, ↓aop, ↓aWant, ↓aVal, bS, bA, AV.flat, AV.cl, AV.one, Value.oneCell', thenQ, blockQ, noGotoQ, ↓reduceIte, Nat.reduceEqDiff, reduceCtorEq, tyX, Bd.take1, Bd.drop1, Bd.cells_len, Bd.one]
    refine hK7 _ ?_
    try clear hK7 K7
    refine AWp_block ?_
    refine AWp_loopM (σ := Nat) [true, true, false, false, false, true, false, false, false, false, false, false, false, false, false, false, false, false, false, false, false, false, false, false, false, false, false, false, false, false, false, false, false, false, false, false, false, false, false, false, false, false] (fun s => s ≤ a.length ∧ ∀ (k : Nat) (x y : Bd), k < s → a[k]? = some x → b[k]? = some y → (x.v == y.v && x.t.same y.t) = true) (fun s => [(5, .v (.int .i64 (s : Int)))]) (fun s => []) (fun s => a.length - s) 0 (⟨by omega, fun k p q hk => by omega⟩) ?_ (fun s hs => ?_)
    · skip
      simp only [maskL, setsL, putsO, putO, bA, Nat.reduceEqDiff, ↓reduceIte]
      exact Weak.mk (by simp only [LeL, Le.refl, Le.any, Le.slNil, and_self, Int.natCast_add, Int.cast_ofNat_Int, Int.natCast_one]) (fun _ _ h => h) rfl rfl
    simp only [maskL, setsL, putsO, putO, bA, Nat.reduceEqDiff, ↓reduceIte]
    refine AWp_seqK fun K8 hK8 => ?_
    refine AWp_seqK fun K9 hK9 => ?_
    refine AWp_region ?_
    refine aops_chunk 3 fun C10 hC10 => ?_
    simp only [bL, ↓aops, ↓aop, ↓aWant, ↓aVal, bS, bA, AV.flat, AV.cl, AV.one, Value.oneCell', thenQ, blockQ, noGotoQ, ↓reduceIte, Nat.reduceEqDiff, reduceCtorEq, aLen, ln53, List.length_map, tyX, Bd.take1, Bd.drop1, Bd.cells_len, Bd.one]
    refine hC10 _ ?_
    try clear hC10 C10
    simp only [bL]
    simp only [↓aops, ↓aop, ↓aWant, ↓aVal, bS, bA, AV.flat, AV.cl, AV.one, Value.oneCell', thenQ, blockQ, noGotoQ, ↓reduceIte, Nat.reduceEqDiff, reduceCtorEq, aBin, tyX, Bd.take1, Bd.drop1, Bd.cells_len, Bd.one]
    refine hK9 _ ?_
    try clear hK9 K9
    refine AWp_cond rfl (fun hb14 => ?_) (fun hb14 => ?_)
    · skip
      have hk : s < a.length := by simpa using hb14
      obtain ⟨p, hp⟩ : ∃ p, a[s]? = some p := ⟨_, List.getElem?_eq_getElem hk⟩
      have hk2 : s < b.length := by omega
      obtain ⟨q, hq⟩ : ∃ q, b[s]? = some q := ⟨_, List.getElem?_eq_getElem hk2⟩
      have hw : IntKind.i64.wrap ((s : Int) + 1) = (s : Int) + 1 := wrap_in (by omega) (by simp only [maxLen] at hm1; omega)
      refine AWp_skip ?_
      simp only [thenQ, blockQ, noGotoQ]
      refine hK8 _ ?_
      try clear hK8 K8
      refine AWp_seqK fun K11 hK11 => ?_
      refine AWp_block ?_
      refine AWp_seqK fun K12 hK12 => ?_
      refine AWp_drawK 25 mixed (by kernel_rfl) fun K13 hK13 => ?_
      simp only [bL]
      refine dRun_chunk 3 fun C14 hC14 => ?_
      simp only [bL, ↓dRun, ↓dOp, ↓aops, ↓aop, ↓aWant, ↓aVal, bS, bA, AV.flat, AV.cl, AV.one, Value.oneCell', thenQ, blockQ, noGotoQ, ↓reduceIte, Nat.reduceEqDiff, reduceCtorEq, aIndexA, es53, Int.natCast_nonneg, Int.ofNat_lt, Int.toNat_natCast, List.length_map, Int.le_refl, Int.toNat_zero, Int.toNat_one, Int.reduceLE, tyX, Bd.take1, Bd.drop1, Bd.cells_len, Bd.one, hk, hk2, getD_map_cells hp, getD_map_cells hq, Int.natCast_add, Int.natCast_one, hw]
      refine hC14 _ ?_
      try clear hC14 C14
      simp only [bL]
      refine dRun_chunk 3 fun C15 hC15 => ?_
      simp only [bL, ↓dRun, ↓dOp, ↓aops, ↓aop, ↓aWant, ↓aVal, bS, bA, AV.flat, AV.cl, AV.one, Value.oneCell', thenQ, blockQ, noGotoQ, ↓reduceIte, Nat.reduceEqDiff, reduceCtorEq, aField, fo103_0, Nat.reduceAdd, aLoad, ti3, getO, pack, Nat.reduceLeDiff, tyX, Bd.take1, Bd.drop1, Bd.cells_len, Bd.one, hk, hk2, getD_map_cells hp, getD_map_cells hq, Int.natCast_add, Int.natCast_one, hw]
      refine hC15 _ ?_
      try clear hC15 C15
      simp only [bL]
      refine dRun_chunk 3 fun C16 hC16 => ?_
      simp only [bL, ↓dRun, ↓dOp, ↓aops, ↓aop, ↓aWant, ↓aVal, bS, bA, AV.flat, AV.cl, AV.one, Value.oneCell', thenQ, blockQ, noGotoQ, ↓reduceIte, Nat.reduceEqDiff, reduceCtorEq, aIndexA, es53, Int.natCast_nonneg, Int.ofNat_lt, Int.toNat_natCast, List.length_map, Int.le_refl, Int.toNat_zero, Int.toNat_one, Int.reduceLE, aField, fo103_0, Nat.reduceAdd, tyX, Bd.take1, Bd.drop1, Bd.cells_len, Bd.one, hk, hk2, getD_map_cells hp, getD_map_cells hq, Int.natCast_add, Int.natCast_one, hw]
      refine hC16 _ ?_
      try clear hC16 C16
      simp only [bL]
      refine dRun_chunk 3 fun C17 hC17 => ?_
      simp only [bL, ↓dRun, ↓dOp, ↓aops, ↓aop, ↓aWant, ↓aVal, bS, bA, AV.flat, AV.cl, AV.one, Value.oneCell', thenQ, blockQ, noGotoQ, ↓reduceIte, Nat.reduceEqDiff, reduceCtorEq, aLoad, ti3, getO, pack, Nat.reduceAdd, Nat.reduceLeDiff, aBin, tyX, Bd.take1, Bd.drop1, Bd.cells_len, Bd.one, hk, hk2, getD_map_cells hp, getD_map_cells hq, Int.natCast_add, Int.natCast_one, hw]
      refine hC17 _ ?_
      try clear hC17 C17
      simp only [bL]
      refine dRun_case 28 rfl (fun hc28 => ?_) (fun hc28 => ?_)
      · simp only [List.set_cons_zero, List.set_cons_succ]
        refine dRun_chunk 3 fun C18 hC18 => ?_
        simp only [bL, ↓dRun, ↓dOp, ↓aops, ↓aop, ↓aWant, ↓aVal, bS, bA, AV.flat, AV.cl, AV.one, Value.oneCell', thenQ, blockQ, noGotoQ, ↓reduceIte, Nat.reduceEqDiff, reduceCtorEq, undef, aIndexA, es53, Int.natCast_nonneg, Int.ofNat_lt, Int.toNat_natCast, List.length_map, Int.le_refl, Int.toNat_zero, Int.toNat_one, Int.reduceLE, tyX, Bd.take1, Bd.drop1, Bd.cells_len, Bd.one, hk, hk2, getD_map_cells hp, getD_map_cells hq, Int.natCast_add, Int.natCast_one, hw]
        refine hC18 _ ?_
        try clear hC18 C18
        simp only [bL]
        refine dRun_chunk 3 fun C19 hC19 => ?_
        simp only [bL, ↓dRun, ↓dOp, ↓aops, ↓aop, ↓aWant, ↓aVal, bS, bA, AV.flat, AV.cl, AV.one, Value.oneCell', thenQ, blockQ, noGotoQ, ↓reduceIte, Nat.reduceEqDiff, reduceCtorEq, undef, aField, fo103_1, Nat.reduceAdd, aLoad, ti32, getO, pack, Nat.reduceLeDiff, tyX, Bd.take1, Bd.drop1, Bd.cells_len, Bd.one, hk, hk2, getD_map_cells hp, getD_map_cells hq, Int.natCast_add, Int.natCast_one, hw]
        refine hC19 _ ?_
        try clear hC19 C19
        simp only [bL]
        refine dRun_chunk 3 fun C20 hC20 => ?_
        simp only [bL, ↓dRun, ↓dOp, ↓aops, ↓aop, ↓aWant, ↓aVal, bS, bA, AV.flat, AV.cl, AV.one, Value.oneCell', thenQ, blockQ, noGotoQ, ↓reduceIte, Nat.reduceEqDiff, reduceCtorEq, undef, aIndexA, es53, Int.natCast_nonneg, Int.ofNat_lt, Int.toNat_natCast, List.length_map, Int.le_refl, Int.toNat_zero, Int.toNat_one, Int.reduceLE, aField, fo103_1, Nat.reduceAdd, tyX, Bd.take1, Bd.drop1, Bd.cells_len, Bd.one, hk, hk2, getD_map_cells hp, getD_map_cells hq, Int.natCast_add, Int.natCast_one, hw]
        refine hC20 _ ?_
        try clear hC20 C20
        simp only [bL]
        refine dRun_chunk 3 fun C21 hC21 => ?_
        simp only [bL, ↓dRun, ↓dOp, ↓aops, ↓aop, ↓aWant, ↓aVal, bS, bA, AV.flat, AV.cl, AV.one, Value.oneCell', thenQ, blockQ, noGotoQ, ↓reduceIte, Nat.reduceEqDiff, reduceCtorEq, undef, aLoad, ti32, getO, pack, Nat.reduceAdd, Nat.reduceLeDiff, aCallV, aUn, tyX, Bd.take1, Bd.drop1, Bd.cells_len, Bd.one, hk, hk2, getD_map_cells hp, getD_map_cells hq, Int.natCast_add, Int.natCast_one, hw]
        refine hC21 _ ?_
        try clear hC21 C21
        simp only [bL]
        simp only [↓dRun, ↓dOp, bL, ↓aops, ↓aop, ↓aWant, ↓aVal, bS, bA, AV.flat, AV.cl, AV.one, Value.oneCell', thenQ, blockQ, noGotoQ, ↓reduceIte, Nat.reduceEqDiff, reduceCtorEq, aBool, tyX, Bd.take1, Bd.drop1, Bd.cells_len, Bd.one, hk, hk2, getD_map_cells hp, getD_map_cells hq, Int.natCast_add, Int.natCast_one, hw]
        refine hK13 _ ?_
        try clear hK13 K13
        simp only [bL, aops, thenQ, blockQ, noGotoQ]
        refine hK12 _ ?_
        try clear hK12 K12
        refine AWp_cond (b := true) (by first | exact rfl | exact congrArg (fun b => AV.v (.bool b)) hb41) (fun _ => ?_) (fun h => (by cases h))
        refine AWp_seqK fun K22 hK22 => ?_
        refine AWp_region ?_
        simp only [↓aops, ↓aop, ↓aWant, ↓aVal, bS, bA, AV.flat, AV.cl, AV.one, Value.oneCell', thenQ, blockQ, noGotoQ, ↓reduceIte, Nat.reduceEqDiff, reduceCtorEq, tyX, Bd.take1, Bd.drop1, Bd.cells_len, Bd.one, hk, hk2, getD_map_cells hp, getD_map_cells hq, Int.natCast_add, Int.natCast_one, hw]
        refine hK22 _ ?_
        try clear hK22 K22
        refine AWp_ret ?_
        simp only [thenQ, blockQ, noGotoQ, retQ, aRes, tupOf, bS, bA]
        refine Le.of_eq (congrArg (fun b => AV.v (.bool b)) ?_)
        unfold sameB
        first | (rw [eqF_len (ps := a) (qs := b) (by simp at hb10; omega)]; done) | (have h9 : (p.v == q.v && p.t.same q.t) = false := (by first | (have h8 := hb41; simp at h8; simp [h8]; done) | (have h8 := hc28; simp at h8; simp [h8]; done)); rw [eqF_false (f := fun x y : Bd => x.v == y.v && x.t.same y.t) hp hq h9]; done) | (rw [eqF_true hl fun k p q hp hq => hs.2 k p q (by have := (List.getElem?_eq_some_iff.1 hp).1; omega) hp hq]; done)
      · simp only [List.set_cons_zero, List.set_cons_succ]
        refine dRun_chunk 3 fun C23 hC23 => ?_
        simp only [bL, ↓dRun, ↓dOp, ↓aops, ↓aop, ↓aWant, ↓aVal, bS, bA, AV.flat, AV.cl, AV.one, Value.oneCell', thenQ, blockQ, noGotoQ, ↓reduceIte, Nat.reduceEqDiff, reduceCtorEq, undef, aIndexA, es53, Int.natCast_nonneg, Int.ofNat_lt, Int.toNat_natCast, List.length_map, Int.le_refl, Int.toNat_zero, Int.toNat_one, Int.reduceLE, tyX, Bd.take1, Bd.drop1, Bd.cells_len, Bd.one, hk, hk2, getD_map_cells hp, getD_map_cells hq, Int.natCast_add, Int.natCast_one, hw]
        refine hC23 _ ?_
        try clear hC23 C23
        simp only [bL]
        refine dRun_chunk 3 fun C24 hC24 => ?_
        simp only [bL, ↓dRun, ↓dOp, ↓aops, ↓aop, ↓aWant, ↓aVal, bS, bA, AV.flat, AV.cl, AV.one, Value.oneCell', thenQ, blockQ, noGotoQ, ↓reduceIte, Nat.reduceEqDiff, reduceCtorEq, undef, aField, fo103_1, Nat.reduceAdd, aLoad, ti32, getO, pack, Nat.reduceLeDiff, tyX, Bd.take1, Bd.drop1, Bd.cells_len, Bd.one, hk, hk2, getD_map_cells hp, getD_map_cells hq, Int.natCast_add, Int.natCast_one, hw]
        refine hC24 _ ?_
        try clear hC24 C24
        simp only [bL]
        refine dRun_chunk 3 fun C25 hC25 => ?_
        simp only [bL, ↓dRun, ↓dOp, ↓aops, ↓aop, ↓aWant, ↓aVal, bS, bA, AV.flat, AV.cl, AV.one, Value.oneCell', thenQ, blockQ, noGotoQ, ↓reduceIte, Nat.reduceEqDiff, reduceCtorEq, undef, aIndexA, es53, Int.natCast_nonneg, Int.ofNat_lt, Int.toNat_natCast, List.length_map, Int.le_refl, Int.toNat_zero, Int.toNat_one, Int.reduceLE, aField, fo103_1, Nat.reduceAdd, tyX, Bd.take1, Bd.drop1, Bd.cells_len, Bd.one, hk, hk2, getD_map_cells hp, getD_map_cells hq, Int.natCast_add, Int.natCast_one, hw]
        refine hC25 _ ?_
        try clear hC25 C25
        simp only [bL]
        refine dRun_chunk 1 fun C26 hC26 => ?_
        simp only [bL, ↓dRun, ↓dOp, ↓aops, ↓aop, ↓aWant, ↓aVal, bS, bA, AV.flat, AV.cl, AV.one, Value.oneCell', thenQ, blockQ, noGotoQ, ↓reduceIte, Nat.reduceEqDiff, reduceCtorEq, undef, aLoad, ti32, getO, pack, Nat.reduceAdd, Nat.reduceLeDiff, tyX, Bd.take1, Bd.drop1, Bd.cells_len, Bd.one, hk, hk2, getD_map_cells hp, getD_map_cells hq, Int.natCast_add, Int.natCast_one, hw]
        refine hC26 _ ?_
        try clear hC26 C26
        simp only [bL]
        refine dRun_chunk 1 fun C27 hC27 => ?_
        simp only [bL, ↓dRun, ↓dOp, ↓aops, ↓aop, ↓aWant, ↓aVal, bS, bA, AV.flat, AV.cl, AV.one, Value.oneCell', thenQ, blockQ, noGotoQ, ↓reduceIte, Nat.reduceEqDiff, reduceCtorEq, undef, aCallV, tyX, Bd.take1, Bd.drop1, Bd.cells_len, Bd.one, hk, hk2, getD_map_cells hp, getD_map_cells hq, Int.natCast_add, Int.natCast_one, hw]
        refine ⟨_, Same_pure p.t q.t, ?_⟩
        try simp only [bS, bA, thenQ, blockQ, noGotoQ]
        refine hC27 _ ?_
        try clear hC27 C27
        simp only [bL]
        simp only [↓dRun, ↓dOp, bL, ↓aops, ↓aop, ↓aWant, ↓aVal, bS, bA, AV.flat, AV.cl, AV.one, Value.oneCell', thenQ, blockQ, noGotoQ, ↓reduceIte, Nat.reduceEqDiff, reduceCtorEq, undef, aUn, aBool, tyX, Bd.take1, Bd.drop1, Bd.cells_len, Bd.one, hk, hk2, getD_map_cells hp, getD_map_cells hq, Int.natCast_add, Int.natCast_one, hw]
        refine hK13 _ ?_
        try clear hK13 K13
        simp only [bL, aops, thenQ, blockQ, noGotoQ]
        refine hK12 _ ?_
        try clear hK12 K12
        refine AWp_cond rfl (fun hb41 => ?_) (fun hb41 => ?_)
        · skip
          refine AWp_seqK fun K28 hK28 => ?_
          refine AWp_region ?_
          simp only [↓aops, ↓aop, ↓aWant, ↓aVal, bS, bA, AV.flat, AV.cl, AV.one, Value.oneCell', thenQ, blockQ, noGotoQ, ↓reduceIte, Nat.reduceEqDiff, reduceCtorEq, tyX, Bd.take1, Bd.drop1, Bd.cells_len, Bd.one, hk, hk2, getD_map_cells hp, getD_map_cells hq, Int.natCast_add, Int.natCast_one, hw]
          refine hK28 _ ?_
          try clear hK28 K28
          refine AWp_ret ?_
          simp only [thenQ, blockQ, noGotoQ, retQ, aRes, tupOf, bS, bA]
          refine Le.of_eq (congrArg (fun b => AV.v (.bool b)) ?_)
          unfold sameB
          first | (rw [eqF_len (ps := a) (qs := b) (by simp at hb10; omega)]; done) | (have h9 : (p.v == q.v && p.t.same q.t) = false := (by first | (have h8 := hb41; simp at h8; simp [h8]; done) | (have h8 := hc28; simp at h8; simp [h8]; done)); rw [eqF_false (f := fun x y : Bd => x.v == y.v && x.t.same y.t) hp hq h9]; done) | (rw [eqF_true hl fun k p q hp hq => hs.2 k p q (by have := (List.getElem?_eq_some_iff.1 hp).1; omega) hp hq]; done)
        · skip
          refine AWp_skip ?_
          simp only [thenQ, blockQ, noGotoQ]
          refine hK11 _ ?_
          try clear hK11 K11
          refine AWp_region ?_
          simp only [↓aops, ↓aop, ↓aWant, ↓aVal, bS, bA, AV.flat, AV.cl, AV.one, Value.oneCell', thenQ, blockQ, noGotoQ, ↓reduceIte, Nat.reduceEqDiff, reduceCtorEq, aBin, tyX, Bd.take1, Bd.drop1, Bd.cells_len, Bd.one, hk, hk2, getD_map_cells hp, getD_map_cells hq, Int.natCast_add, Int.natCast_one, hw]
          refine ⟨(s + 1), ⟨by omega, fun k p' q' hi h1 h2 => (by rcases Nat.lt_or_ge k s with h3 | h3 <;> first | exact hs.2 k p' q' h3 h1 h2 | (obtain rfl : k = s := (by omega); rw [hp] at h1; rw [hq] at h2; cases h1; cases h2; simp at hc28 hb41; simp [hc28, hb41]))⟩, by omega, ?_⟩
          simp only [maskL, setsL, putsO, putO, bA, Nat.reduceEqDiff, ↓reduceIte, hk, hk2, getD_map_cells hp, getD_map_cells hq, Int.natCast_add, Int.natCast_one, hw]
          exact Weak.mk (by simp only [LeL, Le.refl, Le.any, Le.slNil, and_self, Int.natCast_add, Int.cast_ofNat_Int, Int.natCast_one]) (fun _ _ h => h) rfl rfl
    · skip
      have hk : s = a.length := by have := hs.1; simp at hb14; omega
      refine AWp_exit ?_
      simp only [thenQ, blockQ, noGotoQ, bA, Nat.reduceEqDiff, ↓reduceIte]
      refine hK6 _ ?_
      try clear hK6 K6
      refine AWp_seqK fun K29 hK29 => ?_
      refine AWp_region ?_
      simp only [↓aops, ↓aop, ↓aWant, ↓aVal, bS, bA, AV.flat, AV.cl, AV.one, Value.oneCell', thenQ, blockQ, noGotoQ, ↓reduceIte, Nat.reduceEqDiff, reduceCtorEq, tyX, Bd.take1, Bd.drop1, Bd.cells_len, Bd.one]
      refine hK29 _ ?_
      try clear hK29 K29
      refine AWp_ret ?_
      simp only [thenQ, blockQ, noGotoQ, retQ, aRes, tupOf, bS, bA]
      refine Le.of_eq (congrArg (fun b => AV.v (.bool b)) ?_)
      unfold sameB
      first | (rw [eqF_len (ps := a) (qs := b) (by simp at hb10; omega)]; done) | (have h9 : (p.v == q.v && p.t.same q.t) = false := (by first | (have h8 := hb41; simp at h8; simp [h8]; done) | (have h8 := hc28; simp at h8; simp [h8]; done)); rw [eqF_false (f := fun x y : Bd => x.v == y.v && x.t.same y.t) hp hq h9]; done) | (rw [eqF_true hl fun k p q hp hq => hs.2 k p q (by have := (List.getElem?_eq_some_iff.1 hp).1; omega) hp hq]; done)
end Go.Proofs.Ytohdoloalolpfaa
