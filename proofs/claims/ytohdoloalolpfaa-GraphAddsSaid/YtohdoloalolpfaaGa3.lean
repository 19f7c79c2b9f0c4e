import Derived.Test.YtohdoloalolpfaaGaL
import Derived.Test.YtohdoloalolpfaaGr7
import Derived.Test.YtohdoloalolpfaaAb26
namespace Go.Proofs.Ytohdoloalolpfaa
open Go Go.RowKit
set_option maxRecDepth 100000
set_option maxHeartbeats 1000000
set_option linter.unusedSimpArgs false
set_option linter.unusedVariables false
attribute [local irreducible] aops dRun
theorem GraphAdds_pure (ps : List Ty) (ask : Int) : APure Try.prog 5 [.sl 3 (ps.map Ty.cells), .v (.int .i64 ask)] (.v (.bool true)) := by
  refine APure.mkL (.cons (Ty.dataSl ps) (.cons (.v _) .nil)) (.v _) ?_
  refine ACalls_intro Try.func5 (by kernel_rfl) rfl (by rw [Try.ntmps5]; simp) (fun hm => ?_)
  simp only [Try.ntmps5, Try.results5, List.length_cons, List.length_nil, Nat.reduceAdd, Nat.reduceSub, List.replicate_succ, List.replicate_zero, List.cons_append, List.nil_append]
  refine AWp_seqK fun K1 hK1 => ?_
  refine AWp_region ?_
  simp only [↓aops, ↓aop, ↓aWant, ↓aVal, bS, bA, AV.flat, AV.cl, AV.one, Value.oneCell', thenQ, blockQ, noGotoQ, ↓reduceIte, Nat.reduceEqDiff, reduceCtorEq, tyX, List.length_map, intC]
  refine hK1 _ ?_
  try clear hK1 K1
  refine AWp_seqK fun K2 hK2 => ?_
  refine AWp_seqK fun K3 hK3 => ?_
  refine AWp_region ?_
  refine aops_chunk 1 fun C4 hC4 => ?_
  simp only [bL, ↓aops, ↓aop, ↓aWant, ↓aVal, bS, bA, AV.flat, AV.cl, AV.one, Value.oneCell', thenQ, blockQ, noGotoQ, ↓reduceIte, Nat.reduceEqDiff, reduceCtorEq, tyX, List.length_map, intC]
  refine hC4 _ ?_
  try clear hC4 C4
  simp only [bL]
  simp only [↓aops, ↓aop, ↓aWant, ↓aVal, bS, bA, AV.flat, AV.cl, AV.one, Value.oneCell', thenQ, blockQ, noGotoQ, ↓reduceIte, Nat.reduceEqDiff, reduceCtorEq, aCallV, bL, tyX, List.length_map, intC]
  refine APure.call (Great11_pure ps) ?_
  try simp only [bS, bA, thenQ, blockQ, noGotoQ]
  refine hK3 _ ?_
  try clear hK3 K3
  refine AWp_cond rfl (fun hb17 => ?_) (fun hb17 => ?_)
  · skip
    refine AWp_seqK fun K5 hK5 => ?_
    refine AWp_region ?_
    refine aops_chunk 1 fun C6 hC6 => ?_
    simp only [bL, ↓aops, ↓aop, ↓aWant, ↓aVal, bS, bA, AV.flat, AV.cl, AV.one, Value.oneCell', thenQ, blockQ, noGotoQ, ↓reduceIte, Nat.reduceEqDiff, reduceCtorEq, aCallV, tyX, List.length_map, intC]
    refine APure.call (awake_pure) ?_
    try simp only [bS, bA, thenQ, blockQ, noGotoQ]
    refine hC6 _ ?_
    try clear hC6 C6
    simp only [bL]
    simp only [↓aops, ↓aop, ↓aWant, ↓aVal, bS, bA, AV.flat, AV.cl, AV.one, Value.oneCell', thenQ, blockQ, noGotoQ, ↓reduceIte, Nat.reduceEqDiff, reduceCtorEq, tyX, List.length_map, intC]
    refine hK5 _ ?_
    try clear hK5 K5
    refine AWp_ret ?_
    try simp only [thenQ, blockQ, noGotoQ, retQ, aRes, tupOf, bS, bA]
    exact Le.refl _
  · skip
    have hg : greatL ps = false := hb17
    obtain ⟨hg1, hg2, hg3⟩ := greatL_spec hg
    have hcs : ∀ t ∈ ps, t.cnt ≤ 400 := fun t ht => by have := Ty.great_cnt (hg3 t ht); omega
    have hI := bothF_inv ps hcs ps.length (Nat.le_refl _)
    have hK := bothF_keys ps hcs ps.length (Nat.le_refl _)
    rw [List.take_length] at hI hK
    have hrl := hI.rel
    have hln := hrl.len
    have hlc := hI.len
    have hwf := hrl.wf
    have hvv : varsI (bothF ps).m = sortI ((bothF ps).G.V.map Prod.fst) := by rw [varsI_eq, hK]
    have hkl : (bothF ps).G.V.length = (vns (bothF ps).m).length := by rw [← hK, List.length_map]
    have hvl : (vns (bothF ps).m).length ≤ (bothF ps).m.length := by (unfold vns; rw [List.length_map]; exact List.length_filter_le _ _)
    have h64 : ∀ q ∈ (bothF ps).G.V, is64 q.1 := fun q hq => vns_64 hrl q.1 (by rw [← hK]; exact List.mem_map.2 ⟨q, hq, rfl⟩)
    obtain ⟨hask1, hask2⟩ := hrl.ask ask
    have hko : kindG (bothF ps).G ((bothF ps).m.length : Int) = 0 := kindG_out (by omega)
    have hkm : kindG (bothF ps).G (-1) = 0 := kindG_out (by omega)
    have hno : nameG (bothF ps).G ((bothF ps).m.length : Int) = (0, false) := by rw [nameG, if_neg (by rw [hko]; decide)]
    have hpo : (bothF ps).G.parts ((bothF ps).m.length : Int) = [] := GS.parts_out (by omega)
    refine AWp_skip ?_
    try simp only [thenQ, blockQ, noGotoQ]
    refine hK2 _ ?_
    try clear hK2 K2
    refine AWp_seqK fun K7 hK7 => ?_
    refine AWp_region ?_
    refine aops_chunk 1 fun C8 hC8 => ?_
    simp only [bL, ↓aops, ↓aop, ↓aWant, ↓aVal, bS, bA, AV.flat, AV.cl, AV.one, Value.oneCell', thenQ, blockQ, noGotoQ, ↓reduceIte, Nat.reduceEqDiff, reduceCtorEq, tyX, List.length_map, intC]
    refine hC8 _ ?_
    try clear hC8 C8
    simp only [bL]
    refine aops_chunk 1 fun C9 hC9 => ?_
    simp only [bL, ↓aops, ↓aop, ↓aWant, ↓aVal, bS, bA, AV.flat, AV.cl, AV.one, Value.oneCell', thenQ, blockQ, noGotoQ, ↓reduceIte, Nat.reduceEqDiff, reduceCtorEq, aCallV, tyX, List.length_map, intC]
    refine (both_calls ps hg).mono ?_
    rintro r os' nx' ⟨⟨rfl, rfl⟩, rfl⟩
    simp only [gO]
    try simp only [bS, bA, thenQ, blockQ, noGotoQ]
    refine hC9 _ ?_
    try clear hC9 C9
    simp only [bL]
    refine aops_chunk 1 fun C10 hC10 => ?_
    simp only [bL, ↓aops, ↓aop, ↓aWant, ↓aVal, bS, bA, AV.flat, AV.cl, AV.one, Value.oneCell', thenQ, blockQ, noGotoQ, ↓reduceIte, Nat.reduceEqDiff, reduceCtorEq, tyX, List.length_map, intC]
    refine hC10 _ ?_
    try clear hC10 C10
    simp only [bL]
    refine aops_chunk 1 fun C11 hC11 => ?_
    simp only [bL, ↓aops, ↓aop, ↓aWant, ↓aVal, bS, bA, AV.flat, AV.cl, AV.one, Value.oneCell', thenQ, blockQ, noGotoQ, ↓reduceIte, Nat.reduceEqDiff, reduceCtorEq, aExtract, Nat.reduceAdd, Nat.reduceLT, Nat.zero_lt_succ, tyX, List.length_map, intC]
    refine hC11 _ ?_
    try clear hC11 C11
    simp only [bL]
    refine aops_chunk 1 fun C12 hC12 => ?_
    simp only [bL, ↓aops, ↓aop, ↓aWant, ↓aVal, bS, bA, AV.flat, AV.cl, AV.one, Value.oneCell', thenQ, blockQ, noGotoQ, ↓reduceIte, Nat.reduceEqDiff, reduceCtorEq, aExtract, Nat.reduceAdd, Nat.reduceLT, Nat.zero_lt_succ, tyX, List.length_map, intC]
    refine hC12 _ ?_
    try clear hC12 C12
    simp only [bL]
    refine aops_chunk 1 fun C13 hC13 => ?_
    simp only [bL, ↓aops, ↓aop, ↓aWant, ↓aVal, bS, bA, AV.flat, AV.cl, AV.one, Value.oneCell', thenQ, blockQ, noGotoQ, ↓reduceIte, Nat.reduceEqDiff, reduceCtorEq, aExtract, Nat.reduceAdd, Nat.reduceLT, Nat.zero_lt_succ, tyX, List.length_map, intC]
    refine hC13 _ ?_
    try clear hC13 C13
    simp only [bL]
    refine aops_chunk 1 fun C14 hC14 => ?_
    simp only [bL, ↓aops, ↓aop, ↓aWant, ↓aVal, bS, bA, AV.flat, AV.cl, AV.one, Value.oneCell', thenQ, blockQ, noGotoQ, ↓reduceIte, Nat.reduceEqDiff, reduceCtorEq, aExtract, Nat.reduceAdd, Nat.reduceLT, Nat.zero_lt_succ, tyX, List.length_map, intC]
    refine hC14 _ ?_
    try clear hC14 C14
    simp only [bL]
    refine aops_chunk 1 fun C15 hC15 => ?_
    simp only [bL, ↓aops, ↓aop, ↓aWant, ↓aVal, bS, bA, AV.flat, AV.cl, AV.one, Value.oneCell', thenQ, blockQ, noGotoQ, ↓reduceIte, Nat.reduceEqDiff, reduceCtorEq, tyX, List.length_map, intC]
    refine hC15 _ ?_
    try clear hC15 C15
    simp only [bL]
    refine aops_chunk 1 fun C16 hC16 => ?_
    simp only [bL, ↓aops, ↓aop, ↓aWant, ↓aVal, bS, bA, AV.flat, AV.cl, AV.one, Value.oneCell', thenQ, blockQ, noGotoQ, ↓reduceIte, Nat.reduceEqDiff, reduceCtorEq, tyX, List.length_map, intC]
    refine hC16 _ ?_
    try clear hC16 C16
    simp only [bL]
    refine aops_chunk 1 fun C17 hC17 => ?_
    simp only [bL, ↓aops, ↓aop, ↓aWant, ↓aVal, bS, bA, AV.flat, AV.cl, AV.one, Value.oneCell', thenQ, blockQ, noGotoQ, ↓reduceIte, Nat.reduceEqDiff, reduceCtorEq, tyX, List.length_map, intC]
    refine hC17 _ ?_
    try clear hC17 C17
    simp only [bL]
    simp only [↓aops, ↓aop, ↓aWant, ↓aVal, bS, bA, AV.flat, AV.cl, AV.one, Value.oneCell', thenQ, blockQ, noGotoQ, ↓reduceIte, Nat.reduceEqDiff, reduceCtorEq, tyX, List.length_map, intC]
    refine hK7 _ ?_
    try clear hK7 K7
    refine AWp_seqK fun K18 hK18 => ?_
    refine AWp_seqK fun K19 hK19 => ?_
    refine AWp_region ?_
    refine aops_chunk 1 fun C20 hC20 => ?_
    simp only [bL, ↓aops, ↓aop, ↓aWant, ↓aVal, bS, bA, AV.flat, AV.cl, AV.one, Value.oneCell', thenQ, blockQ, noGotoQ, ↓reduceIte, Nat.reduceEqDiff, reduceCtorEq, tyX, List.length_map, intC]
    refine hC20 _ ?_
    try clear hC20 C20
    simp only [bL]
    refine aops_chunk 1 fun C21 hC21 => ?_
    simp only [bL, ↓aops, ↓aop, ↓aWant, ↓aVal, bS, bA, AV.flat, AV.cl, AV.one, Value.oneCell', thenQ, blockQ, noGotoQ, ↓reduceIte, Nat.reduceEqDiff, reduceCtorEq, aUn, tyX, List.length_map, intC]
    refine hC21 _ ?_
    try clear hC21 C21
    simp only [bL]
    refine aops_chunk 1 fun C22 hC22 => ?_
    simp only [bL, ↓aops, ↓aop, ↓aWant, ↓aVal, bS, bA, AV.flat, AV.cl, AV.one, Value.oneCell', thenQ, blockQ, noGotoQ, ↓reduceIte, Nat.reduceEqDiff, reduceCtorEq, tyX, List.length_map, intC]
    refine hC22 _ ?_
    try clear hC22 C22
    simp only [bL]
    refine aops_case 28 rfl (fun hc28 => ?_) (fun hc28 => ?_)
    · simp only [List.set_cons_zero, List.set_cons_succ]
      exact absurd hc28 (by simp)
    · simp only [List.set_cons_zero, List.set_cons_succ]
      refine aops_chunk 1 fun C23 hC23 => ?_
      simp only [bL, ↓aops, ↓aop, ↓aWant, ↓aVal, bS, bA, AV.flat, AV.cl, AV.one, Value.oneCell', thenQ, blockQ, noGotoQ, ↓reduceIte, Nat.reduceEqDiff, reduceCtorEq, undef, tyX, List.length_map, intC]
      refine hC23 _ ?_
      try clear hC23 C23
      simp only [bL]
      refine aops_chunk 1 fun C24 hC24 => ?_
      simp only [bL, ↓aops, ↓aop, ↓aWant, ↓aVal, bS, bA, AV.flat, AV.cl, AV.one, Value.oneCell', thenQ, blockQ, noGotoQ, ↓reduceIte, Nat.reduceEqDiff, reduceCtorEq, undef, aCallV, tyX, List.length_map, intC]
      refine GCalls.at (Len_calls (bothF ps).G) (.nil) (.v _) (i := 1) (j := 2) (k := 0) rfl rfl rfl (by decide) (by decide) (by decide) (by first | omega | (simp only; omega)) (by first | omega | (simp only; omega)) (by first | omega | (simp only; omega)) ?_
      simp only [putO, Nat.reduceEqDiff, ↓reduceIte]
      try simp only [bS, bA, thenQ, blockQ, noGotoQ]
      refine hC24 _ ?_
      try clear hC24 C24
      simp only [bL]
      refine aops_chunk 1 fun C25 hC25 => ?_
      simp only [bL, ↓aops, ↓aop, ↓aWant, ↓aVal, bS, bA, AV.flat, AV.cl, AV.one, Value.oneCell', thenQ, blockQ, noGotoQ, ↓reduceIte, Nat.reduceEqDiff, reduceCtorEq, undef, tyX, List.length_map, intC]
      refine hC25 _ ?_
      try clear hC25 C25
      simp only [bL]
      refine aops_chunk 1 fun C26 hC26 => ?_
      simp only [bL, ↓aops, ↓aop, ↓aWant, ↓aVal, bS, bA, AV.flat, AV.cl, AV.one, Value.oneCell', thenQ, blockQ, noGotoQ, ↓reduceIte, Nat.reduceEqDiff, reduceCtorEq, undef, getO, aLenX, aLen, ln27, List.length_map, tyX, intC]
      refine hC26 _ ?_
      try clear hC26 C26
      simp only [bL]
      refine aops_chunk 1 fun C27 hC27 => ?_
      simp only [bL, ↓aops, ↓aop, ↓aWant, ↓aVal, bS, bA, AV.flat, AV.cl, AV.one, Value.oneCell', thenQ, blockQ, noGotoQ, ↓reduceIte, Nat.reduceEqDiff, reduceCtorEq, undef, aBin, tyX, List.length_map, intC]
      refine hC27 _ ?_
      try clear hC27 C27
      simp only [bL]
      refine aops_chunk 1 fun C28 hC28 => ?_
      simp only [bL, ↓aops, ↓aop, ↓aWant, ↓aVal, bS, bA, AV.flat, AV.cl, AV.one, Value.oneCell', thenQ, blockQ, noGotoQ, ↓reduceIte, Nat.reduceEqDiff, reduceCtorEq, aBool, tyX, List.length_map, intC]
      refine hC28 _ ?_
      try clear hC28 C28
      simp only [bL]
      refine aops_chunk 1 fun C29 hC29 => ?_
      simp only [bL, ↓aops, ↓aop, ↓aWant, ↓aVal, bS, bA, AV.flat, AV.cl, AV.one, Value.oneCell', thenQ, blockQ, noGotoQ, ↓reduceIte, Nat.reduceEqDiff, reduceCtorEq, tyX, List.length_map, intC]
      refine hC29 _ ?_
      try clear hC29 C29
      simp only [bL]
      refine aops_case 35 rfl (fun hc35 => ?_) (fun hc35 => ?_)
      · simp only [List.set_cons_zero, List.set_cons_succ]
        exact absurd hc35 (by simp [hln])
      · simp only [List.set_cons_zero, List.set_cons_succ]
        refine aops_chunk 1 fun C30 hC30 => ?_
        simp only [bL, ↓aops, ↓aop, ↓aWant, ↓aVal, bS, bA, AV.flat, AV.cl, AV.one, Value.oneCell', thenQ, blockQ, noGotoQ, ↓reduceIte, Nat.reduceEqDiff, reduceCtorEq, undef, tyX, List.length_map, intC]
        refine hC30 _ ?_
        try clear hC30 C30
        simp only [bL]
        refine aops_chunk 1 fun C31 hC31 => ?_
        simp only [bL, ↓aops, ↓aop, ↓aWant, ↓aVal, bS, bA, AV.flat, AV.cl, AV.one, Value.oneCell', thenQ, blockQ, noGotoQ, ↓reduceIte, Nat.reduceEqDiff, reduceCtorEq, undef, aCallV, tyX, List.length_map, intC]
        refine GCalls.at (GVars_calls (bothF ps).G h64 (by omega)) (.nil) (dataInts _) (i := 1) (j := 2) (k := 0) rfl rfl rfl (by decide) (by decide) (by decide) (by first | omega | (simp only; omega)) (by first | omega | (simp only; omega)) (by first | omega | (simp only; omega)) ?_
        simp only [putO, Nat.reduceEqDiff, ↓reduceIte]
        try simp only [bS, bA, thenQ, blockQ, noGotoQ]
        refine hC31 _ ?_
        try clear hC31 C31
        simp only [bL]
        refine aops_chunk 1 fun C32 hC32 => ?_
        simp only [bL, ↓aops, ↓aop, ↓aWant, ↓aVal, bS, bA, AV.flat, AV.cl, AV.one, Value.oneCell', thenQ, blockQ, noGotoQ, ↓reduceIte, Nat.reduceEqDiff, reduceCtorEq, undef, tyX, List.length_map, intC]
        refine hC32 _ ?_
        try clear hC32 C32
        simp only [bL]
        refine aops_chunk 1 fun C33 hC33 => ?_
        simp only [bL, ↓aops, ↓aop, ↓aWant, ↓aVal, bS, bA, AV.flat, AV.cl, AV.one, Value.oneCell', thenQ, blockQ, noGotoQ, ↓reduceIte, Nat.reduceEqDiff, reduceCtorEq, undef, aCallV, tyX, List.length_map, intC]
        refine APure.call (RGVars_pure (bothF ps).m (by omega)) ?_
        try simp only [bS, bA, thenQ, blockQ, noGotoQ]
        refine hC33 _ ?_
        try clear hC33 C33
        simp only [bL]
        refine aops_chunk 1 fun C34 hC34 => ?_
        simp only [bL, ↓aops, ↓aop, ↓aWant, ↓aVal, bS, bA, AV.flat, AV.cl, AV.one, Value.oneCell', thenQ, blockQ, noGotoQ, ↓reduceIte, Nat.reduceEqDiff, reduceCtorEq, undef, aCallV, tyX, List.length_map, intC]
        refine APure.call (Ints_pure (sortI ((bothF ps).G.V.map Prod.fst)) (varsI (bothF ps).m)) ?_
        try simp only [bS, bA, thenQ, blockQ, noGotoQ]
        refine hC34 _ ?_
        try clear hC34 C34
        simp only [bL]
        refine aops_chunk 1 fun C35 hC35 => ?_
        simp only [bL, ↓aops, ↓aop, ↓aWant, ↓aVal, bS, bA, AV.flat, AV.cl, AV.one, Value.oneCell', thenQ, blockQ, noGotoQ, ↓reduceIte, Nat.reduceEqDiff, reduceCtorEq, undef, aUn, tyX, List.length_map, intC]
        refine hC35 _ ?_
        try clear hC35 C35
        simp only [bL]
        simp only [↓aops, ↓aop, ↓aWant, ↓aVal, bS, bA, AV.flat, AV.cl, AV.one, Value.oneCell', thenQ, blockQ, noGotoQ, ↓reduceIte, Nat.reduceEqDiff, reduceCtorEq, aBool, tyX, List.length_map, intC]
        refine hK19 _ ?_
        try clear hK19 K19
        refine AWp_cond rfl (fun hb42 => ?_) (fun hb42 => ?_)
        · skip
          exact absurd hb42 (by simp [hvv])
        · skip
          refine AWp_skip ?_
          try simp only [thenQ, blockQ, noGotoQ]
          refine hK18 _ ?_
          try clear hK18 K18
          refine AWp_seqK fun K36 hK36 => ?_
          refine AWp_seqK fun K37 hK37 => ?_
          refine AWp_region ?_
          simp only [↓aops, ↓aop, ↓aWant, ↓aVal, bS, bA, AV.flat, AV.cl, AV.one, Value.oneCell', thenQ, blockQ, noGotoQ, ↓reduceIte, Nat.reduceEqDiff, reduceCtorEq, tyX, List.length_map, intC]
          refine hK37 _ ?_
          try clear hK37 K37
          refine AWp_block ?_
          refine AWp_loopM (σ := Nat) [false, true, false, false, false, true, true, false, false, true, false, false, false, false, false, false, false, false, false, false, false, false, false, false, false, false, false, false, false, false, false, false, false, false, false, false, false, false, false, false, false, false, false, false, false, false, false, false, false, false, false, false, false, false, false, false, false, false, false, false, false, false, false, false, false, false, false, false, false, false, false, false, false, false, false, false, false, false, false, false, false, false, false, false, false, false, false, false, false, false, false, false, false, false, false, false, false, false, false, false, false, false, false, false, false, false, false, false, false, false, false, false, false, false, false, false, false, false, false, false, false, false, false, false, false, false, false, false, false, false, false, false, false, false, false, false, false, false, false, false, false, false, false, false, false, false, false, false, false, false, false, false, false, false, false] (fun s => s ≤ (bothF ps).m.length) (fun s => [(9, .v (.int .i64 (s : Int)))]) (fun s => []) (fun s => (bothF ps).m.length - s) 0 (by omega) ?_ (fun s hs => ?_)
          · skip
            simp only [maskL, setsL, putsO, putO, bA, Nat.reduceEqDiff, ↓reduceIte]
            exact Weak.mk (by simp only [LeL, Le.refl, Le.any, Le.slNil, and_self, Int.natCast_add, Int.cast_ofNat_Int, Int.natCast_one]) (fun _ _ h => h) rfl rfl
          simp only [maskL, setsL, putsO, putO, bA, Nat.reduceEqDiff, ↓reduceIte]
          refine AWp_seqK fun K38 hK38 => ?_
          refine AWp_seqK fun K39 hK39 => ?_
          refine AWp_region ?_
          refine aops_chunk 1 fun C40 hC40 => ?_
          simp only [bL, ↓aops, ↓aop, ↓aWant, ↓aVal, bS, bA, AV.flat, AV.cl, AV.one, Value.oneCell', thenQ, blockQ, noGotoQ, ↓reduceIte, Nat.reduceEqDiff, reduceCtorEq, tyX, List.length_map, intC]
          refine hC40 _ ?_
          try clear hC40 C40
          simp only [bL]
          refine aops_chunk 1 fun C41 hC41 => ?_
          simp only [bL, ↓aops, ↓aop, ↓aWant, ↓aVal, bS, bA, AV.flat, AV.cl, AV.one, Value.oneCell', thenQ, blockQ, noGotoQ, ↓reduceIte, Nat.reduceEqDiff, reduceCtorEq, tyX, List.length_map, intC]
          refine hC41 _ ?_
          try clear hC41 C41
          simp only [bL]
          refine aops_chunk 1 fun C42 hC42 => ?_
          simp only [bL, ↓aops, ↓aop, ↓aWant, ↓aVal, bS, bA, AV.flat, AV.cl, AV.one, Value.oneCell', thenQ, blockQ, noGotoQ, ↓reduceIte, Nat.reduceEqDiff, reduceCtorEq, getO, aLenX, aLen, ln27, List.length_map, tyX, intC]
          refine hC42 _ ?_
          try clear hC42 C42
          simp only [bL]
          simp only [↓aops, ↓aop, ↓aWant, ↓aVal, bS, bA, AV.flat, AV.cl, AV.one, Value.oneCell', thenQ, blockQ, noGotoQ, ↓reduceIte, Nat.reduceEqDiff, reduceCtorEq, aBin, tyX, List.length_map, intC]
          refine hK39 _ ?_
          try clear hK39 K39
          refine AWp_cond rfl (fun hb46 => ?_) (fun hb46 => ?_)
          · skip
            have hk : s < (bothF ps).m.length := by simpa using hb46
            obtain ⟨r, hr⟩ : ∃ r, (bothF ps).m[s]? = some r := ⟨_, List.getElem?_eq_getElem hk⟩
            obtain ⟨x, hx, hkd, hpt, hnm⟩ := hrl.at hr
            have hw : IntKind.i64.wrap ((s : Int) + 1) = (s : Int) + 1 := wrap_in (by omega) (by omega)
            refine AWp_skip ?_
            try simp only [thenQ, blockQ, noGotoQ]
            refine hK38 _ ?_
            try clear hK38 K38
            refine AWp_seqK fun K43 hK43 => ?_
            refine AWp_block ?_
            refine AWp_seqK fun K44 hK44 => ?_
            refine AWp_region ?_
            refine aops_chunk 1 fun C45 hC45 => ?_
            simp only [bL, ↓aops, ↓aop, ↓aWant, ↓aVal, bS, bA, AV.flat, AV.cl, AV.one, Value.oneCell', thenQ, blockQ, noGotoQ, ↓reduceIte, Nat.reduceEqDiff, reduceCtorEq, tyX, List.length_map, intC, hk, getD_map_cells hr, RNode.cells, Int.natCast_add, Int.natCast_one, Int.cast_ofNat_Int, hw]
            refine hC45 _ ?_
            try clear hC45 C45
            simp only [bL]
            refine aops_chunk 1 fun C46 hC46 => ?_
            simp only [bL, ↓aops, ↓aop, ↓aWant, ↓aVal, bS, bA, AV.flat, AV.cl, AV.one, Value.oneCell', thenQ, blockQ, noGotoQ, ↓reduceIte, Nat.reduceEqDiff, reduceCtorEq, tyX, List.length_map, intC, hk, getD_map_cells hr, RNode.cells, Int.natCast_add, Int.natCast_one, Int.cast_ofNat_Int, hw]
            refine hC46 _ ?_
            try clear hC46 C46
            simp only [bL]
            refine aops_chunk 1 fun C47 hC47 => ?_
            simp only [bL, ↓aops, ↓aop, ↓aWant, ↓aVal, bS, bA, AV.flat, AV.cl, AV.one, Value.oneCell', thenQ, blockQ, noGotoQ, ↓reduceIte, Nat.reduceEqDiff, reduceCtorEq, aCallV, tyX, List.length_map, intC, hk, getD_map_cells hr, RNode.cells, Int.natCast_add, Int.natCast_one, Int.cast_ofNat_Int, hw]
            refine GCalls.at (Name_calls (bothF ps).G (s : Int)) (.cons (.v _) .nil) (.tup (.cons (.v _) (.cons (.v _) .nil))) (i := 1) (j := 2) (k := 0) rfl rfl rfl (by decide) (by decide) (by decide) (by first | omega | (simp only; omega)) (by first | omega | (simp only; omega)) (by first | omega | (simp only; omega)) ?_
            simp only [putO, Nat.reduceEqDiff, ↓reduceIte]
            try simp only [bS, bA, thenQ, blockQ, noGotoQ]
            refine hC47 _ ?_
            try clear hC47 C47
            simp only [bL]
            refine aops_chunk 1 fun C48 hC48 => ?_
            simp only [bL, ↓aops, ↓aop, ↓aWant, ↓aVal, bS, bA, AV.flat, AV.cl, AV.one, Value.oneCell', thenQ, blockQ, noGotoQ, ↓reduceIte, Nat.reduceEqDiff, reduceCtorEq, tyX, List.length_map, intC, hk, getD_map_cells hr, RNode.cells, Int.natCast_add, Int.natCast_one, Int.cast_ofNat_Int, hw]
            refine hC48 _ ?_
            try clear hC48 C48
            simp only [bL]
            refine aops_chunk 1 fun C49 hC49 => ?_
            simp only [bL, ↓aops, ↓aop, ↓aWant, ↓aVal, bS, bA, AV.flat, AV.cl, AV.one, Value.oneCell', thenQ, blockQ, noGotoQ, ↓reduceIte, Nat.reduceEqDiff, reduceCtorEq, aExtract, Nat.reduceAdd, Nat.reduceLT, Nat.zero_lt_succ, tyX, List.length_map, intC, hk, getD_map_cells hr, RNode.cells, Int.natCast_add, Int.natCast_one, Int.cast_ofNat_Int, hw]
            refine hC49 _ ?_
            try clear hC49 C49
            simp only [bL]
            refine aops_chunk 1 fun C50 hC50 => ?_
            simp only [bL, ↓aops, ↓aop, ↓aWant, ↓aVal, bS, bA, AV.flat, AV.cl, AV.one, Value.oneCell', thenQ, blockQ, noGotoQ, ↓reduceIte, Nat.reduceEqDiff, reduceCtorEq, aExtract, Nat.reduceAdd, Nat.reduceLT, Nat.zero_lt_succ, tyX, List.length_map, intC, hk, getD_map_cells hr, RNode.cells, Int.natCast_add, Int.natCast_one, Int.cast_ofNat_Int, hw]
            refine hC50 _ ?_
            try clear hC50 C50
            simp only [bL]
            refine aops_chunk 1 fun C51 hC51 => ?_
            simp only [bL, ↓aops, ↓aop, ↓aWant, ↓aVal, bS, bA, AV.flat, AV.cl, AV.one, Value.oneCell', thenQ, blockQ, noGotoQ, ↓reduceIte, Nat.reduceEqDiff, reduceCtorEq, tyX, List.length_map, intC, hk, getD_map_cells hr, RNode.cells, Int.natCast_add, Int.natCast_one, Int.cast_ofNat_Int, hw]
            refine hC51 _ ?_
            try clear hC51 C51
            simp only [bL]
            simp only [↓aops, ↓aop, ↓aWant, ↓aVal, bS, bA, AV.flat, AV.cl, AV.one, Value.oneCell', thenQ, blockQ, noGotoQ, ↓reduceIte, Nat.reduceEqDiff, reduceCtorEq, tyX, List.length_map, intC, hk, getD_map_cells hr, RNode.cells, Int.natCast_add, Int.natCast_one, Int.cast_ofNat_Int, hw]
            refine hK44 _ ?_
            try clear hK44 K44
            refine AWp_seqK fun K52 hK52 => ?_
            refine NAny_start 46 [6] rfl mixed ?_
            dsimp only
            refine NAny_takeK 0 rfl (by kernel_rfl) (by kernel_rfl) (by kernel_rfl) (fun _ _ h => h) (by kernel_rfl) (fun d h => by cases h; rfl) (by kernel_rfl) (G' := [6]) (by kernel_rfl) fun K53 hK53 => ?_
            simp only [nHead, isE, isSE, isV, ↓aops, ↓aop, ↓aWant, ↓aVal, bS, bA, AV.flat, AV.cl, AV.one, Value.oneCell', thenQ, blockQ, noGotoQ, ↓reduceIte, Nat.reduceEqDiff, reduceCtorEq, tyX, List.length_map, intC, hk, getD_map_cells hr, RNode.cells, Int.natCast_add, Int.natCast_one, Int.cast_ofNat_Int, hw]
            refine hK53 _ ?_
            try clear hK53 K53
            refine NAny_takeK 1 rfl (by kernel_rfl) (by kernel_rfl) (by kernel_rfl) (fun _ _ h => h) (by kernel_rfl) (fun d h => by cases h; rfl) (by kernel_rfl) (G' := [6]) (by kernel_rfl) fun K54 hK54 => ?_
            simp only [nHead, isE, isSE, isV, ↓aops, ↓aop, ↓aWant, ↓aVal, bS, bA, AV.flat, AV.cl, AV.one, Value.oneCell', thenQ, blockQ, noGotoQ, ↓reduceIte, Nat.reduceEqDiff, reduceCtorEq, tyX, List.length_map, intC, hk, getD_map_cells hr, RNode.cells, Int.natCast_add, Int.natCast_one, Int.cast_ofNat_Int, hw]
            refine hK54 _ ?_
            try clear hK54 K54
            refine NAny_takeK 3 rfl (by kernel_rfl) (by kernel_rfl) (by kernel_rfl) (fun _ _ h => h) (by kernel_rfl) (fun d h => by cases h; rfl) (by kernel_rfl) (G' := [58, 6]) (by kernel_rfl) fun K55 hK55 => ?_
            simp only [nHead, isE, isSE, isV, ↓aops, ↓aop, ↓aWant, ↓aVal, bS, bA, AV.flat, AV.cl, AV.one, Value.oneCell', thenQ, blockQ, noGotoQ, ↓reduceIte, Nat.reduceEqDiff, reduceCtorEq, tyX, List.length_map, intC, hk, getD_map_cells hr, RNode.cells, Int.natCast_add, Int.natCast_one, Int.cast_ofNat_Int, hw]
            refine hK55 _ ?_
            try clear hK55 K55
            refine NAny_takeK 4 rfl (by kernel_rfl) (by kernel_rfl) (by kernel_rfl) (fun _ _ h => h) (by kernel_rfl) (fun d h => by cases h; rfl) (by kernel_rfl) (G' := [58, 6]) (by kernel_rfl) fun K56 hK56 => ?_
            simp only [nHead, isE, isSE, isV, ↓aops, ↓aop, ↓aWant, ↓aVal, bS, bA, AV.flat, AV.cl, AV.one, Value.oneCell', thenQ, blockQ, noGotoQ, ↓reduceIte, Nat.reduceEqDiff, reduceCtorEq, tyX, List.length_map, intC, hk, getD_map_cells hr, RNode.cells, Int.natCast_add, Int.natCast_one, Int.cast_ofNat_Int, hw]
            refine hK56 _ ?_
            try clear hK56 K56
            refine NAny_takeK 5 rfl (by kernel_rfl) (by kernel_rfl) (by kernel_rfl) (fun _ _ h => h) (by kernel_rfl) (fun d h => by cases h; rfl) (by kernel_rfl) (G' := [60, 58, 6]) (by kernel_rfl) fun K57 hK57 => ?_
            simp only [nHead, isE, isSE, isV, ↓aops, ↓aop, ↓aWant, ↓aVal, bS, bA, AV.flat, AV.cl, AV.one, Value.oneCell', thenQ, blockQ, noGotoQ, ↓reduceIte, Nat.reduceEqDiff, reduceCtorEq, getO, aIndexA, es27, Int.natCast_nonneg, Int.ofNat_lt, Int.toNat_natCast, List.length_map, Int.le_refl, Int.toNat_zero, Int.toNat_one, Int.reduceLE, tyX, intC, hk, getD_map_cells hr, RNode.cells, Int.natCast_add, Int.natCast_one, Int.cast_ofNat_Int, hw]
            refine hK57 _ ?_
            try clear hK57 K57
            refine NAny_takeK 6 rfl (by kernel_rfl) (by kernel_rfl) (by kernel_rfl) (fun _ _ h => h) (by kernel_rfl) (fun d h => by cases h; rfl) (by kernel_rfl) (G' := [61, 60, 58, 6]) (by kernel_rfl) fun K58 hK58 => ?_
            simp only [nHead, isE, isSE, isV, ↓aops, ↓aop, ↓aWant, ↓aVal, bS, bA, AV.flat, AV.cl, AV.one, Value.oneCell', thenQ, blockQ, noGotoQ, ↓reduceIte, Nat.reduceEqDiff, reduceCtorEq, aField, fo38_0, bL, Nat.reduceAdd, tyX, List.length_map, intC, hk, getD_map_cells hr, RNode.cells, Int.natCast_add, Int.natCast_one, Int.cast_ofNat_Int, hw]
            refine hK58 _ ?_
            try clear hK58 K58
            refine NAny_takeK 7 rfl (by kernel_rfl) (by kernel_rfl) (by kernel_rfl) (fun _ _ h => h) (by kernel_rfl) (fun d h => by cases h; rfl) (by kernel_rfl) (G' := [62, 61, 60, 58, 6]) (by kernel_rfl) fun K59 hK59 => ?_
            simp only [nHead, isE, isSE, isV, ↓aops, ↓aop, ↓aWant, ↓aVal, bS, bA, AV.flat, AV.cl, AV.one, Value.oneCell', thenQ, blockQ, noGotoQ, ↓reduceIte, Nat.reduceEqDiff, reduceCtorEq, aField, fo32_0, bL, Nat.reduceAdd, tyX, List.length_map, intC, hk, getD_map_cells hr, RNode.cells, Int.natCast_add, Int.natCast_one, Int.cast_ofNat_Int, hw]
            refine hK59 _ ?_
            try clear hK59 K59
            refine NAny_takeK 8 rfl (by kernel_rfl) (by kernel_rfl) (by kernel_rfl) (fun _ _ h => h) (by kernel_rfl) (fun d h => by cases h; rfl) (by kernel_rfl) (G' := [63, 62, 61, 60, 58, 6]) (by kernel_rfl) fun K60 hK60 => ?_
            simp only [nHead, isE, isSE, isV, ↓aops, ↓aop, ↓aWant, ↓aVal, bS, bA, AV.flat, AV.cl, AV.one, Value.oneCell', thenQ, blockQ, noGotoQ, ↓reduceIte, Nat.reduceEqDiff, reduceCtorEq, aLoad, ti3, getO, pack, bL, Nat.reduceAdd, Nat.reduceLeDiff, tyX, List.length_map, intC, hk, getD_map_cells hr, RNode.cells, Int.natCast_add, Int.natCast_one, Int.cast_ofNat_Int, hw]
            refine hK60 _ ?_
            try clear hK60 K60
            refine NAny_all1 (i := 2) (by kernel_rfl) rfl (fun d h => by cases h; rfl) ?_
            refine aAt_op rfl rfl fun K61 hK61 => ?_
            simp only [↓aops, ↓aop, ↓aWant, ↓aVal, bS, bA, AV.flat, AV.cl, AV.one, Value.oneCell', thenQ, blockQ, noGotoQ, ↓reduceIte, Nat.reduceEqDiff, reduceCtorEq, aCallV, bL, tyX, List.length_map, intC, hk, getD_map_cells hr, RNode.cells, Int.natCast_add, Int.natCast_one, Int.cast_ofNat_Int, hw]
            refine GCalls.at (KindA_calls (bothF ps).G (s : Int)) (.cons (.v _) .nil) (.v _) (i := 1) (j := 2) (k := 0) rfl rfl rfl (by decide) (by decide) (by decide) (by first | omega | (simp only; omega)) (by first | omega | (simp only; omega)) (by first | omega | (simp only; omega)) ?_
            simp only [putO, Nat.reduceEqDiff, ↓reduceIte]
            try simp only [bS, bA]
            refine hK61 _ ⟨⟨rfl, rfl, rfl, rfl, rfl, rfl, trivial⟩, ?_⟩
            try clear hK61 K61
            refine NAny_all1 (i := 9) (by kernel_rfl) rfl (fun d h => by cases h; rfl) ?_
            refine aAt_op rfl rfl fun K62 hK62 => ?_
            simp only [↓aops, ↓aop, ↓aWant, ↓aVal, bS, bA, AV.flat, AV.cl, AV.one, Value.oneCell', thenQ, blockQ, noGotoQ, ↓reduceIte, Nat.reduceEqDiff, reduceCtorEq, aBin, tyX, List.length_map, intC, hk, getD_map_cells hr, RNode.cells, Int.natCast_add, Int.natCast_one, Int.cast_ofNat_Int, hw]
            refine hK62 _ ⟨⟨rfl, rfl, rfl, rfl, rfl, rfl, trivial⟩, ?_⟩
            try clear hK62 K62
            refine NAny_takeK 10 rfl (by kernel_rfl) (by kernel_rfl) (by kernel_rfl) (fun _ _ h => h) (by kernel_rfl) (fun d h => by cases h; rfl) (by kernel_rfl) (G' := [63, 62, 61, 60, 58, 6]) (by kernel_rfl) fun K63 hK63 => ?_
            simp only [nHead, isE, isSE, isV, ↓aops, ↓aop, ↓aWant, ↓aVal, bS, bA, AV.flat, AV.cl, AV.one, Value.oneCell', thenQ, blockQ, noGotoQ, ↓reduceIte, Nat.reduceEqDiff, reduceCtorEq, tyX, List.length_map, intC, hk, getD_map_cells hr, RNode.cells, Int.natCast_add, Int.natCast_one, Int.cast_ofNat_Int, hw]
            refine hK63 _ ?_
            try clear hK63 K63
            refine NAny_case 65 rfl (fun hc65 => ?_) (fun hc65 => ?_)
            · simp only [List.set_cons_zero, List.set_cons_succ]
              exact absurd hc65 (by simp [hkd])
            · simp only [List.set_cons_zero, List.set_cons_succ]
              refine NAny_takeK 11 rfl (by kernel_rfl) (by kernel_rfl) (by kernel_rfl) (fun _ _ h => h) (by kernel_rfl) (fun d h => by cases h; rfl) (by kernel_rfl) (G' := [63, 62, 61, 60, 58, 6]) (by kernel_rfl) fun K64 hK64 => ?_
              simp only [nHead, isE, isSE, isV, ↓aops, ↓aop, ↓aWant, ↓aVal, bS, bA, AV.flat, AV.cl, AV.one, Value.oneCell', thenQ, blockQ, noGotoQ, ↓reduceIte, Nat.reduceEqDiff, reduceCtorEq, bL, undef, tyX, List.length_map, intC, hk, getD_map_cells hr, RNode.cells, Int.natCast_add, Int.natCast_one, Int.cast_ofNat_Int, hw]
              refine hK64 _ ?_
              try clear hK64 K64
              refine NAny_takeK 12 rfl (by kernel_rfl) (by kernel_rfl) (by kernel_rfl) (fun _ _ h => h) (by kernel_rfl) (fun d h => by cases h; rfl) (by kernel_rfl) (G' := [63, 62, 61, 60, 58, 6]) (by kernel_rfl) fun K65 hK65 => ?_
              simp only [nHead, isE, isSE, isV, ↓aops, ↓aop, ↓aWant, ↓aVal, bS, bA, AV.flat, AV.cl, AV.one, Value.oneCell', thenQ, blockQ, noGotoQ, ↓reduceIte, Nat.reduceEqDiff, reduceCtorEq, bL, undef, tyX, List.length_map, intC, hk, getD_map_cells hr, RNode.cells, Int.natCast_add, Int.natCast_one, Int.cast_ofNat_Int, hw]
              refine hK65 _ ?_
              try clear hK65 K65
              refine NAny_takeK 14 rfl (by kernel_rfl) (by kernel_rfl) (by kernel_rfl) (fun _ _ h => h) (by kernel_rfl) (fun d h => by cases h; rfl) (by kernel_rfl) (G' := [69, 63, 62, 61, 60, 58, 6]) (by kernel_rfl) fun K66 hK66 => ?_
              simp only [nHead, isE, isSE, isV, ↓aops, ↓aop, ↓aWant, ↓aVal, bS, bA, AV.flat, AV.cl, AV.one, Value.oneCell', thenQ, blockQ, noGotoQ, ↓reduceIte, Nat.reduceEqDiff, reduceCtorEq, bL, undef, tyX, List.length_map, intC, hk, getD_map_cells hr, RNode.cells, Int.natCast_add, Int.natCast_one, Int.cast_ofNat_Int, hw]
              refine hK66 _ ?_
              try clear hK66 K66
              refine NAny_takeK 15 rfl (by kernel_rfl) (by kernel_rfl) (by kernel_rfl) (fun _ _ h => h) (by kernel_rfl) (fun d h => by cases h; rfl) (by kernel_rfl) (G' := [69, 63, 62, 61, 60, 58, 6]) (by kernel_rfl) fun K67 hK67 => ?_
              simp only [nHead, isE, isSE, isV, ↓aops, ↓aop, ↓aWant, ↓aVal, bS, bA, AV.flat, AV.cl, AV.one, Value.oneCell', thenQ, blockQ, noGotoQ, ↓reduceIte, Nat.reduceEqDiff, reduceCtorEq, bL, undef, tyX, List.length_map, intC, hk, getD_map_cells hr, RNode.cells, Int.natCast_add, Int.natCast_one, Int.cast_ofNat_Int, hw]
              refine hK67 _ ?_
              try clear hK67 K67
              refine NAny_takeK 16 rfl (by kernel_rfl) (by kernel_rfl) (by kernel_rfl) (fun _ _ h => h) (by kernel_rfl) (fun d h => by cases h; rfl) (by kernel_rfl) (G' := [71, 69, 63, 62, 61, 60, 58, 6]) (by kernel_rfl) fun K68 hK68 => ?_
              simp only [nHead, isE, isSE, isV, ↓aops, ↓aop, ↓aWant, ↓aVal, bS, bA, AV.flat, AV.cl, AV.one, Value.oneCell', thenQ, blockQ, noGotoQ, ↓reduceIte, Nat.reduceEqDiff, reduceCtorEq, bL, undef, getO, aIndexA, es27, Int.natCast_nonneg, Int.ofNat_lt, Int.toNat_natCast, List.length_map, Int.le_refl, Int.toNat_zero, Int.toNat_one, Int.reduceLE, tyX, intC, hk, getD_map_cells hr, RNode.cells, Int.natCast_add, Int.natCast_one, Int.cast_ofNat_Int, hw]
              refine hK68 _ ?_
              try clear hK68 K68
              refine NAny_takeK 17 rfl (by kernel_rfl) (by kernel_rfl) (by kernel_rfl) (fun _ _ h => h) (by kernel_rfl) (fun d h => by cases h; rfl) (by kernel_rfl) (G' := [72, 71, 69, 63, 62, 61, 60, 58, 6]) (by kernel_rfl) fun K69 hK69 => ?_
              simp only [nHead, isE, isSE, isV, ↓aops, ↓aop, ↓aWant, ↓aVal, bS, bA, AV.flat, AV.cl, AV.one, Value.oneCell', thenQ, blockQ, noGotoQ, ↓reduceIte, Nat.reduceEqDiff, reduceCtorEq, bL, undef, aField, fo38_1, Nat.reduceAdd, tyX, List.length_map, intC, hk, getD_map_cells hr, RNode.cells, Int.natCast_add, Int.natCast_one, Int.cast_ofNat_Int, hw]
              refine hK69 _ ?_
              try clear hK69 K69
              refine NAny_takeK 18 rfl (by kernel_rfl) (by kernel_rfl) (by kernel_rfl) (fun _ _ h => h) (by kernel_rfl) (fun d h => by cases h; rfl) (by kernel_rfl) (G' := [73, 72, 71, 69, 63, 62, 61, 60, 58, 6]) (by kernel_rfl) fun K70 hK70 => ?_
              simp only [nHead, isE, isSE, isV, ↓aops, ↓aop, ↓aWant, ↓aVal, bS, bA, AV.flat, AV.cl, AV.one, Value.oneCell', thenQ, blockQ, noGotoQ, ↓reduceIte, Nat.reduceEqDiff, reduceCtorEq, bL, undef, aLoad, ti28, getO, pack, Nat.reduceAdd, Nat.reduceLeDiff, tyX, List.length_map, intC, hk, getD_map_cells hr, RNode.cells, Int.natCast_add, Int.natCast_one, Int.cast_ofNat_Int, hw]
              refine hK70 _ ?_
              try clear hK70 K70
              refine NAny_all1 (i := 13) (by kernel_rfl) rfl (fun d h => by cases h; rfl) ?_
              refine aAt_if rfl fun K71 hK71 => ?_
              simp only [↓aops, ↓aop, ↓aWant, ↓aVal, bS, bA, AV.flat, AV.cl, AV.one, Value.oneCell', thenQ, blockQ, noGotoQ, ↓reduceIte, Nat.reduceEqDiff, reduceCtorEq, bL, undef, aCallV, tyX, List.length_map, intC, hk, getD_map_cells hr, RNode.cells, Int.natCast_add, Int.natCast_one, Int.cast_ofNat_Int, hw]
              refine GCalls.at (Parts_calls (bothF ps).G (s : Int) (fun x hx => by obtain ⟨i, hi, e⟩ := List.mem_iff_getElem.1 hx; exact (hwf i x (by rw [List.getElem?_eq_getElem hi, e])).2)) (.cons (.v _) .nil) (dataInts _) (i := 1) (j := 2) (k := 0) rfl rfl rfl (by decide) (by decide) (by decide) (by first | omega | (simp only; omega)) (by first | omega | (simp only; omega)) (by first | omega | (simp only; omega)) ?_
              simp only [putO, Nat.reduceEqDiff, ↓reduceIte]
              try simp only [bS, bA]
              refine hK71 _ ⟨⟨rfl, rfl, rfl, rfl, rfl, rfl, rfl, rfl, rfl, rfl, trivial⟩, ?_⟩
              try clear hK71 K71
              refine NAny_all1 (i := 19) (by kernel_rfl) rfl (fun d h => by cases h; rfl) ?_
              refine aAt_if rfl fun K72 hK72 => ?_
              simp only [↓aops, ↓aop, ↓aWant, ↓aVal, bS, bA, AV.flat, AV.cl, AV.one, Value.oneCell', thenQ, blockQ, noGotoQ, ↓reduceIte, Nat.reduceEqDiff, reduceCtorEq, bL, undef, aCallV, tyX, List.length_map, intC, hk, getD_map_cells hr, RNode.cells, Int.natCast_add, Int.natCast_one, Int.cast_ofNat_Int, hw]
              refine APure.call (Ints_pure ((bothF ps).G.parts (s : Int)) r.parts) ?_
              try simp only [bS, bA]
              refine hK72 _ ⟨⟨rfl, rfl, rfl, rfl, rfl, rfl, rfl, rfl, rfl, rfl, trivial⟩, ?_⟩
              try clear hK72 K72
              refine NAny_all1 (i := 20) (by kernel_rfl) rfl (fun d h => by cases h; rfl) ?_
              refine aAt_if rfl fun K73 hK73 => ?_
              simp only [↓aops, ↓aop, ↓aWant, ↓aVal, bS, bA, AV.flat, AV.cl, AV.one, Value.oneCell', thenQ, blockQ, noGotoQ, ↓reduceIte, Nat.reduceEqDiff, reduceCtorEq, bL, undef, aUn, tyX, List.length_map, intC, hk, getD_map_cells hr, RNode.cells, Int.natCast_add, Int.natCast_one, Int.cast_ofNat_Int, hw]
              refine hK73 _ ⟨⟨rfl, rfl, rfl, rfl, rfl, rfl, rfl, rfl, rfl, rfl, trivial⟩, ?_⟩
              try clear hK73 K73
              refine NAny_all1 (i := 21) (by kernel_rfl) rfl (fun d h => by cases h; rfl) ?_
              refine aAt_op rfl rfl fun K74 hK74 => ?_
              simp only [↓aops, ↓aop, ↓aWant, ↓aVal, bS, bA, AV.flat, AV.cl, AV.one, Value.oneCell', thenQ, blockQ, noGotoQ, ↓reduceIte, Nat.reduceEqDiff, reduceCtorEq, aBool, tyX, List.length_map, intC, hk, getD_map_cells hr, RNode.cells, Int.natCast_add, Int.natCast_one, Int.cast_ofNat_Int, hw]
              refine hK74 _ ⟨⟨rfl, rfl, rfl, rfl, rfl, rfl, rfl, rfl, rfl, rfl, trivial⟩, ?_⟩
              try clear hK74 K74
              refine NAny_takeK 22 rfl (by kernel_rfl) (by kernel_rfl) (by kernel_rfl) (fun _ _ h => h) (by kernel_rfl) (fun d h => by cases h; rfl) (by kernel_rfl) (G' := [73, 72, 71, 69, 63, 62, 61, 60, 58, 6]) (by kernel_rfl) fun K75 hK75 => ?_
              simp only [nHead, isE, isSE, isV, ↓aops, ↓aop, ↓aWant, ↓aVal, bS, bA, AV.flat, AV.cl, AV.one, Value.oneCell', thenQ, blockQ, noGotoQ, ↓reduceIte, Nat.reduceEqDiff, reduceCtorEq, tyX, List.length_map, intC, hk, getD_map_cells hr, RNode.cells, Int.natCast_add, Int.natCast_one, Int.cast_ofNat_Int, hw]
              refine hK75 _ ?_
              try clear hK75 K75
              refine NAny_case 77 rfl (fun hc77 => ?_) (fun hc77 => ?_)
              · simp only [List.set_cons_zero, List.set_cons_succ]
                exact absurd hc77 (by simp [hpt])
              · simp only [List.set_cons_zero, List.set_cons_succ]
                refine NAny_takeK 23 rfl (by kernel_rfl) (by kernel_rfl) (by kernel_rfl) (fun _ _ h => h) (by kernel_rfl) (fun d h => by cases h; rfl) (by kernel_rfl) (G' := [73, 72, 71, 69, 63, 62, 61, 60, 58, 6]) (by kernel_rfl) fun K76 hK76 => ?_
                simp only [nHead, isE, isSE, isV, ↓aops, ↓aop, ↓aWant, ↓aVal, bS, bA, AV.flat, AV.cl, AV.one, Value.oneCell', thenQ, blockQ, noGotoQ, ↓reduceIte, Nat.reduceEqDiff, reduceCtorEq, bL, undef, tyX, List.length_map, intC, hk, getD_map_cells hr, RNode.cells, Int.natCast_add, Int.natCast_one, Int.cast_ofNat_Int, hw]
                refine hK76 _ ?_
                try clear hK76 K76
                refine NAny_takeK 24 rfl (by kernel_rfl) (by kernel_rfl) (by kernel_rfl) (fun _ _ h => h) (by kernel_rfl) (fun d h => by cases h; rfl) (by kernel_rfl) (G' := [79, 73, 72, 71, 69, 63, 62, 61, 60, 58, 6]) (by kernel_rfl) fun K77 hK77 => ?_
                simp only [nHead, isE, isSE, isV, ↓aops, ↓aop, ↓aWant, ↓aVal, bS, bA, AV.flat, AV.cl, AV.one, Value.oneCell', thenQ, blockQ, noGotoQ, ↓reduceIte, Nat.reduceEqDiff, reduceCtorEq, bL, undef, tyX, List.length_map, intC, hk, getD_map_cells hr, RNode.cells, Int.natCast_add, Int.natCast_one, Int.cast_ofNat_Int, hw]
                refine hK77 _ ?_
                try clear hK77 K77
                refine NAny_takeK 25 rfl (by kernel_rfl) (by kernel_rfl) (by kernel_rfl) (fun _ _ h => h) (by kernel_rfl) (fun d h => by cases h; rfl) (by kernel_rfl) (G' := [79, 73, 72, 71, 69, 63, 62, 61, 60, 58, 6]) (by kernel_rfl) fun K78 hK78 => ?_
                simp only [nHead, isE, isSE, isV, ↓aops, ↓aop, ↓aWant, ↓aVal, bS, bA, AV.flat, AV.cl, AV.one, Value.oneCell', thenQ, blockQ, noGotoQ, ↓reduceIte, Nat.reduceEqDiff, reduceCtorEq, bL, undef, tyX, List.length_map, intC, hk, getD_map_cells hr, RNode.cells, Int.natCast_add, Int.natCast_one, Int.cast_ofNat_Int, hw]
                refine hK78 _ ?_
                try clear hK78 K78
                refine NAny_takeK 26 rfl (by kernel_rfl) (by kernel_rfl) (by kernel_rfl) (fun _ _ h => h) (by kernel_rfl) (fun d h => by cases h; rfl) (by kernel_rfl) (G' := [81, 79, 73, 72, 71, 69, 63, 62, 61, 60, 58, 6]) (by kernel_rfl) fun K79 hK79 => ?_
                simp only [nHead, isE, isSE, isV, ↓aops, ↓aop, ↓aWant, ↓aVal, bS, bA, AV.flat, AV.cl, AV.one, Value.oneCell', thenQ, blockQ, noGotoQ, ↓reduceIte, Nat.reduceEqDiff, reduceCtorEq, bL, undef, getO, aIndexA, es27, Int.natCast_nonneg, Int.ofNat_lt, Int.toNat_natCast, List.length_map, Int.le_refl, Int.toNat_zero, Int.toNat_one, Int.reduceLE, tyX, intC, hk, getD_map_cells hr, RNode.cells, Int.natCast_add, Int.natCast_one, Int.cast_ofNat_Int, hw]
                refine hK79 _ ?_
                try clear hK79 K79
                refine NAny_takeK 27 rfl (by kernel_rfl) (by kernel_rfl) (by kernel_rfl) (fun _ _ h => h) (by kernel_rfl) (fun d h => by cases h; rfl) (by kernel_rfl) (G' := [82, 81, 79, 73, 72, 71, 69, 63, 62, 61, 60, 58, 6]) (by kernel_rfl) fun K80 hK80 => ?_
                simp only [nHead, isE, isSE, isV, ↓aops, ↓aop, ↓aWant, ↓aVal, bS, bA, AV.flat, AV.cl, AV.one, Value.oneCell', thenQ, blockQ, noGotoQ, ↓reduceIte, Nat.reduceEqDiff, reduceCtorEq, bL, undef, aField, fo38_0, Nat.reduceAdd, tyX, List.length_map, intC, hk, getD_map_cells hr, RNode.cells, Int.natCast_add, Int.natCast_one, Int.cast_ofNat_Int, hw]
                refine hK80 _ ?_
                try clear hK80 K80
                refine NAny_takeK 28 rfl (by kernel_rfl) (by kernel_rfl) (by kernel_rfl) (fun _ _ h => h) (by kernel_rfl) (fun d h => by cases h; rfl) (by kernel_rfl) (G' := [83, 82, 81, 79, 73, 72, 71, 69, 63, 62, 61, 60, 58, 6]) (by kernel_rfl) fun K81 hK81 => ?_
                simp only [nHead, isE, isSE, isV, ↓aops, ↓aop, ↓aWant, ↓aVal, bS, bA, AV.flat, AV.cl, AV.one, Value.oneCell', thenQ, blockQ, noGotoQ, ↓reduceIte, Nat.reduceEqDiff, reduceCtorEq, bL, undef, aField, fo32_0, Nat.reduceAdd, tyX, List.length_map, intC, hk, getD_map_cells hr, RNode.cells, Int.natCast_add, Int.natCast_one, Int.cast_ofNat_Int, hw]
                refine hK81 _ ?_
                try clear hK81 K81
                refine NAny_takeK 29 rfl (by kernel_rfl) (by kernel_rfl) (by kernel_rfl) (fun _ _ h => h) (by kernel_rfl) (fun d h => by cases h; rfl) (by kernel_rfl) (G' := [84, 83, 82, 81, 79, 73, 72, 71, 69, 63, 62, 61, 60, 58, 6]) (by kernel_rfl) fun K82 hK82 => ?_
                simp only [nHead, isE, isSE, isV, ↓aops, ↓aop, ↓aWant, ↓aVal, bS, bA, AV.flat, AV.cl, AV.one, Value.oneCell', thenQ, blockQ, noGotoQ, ↓reduceIte, Nat.reduceEqDiff, reduceCtorEq, bL, undef, aLoad, ti3, getO, pack, Nat.reduceAdd, Nat.reduceLeDiff, tyX, List.length_map, intC, hk, getD_map_cells hr, RNode.cells, Int.natCast_add, Int.natCast_one, Int.cast_ofNat_Int, hw]
                refine hK82 _ ?_
                try clear hK82 K82
                refine NAny_all1 (i := 30) (by kernel_rfl) rfl (fun d h => by cases h; rfl) ?_
                refine aAt_if rfl fun K83 hK83 => ?_
                simp only [↓aops, ↓aop, ↓aWant, ↓aVal, bS, bA, AV.flat, AV.cl, AV.one, Value.oneCell', thenQ, blockQ, noGotoQ, ↓reduceIte, Nat.reduceEqDiff, reduceCtorEq, bL, undef, aBin, tyX, List.length_map, intC, hk, getD_map_cells hr, RNode.cells, Int.natCast_add, Int.natCast_one, Int.cast_ofNat_Int, hw]
                refine hK83 _ ⟨⟨rfl, rfl, rfl, rfl, rfl, rfl, rfl, rfl, rfl, rfl, rfl, rfl, rfl, rfl, rfl, trivial⟩, ?_⟩
                try clear hK83 K83
                refine NAny_all1 (i := 31) (by kernel_rfl) rfl (fun d h => by cases h; rfl) ?_
                refine aAt_if rfl fun K84 hK84 => ?_
                simp only [↓aops, ↓aop, ↓aWant, ↓aVal, bS, bA, AV.flat, AV.cl, AV.one, Value.oneCell', thenQ, blockQ, noGotoQ, ↓reduceIte, Nat.reduceEqDiff, reduceCtorEq, bL, undef, aBin, bt4, tyX, List.length_map, intC, hk, getD_map_cells hr, RNode.cells, Int.natCast_add, Int.natCast_one, Int.cast_ofNat_Int, hw]
                refine hK84 _ ⟨⟨rfl, rfl, rfl, rfl, rfl, rfl, rfl, rfl, rfl, rfl, rfl, rfl, rfl, rfl, rfl, trivial⟩, ?_⟩
                try clear hK84 K84
                refine NAny_all1 (i := 32) (by kernel_rfl) rfl (fun d h => by cases h; rfl) ?_
                refine aAt_op rfl rfl fun K85 hK85 => ?_
                simp only [↓aops, ↓aop, ↓aWant, ↓aVal, bS, bA, AV.flat, AV.cl, AV.one, Value.oneCell', thenQ, blockQ, noGotoQ, ↓reduceIte, Nat.reduceEqDiff, reduceCtorEq, aBool, tyX, List.length_map, intC, hk, getD_map_cells hr, RNode.cells, Int.natCast_add, Int.natCast_one, Int.cast_ofNat_Int, hw]
                refine hK85 _ ⟨⟨rfl, rfl, rfl, rfl, rfl, rfl, rfl, rfl, rfl, rfl, rfl, rfl, rfl, rfl, rfl, trivial⟩, ?_⟩
                try clear hK85 K85
                refine NAny_takeK 33 rfl (by kernel_rfl) (by kernel_rfl) (by kernel_rfl) (fun _ _ h => h) (by kernel_rfl) (fun d h => by cases h; rfl) (by kernel_rfl) (G' := [84, 83, 82, 81, 79, 73, 72, 71, 69, 63, 62, 61, 60, 58, 6]) (by kernel_rfl) fun K86 hK86 => ?_
                simp only [nHead, isE, isSE, isV, ↓aops, ↓aop, ↓aWant, ↓aVal, bS, bA, AV.flat, AV.cl, AV.one, Value.oneCell', thenQ, blockQ, noGotoQ, ↓reduceIte, Nat.reduceEqDiff, reduceCtorEq, tyX, List.length_map, intC, hk, getD_map_cells hr, RNode.cells, Int.natCast_add, Int.natCast_one, Int.cast_ofNat_Int, hw]
                refine hK86 _ ?_
                try clear hK86 K86
                refine NAny_case 88 rfl (fun hc88 => ?_) (fun hc88 => ?_)
                · simp only [List.set_cons_zero, List.set_cons_succ]
                  exact absurd hc88 (by rw [hnm]; by_cases h9 : r.t.k = 1 <;> simp [h9])
                · simp only [List.set_cons_zero, List.set_cons_succ]
                  refine NAny_takeK 34 rfl (by kernel_rfl) (by kernel_rfl) (by kernel_rfl) (fun _ _ h => h) (by kernel_rfl) (fun d h => by cases h; rfl) (by kernel_rfl) (G' := [84, 83, 82, 81, 79, 73, 72, 71, 69, 63, 62, 61, 60, 58, 6]) (by kernel_rfl) fun K87 hK87 => ?_
                  simp only [nHead, isE, isSE, isV, ↓aops, ↓aop, ↓aWant, ↓aVal, bS, bA, AV.flat, AV.cl, AV.one, Value.oneCell', thenQ, blockQ, noGotoQ, ↓reduceIte, Nat.reduceEqDiff, reduceCtorEq, bL, undef, tyX, List.length_map, intC, hk, getD_map_cells hr, RNode.cells, Int.natCast_add, Int.natCast_one, Int.cast_ofNat_Int, hw]
                  refine hK87 _ ?_
                  try clear hK87 K87
                  refine NAny_takeK 35 rfl (by kernel_rfl) (by kernel_rfl) (by kernel_rfl) (fun _ _ h => h) (by kernel_rfl) (fun d h => by cases h; rfl) (by kernel_rfl) (G' := [84, 83, 82, 81, 79, 73, 72, 71, 69, 63, 62, 61, 60, 58, 6]) (by kernel_rfl) fun K88 hK88 => ?_
                  simp only [nHead, isE, isSE, isV, ↓aops, ↓aop, ↓aWant, ↓aVal, bS, bA, AV.flat, AV.cl, AV.one, Value.oneCell', thenQ, blockQ, noGotoQ, ↓reduceIte, Nat.reduceEqDiff, reduceCtorEq, bL, undef, tyX, List.length_map, intC, hk, getD_map_cells hr, RNode.cells, Int.natCast_add, Int.natCast_one, Int.cast_ofNat_Int, hw]
                  refine hK88 _ ?_
                  try clear hK88 K88
                  refine NAny_case 90 rfl (fun hc90 => ?_) (fun hc90 => ?_)
                  · simp only [List.set_cons_zero, List.set_cons_succ]
                    have hk1 : r.t.k = 1 := by (have h9 : (nameG (bothF ps).G (s : Int)).2 = true := hc90; rw [hnm] at h9; by_cases h8 : r.t.k = 1; exact h8; rw [if_neg h8] at h9; cases h9)
                    have hnn : (nameG (bothF ps).G (s : Int)).1 = r.t.n := by rw [hnm, if_pos hk1]
                    refine NAny_takeK 36 rfl (by kernel_rfl) (by kernel_rfl) (by kernel_rfl) (fun _ _ h => h) (by kernel_rfl) (fun d h => by cases h; rfl) (by kernel_rfl) (G' := [84, 83, 82, 81, 79, 73, 72, 71, 69, 63, 62, 61, 60, 58, 6]) (by kernel_rfl) fun K89 hK89 => ?_
                    simp only [nHead, isE, isSE, isV, ↓aops, ↓aop, ↓aWant, ↓aVal, bS, bA, AV.flat, AV.cl, AV.one, Value.oneCell', thenQ, blockQ, noGotoQ, ↓reduceIte, Nat.reduceEqDiff, reduceCtorEq, bL, undef, tyX, List.length_map, intC, hk, getD_map_cells hr, RNode.cells, Int.natCast_add, Int.natCast_one, Int.cast_ofNat_Int, hw]
                    refine hK89 _ ?_
                    try clear hK89 K89
                    refine NAny_takeK 37 rfl (by kernel_rfl) (by kernel_rfl) (by kernel_rfl) (fun _ _ h => h) (by kernel_rfl) (fun d h => by cases h; rfl) (by kernel_rfl) (G' := [92, 84, 83, 82, 81, 79, 73, 72, 71, 69, 63, 62, 61, 60, 58, 6]) (by kernel_rfl) fun K90 hK90 => ?_
                    simp only [nHead, isE, isSE, isV, ↓aops, ↓aop, ↓aWant, ↓aVal, bS, bA, AV.flat, AV.cl, AV.one, Value.oneCell', thenQ, blockQ, noGotoQ, ↓reduceIte, Nat.reduceEqDiff, reduceCtorEq, bL, undef, tyX, List.length_map, intC, hk, getD_map_cells hr, RNode.cells, Int.natCast_add, Int.natCast_one, Int.cast_ofNat_Int, hw]
                    refine hK90 _ ?_
                    try clear hK90 K90
                    refine NAny_takeK 38 rfl (by kernel_rfl) (by kernel_rfl) (by kernel_rfl) (fun _ _ h => h) (by kernel_rfl) (fun d h => by cases h; rfl) (by kernel_rfl) (G' := [92, 84, 83, 82, 81, 79, 73, 72, 71, 69, 63, 62, 61, 60, 58, 6]) (by kernel_rfl) fun K91 hK91 => ?_
                    simp only [nHead, isE, isSE, isV, ↓aops, ↓aop, ↓aWant, ↓aVal, bS, bA, AV.flat, AV.cl, AV.one, Value.oneCell', thenQ, blockQ, noGotoQ, ↓reduceIte, Nat.reduceEqDiff, reduceCtorEq, bL, undef, tyX, List.length_map, intC, hk, getD_map_cells hr, RNode.cells, Int.natCast_add, Int.natCast_one, Int.cast_ofNat_Int, hw]
                    refine hK91 _ ?_
                    try clear hK91 K91
                    refine NAny_takeK 39 rfl (by kernel_rfl) (by kernel_rfl) (by kernel_rfl) (fun _ _ h => h) (by kernel_rfl) (fun d h => by cases h; rfl) (by kernel_rfl) (G' := [94, 92, 84, 83, 82, 81, 79, 73, 72, 71, 69, 63, 62, 61, 60, 58, 6]) (by kernel_rfl) fun K92 hK92 => ?_
                    simp only [nHead, isE, isSE, isV, ↓aops, ↓aop, ↓aWant, ↓aVal, bS, bA, AV.flat, AV.cl, AV.one, Value.oneCell', thenQ, blockQ, noGotoQ, ↓reduceIte, Nat.reduceEqDiff, reduceCtorEq, bL, undef, getO, aIndexA, es27, Int.natCast_nonneg, Int.ofNat_lt, Int.toNat_natCast, List.length_map, Int.le_refl, Int.toNat_zero, Int.toNat_one, Int.reduceLE, tyX, intC, hk, getD_map_cells hr, RNode.cells, Int.natCast_add, Int.natCast_one, Int.cast_ofNat_Int, hw]
                    refine hK92 _ ?_
                    try clear hK92 K92
                    refine NAny_takeK 40 rfl (by kernel_rfl) (by kernel_rfl) (by kernel_rfl) (fun _ _ h => h) (by kernel_rfl) (fun d h => by cases h; rfl) (by kernel_rfl) (G' := [95, 94, 92, 84, 83, 82, 81, 79, 73, 72, 71, 69, 63, 62, 61, 60, 58, 6]) (by kernel_rfl) fun K93 hK93 => ?_
                    simp only [nHead, isE, isSE, isV, ↓aops, ↓aop, ↓aWant, ↓aVal, bS, bA, AV.flat, AV.cl, AV.one, Value.oneCell', thenQ, blockQ, noGotoQ, ↓reduceIte, Nat.reduceEqDiff, reduceCtorEq, bL, undef, aField, fo38_0, Nat.reduceAdd, tyX, List.length_map, intC, hk, getD_map_cells hr, RNode.cells, Int.natCast_add, Int.natCast_one, Int.cast_ofNat_Int, hw]
                    refine hK93 _ ?_
                    try clear hK93 K93
                    refine NAny_takeK 41 rfl (by kernel_rfl) (by kernel_rfl) (by kernel_rfl) (fun _ _ h => h) (by kernel_rfl) (fun d h => by cases h; rfl) (by kernel_rfl) (G' := [96, 95, 94, 92, 84, 83, 82, 81, 79, 73, 72, 71, 69, 63, 62, 61, 60, 58, 6]) (by kernel_rfl) fun K94 hK94 => ?_
                    simp only [nHead, isE, isSE, isV, ↓aops, ↓aop, ↓aWant, ↓aVal, bS, bA, AV.flat, AV.cl, AV.one, Value.oneCell', thenQ, blockQ, noGotoQ, ↓reduceIte, Nat.reduceEqDiff, reduceCtorEq, bL, undef, aField, fo32_1, Nat.reduceAdd, tyX, List.length_map, intC, hk, getD_map_cells hr, RNode.cells, Int.natCast_add, Int.natCast_one, Int.cast_ofNat_Int, hw]
                    refine hK94 _ ?_
                    try clear hK94 K94
                    refine NAny_takeK 42 rfl (by kernel_rfl) (by kernel_rfl) (by kernel_rfl) (fun _ _ h => h) (by kernel_rfl) (fun d h => by cases h; rfl) (by kernel_rfl) (G' := [97, 96, 95, 94, 92, 84, 83, 82, 81, 79, 73, 72, 71, 69, 63, 62, 61, 60, 58, 6]) (by kernel_rfl) fun K95 hK95 => ?_
                    simp only [nHead, isE, isSE, isV, ↓aops, ↓aop, ↓aWant, ↓aVal, bS, bA, AV.flat, AV.cl, AV.one, Value.oneCell', thenQ, blockQ, noGotoQ, ↓reduceIte, Nat.reduceEqDiff, reduceCtorEq, bL, undef, aLoad, ti3, getO, pack, Nat.reduceAdd, Nat.reduceLeDiff, tyX, List.length_map, intC, hk, getD_map_cells hr, RNode.cells, Int.natCast_add, Int.natCast_one, Int.cast_ofNat_Int, hw]
                    refine hK95 _ ?_
                    try clear hK95 K95
                    refine NAny_all1 (i := 43) (by kernel_rfl) rfl (fun d h => by cases h; rfl) ?_
                    refine aAt_if rfl fun K96 hK96 => ?_
                    simp only [↓aops, ↓aop, ↓aWant, ↓aVal, bS, bA, AV.flat, AV.cl, AV.one, Value.oneCell', thenQ, blockQ, noGotoQ, ↓reduceIte, Nat.reduceEqDiff, reduceCtorEq, bL, undef, aBin, tyX, List.length_map, intC, hk, getD_map_cells hr, RNode.cells, Int.natCast_add, Int.natCast_one, Int.cast_ofNat_Int, hw]
                    refine hK96 _ ⟨⟨rfl, rfl, rfl, rfl, rfl, rfl, rfl, rfl, rfl, rfl, rfl, rfl, rfl, rfl, rfl, rfl, rfl, rfl, rfl, rfl, trivial⟩, ?_⟩
                    try clear hK96 K96
                    refine NAny_all1 (i := 44) (by kernel_rfl) rfl (fun d h => by cases h; rfl) ?_
                    refine aAt_if rfl fun K97 hK97 => ?_
                    simp only [↓aops, ↓aop, ↓aWant, ↓aVal, bS, bA, AV.flat, AV.cl, AV.one, Value.oneCell', thenQ, blockQ, noGotoQ, ↓reduceIte, Nat.reduceEqDiff, reduceCtorEq, bL, undef, aBool, tyX, List.length_map, intC, hk, getD_map_cells hr, RNode.cells, Int.natCast_add, Int.natCast_one, Int.cast_ofNat_Int, hw]
                    refine hK97 _ ⟨⟨rfl, rfl, rfl, rfl, rfl, rfl, rfl, rfl, rfl, rfl, rfl, rfl, rfl, rfl, rfl, rfl, rfl, rfl, rfl, rfl, trivial⟩, ?_⟩
                    try clear hK97 K97
                    refine NAny_all1 (i := 45) (by kernel_rfl) rfl (fun d h => by cases h; rfl) ?_
                    refine aAt_op rfl rfl fun K98 hK98 => ?_
                    simp only [↓aops, ↓aop, ↓aWant, ↓aVal, bS, bA, AV.flat, AV.cl, AV.one, Value.oneCell', thenQ, blockQ, noGotoQ, ↓reduceIte, Nat.reduceEqDiff, reduceCtorEq, aBool, tyX, List.length_map, intC, hk, getD_map_cells hr, RNode.cells, Int.natCast_add, Int.natCast_one, Int.cast_ofNat_Int, hw]
                    refine hK98 _ ⟨⟨rfl, rfl, rfl, rfl, rfl, rfl, rfl, rfl, rfl, rfl, rfl, rfl, rfl, rfl, rfl, rfl, rfl, rfl, rfl, rfl, trivial⟩, ?_⟩
                    try clear hK98 K98
                    refine NAny_done (by kernel_rfl) ?_
                    simp only [thenQ, blockQ, noGotoQ]
                    refine hK52 _ ?_
                    try clear hK52 K52
                    refine AWp_cond rfl (fun hb100 => ?_) (fun hb100 => ?_)
                    · skip
                      exact absurd hb100 (by simp [hnn])
                    · skip
                      refine AWp_skip ?_
                      try simp only [thenQ, blockQ, noGotoQ]
                      refine hK43 _ ?_
                      try clear hK43 K43
                      refine AWp_region ?_
                      refine aops_chunk 1 fun C99 hC99 => ?_
                      simp only [bL, ↓aops, ↓aop, ↓aWant, ↓aVal, bS, bA, AV.flat, AV.cl, AV.one, Value.oneCell', thenQ, blockQ, noGotoQ, ↓reduceIte, Nat.reduceEqDiff, reduceCtorEq, tyX, List.length_map, intC, hk, getD_map_cells hr, RNode.cells, Int.natCast_add, Int.natCast_one, Int.cast_ofNat_Int, hw]
                      refine hC99 _ ?_
                      try clear hC99 C99
                      simp only [bL]
                      refine aops_chunk 1 fun C100 hC100 => ?_
                      simp only [bL, ↓aops, ↓aop, ↓aWant, ↓aVal, bS, bA, AV.flat, AV.cl, AV.one, Value.oneCell', thenQ, blockQ, noGotoQ, ↓reduceIte, Nat.reduceEqDiff, reduceCtorEq, aBin, tyX, List.length_map, intC, hk, getD_map_cells hr, RNode.cells, Int.natCast_add, Int.natCast_one, Int.cast_ofNat_Int, hw]
                      refine hC100 _ ?_
                      try clear hC100 C100
                      simp only [bL]
                      simp only [↓aops, ↓aop, ↓aWant, ↓aVal, bS, bA, AV.flat, AV.cl, AV.one, Value.oneCell', thenQ, blockQ, noGotoQ, ↓reduceIte, Nat.reduceEqDiff, reduceCtorEq, tyX, List.length_map, intC, hk, getD_map_cells hr, RNode.cells, Int.natCast_add, Int.natCast_one, Int.cast_ofNat_Int, hw]
                      refine ⟨(s + 1), (by omega), by omega, ?_⟩
                      simp only [maskL, setsL, putsO, putO, bA, Nat.reduceEqDiff, ↓reduceIte, hk, getD_map_cells hr, RNode.cells, Int.natCast_add, Int.natCast_one, Int.cast_ofNat_Int, hw]
                      exact Weak.mk (by simp only [LeL, Le.refl, Le.any, Le.slNil, and_self, Int.natCast_add, Int.cast_ofNat_Int, Int.natCast_one]) (fun _ _ h => h) rfl rfl
                  · simp only [List.set_cons_zero, List.set_cons_succ]
                    refine NAny_skipK 36 rfl (by kernel_rfl) (by kernel_rfl) (by kernel_rfl) (fun _ _ h => h) (by kernel_rfl) (fun d h => by cases h; rfl) ?_
                    simp only [bS, bA]
                    refine NAny_skipK 37 rfl (by kernel_rfl) (by kernel_rfl) (by kernel_rfl) (fun _ _ h => h) (by kernel_rfl) (fun d h => by cases h; rfl) ?_
                    simp only [bS, bA]
                    refine NAny_skipK 38 rfl (by kernel_rfl) (by kernel_rfl) (by kernel_rfl) (fun _ _ h => h) (by kernel_rfl) (fun d h => by cases h; rfl) ?_
                    simp only [bS, bA]
                    refine NAny_skipK 39 rfl (by kernel_rfl) (by kernel_rfl) (by kernel_rfl) (fun _ _ h => h) (by kernel_rfl) (fun d h => by cases h; rfl) ?_
                    simp only [bS, bA]
                    refine NAny_skipK 40 rfl (by kernel_rfl) (by kernel_rfl) (by kernel_rfl) (fun _ _ h => h) (by kernel_rfl) (fun d h => by cases h; rfl) ?_
                    simp only [bS, bA]
                    refine NAny_skipK 41 rfl (by kernel_rfl) (by kernel_rfl) (by kernel_rfl) (fun _ _ h => h) (by kernel_rfl) (fun d h => by cases h; rfl) ?_
                    simp only [bS, bA]
                    refine NAny_skipK 42 rfl (by kernel_rfl) (by kernel_rfl) (by kernel_rfl) (fun _ _ h => h) (by kernel_rfl) (fun d h => by cases h; rfl) ?_
                    simp only [bS, bA]
                    refine NAny_skipK 43 rfl (by kernel_rfl) (by kernel_rfl) (by kernel_rfl) (fun _ _ h => h) (by kernel_rfl) (fun d h => by cases h; rfl) ?_
                    simp only [bS, bA]
                    refine NAny_all1 (i := 44) (by kernel_rfl) rfl (fun d h => by cases h; rfl) ?_
                    refine aAt_if rfl fun K101 hK101 => ?_
                    simp only [↓aops, ↓aop, ↓aWant, ↓aVal, bS, bA, AV.flat, AV.cl, AV.one, Value.oneCell', thenQ, blockQ, noGotoQ, ↓reduceIte, Nat.reduceEqDiff, reduceCtorEq, bL, undef, aBool, tyX, List.length_map, intC, hk, getD_map_cells hr, RNode.cells, Int.natCast_add, Int.natCast_one, Int.cast_ofNat_Int, hw]
                    refine hK101 _ ⟨⟨rfl, rfl, rfl, rfl, rfl, rfl, rfl, rfl, rfl, rfl, rfl, rfl, rfl, rfl, rfl, trivial⟩, ?_⟩
                    try clear hK101 K101
                    refine NAny_all1 (i := 45) (by kernel_rfl) rfl (fun d h => by cases h; rfl) ?_
                    refine aAt_op rfl rfl fun K102 hK102 => ?_
                    simp only [↓aops, ↓aop, ↓aWant, ↓aVal, bS, bA, AV.flat, AV.cl, AV.one, Value.oneCell', thenQ, blockQ, noGotoQ, ↓reduceIte, Nat.reduceEqDiff, reduceCtorEq, aBool, tyX, List.length_map, intC, hk, getD_map_cells hr, RNode.cells, Int.natCast_add, Int.natCast_one, Int.cast_ofNat_Int, hw]
                    refine hK102 _ ⟨⟨rfl, rfl, rfl, rfl, rfl, rfl, rfl, rfl, rfl, rfl, rfl, rfl, rfl, rfl, rfl, trivial⟩, ?_⟩
                    try clear hK102 K102
                    refine NAny_done (by kernel_rfl) ?_
                    simp only [thenQ, blockQ, noGotoQ]
                    refine hK52 _ ?_
                    try clear hK52 K52
                    refine AWp_cond (b := false) (by first | exact rfl | exact congrArg (fun b => AV.v (.bool b)) hb100) (fun h => (by cases h)) (fun _ => ?_)
                    refine AWp_skip ?_
                    try simp only [thenQ, blockQ, noGotoQ]
                    refine hK43 _ ?_
                    try clear hK43 K43
                    refine AWp_region ?_
                    refine aops_chunk 1 fun C103 hC103 => ?_
                    simp only [bL, ↓aops, ↓aop, ↓aWant, ↓aVal, bS, bA, AV.flat, AV.cl, AV.one, Value.oneCell', thenQ, blockQ, noGotoQ, ↓reduceIte, Nat.reduceEqDiff, reduceCtorEq, tyX, List.length_map, intC, hk, getD_map_cells hr, RNode.cells, Int.natCast_add, Int.natCast_one, Int.cast_ofNat_Int, hw]
                    refine hC103 _ ?_
                    try clear hC103 C103
                    simp only [bL]
                    refine aops_chunk 1 fun C104 hC104 => ?_
                    simp only [bL, ↓aops, ↓aop, ↓aWant, ↓aVal, bS, bA, AV.flat, AV.cl, AV.one, Value.oneCell', thenQ, blockQ, noGotoQ, ↓reduceIte, Nat.reduceEqDiff, reduceCtorEq, aBin, tyX, List.length_map, intC, hk, getD_map_cells hr, RNode.cells, Int.natCast_add, Int.natCast_one, Int.cast_ofNat_Int, hw]
                    refine hC104 _ ?_
                    try clear hC104 C104
                    simp only [bL]
                    simp only [↓aops, ↓aop, ↓aWant, ↓aVal, bS, bA, AV.flat, AV.cl, AV.one, Value.oneCell', thenQ, blockQ, noGotoQ, ↓reduceIte, Nat.reduceEqDiff, reduceCtorEq, tyX, List.length_map, intC, hk, getD_map_cells hr, RNode.cells, Int.natCast_add, Int.natCast_one, Int.cast_ofNat_Int, hw]
                    refine ⟨(s + 1), (by omega), by omega, ?_⟩
                    simp only [maskL, setsL, putsO, putO, bA, Nat.reduceEqDiff, ↓reduceIte, hk, getD_map_cells hr, RNode.cells, Int.natCast_add, Int.natCast_one, Int.cast_ofNat_Int, hw]
                    exact Weak.mk (by simp only [LeL, Le.refl, Le.any, Le.slNil, and_self, Int.natCast_add, Int.cast_ofNat_Int, Int.natCast_one]) (fun _ _ h => h) rfl rfl
          · skip
            refine AWp_exit ?_
            simp only [thenQ, blockQ, noGotoQ, bA, Nat.reduceEqDiff, ↓reduceIte]
            refine hK36 _ ?_
            try clear hK36 K36
            refine AWp_seqK fun K105 hK105 => ?_
            refine AWp_region ?_
            refine aops_chunk 1 fun C106 hC106 => ?_
            simp only [bL, ↓aops, ↓aop, ↓aWant, ↓aVal, bS, bA, AV.flat, AV.cl, AV.one, Value.oneCell', thenQ, blockQ, noGotoQ, ↓reduceIte, Nat.reduceEqDiff, reduceCtorEq, tyX, List.length_map, intC]
            refine hC106 _ ?_
            try clear hC106 C106
            simp only [bL]
            refine aops_chunk 1 fun C107 hC107 => ?_
            simp only [bL, ↓aops, ↓aop, ↓aWant, ↓aVal, bS, bA, AV.flat, AV.cl, AV.one, Value.oneCell', thenQ, blockQ, noGotoQ, ↓reduceIte, Nat.reduceEqDiff, reduceCtorEq, tyX, List.length_map, intC]
            refine hC107 _ ?_
            try clear hC107 C107
            simp only [bL]
            refine aops_chunk 1 fun C108 hC108 => ?_
            simp only [bL, ↓aops, ↓aop, ↓aWant, ↓aVal, bS, bA, AV.flat, AV.cl, AV.one, Value.oneCell', thenQ, blockQ, noGotoQ, ↓reduceIte, Nat.reduceEqDiff, reduceCtorEq, aCallV, tyX, List.length_map, intC]
            refine GCalls.at (GVarA_calls (bothF ps).G ask) (.cons (.v _) .nil) (.tup (.cons (.v _) (.cons (.v _) .nil))) (i := 1) (j := 2) (k := 0) rfl rfl rfl (by decide) (by decide) (by decide) (by first | omega | (simp only; omega)) (by first | omega | (simp only; omega)) (by first | omega | (simp only; omega)) ?_
            simp only [putO, Nat.reduceEqDiff, ↓reduceIte]
            try simp only [bS, bA, thenQ, blockQ, noGotoQ]
            refine hC108 _ ?_
            try clear hC108 C108
            simp only [bL]
            refine aops_chunk 1 fun C109 hC109 => ?_
            simp only [bL, ↓aops, ↓aop, ↓aWant, ↓aVal, bS, bA, AV.flat, AV.cl, AV.one, Value.oneCell', thenQ, blockQ, noGotoQ, ↓reduceIte, Nat.reduceEqDiff, reduceCtorEq, tyX, List.length_map, intC]
            refine hC109 _ ?_
            try clear hC109 C109
            simp only [bL]
            refine aops_chunk 1 fun C110 hC110 => ?_
            simp only [bL, ↓aops, ↓aop, ↓aWant, ↓aVal, bS, bA, AV.flat, AV.cl, AV.one, Value.oneCell', thenQ, blockQ, noGotoQ, ↓reduceIte, Nat.reduceEqDiff, reduceCtorEq, aExtract, Nat.reduceAdd, Nat.reduceLT, Nat.zero_lt_succ, tyX, List.length_map, intC]
            refine hC110 _ ?_
            try clear hC110 C110
            simp only [bL]
            refine aops_chunk 1 fun C111 hC111 => ?_
            simp only [bL, ↓aops, ↓aop, ↓aWant, ↓aVal, bS, bA, AV.flat, AV.cl, AV.one, Value.oneCell', thenQ, blockQ, noGotoQ, ↓reduceIte, Nat.reduceEqDiff, reduceCtorEq, aExtract, Nat.reduceAdd, Nat.reduceLT, Nat.zero_lt_succ, tyX, List.length_map, intC]
            refine hC111 _ ?_
            try clear hC111 C111
            simp only [bL]
            refine aops_chunk 1 fun C112 hC112 => ?_
            simp only [bL, ↓aops, ↓aop, ↓aWant, ↓aVal, bS, bA, AV.flat, AV.cl, AV.one, Value.oneCell', thenQ, blockQ, noGotoQ, ↓reduceIte, Nat.reduceEqDiff, reduceCtorEq, tyX, List.length_map, intC]
            refine hC112 _ ?_
            try clear hC112 C112
            simp only [bL]
            simp only [↓aops, ↓aop, ↓aWant, ↓aVal, bS, bA, AV.flat, AV.cl, AV.one, Value.oneCell', thenQ, blockQ, noGotoQ, ↓reduceIte, Nat.reduceEqDiff, reduceCtorEq, tyX, List.length_map, intC]
            refine hK105 _ ?_
            try clear hK105 K105
            refine AWp_seqK fun K113 hK113 => ?_
            refine AWp_region ?_
            refine aops_chunk 1 fun C114 hC114 => ?_
            simp only [bL, ↓aops, ↓aop, ↓aWant, ↓aVal, bS, bA, AV.flat, AV.cl, AV.one, Value.oneCell', thenQ, blockQ, noGotoQ, ↓reduceIte, Nat.reduceEqDiff, reduceCtorEq, tyX, List.length_map, intC]
            refine hC114 _ ?_
            try clear hC114 C114
            simp only [bL]
            refine aops_chunk 1 fun C115 hC115 => ?_
            simp only [bL, ↓aops, ↓aop, ↓aWant, ↓aVal, bS, bA, AV.flat, AV.cl, AV.one, Value.oneCell', thenQ, blockQ, noGotoQ, ↓reduceIte, Nat.reduceEqDiff, reduceCtorEq, tyX, List.length_map, intC]
            refine hC115 _ ?_
            try clear hC115 C115
            simp only [bL]
            refine aops_chunk 1 fun C116 hC116 => ?_
            simp only [bL, ↓aops, ↓aop, ↓aWant, ↓aVal, bS, bA, AV.flat, AV.cl, AV.one, Value.oneCell', thenQ, blockQ, noGotoQ, ↓reduceIte, Nat.reduceEqDiff, reduceCtorEq, getO, aLenX, aLen, ln27, List.length_map, tyX, intC]
            refine hC116 _ ?_
            try clear hC116 C116
            simp only [bL]
            refine aops_chunk 1 fun C117 hC117 => ?_
            simp only [bL, ↓aops, ↓aop, ↓aWant, ↓aVal, bS, bA, AV.flat, AV.cl, AV.one, Value.oneCell', thenQ, blockQ, noGotoQ, ↓reduceIte, Nat.reduceEqDiff, reduceCtorEq, aCallV, tyX, List.length_map, intC]
            refine GCalls.at (Name_calls (bothF ps).G ((bothF ps).m.length : Int)) (.cons (.v _) .nil) (.tup (.cons (.v _) (.cons (.v _) .nil))) (i := 1) (j := 2) (k := 0) rfl rfl rfl (by decide) (by decide) (by decide) (by first | omega | (simp only; omega)) (by first | omega | (simp only; omega)) (by first | omega | (simp only; omega)) ?_
            simp only [putO, Nat.reduceEqDiff, ↓reduceIte]
            try simp only [bS, bA, thenQ, blockQ, noGotoQ]
            refine hC117 _ ?_
            try clear hC117 C117
            simp only [bL]
            refine aops_chunk 1 fun C118 hC118 => ?_
            simp only [bL, ↓aops, ↓aop, ↓aWant, ↓aVal, bS, bA, AV.flat, AV.cl, AV.one, Value.oneCell', thenQ, blockQ, noGotoQ, ↓reduceIte, Nat.reduceEqDiff, reduceCtorEq, tyX, List.length_map, intC]
            refine hC118 _ ?_
            try clear hC118 C118
            simp only [bL]
            refine aops_chunk 1 fun C119 hC119 => ?_
            simp only [bL, ↓aops, ↓aop, ↓aWant, ↓aVal, bS, bA, AV.flat, AV.cl, AV.one, Value.oneCell', thenQ, blockQ, noGotoQ, ↓reduceIte, Nat.reduceEqDiff, reduceCtorEq, aExtract, Nat.reduceAdd, Nat.reduceLT, Nat.zero_lt_succ, tyX, List.length_map, intC]
            refine hC119 _ ?_
            try clear hC119 C119
            simp only [bL]
            refine aops_chunk 1 fun C120 hC120 => ?_
            simp only [bL, ↓aops, ↓aop, ↓aWant, ↓aVal, bS, bA, AV.flat, AV.cl, AV.one, Value.oneCell', thenQ, blockQ, noGotoQ, ↓reduceIte, Nat.reduceEqDiff, reduceCtorEq, aExtract, Nat.reduceAdd, Nat.reduceLT, Nat.zero_lt_succ, tyX, List.length_map, intC]
            refine hC120 _ ?_
            try clear hC120 C120
            simp only [bL]
            refine aops_chunk 1 fun C121 hC121 => ?_
            simp only [bL, ↓aops, ↓aop, ↓aWant, ↓aVal, bS, bA, AV.flat, AV.cl, AV.one, Value.oneCell', thenQ, blockQ, noGotoQ, ↓reduceIte, Nat.reduceEqDiff, reduceCtorEq, tyX, List.length_map, intC]
            refine hC121 _ ?_
            try clear hC121 C121
            simp only [bL]
            simp only [↓aops, ↓aop, ↓aWant, ↓aVal, bS, bA, AV.flat, AV.cl, AV.one, Value.oneCell', thenQ, blockQ, noGotoQ, ↓reduceIte, Nat.reduceEqDiff, reduceCtorEq, tyX, List.length_map, intC]
            refine hK113 _ ?_
            try clear hK113 K113
            refine AWp_seqK fun K122 hK122 => ?_
            refine AWp_region ?_
            refine aops_chunk 1 fun C123 hC123 => ?_
            simp only [bL, ↓aops, ↓aop, ↓aWant, ↓aVal, bS, bA, AV.flat, AV.cl, AV.one, Value.oneCell', thenQ, blockQ, noGotoQ, ↓reduceIte, Nat.reduceEqDiff, reduceCtorEq, tyX, List.length_map, intC]
            refine hC123 _ ?_
            try clear hC123 C123
            simp only [bL]
            refine aops_chunk 1 fun C124 hC124 => ?_
            simp only [bL, ↓aops, ↓aop, ↓aWant, ↓aVal, bS, bA, AV.flat, AV.cl, AV.one, Value.oneCell', thenQ, blockQ, noGotoQ, ↓reduceIte, Nat.reduceEqDiff, reduceCtorEq, tyX, List.length_map, intC]
            refine hC124 _ ?_
            try clear hC124 C124
            simp only [bL]
            refine aops_chunk 1 fun C125 hC125 => ?_
            simp only [bL, ↓aops, ↓aop, ↓aWant, ↓aVal, bS, bA, AV.flat, AV.cl, AV.one, Value.oneCell', thenQ, blockQ, noGotoQ, ↓reduceIte, Nat.reduceEqDiff, reduceCtorEq, tyX, List.length_map, intC]
            refine hC125 _ ?_
            try clear hC125 C125
            simp only [bL]
            refine aops_chunk 1 fun C126 hC126 => ?_
            simp only [bL, ↓aops, ↓aop, ↓aWant, ↓aVal, bS, bA, AV.flat, AV.cl, AV.one, Value.oneCell', thenQ, blockQ, noGotoQ, ↓reduceIte, Nat.reduceEqDiff, reduceCtorEq, aCallV, tyX, List.length_map, intC]
            refine APure.call (RVar_pure (bothF ps).m ask) ?_
            try simp only [bS, bA, thenQ, blockQ, noGotoQ]
            refine hC126 _ ?_
            try clear hC126 C126
            simp only [bL]
            refine aops_chunk 1 fun C127 hC127 => ?_
            simp only [bL, ↓aops, ↓aop, ↓aWant, ↓aVal, bS, bA, AV.flat, AV.cl, AV.one, Value.oneCell', thenQ, blockQ, noGotoQ, ↓reduceIte, Nat.reduceEqDiff, reduceCtorEq, aBin, tyX, List.length_map, intC]
            refine hC127 _ ?_
            try clear hC127 C127
            simp only [bL]
            refine aops_chunk 1 fun C128 hC128 => ?_
            simp only [bL, ↓aops, ↓aop, ↓aWant, ↓aVal, bS, bA, AV.flat, AV.cl, AV.one, Value.oneCell', thenQ, blockQ, noGotoQ, ↓reduceIte, Nat.reduceEqDiff, reduceCtorEq, aBin, bt4, tyX, List.length_map, intC]
            refine hC128 _ ?_
            try clear hC128 C128
            simp only [bL]
            refine aops_chunk 1 fun C129 hC129 => ?_
            simp only [bL, ↓aops, ↓aop, ↓aWant, ↓aVal, bS, bA, AV.flat, AV.cl, AV.one, Value.oneCell', thenQ, blockQ, noGotoQ, ↓reduceIte, Nat.reduceEqDiff, reduceCtorEq, tyX, List.length_map, intC]
            refine hC129 _ ?_
            try clear hC129 C129
            simp only [bL]
            refine aops_case 120 rfl (fun hc120 => ?_) (fun hc120 => ?_)
            · simp only [List.set_cons_zero, List.set_cons_succ]
              refine aops_chunk 1 fun C130 hC130 => ?_
              simp only [bL, ↓aops, ↓aop, ↓aWant, ↓aVal, bS, bA, AV.flat, AV.cl, AV.one, Value.oneCell', thenQ, blockQ, noGotoQ, ↓reduceIte, Nat.reduceEqDiff, reduceCtorEq, undef, tyX, List.length_map, intC]
              refine hC130 _ ?_
              try clear hC130 C130
              simp only [bL]
              refine aops_chunk 1 fun C131 hC131 => ?_
              simp only [bL, ↓aops, ↓aop, ↓aWant, ↓aVal, bS, bA, AV.flat, AV.cl, AV.one, Value.oneCell', thenQ, blockQ, noGotoQ, ↓reduceIte, Nat.reduceEqDiff, reduceCtorEq, undef, tyX, List.length_map, intC]
              refine hC131 _ ?_
              try clear hC131 C131
              simp only [bL]
              refine aops_chunk 1 fun C132 hC132 => ?_
              simp only [bL, ↓aops, ↓aop, ↓aWant, ↓aVal, bS, bA, AV.flat, AV.cl, AV.one, Value.oneCell', thenQ, blockQ, noGotoQ, ↓reduceIte, Nat.reduceEqDiff, reduceCtorEq, undef, tyX, List.length_map, intC]
              refine hC132 _ ?_
              try clear hC132 C132
              simp only [bL]
              refine aops_chunk 1 fun C133 hC133 => ?_
              simp only [bL, ↓aops, ↓aop, ↓aWant, ↓aVal, bS, bA, AV.flat, AV.cl, AV.one, Value.oneCell', thenQ, blockQ, noGotoQ, ↓reduceIte, Nat.reduceEqDiff, reduceCtorEq, undef, aCallV, tyX, List.length_map, intC]
              refine APure.call (RVar_pure (bothF ps).m ask) ?_
              try simp only [bS, bA, thenQ, blockQ, noGotoQ]
              refine hC133 _ ?_
              try clear hC133 C133
              simp only [bL]
              refine aops_chunk 1 fun C134 hC134 => ?_
              simp only [bL, ↓aops, ↓aop, ↓aWant, ↓aVal, bS, bA, AV.flat, AV.cl, AV.one, Value.oneCell', thenQ, blockQ, noGotoQ, ↓reduceIte, Nat.reduceEqDiff, reduceCtorEq, undef, aMore, aMinMax, tyX, List.length_map, intC]
              refine hC134 _ ?_
              try clear hC134 C134
              simp only [bL]
              refine aops_chunk 1 fun C135 hC135 => ?_
              simp only [bL, ↓aops, ↓aop, ↓aWant, ↓aVal, bS, bA, AV.flat, AV.cl, AV.one, Value.oneCell', thenQ, blockQ, noGotoQ, ↓reduceIte, Nat.reduceEqDiff, reduceCtorEq, undef, aBin, tyX, List.length_map, intC]
              refine hC135 _ ?_
              try clear hC135 C135
              simp only [bL]
              refine aops_chunk 1 fun C136 hC136 => ?_
              simp only [bL, ↓aops, ↓aop, ↓aWant, ↓aVal, bS, bA, AV.flat, AV.cl, AV.one, Value.oneCell', thenQ, blockQ, noGotoQ, ↓reduceIte, Nat.reduceEqDiff, reduceCtorEq, aBool, tyX, List.length_map, intC]
              refine hC136 _ ?_
              try clear hC136 C136
              simp only [bL]
              refine aops_chunk 1 fun C137 hC137 => ?_
              simp only [bL, ↓aops, ↓aop, ↓aWant, ↓aVal, bS, bA, AV.flat, AV.cl, AV.one, Value.oneCell', thenQ, blockQ, noGotoQ, ↓reduceIte, Nat.reduceEqDiff, reduceCtorEq, tyX, List.length_map, intC]
              refine hC137 _ ?_
              try clear hC137 C137
              simp only [bL]
              refine aops_case 128 rfl (fun hc128 => ?_) (fun hc128 => ?_)
              · simp only [List.set_cons_zero, List.set_cons_succ]
                refine aops_chunk 1 fun C138 hC138 => ?_
                simp only [bL, ↓aops, ↓aop, ↓aWant, ↓aVal, bS, bA, AV.flat, AV.cl, AV.one, Value.oneCell', thenQ, blockQ, noGotoQ, ↓reduceIte, Nat.reduceEqDiff, reduceCtorEq, undef, tyX, List.length_map, intC]
                refine hC138 _ ?_
                try clear hC138 C138
                simp only [bL]
                refine aops_chunk 1 fun C139 hC139 => ?_
                simp only [bL, ↓aops, ↓aop, ↓aWant, ↓aVal, bS, bA, AV.flat, AV.cl, AV.one, Value.oneCell', thenQ, blockQ, noGotoQ, ↓reduceIte, Nat.reduceEqDiff, reduceCtorEq, undef, aUn, tyX, List.length_map, intC]
                refine hC139 _ ?_
                try clear hC139 C139
                simp only [bL]
                refine aops_chunk 1 fun C140 hC140 => ?_
                simp only [bL, ↓aops, ↓aop, ↓aWant, ↓aVal, bS, bA, AV.flat, AV.cl, AV.one, Value.oneCell', thenQ, blockQ, noGotoQ, ↓reduceIte, Nat.reduceEqDiff, reduceCtorEq, aBool, tyX, List.length_map, intC]
                refine hC140 _ ?_
                try clear hC140 C140
                simp only [bL]
                refine aops_chunk 1 fun C141 hC141 => ?_
                simp only [bL, ↓aops, ↓aop, ↓aWant, ↓aVal, bS, bA, AV.flat, AV.cl, AV.one, Value.oneCell', thenQ, blockQ, noGotoQ, ↓reduceIte, Nat.reduceEqDiff, reduceCtorEq, tyX, List.length_map, intC]
                refine hC141 _ ?_
                try clear hC141 C141
                simp only [bL]
                refine aops_case 132 rfl (fun hc132 => ?_) (fun hc132 => ?_)
                · simp only [List.set_cons_zero, List.set_cons_succ]
                  refine aops_chunk 1 fun C142 hC142 => ?_
                  simp only [bL, ↓aops, ↓aop, ↓aWant, ↓aVal, bS, bA, AV.flat, AV.cl, AV.one, Value.oneCell', thenQ, blockQ, noGotoQ, ↓reduceIte, Nat.reduceEqDiff, reduceCtorEq, undef, tyX, List.length_map, intC]
                  refine hC142 _ ?_
                  try clear hC142 C142
                  simp only [bL]
                  refine aops_chunk 1 fun C143 hC143 => ?_
                  simp only [bL, ↓aops, ↓aop, ↓aWant, ↓aVal, bS, bA, AV.flat, AV.cl, AV.one, Value.oneCell', thenQ, blockQ, noGotoQ, ↓reduceIte, Nat.reduceEqDiff, reduceCtorEq, undef, aCallV, tyX, List.length_map, intC]
                  refine GCalls.at (KindA_calls (bothF ps).G (-1)) (.cons (.v _) .nil) (.v _) (i := 1) (j := 2) (k := 0) rfl rfl rfl (by decide) (by decide) (by decide) (by first | omega | (simp only; omega)) (by first | omega | (simp only; omega)) (by first | omega | (simp only; omega)) ?_
                  simp only [putO, Nat.reduceEqDiff, ↓reduceIte]
                  try simp only [bS, bA, thenQ, blockQ, noGotoQ]
                  refine hC143 _ ?_
                  try clear hC143 C143
                  simp only [bL]
                  refine aops_chunk 1 fun C144 hC144 => ?_
                  simp only [bL, ↓aops, ↓aop, ↓aWant, ↓aVal, bS, bA, AV.flat, AV.cl, AV.one, Value.oneCell', thenQ, blockQ, noGotoQ, ↓reduceIte, Nat.reduceEqDiff, reduceCtorEq, undef, aBin, tyX, List.length_map, intC]
                  refine hC144 _ ?_
                  try clear hC144 C144
                  simp only [bL]
                  refine aops_chunk 1 fun C145 hC145 => ?_
                  simp only [bL, ↓aops, ↓aop, ↓aWant, ↓aVal, bS, bA, AV.flat, AV.cl, AV.one, Value.oneCell', thenQ, blockQ, noGotoQ, ↓reduceIte, Nat.reduceEqDiff, reduceCtorEq, aBool, tyX, List.length_map, intC]
                  refine hC145 _ ?_
                  try clear hC145 C145
                  simp only [bL]
                  refine aops_chunk 1 fun C146 hC146 => ?_
                  simp only [bL, ↓aops, ↓aop, ↓aWant, ↓aVal, bS, bA, AV.flat, AV.cl, AV.one, Value.oneCell', thenQ, blockQ, noGotoQ, ↓reduceIte, Nat.reduceEqDiff, reduceCtorEq, tyX, List.length_map, intC]
                  refine hC146 _ ?_
                  try clear hC146 C146
                  simp only [bL]
                  refine aops_case 137 rfl (fun hc137 => ?_) (fun hc137 => ?_)
                  · simp only [List.set_cons_zero, List.set_cons_succ]
                    refine aops_chunk 1 fun C147 hC147 => ?_
                    simp only [bL, ↓aops, ↓aop, ↓aWant, ↓aVal, bS, bA, AV.flat, AV.cl, AV.one, Value.oneCell', thenQ, blockQ, noGotoQ, ↓reduceIte, Nat.reduceEqDiff, reduceCtorEq, undef, tyX, List.length_map, intC]
                    refine hC147 _ ?_
                    try clear hC147 C147
                    simp only [bL]
                    refine aops_chunk 1 fun C148 hC148 => ?_
                    simp only [bL, ↓aops, ↓aop, ↓aWant, ↓aVal, bS, bA, AV.flat, AV.cl, AV.one, Value.oneCell', thenQ, blockQ, noGotoQ, ↓reduceIte, Nat.reduceEqDiff, reduceCtorEq, undef, tyX, List.length_map, intC]
                    refine hC148 _ ?_
                    try clear hC148 C148
                    simp only [bL]
                    refine aops_chunk 1 fun C149 hC149 => ?_
                    simp only [bL, ↓aops, ↓aop, ↓aWant, ↓aVal, bS, bA, AV.flat, AV.cl, AV.one, Value.oneCell', thenQ, blockQ, noGotoQ, ↓reduceIte, Nat.reduceEqDiff, reduceCtorEq, undef, getO, aLenX, aLen, ln27, List.length_map, tyX, intC]
                    refine hC149 _ ?_
                    try clear hC149 C149
                    simp only [bL]
                    refine aops_chunk 1 fun C150 hC150 => ?_
                    simp only [bL, ↓aops, ↓aop, ↓aWant, ↓aVal, bS, bA, AV.flat, AV.cl, AV.one, Value.oneCell', thenQ, blockQ, noGotoQ, ↓reduceIte, Nat.reduceEqDiff, reduceCtorEq, undef, aCallV, tyX, List.length_map, intC]
                    refine GCalls.at (KindA_calls (bothF ps).G ((bothF ps).m.length : Int)) (.cons (.v _) .nil) (.v _) (i := 1) (j := 2) (k := 0) rfl rfl rfl (by decide) (by decide) (by decide) (by first | omega | (simp only; omega)) (by first | omega | (simp only; omega)) (by first | omega | (simp only; omega)) ?_
                    simp only [putO, Nat.reduceEqDiff, ↓reduceIte]
                    try simp only [bS, bA, thenQ, blockQ, noGotoQ]
                    refine hC150 _ ?_
                    try clear hC150 C150
                    simp only [bL]
                    refine aops_chunk 1 fun C151 hC151 => ?_
                    simp only [bL, ↓aops, ↓aop, ↓aWant, ↓aVal, bS, bA, AV.flat, AV.cl, AV.one, Value.oneCell', thenQ, blockQ, noGotoQ, ↓reduceIte, Nat.reduceEqDiff, reduceCtorEq, undef, aBin, tyX, List.length_map, intC]
                    refine hC151 _ ?_
                    try clear hC151 C151
                    simp only [bL]
                    refine aops_chunk 1 fun C152 hC152 => ?_
                    simp only [bL, ↓aops, ↓aop, ↓aWant, ↓aVal, bS, bA, AV.flat, AV.cl, AV.one, Value.oneCell', thenQ, blockQ, noGotoQ, ↓reduceIte, Nat.reduceEqDiff, reduceCtorEq, aBool, tyX, List.length_map, intC]
                    refine hC152 _ ?_
                    try clear hC152 C152
                    simp only [bL]
                    refine aops_chunk 1 fun C153 hC153 => ?_
                    simp only [bL, ↓aops, ↓aop, ↓aWant, ↓aVal, bS, bA, AV.flat, AV.cl, AV.one, Value.oneCell', thenQ, blockQ, noGotoQ, ↓reduceIte, Nat.reduceEqDiff, reduceCtorEq, tyX, List.length_map, intC]
                    refine hC153 _ ?_
                    try clear hC153 C153
                    simp only [bL]
                    refine aops_case 144 rfl (fun hc144 => ?_) (fun hc144 => ?_)
                    · simp only [List.set_cons_zero, List.set_cons_succ]
                      refine aops_chunk 1 fun C154 hC154 => ?_
                      simp only [bL, ↓aops, ↓aop, ↓aWant, ↓aVal, bS, bA, AV.flat, AV.cl, AV.one, Value.oneCell', thenQ, blockQ, noGotoQ, ↓reduceIte, Nat.reduceEqDiff, reduceCtorEq, undef, tyX, List.length_map, intC]
                      refine hC154 _ ?_
                      try clear hC154 C154
                      simp only [bL]
                      refine aops_chunk 1 fun C155 hC155 => ?_
                      simp only [bL, ↓aops, ↓aop, ↓aWant, ↓aVal, bS, bA, AV.flat, AV.cl, AV.one, Value.oneCell', thenQ, blockQ, noGotoQ, ↓reduceIte, Nat.reduceEqDiff, reduceCtorEq, undef, tyX, List.length_map, intC]
                      refine hC155 _ ?_
                      try clear hC155 C155
                      simp only [bL]
                      refine aops_chunk 1 fun C156 hC156 => ?_
                      simp only [bL, ↓aops, ↓aop, ↓aWant, ↓aVal, bS, bA, AV.flat, AV.cl, AV.one, Value.oneCell', thenQ, blockQ, noGotoQ, ↓reduceIte, Nat.reduceEqDiff, reduceCtorEq, undef, getO, aLenX, aLen, ln27, List.length_map, tyX, intC]
                      refine hC156 _ ?_
                      try clear hC156 C156
                      simp only [bL]
                      refine aops_chunk 1 fun C157 hC157 => ?_
                      simp only [bL, ↓aops, ↓aop, ↓aWant, ↓aVal, bS, bA, AV.flat, AV.cl, AV.one, Value.oneCell', thenQ, blockQ, noGotoQ, ↓reduceIte, Nat.reduceEqDiff, reduceCtorEq, undef, aCallV, tyX, List.length_map, intC]
                      refine GCalls.at (Parts_calls (bothF ps).G ((bothF ps).m.length : Int) (fun x hx => by obtain ⟨i, hi, e⟩ := List.mem_iff_getElem.1 hx; exact (hwf i x (by rw [List.getElem?_eq_getElem hi, e])).2)) (.cons (.v _) .nil) (dataInts _) (i := 1) (j := 2) (k := 0) rfl rfl rfl (by decide) (by decide) (by decide) (by first | omega | (simp only; omega)) (by first | omega | (simp only; omega)) (by first | omega | (simp only; omega)) ?_
                      simp only [putO, Nat.reduceEqDiff, ↓reduceIte]
                      try simp only [bS, bA, thenQ, blockQ, noGotoQ]
                      refine hC157 _ ?_
                      try clear hC157 C157
                      simp only [bL]
                      refine aops_chunk 1 fun C158 hC158 => ?_
                      simp only [bL, ↓aops, ↓aop, ↓aWant, ↓aVal, bS, bA, AV.flat, AV.cl, AV.one, Value.oneCell', thenQ, blockQ, noGotoQ, ↓reduceIte, Nat.reduceEqDiff, reduceCtorEq, undef, getO, aLenX, aLen, ln28, List.length_map, tyX, intC]
                      refine hC158 _ ?_
                      try clear hC158 C158
                      simp only [bL]
                      refine aops_chunk 1 fun C159 hC159 => ?_
                      simp only [bL, ↓aops, ↓aop, ↓aWant, ↓aVal, bS, bA, AV.flat, AV.cl, AV.one, Value.oneCell', thenQ, blockQ, noGotoQ, ↓reduceIte, Nat.reduceEqDiff, reduceCtorEq, undef, aBin, tyX, List.length_map, intC]
                      refine hC159 _ ?_
                      try clear hC159 C159
                      simp only [bL]
                      refine aops_chunk 1 fun C160 hC160 => ?_
                      simp only [bL, ↓aops, ↓aop, ↓aWant, ↓aVal, bS, bA, AV.flat, AV.cl, AV.one, Value.oneCell', thenQ, blockQ, noGotoQ, ↓reduceIte, Nat.reduceEqDiff, reduceCtorEq, aBool, tyX, List.length_map, intC]
                      refine hC160 _ ?_
                      try clear hC160 C160
                      simp only [bL]
                      refine aops_chunk 1 fun C161 hC161 => ?_
                      simp only [bL, ↓aops, ↓aop, ↓aWant, ↓aVal, bS, bA, AV.flat, AV.cl, AV.one, Value.oneCell', thenQ, blockQ, noGotoQ, ↓reduceIte, Nat.reduceEqDiff, reduceCtorEq, tyX, List.length_map, intC]
                      refine hC161 _ ?_
                      try clear hC161 C161
                      simp only [bL]
                      refine aops_case 152 rfl (fun hc152 => ?_) (fun hc152 => ?_)
                      · simp only [List.set_cons_zero, List.set_cons_succ]
                        refine aops_chunk 1 fun C162 hC162 => ?_
                        simp only [bL, ↓aops, ↓aop, ↓aWant, ↓aVal, bS, bA, AV.flat, AV.cl, AV.one, Value.oneCell', thenQ, blockQ, noGotoQ, ↓reduceIte, Nat.reduceEqDiff, reduceCtorEq, undef, aCallV, tyX, List.length_map, intC]
                        refine APure.call (awake_pure) ?_
                        try simp only [bS, bA, thenQ, blockQ, noGotoQ]
                        refine hC162 _ ?_
                        try clear hC162 C162
                        simp only [bL]
                        refine aops_chunk 1 fun C163 hC163 => ?_
                        simp only [bL, ↓aops, ↓aop, ↓aWant, ↓aVal, bS, bA, AV.flat, AV.cl, AV.one, Value.oneCell', thenQ, blockQ, noGotoQ, ↓reduceIte, Nat.reduceEqDiff, reduceCtorEq, aBool, tyX, List.length_map, intC]
                        refine hC163 _ ?_
                        try clear hC163 C163
                        simp only [bL]
                        simp only [↓aops, ↓aop, ↓aWant, ↓aVal, bS, bA, AV.flat, AV.cl, AV.one, Value.oneCell', thenQ, blockQ, noGotoQ, ↓reduceIte, Nat.reduceEqDiff, reduceCtorEq, tyX, List.length_map, intC]
                        refine hK122 _ ?_
                        try clear hK122 K122
                        refine AWp_ret ?_
                        try simp only [thenQ, blockQ, noGotoQ, retQ, aRes, tupOf, bS, bA]
                        exact Le.refl _
                      · simp only [List.set_cons_zero, List.set_cons_succ]
                        exact absurd hc152 (by simp [hpo])
                    · simp only [List.set_cons_zero, List.set_cons_succ]
                      exact absurd hc144 (by simp [hko])
                  · simp only [List.set_cons_zero, List.set_cons_succ]
                    exact absurd hc137 (by simp [hkm])
                · simp only [List.set_cons_zero, List.set_cons_succ]
                  exact absurd hc132 (by simp [hno])
              · simp only [List.set_cons_zero, List.set_cons_succ]
                exact absurd hc128 (by simp [hask2])
            · simp only [List.set_cons_zero, List.set_cons_succ]
              exact absurd hc120 (by simp [hask1])
end Go.Proofs.Ytohdoloalolpfaa
