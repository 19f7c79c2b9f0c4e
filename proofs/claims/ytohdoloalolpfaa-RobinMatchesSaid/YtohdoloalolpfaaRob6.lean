import Derived.Test.YtohdoloalolpfaaRob5
import Derived.Test.YtohdoloalolpfaaAw15
import Derived.Test.YtohdoloalolpfaaGreat
namespace Go.Proofs.Ytohdoloalolpfaa
open Go Go.RowKit
set_option maxRecDepth 100000
set_option maxHeartbeats 1000000
set_option linter.unusedSimpArgs false
set_option linter.unusedVariables false
attribute [local irreducible] aops dRun
theorem same_false {T U : Ty} (h : T.same U = false) : T ≠ U := fun e => by rw [(Ty.same_iff T U).2 e] at h; cases h
theorem law_ok {T U : Ty} (h1 : T.right = true) (h2 : U.right = true) (h : (T.sub (wantB T U)).same U = true) :
    mRes T U = (wantB T U, 0) ∧ (mRes U T).2 = if T.canon.same U.canon then 0 else 7 := by
  have hm : (T.match U []).1 = true := by
    cases hv : (T.match U []).1 with
    | true => rfl
    | false => exact absurd ((Ty.same_iff _ _).1 h) (match_not h1 h2 hv _)
  refine ⟨by rw [mRes_ok (by simp [h1, h2]) hm, match_have h1 h2 hm], ?_⟩
  have hb := Ty.match_both h1 h2 hm
  cases hc : (U.match T []).1 with
  | true => rw [mRes_ok (by simp [h1, h2]) hc, ← hb, hc]; rfl
  | false => rw [mRes_clash (by simp [h1, h2]) hc, ← hb, hc]; rfl
theorem law_no {T U : Ty} (h1 : T.right = true) (h2 : U.right = true) (h : (T.sub (wantB T U)).same U = false) : mRes T U = ([], 7) := by
  refine mRes_clash (by simp [h1, h2]) ?_
  cases hv : (T.match U []).1 with
  | false => rfl
  | true => exact absurd (match_subs h1 h2 hv) (same_false h)
theorem same_eq {T U : Ty} (h : (T.sub (wantB T U)).same U = true) : T.sub (wantB T U) = U := (Ty.same_iff _ _).1 h
theorem RobinMatches_pure (T U : Ty) : APure Try.prog 7 [.agg T.cells, .agg U.cells] (.v (.bool true)) := by
  refine APure.mkL (.cons T.dataAgg (.cons U.dataAgg .nil)) (.v _) ?_
  refine ACalls_intro Try.func7 (by kernel_rfl) rfl (by rw [Try.ntmps7]; simp) (fun hm => ?_)
  simp only [Try.ntmps7, Try.results7, List.length_cons, List.length_nil, Nat.reduceAdd, Nat.reduceSub, List.replicate_succ, List.replicate_zero, List.cons_append, List.nil_append]
  refine AWp_seqK fun K1 hK1 => ?_
  refine AWp_region ?_
  refine aops_chunk 2 fun C2 hC2 => ?_
  simp only [bL, ↓aops, ↓aop, ↓aWant, ↓aVal, bS, bA, AV.flat, AV.cl, AV.one, Value.oneCell', thenQ, blockQ, noGotoQ, ↓reduceIte, Nat.reduceEqDiff, reduceCtorEq, tyX, Bd.take1, Bd.drop1, Bd.cells_len, Bd.one]
  refine hC2 _ ?_
  try clear hC2 C2
  simp only [bL]
  simp only [↓aops, ↓aop, ↓aWant, ↓aVal, bS, bA, AV.flat, AV.cl, AV.one, Value.oneCell', thenQ, blockQ, noGotoQ, ↓reduceIte, Nat.reduceEqDiff, reduceCtorEq, tyX, Bd.take1, Bd.drop1, Bd.cells_len, Bd.one]
  refine hK1 _ ?_
  try clear hK1 K1
  refine AWp_seqK fun K3 hK3 => ?_
  refine AWp_seqK fun K4 hK4 => ?_
  refine AWp_region ?_
  refine aops_chunk 1 fun C5 hC5 => ?_
  simp only [bL, ↓aops, ↓aop, ↓aWant, ↓aVal, bS, bA, AV.flat, AV.cl, AV.one, Value.oneCell', thenQ, blockQ, noGotoQ, ↓reduceIte, Nat.reduceEqDiff, reduceCtorEq, aLoad, ti32, getO, pack, Nat.reduceAdd, Nat.reduceLeDiff, tyX, Bd.take1, Bd.drop1, Bd.cells_len, Bd.one]
  refine hC5 _ ?_
  try clear hC5 C5
  simp only [bL]
  refine aops_chunk 1 fun C6 hC6 => ?_
  simp only [bL, ↓aops, ↓aop, ↓aWant, ↓aVal, bS, bA, AV.flat, AV.cl, AV.one, Value.oneCell', thenQ, blockQ, noGotoQ, ↓reduceIte, Nat.reduceEqDiff, reduceCtorEq, aCallV, tyX, Bd.take1, Bd.drop1, Bd.cells_len, Bd.one]
  refine APure.call (Great3_pure T) ?_
  try simp only [bS, bA, thenQ, blockQ, noGotoQ]
  refine hC6 _ ?_
  try clear hC6 C6
  simp only [bL]
  refine aops_chunk 1 fun C7 hC7 => ?_
  simp only [bL, ↓aops, ↓aop, ↓aWant, ↓aVal, bS, bA, AV.flat, AV.cl, AV.one, Value.oneCell', thenQ, blockQ, noGotoQ, ↓reduceIte, Nat.reduceEqDiff, reduceCtorEq, tyX, Bd.take1, Bd.drop1, Bd.cells_len, Bd.one]
  refine hC7 _ ?_
  try clear hC7 C7
  simp only [bL]
  refine aops_case 14 rfl (fun hc14 => ?_) (fun hc14 => ?_)
  · simp only [List.set_cons_zero, List.set_cons_succ]
    refine aops_chunk 2 fun C8 hC8 => ?_
    simp only [bL, ↓aops, ↓aop, ↓aWant, ↓aVal, bS, bA, AV.flat, AV.cl, AV.one, Value.oneCell', thenQ, blockQ, noGotoQ, ↓reduceIte, Nat.reduceEqDiff, reduceCtorEq, undef, aLoad, ti32, getO, pack, Nat.reduceAdd, Nat.reduceLeDiff, aCallV, tyX, Bd.take1, Bd.drop1, Bd.cells_len, Bd.one]
    refine hC8 _ ?_
    try clear hC8 C8
    simp only [bL]
    simp only [↓aops, ↓aop, ↓aWant, ↓aVal, bS, bA, AV.flat, AV.cl, AV.one, Value.oneCell', thenQ, blockQ, noGotoQ, ↓reduceIte, Nat.reduceEqDiff, reduceCtorEq, aBool, tyX, Bd.take1, Bd.drop1, Bd.cells_len, Bd.one]
    refine hK4 _ ?_
    try clear hK4 K4
    refine AWp_cond (b := true) (by first | exact rfl | exact congrArg (fun b => AV.v (.bool b)) hb17) (fun _ => ?_) (fun h => (by cases h))
    refine AWp_seqK fun K9 hK9 => ?_
    refine AWp_region ?_
    refine aops_chunk 1 fun C10 hC10 => ?_
    simp only [bL, ↓aops, ↓aop, ↓aWant, ↓aVal, bS, bA, AV.flat, AV.cl, AV.one, Value.oneCell', thenQ, blockQ, noGotoQ, ↓reduceIte, Nat.reduceEqDiff, reduceCtorEq, aCallV, tyX, Bd.take1, Bd.drop1, Bd.cells_len, Bd.one]
    refine APure.call (awake15_pure) ?_
    try simp only [bS, bA, thenQ, blockQ, noGotoQ]
    refine hC10 _ ?_
    try clear hC10 C10
    simp only [bL]
    simp only [↓aops, ↓aop, ↓aWant, ↓aVal, bS, bA, AV.flat, AV.cl, AV.one, Value.oneCell', thenQ, blockQ, noGotoQ, ↓reduceIte, Nat.reduceEqDiff, reduceCtorEq, tyX, Bd.take1, Bd.drop1, Bd.cells_len, Bd.one]
    refine hK9 _ ?_
    try clear hK9 K9
    refine AWp_ret ?_
    try simp only [thenQ, blockQ, noGotoQ, retQ, aRes, tupOf, bS, bA]
    exact Le.refl _
  · simp only [List.set_cons_zero, List.set_cons_succ]
    have hg1 : T.great = false := by simpa using hc14
    have hc1 := Ty.great_cnt hg1
    refine aops_chunk 1 fun C11 hC11 => ?_
    simp only [bL, ↓aops, ↓aop, ↓aWant, ↓aVal, bS, bA, AV.flat, AV.cl, AV.one, Value.oneCell', thenQ, blockQ, noGotoQ, ↓reduceIte, Nat.reduceEqDiff, reduceCtorEq, undef, aLoad, ti32, getO, pack, Nat.reduceAdd, Nat.reduceLeDiff, tyX, Bd.take1, Bd.drop1, Bd.cells_len, Bd.one]
    refine hC11 _ ?_
    try clear hC11 C11
    simp only [bL]
    refine aops_chunk 1 fun C12 hC12 => ?_
    simp only [bL, ↓aops, ↓aop, ↓aWant, ↓aVal, bS, bA, AV.flat, AV.cl, AV.one, Value.oneCell', thenQ, blockQ, noGotoQ, ↓reduceIte, Nat.reduceEqDiff, reduceCtorEq, undef, aCallV, tyX, Bd.take1, Bd.drop1, Bd.cells_len, Bd.one]
    refine APure.call (Great3_pure U) ?_
    try simp only [bS, bA, thenQ, blockQ, noGotoQ]
    refine hC12 _ ?_
    try clear hC12 C12
    simp only [bL]
    simp only [↓aops, ↓aop, ↓aWant, ↓aVal, bS, bA, AV.flat, AV.cl, AV.one, Value.oneCell', thenQ, blockQ, noGotoQ, ↓reduceIte, Nat.reduceEqDiff, reduceCtorEq, aBool, tyX, Bd.take1, Bd.drop1, Bd.cells_len, Bd.one]
    refine hK4 _ ?_
    try clear hK4 K4
    refine AWp_cond rfl (fun hb17 => ?_) (fun hb17 => ?_)
    · skip
      refine AWp_seqK fun K13 hK13 => ?_
      refine AWp_region ?_
      refine aops_chunk 1 fun C14 hC14 => ?_
      simp only [bL, ↓aops, ↓aop, ↓aWant, ↓aVal, bS, bA, AV.flat, AV.cl, AV.one, Value.oneCell', thenQ, blockQ, noGotoQ, ↓reduceIte, Nat.reduceEqDiff, reduceCtorEq, aCallV, tyX, Bd.take1, Bd.drop1, Bd.cells_len, Bd.one]
      refine APure.call (awake15_pure) ?_
      try simp only [bS, bA, thenQ, blockQ, noGotoQ]
      refine hC14 _ ?_
      try clear hC14 C14
      simp only [bL]
      simp only [↓aops, ↓aop, ↓aWant, ↓aVal, bS, bA, AV.flat, AV.cl, AV.one, Value.oneCell', thenQ, blockQ, noGotoQ, ↓reduceIte, Nat.reduceEqDiff, reduceCtorEq, tyX, Bd.take1, Bd.drop1, Bd.cells_len, Bd.one]
      refine hK13 _ ?_
      try clear hK13 K13
      refine AWp_ret ?_
      try simp only [thenQ, blockQ, noGotoQ, retQ, aRes, tupOf, bS, bA]
      exact Le.refl _
    · skip
      have hg2 : U.great = false := by simpa using hb17
      have hc2 := Ty.great_cnt hg2
      have hMa := Match_pure T U (by omega) (by omega)
      have hMb := Match_pure U T (by omega) (by omega)
      refine AWp_skip ?_
      try simp only [thenQ, blockQ, noGotoQ]
      refine hK3 _ ?_
      try clear hK3 K3
      refine AWp_seqK fun K15 hK15 => ?_
      refine AWp_region ?_
      refine aops_chunk 2 fun C16 hC16 => ?_
      simp only [bL, ↓aops, ↓aop, ↓aWant, ↓aVal, bS, bA, AV.flat, AV.cl, AV.one, Value.oneCell', thenQ, blockQ, noGotoQ, ↓reduceIte, Nat.reduceEqDiff, reduceCtorEq, aLoad, ti32, getO, pack, Nat.reduceAdd, Nat.reduceLeDiff, tyX, Bd.take1, Bd.drop1, Bd.cells_len, Bd.one]
      refine hC16 _ ?_
      try clear hC16 C16
      simp only [bL]
      refine aops_chunk 1 fun C17 hC17 => ?_
      simp only [bL, ↓aops, ↓aop, ↓aWant, ↓aVal, bS, bA, AV.flat, AV.cl, AV.one, Value.oneCell', thenQ, blockQ, noGotoQ, ↓reduceIte, Nat.reduceEqDiff, reduceCtorEq, aCallV, tyX, Bd.take1, Bd.drop1, Bd.cells_len, Bd.one]
      refine APure.call (hMa) ?_
      try simp only [bS, bA, thenQ, blockQ, noGotoQ]
      refine hC17 _ ?_
      try clear hC17 C17
      simp only [bL]
      refine aops_chunk 2 fun C18 hC18 => ?_
      simp only [bL, ↓aops, ↓aop, ↓aWant, ↓aVal, bS, bA, AV.flat, AV.cl, AV.one, Value.oneCell', thenQ, blockQ, noGotoQ, ↓reduceIte, Nat.reduceEqDiff, reduceCtorEq, aExtract, Nat.reduceAdd, Nat.reduceLT, Nat.zero_lt_succ, tyX, Bd.take1, Bd.drop1, Bd.cells_len, Bd.one]
      refine hC18 _ ?_
      try clear hC18 C18
      simp only [bL]
      refine aops_chunk 2 fun C19 hC19 => ?_
      simp only [bL, ↓aops, ↓aop, ↓aWant, ↓aVal, bS, bA, AV.flat, AV.cl, AV.one, Value.oneCell', thenQ, blockQ, noGotoQ, ↓reduceIte, Nat.reduceEqDiff, reduceCtorEq, aExtract, Nat.reduceAdd, Nat.reduceLT, Nat.zero_lt_succ, tyX, Bd.take1, Bd.drop1, Bd.cells_len, Bd.one]
      refine hC19 _ ?_
      try clear hC19 C19
      simp only [bL]
      simp only [↓aops, ↓aop, ↓aWant, ↓aVal, bS, bA, AV.flat, AV.cl, AV.one, Value.oneCell', thenQ, blockQ, noGotoQ, ↓reduceIte, Nat.reduceEqDiff, reduceCtorEq, tyX, Bd.take1, Bd.drop1, Bd.cells_len, Bd.one]
      refine hK15 _ ?_
      try clear hK15 K15
      refine AWp_seqK fun K20 hK20 => ?_
      refine AWp_seqK fun K21 hK21 => ?_
      refine AWp_region ?_
      refine aops_chunk 1 fun C22 hC22 => ?_
      simp only [bL, ↓aops, ↓aop, ↓aWant, ↓aVal, bS, bA, AV.flat, AV.cl, AV.one, Value.oneCell', thenQ, blockQ, noGotoQ, ↓reduceIte, Nat.reduceEqDiff, reduceCtorEq, aLoad, ti32, getO, pack, Nat.reduceAdd, Nat.reduceLeDiff, tyX, Bd.take1, Bd.drop1, Bd.cells_len, Bd.one]
      refine hC22 _ ?_
      try clear hC22 C22
      simp only [bL]
      refine aops_chunk 1 fun C23 hC23 => ?_
      simp only [bL, ↓aops, ↓aop, ↓aWant, ↓aVal, bS, bA, AV.flat, AV.cl, AV.one, Value.oneCell', thenQ, blockQ, noGotoQ, ↓reduceIte, Nat.reduceEqDiff, reduceCtorEq, aCallV, tyX, Bd.take1, Bd.drop1, Bd.cells_len, Bd.one]
      refine APure.call (RefRight_pure T) ?_
      try simp only [bS, bA, thenQ, blockQ, noGotoQ]
      refine hC23 _ ?_
      try clear hC23 C23
      simp only [bL]
      refine aops_chunk 2 fun C24 hC24 => ?_
      simp only [bL, ↓aops, ↓aop, ↓aWant, ↓aVal, bS, bA, AV.flat, AV.cl, AV.one, Value.oneCell', thenQ, blockQ, noGotoQ, ↓reduceIte, Nat.reduceEqDiff, reduceCtorEq, aUn, tyX, Bd.take1, Bd.drop1, Bd.cells_len, Bd.one]
      refine hC24 _ ?_
      try clear hC24 C24
      simp only [bL]
      refine aops_case 28 rfl (fun hc28 => ?_) (fun hc28 => ?_)
      · simp only [List.set_cons_zero, List.set_cons_succ]
        have hr : T.right = false := by simpa using hc28
        have hM := mRes_arg (g := T) (t := U) (by rw [hr]; rfl)
        simp only [hM, List.map_nil]
        refine aops_chunk 2 fun C25 hC25 => ?_
        simp only [bL, ↓aops, ↓aop, ↓aWant, ↓aVal, bS, bA, AV.flat, AV.cl, AV.one, Value.oneCell', thenQ, blockQ, noGotoQ, ↓reduceIte, Nat.reduceEqDiff, reduceCtorEq, undef, aLoad, ti32, getO, pack, Nat.reduceAdd, Nat.reduceLeDiff, aCallV, tyX, Bd.take1, Bd.drop1, Bd.cells_len, Bd.one]
        refine hC25 _ ?_
        try clear hC25 C25
        simp only [bL]
        simp only [↓aops, ↓aop, ↓aWant, ↓aVal, bS, bA, AV.flat, AV.cl, AV.one, Value.oneCell', thenQ, blockQ, noGotoQ, ↓reduceIte, Nat.reduceEqDiff, reduceCtorEq, bL, undef, aUn, aBool, tyX, Bd.take1, Bd.drop1, Bd.cells_len, Bd.one]
        refine hK21 _ ?_
        try clear hK21 K21
        refine AWp_cond (b := true) (by first | exact rfl | exact congrArg (fun b => AV.v (.bool b)) hb32) (fun _ => ?_) (fun h => (by cases h))
        refine AWp_seqK fun K26 hK26 => ?_
        refine AWp_region ?_
        refine aops_chunk 2 fun C27 hC27 => ?_
        simp only [bL, ↓aops, ↓aop, ↓aWant, ↓aVal, bS, bA, AV.flat, AV.cl, AV.one, Value.oneCell', thenQ, blockQ, noGotoQ, ↓reduceIte, Nat.reduceEqDiff, reduceCtorEq, aBin, tyX, Bd.take1, Bd.drop1, Bd.cells_len, Bd.one]
        refine hC27 _ ?_
        try clear hC27 C27
        simp only [bL]
        refine aops_chunk 1 fun C28 hC28 => ?_
        simp only [bL, ↓aops, ↓aop, ↓aWant, ↓aVal, bS, bA, AV.flat, AV.cl, AV.one, Value.oneCell', thenQ, blockQ, noGotoQ, ↓reduceIte, Nat.reduceEqDiff, reduceCtorEq, tyX, Bd.take1, Bd.drop1, Bd.cells_len, Bd.one]
        refine hC28 _ ?_
        try clear hC28 C28
        simp only [bL]
        refine aops_case 35 rfl (fun hc35 => ?_) (fun hc35 => ?_)
        · simp only [List.set_cons_zero, List.set_cons_succ]
          refine aops_chunk 2 fun C29 hC29 => ?_
          simp only [bL, ↓aops, ↓aop, ↓aWant, ↓aVal, bS, bA, AV.flat, AV.cl, AV.one, Value.oneCell', thenQ, blockQ, noGotoQ, ↓reduceIte, Nat.reduceEqDiff, reduceCtorEq, undef, aLen, ln53, List.length_map, tyX, Bd.take1, Bd.drop1, Bd.cells_len, Bd.one]
          refine hC29 _ ?_
          try clear hC29 C29
          simp only [bL]
          refine aops_chunk 2 fun C30 hC30 => ?_
          simp only [bL, ↓aops, ↓aop, ↓aWant, ↓aVal, bS, bA, AV.flat, AV.cl, AV.one, Value.oneCell', thenQ, blockQ, noGotoQ, ↓reduceIte, Nat.reduceEqDiff, reduceCtorEq, undef, aBin, aBool, tyX, Bd.take1, Bd.drop1, Bd.cells_len, Bd.one]
          refine hC30 _ ?_
          try clear hC30 C30
          simp only [bL]
          refine aops_chunk 1 fun C31 hC31 => ?_
          simp only [bL, ↓aops, ↓aop, ↓aWant, ↓aVal, bS, bA, AV.flat, AV.cl, AV.one, Value.oneCell', thenQ, blockQ, noGotoQ, ↓reduceIte, Nat.reduceEqDiff, reduceCtorEq, tyX, Bd.take1, Bd.drop1, Bd.cells_len, Bd.one]
          refine hC31 _ ?_
          try clear hC31 C31
          simp only [bL]
          refine aops_case 40 rfl (fun hc40 => ?_) (fun hc40 => ?_)
          · simp only [List.set_cons_zero, List.set_cons_succ]
            refine aops_chunk 1 fun C32 hC32 => ?_
            simp only [bL, ↓aops, ↓aop, ↓aWant, ↓aVal, bS, bA, AV.flat, AV.cl, AV.one, Value.oneCell', thenQ, blockQ, noGotoQ, ↓reduceIte, Nat.reduceEqDiff, reduceCtorEq, undef, aCallV, tyX, Bd.take1, Bd.drop1, Bd.cells_len, Bd.one]
            refine APure.call (awake15_pure) ?_
            try simp only [bS, bA, thenQ, blockQ, noGotoQ]
            refine hC32 _ ?_
            try clear hC32 C32
            simp only [bL]
            simp only [↓aops, ↓aop, ↓aWant, ↓aVal, bS, bA, AV.flat, AV.cl, AV.one, Value.oneCell', thenQ, blockQ, noGotoQ, ↓reduceIte, Nat.reduceEqDiff, reduceCtorEq, aBool, tyX, Bd.take1, Bd.drop1, Bd.cells_len, Bd.one]
            refine hK26 _ ?_
            try clear hK26 K26
            refine AWp_ret ?_
            try simp only [thenQ, blockQ, noGotoQ, retQ, aRes, tupOf, bS, bA]
            exact Le.refl _
          · simp only [List.set_cons_zero, List.set_cons_succ]
            exact absurd hc40 (by simp)
        · simp only [List.set_cons_zero, List.set_cons_succ]
          exact absurd hc35 (by decide)
      · simp only [List.set_cons_zero, List.set_cons_succ]
        have hr1 : T.right = true := by simpa using hc28
        refine aops_chunk 1 fun C33 hC33 => ?_
        simp only [bL, ↓aops, ↓aop, ↓aWant, ↓aVal, bS, bA, AV.flat, AV.cl, AV.one, Value.oneCell', thenQ, blockQ, noGotoQ, ↓reduceIte, Nat.reduceEqDiff, reduceCtorEq, undef, aLoad, ti32, getO, pack, Nat.reduceAdd, Nat.reduceLeDiff, tyX, Bd.take1, Bd.drop1, Bd.cells_len, Bd.one]
        refine hC33 _ ?_
        try clear hC33 C33
        simp only [bL]
        refine aops_chunk 1 fun C34 hC34 => ?_
        simp only [bL, ↓aops, ↓aop, ↓aWant, ↓aVal, bS, bA, AV.flat, AV.cl, AV.one, Value.oneCell', thenQ, blockQ, noGotoQ, ↓reduceIte, Nat.reduceEqDiff, reduceCtorEq, undef, aCallV, tyX, Bd.take1, Bd.drop1, Bd.cells_len, Bd.one]
        refine APure.call (RefRight_pure U) ?_
        try simp only [bS, bA, thenQ, blockQ, noGotoQ]
        refine hC34 _ ?_
        try clear hC34 C34
        simp only [bL]
        simp only [↓aops, ↓aop, ↓aWant, ↓aVal, bS, bA, AV.flat, AV.cl, AV.one, Value.oneCell', thenQ, blockQ, noGotoQ, ↓reduceIte, Nat.reduceEqDiff, reduceCtorEq, bL, undef, aUn, aBool, tyX, Bd.take1, Bd.drop1, Bd.cells_len, Bd.one]
        refine hK21 _ ?_
        try clear hK21 K21
        refine AWp_cond rfl (fun hb32 => ?_) (fun hb32 => ?_)
        · skip
          have hr : U.right = false := by simpa using hb32
          have hM := mRes_arg (g := T) (t := U) (by rw [hr, hr1]; rfl)
          simp only [hM, List.map_nil]
          refine AWp_seqK fun K35 hK35 => ?_
          refine AWp_region ?_
          refine aops_chunk 2 fun C36 hC36 => ?_
          simp only [bL, ↓aops, ↓aop, ↓aWant, ↓aVal, bS, bA, AV.flat, AV.cl, AV.one, Value.oneCell', thenQ, blockQ, noGotoQ, ↓reduceIte, Nat.reduceEqDiff, reduceCtorEq, aBin, tyX, Bd.take1, Bd.drop1, Bd.cells_len, Bd.one]
          refine hC36 _ ?_
          try clear hC36 C36
          simp only [bL]
          refine aops_chunk 1 fun C37 hC37 => ?_
          simp only [bL, ↓aops, ↓aop, ↓aWant, ↓aVal, bS, bA, AV.flat, AV.cl, AV.one, Value.oneCell', thenQ, blockQ, noGotoQ, ↓reduceIte, Nat.reduceEqDiff, reduceCtorEq, tyX, Bd.take1, Bd.drop1, Bd.cells_len, Bd.one]
          refine hC37 _ ?_
          try clear hC37 C37
          simp only [bL]
          refine aops_case 35 rfl (fun hc35 => ?_) (fun hc35 => ?_)
          · simp only [List.set_cons_zero, List.set_cons_succ]
            refine aops_chunk 2 fun C38 hC38 => ?_
            simp only [bL, ↓aops, ↓aop, ↓aWant, ↓aVal, bS, bA, AV.flat, AV.cl, AV.one, Value.oneCell', thenQ, blockQ, noGotoQ, ↓reduceIte, Nat.reduceEqDiff, reduceCtorEq, undef, aLen, ln53, List.length_map, tyX, Bd.take1, Bd.drop1, Bd.cells_len, Bd.one]
            refine hC38 _ ?_
            try clear hC38 C38
            simp only [bL]
            refine aops_chunk 2 fun C39 hC39 => ?_
            simp only [bL, ↓aops, ↓aop, ↓aWant, ↓aVal, bS, bA, AV.flat, AV.cl, AV.one, Value.oneCell', thenQ, blockQ, noGotoQ, ↓reduceIte, Nat.reduceEqDiff, reduceCtorEq, undef, aBin, aBool, tyX, Bd.take1, Bd.drop1, Bd.cells_len, Bd.one]
            refine hC39 _ ?_
            try clear hC39 C39
            simp only [bL]
            refine aops_chunk 1 fun C40 hC40 => ?_
            simp only [bL, ↓aops, ↓aop, ↓aWant, ↓aVal, bS, bA, AV.flat, AV.cl, AV.one, Value.oneCell', thenQ, blockQ, noGotoQ, ↓reduceIte, Nat.reduceEqDiff, reduceCtorEq, tyX, Bd.take1, Bd.drop1, Bd.cells_len, Bd.one]
            refine hC40 _ ?_
            try clear hC40 C40
            simp only [bL]
            refine aops_case 40 rfl (fun hc40 => ?_) (fun hc40 => ?_)
            · simp only [List.set_cons_zero, List.set_cons_succ]
              refine aops_chunk 1 fun C41 hC41 => ?_
              simp only [bL, ↓aops, ↓aop, ↓aWant, ↓aVal, bS, bA, AV.flat, AV.cl, AV.one, Value.oneCell', thenQ, blockQ, noGotoQ, ↓reduceIte, Nat.reduceEqDiff, reduceCtorEq, undef, aCallV, tyX, Bd.take1, Bd.drop1, Bd.cells_len, Bd.one]
              refine APure.call (awake15_pure) ?_
              try simp only [bS, bA, thenQ, blockQ, noGotoQ]
              refine hC41 _ ?_
              try clear hC41 C41
              simp only [bL]
              simp only [↓aops, ↓aop, ↓aWant, ↓aVal, bS, bA, AV.flat, AV.cl, AV.one, Value.oneCell', thenQ, blockQ, noGotoQ, ↓reduceIte, Nat.reduceEqDiff, reduceCtorEq, aBool, tyX, Bd.take1, Bd.drop1, Bd.cells_len, Bd.one]
              refine hK35 _ ?_
              try clear hK35 K35
              refine AWp_ret ?_
              try simp only [thenQ, blockQ, noGotoQ, retQ, aRes, tupOf, bS, bA]
              exact Le.refl _
            · simp only [List.set_cons_zero, List.set_cons_succ]
              exact absurd hc40 (by simp)
          · simp only [List.set_cons_zero, List.set_cons_succ]
            exact absurd hc35 (by decide)
        · skip
          have hr2 : U.right = true := by simpa using hb32
          refine AWp_skip ?_
          try simp only [thenQ, blockQ, noGotoQ]
          refine hK20 _ ?_
          try clear hK20 K20
          refine AWp_seqK fun K42 hK42 => ?_
          refine AWp_region ?_
          refine aops_chunk 2 fun C43 hC43 => ?_
          simp only [bL, ↓aops, ↓aop, ↓aWant, ↓aVal, bS, bA, AV.flat, AV.cl, AV.one, Value.oneCell', thenQ, blockQ, noGotoQ, ↓reduceIte, Nat.reduceEqDiff, reduceCtorEq, aLoad, ti32, getO, pack, Nat.reduceAdd, Nat.reduceLeDiff, tyX, Bd.take1, Bd.drop1, Bd.cells_len, Bd.one]
          refine hC43 _ ?_
          try clear hC43 C43
          simp only [bL]
          refine aops_chunk 1 fun C44 hC44 => ?_
          simp only [bL, ↓aops, ↓aop, ↓aWant, ↓aVal, bS, bA, AV.flat, AV.cl, AV.one, Value.oneCell', thenQ, blockQ, noGotoQ, ↓reduceIte, Nat.reduceEqDiff, reduceCtorEq, aCallV, tyX, Bd.take1, Bd.drop1, Bd.cells_len, Bd.one]
          refine APure.call (RefMatch_pure T U (by omega)) ?_
          try simp only [bS, bA, thenQ, blockQ, noGotoQ]
          refine hC44 _ ?_
          try clear hC44 C44
          simp only [bL]
          refine aops_chunk 2 fun C45 hC45 => ?_
          simp only [bL, ↓aops, ↓aop, ↓aWant, ↓aVal, bS, bA, AV.flat, AV.cl, AV.one, Value.oneCell', thenQ, blockQ, noGotoQ, ↓reduceIte, Nat.reduceEqDiff, reduceCtorEq, aExtract, Nat.reduceAdd, Nat.reduceLT, Nat.zero_lt_succ, tyX, Bd.take1, Bd.drop1, Bd.cells_len, Bd.one]
          refine hC45 _ ?_
          try clear hC45 C45
          simp only [bL]
          refine aops_chunk 2 fun C46 hC46 => ?_
          simp only [bL, ↓aops, ↓aop, ↓aWant, ↓aVal, bS, bA, AV.flat, AV.cl, AV.one, Value.oneCell', thenQ, blockQ, noGotoQ, ↓reduceIte, Nat.reduceEqDiff, reduceCtorEq, aExtract, Nat.reduceAdd, Nat.reduceLT, Nat.zero_lt_succ, tyX, Bd.take1, Bd.drop1, Bd.cells_len, Bd.one]
          refine hC46 _ ?_
          try clear hC46 C46
          simp only [bL]
          simp only [↓aops, ↓aop, ↓aWant, ↓aVal, bS, bA, AV.flat, AV.cl, AV.one, Value.oneCell', thenQ, blockQ, noGotoQ, ↓reduceIte, Nat.reduceEqDiff, reduceCtorEq, tyX, Bd.take1, Bd.drop1, Bd.cells_len, Bd.one]
          refine hK42 _ ?_
          try clear hK42 K42
          refine AWp_seqK fun K47 hK47 => ?_
          refine AWp_seqK fun K48 hK48 => ?_
          refine AWp_region ?_
          simp only [↓aops, ↓aop, ↓aWant, ↓aVal, bS, bA, AV.flat, AV.cl, AV.one, Value.oneCell', thenQ, blockQ, noGotoQ, ↓reduceIte, Nat.reduceEqDiff, reduceCtorEq, aUn, tyX, Bd.take1, Bd.drop1, Bd.cells_len, Bd.one]
          refine hK48 _ ?_
          try clear hK48 K48
          refine AWp_cond rfl (fun hb50 => ?_) (fun hb50 => ?_)
          · skip
            have hW : (T.sub (wantB T U)).same U = false := by simpa using hb50
            have hM := law_no hr1 hr2 hW
            simp only [hM, List.map_nil]
            refine AWp_seqK fun K49 hK49 => ?_
            refine AWp_region ?_
            refine aops_chunk 2 fun C50 hC50 => ?_
            simp only [bL, ↓aops, ↓aop, ↓aWant, ↓aVal, bS, bA, AV.flat, AV.cl, AV.one, Value.oneCell', thenQ, blockQ, noGotoQ, ↓reduceIte, Nat.reduceEqDiff, reduceCtorEq, aBin, tyX, Bd.take1, Bd.drop1, Bd.cells_len, Bd.one]
            refine hC50 _ ?_
            try clear hC50 C50
            simp only [bL]
            refine aops_chunk 1 fun C51 hC51 => ?_
            simp only [bL, ↓aops, ↓aop, ↓aWant, ↓aVal, bS, bA, AV.flat, AV.cl, AV.one, Value.oneCell', thenQ, blockQ, noGotoQ, ↓reduceIte, Nat.reduceEqDiff, reduceCtorEq, tyX, Bd.take1, Bd.drop1, Bd.cells_len, Bd.one]
            refine hC51 _ ?_
            try clear hC51 C51
            simp only [bL]
            refine aops_case 53 rfl (fun hc53 => ?_) (fun hc53 => ?_)
            · simp only [List.set_cons_zero, List.set_cons_succ]
              refine aops_chunk 2 fun C52 hC52 => ?_
              simp only [bL, ↓aops, ↓aop, ↓aWant, ↓aVal, bS, bA, AV.flat, AV.cl, AV.one, Value.oneCell', thenQ, blockQ, noGotoQ, ↓reduceIte, Nat.reduceEqDiff, reduceCtorEq, undef, aLen, ln53, List.length_map, tyX, Bd.take1, Bd.drop1, Bd.cells_len, Bd.one]
              refine hC52 _ ?_
              try clear hC52 C52
              simp only [bL]
              refine aops_chunk 2 fun C53 hC53 => ?_
              simp only [bL, ↓aops, ↓aop, ↓aWant, ↓aVal, bS, bA, AV.flat, AV.cl, AV.one, Value.oneCell', thenQ, blockQ, noGotoQ, ↓reduceIte, Nat.reduceEqDiff, reduceCtorEq, undef, aBin, aBool, tyX, Bd.take1, Bd.drop1, Bd.cells_len, Bd.one]
              refine hC53 _ ?_
              try clear hC53 C53
              simp only [bL]
              refine aops_chunk 1 fun C54 hC54 => ?_
              simp only [bL, ↓aops, ↓aop, ↓aWant, ↓aVal, bS, bA, AV.flat, AV.cl, AV.one, Value.oneCell', thenQ, blockQ, noGotoQ, ↓reduceIte, Nat.reduceEqDiff, reduceCtorEq, tyX, Bd.take1, Bd.drop1, Bd.cells_len, Bd.one]
              refine hC54 _ ?_
              try clear hC54 C54
              simp only [bL]
              refine aops_case 58 rfl (fun hc58 => ?_) (fun hc58 => ?_)
              · simp only [List.set_cons_zero, List.set_cons_succ]
                refine aops_chunk 1 fun C55 hC55 => ?_
                simp only [bL, ↓aops, ↓aop, ↓aWant, ↓aVal, bS, bA, AV.flat, AV.cl, AV.one, Value.oneCell', thenQ, blockQ, noGotoQ, ↓reduceIte, Nat.reduceEqDiff, reduceCtorEq, undef, aCallV, tyX, Bd.take1, Bd.drop1, Bd.cells_len, Bd.one]
                refine APure.call (awake15_pure) ?_
                try simp only [bS, bA, thenQ, blockQ, noGotoQ]
                refine hC55 _ ?_
                try clear hC55 C55
                simp only [bL]
                simp only [↓aops, ↓aop, ↓aWant, ↓aVal, bS, bA, AV.flat, AV.cl, AV.one, Value.oneCell', thenQ, blockQ, noGotoQ, ↓reduceIte, Nat.reduceEqDiff, reduceCtorEq, aBool, tyX, Bd.take1, Bd.drop1, Bd.cells_len, Bd.one]
                refine hK49 _ ?_
                try clear hK49 K49
                refine AWp_ret ?_
                try simp only [thenQ, blockQ, noGotoQ, retQ, aRes, tupOf, bS, bA]
                exact Le.refl _
              · simp only [List.set_cons_zero, List.set_cons_succ]
                exact absurd hc58 (by simp)
            · simp only [List.set_cons_zero, List.set_cons_succ]
              exact absurd hc53 (by decide)
          · skip
            have hW : (T.sub (wantB T U)).same U = true := by simpa using hb50
            obtain ⟨hM, hM2⟩ := law_ok hr1 hr2 hW
            simp only [hM]
            refine AWp_skip ?_
            try simp only [thenQ, blockQ, noGotoQ]
            refine hK47 _ ?_
            try clear hK47 K47
            refine AWp_seqK fun K56 hK56 => ?_
            refine AWp_region ?_
            refine aops_chunk 2 fun C57 hC57 => ?_
            simp only [bL, ↓aops, ↓aop, ↓aWant, ↓aVal, bS, bA, AV.flat, AV.cl, AV.one, Value.oneCell', thenQ, blockQ, noGotoQ, ↓reduceIte, Nat.reduceEqDiff, reduceCtorEq, aLoad, ti32, getO, pack, Nat.reduceAdd, Nat.reduceLeDiff, tyX, Bd.take1, Bd.drop1, Bd.cells_len, Bd.one]
            refine hC57 _ ?_
            try clear hC57 C57
            simp only [bL]
            refine aops_chunk 1 fun C58 hC58 => ?_
            simp only [bL, ↓aops, ↓aop, ↓aWant, ↓aVal, bS, bA, AV.flat, AV.cl, AV.one, Value.oneCell', thenQ, blockQ, noGotoQ, ↓reduceIte, Nat.reduceEqDiff, reduceCtorEq, aCallV, tyX, Bd.take1, Bd.drop1, Bd.cells_len, Bd.one]
            refine APure.call (hMb) ?_
            try simp only [bS, bA, thenQ, blockQ, noGotoQ]
            refine hC58 _ ?_
            try clear hC58 C58
            simp only [bL]
            refine aops_chunk 2 fun C59 hC59 => ?_
            simp only [bL, ↓aops, ↓aop, ↓aWant, ↓aVal, bS, bA, AV.flat, AV.cl, AV.one, Value.oneCell', thenQ, blockQ, noGotoQ, ↓reduceIte, Nat.reduceEqDiff, reduceCtorEq, aExtract, Nat.reduceAdd, Nat.reduceLT, Nat.zero_lt_succ, tyX, Bd.take1, Bd.drop1, Bd.cells_len, Bd.one]
            refine hC59 _ ?_
            try clear hC59 C59
            simp only [bL]
            refine aops_chunk 2 fun C60 hC60 => ?_
            simp only [bL, ↓aops, ↓aop, ↓aWant, ↓aVal, bS, bA, AV.flat, AV.cl, AV.one, Value.oneCell', thenQ, blockQ, noGotoQ, ↓reduceIte, Nat.reduceEqDiff, reduceCtorEq, aExtract, Nat.reduceAdd, Nat.reduceLT, Nat.zero_lt_succ, tyX, Bd.take1, Bd.drop1, Bd.cells_len, Bd.one]
            refine hC60 _ ?_
            try clear hC60 C60
            simp only [bL]
            simp only [↓aops, ↓aop, ↓aWant, ↓aVal, bS, bA, AV.flat, AV.cl, AV.one, Value.oneCell', thenQ, blockQ, noGotoQ, ↓reduceIte, Nat.reduceEqDiff, reduceCtorEq, tyX, Bd.take1, Bd.drop1, Bd.cells_len, Bd.one]
            refine hK56 _ ?_
            try clear hK56 K56
            refine AWp_seqK fun K61 hK61 => ?_
            refine AWp_drawK 5 mixed (by kernel_rfl) fun K62 hK62 => ?_
            simp only [bL]
            refine dRun_chunk 1 fun C63 hC63 => ?_
            simp only [bL, ↓dRun, ↓dOp, ↓aops, ↓aop, ↓aWant, ↓aVal, bS, bA, AV.flat, AV.cl, AV.one, Value.oneCell', thenQ, blockQ, noGotoQ, ↓reduceIte, Nat.reduceEqDiff, reduceCtorEq, aLoad, ti32, getO, pack, Nat.reduceAdd, Nat.reduceLeDiff, tyX, Bd.take1, Bd.drop1, Bd.cells_len, Bd.one]
            refine hC63 _ ?_
            try clear hC63 C63
            simp only [bL]
            refine dRun_chunk 1 fun C64 hC64 => ?_
            simp only [bL, ↓dRun, ↓dOp, ↓aops, ↓aop, ↓aWant, ↓aVal, bS, bA, AV.flat, AV.cl, AV.one, Value.oneCell', thenQ, blockQ, noGotoQ, ↓reduceIte, Nat.reduceEqDiff, reduceCtorEq, aCallV, tyX, Bd.take1, Bd.drop1, Bd.cells_len, Bd.one]
            refine ⟨_, Canon_pure T (by omega), ?_⟩
            try simp only [bS, bA, thenQ, blockQ, noGotoQ]
            refine hC64 _ ?_
            try clear hC64 C64
            simp only [bL]
            refine dRun_chunk 1 fun C65 hC65 => ?_
            simp only [bL, ↓dRun, ↓dOp, ↓aops, ↓aop, ↓aWant, ↓aVal, bS, bA, AV.flat, AV.cl, AV.one, Value.oneCell', thenQ, blockQ, noGotoQ, ↓reduceIte, Nat.reduceEqDiff, reduceCtorEq, aLoad, ti32, getO, pack, Nat.reduceAdd, Nat.reduceLeDiff, tyX, Bd.take1, Bd.drop1, Bd.cells_len, Bd.one]
            refine hC65 _ ?_
            try clear hC65 C65
            simp only [bL]
            refine dRun_chunk 1 fun C66 hC66 => ?_
            simp only [bL, ↓dRun, ↓dOp, ↓aops, ↓aop, ↓aWant, ↓aVal, bS, bA, AV.flat, AV.cl, AV.one, Value.oneCell', thenQ, blockQ, noGotoQ, ↓reduceIte, Nat.reduceEqDiff, reduceCtorEq, aCallV, tyX, Bd.take1, Bd.drop1, Bd.cells_len, Bd.one]
            refine ⟨_, Canon_pure U (by omega), ?_⟩
            try simp only [bS, bA, thenQ, blockQ, noGotoQ]
            refine hC66 _ ?_
            try clear hC66 C66
            simp only [bL]
            simp only [↓dRun, ↓dOp, bL, ↓aops, ↓aop, ↓aWant, ↓aVal, bS, bA, AV.flat, AV.cl, AV.one, Value.oneCell', thenQ, blockQ, noGotoQ, ↓reduceIte, Nat.reduceEqDiff, reduceCtorEq, aCallV, tyX, Bd.take1, Bd.drop1, Bd.cells_len, Bd.one]
            refine ⟨_, Same_pure T.canon U.canon, ?_⟩
            try simp only [bS, bA, thenQ, blockQ, noGotoQ]
            refine hK62 _ ?_
            try clear hK62 K62
            simp only [bL]
            simp only [↓aops, ↓aop, ↓aWant, ↓aVal, bS, bA, AV.flat, AV.cl, AV.one, Value.oneCell', thenQ, blockQ, noGotoQ, ↓reduceIte, Nat.reduceEqDiff, reduceCtorEq, tyX, Bd.take1, Bd.drop1, Bd.cells_len, Bd.one]
            refine hK61 _ ?_
            try clear hK61 K61
            refine AWp_seqK fun K67 hK67 => ?_
            refine AWp_drawK 23 mixed (by kernel_rfl) fun K68 hK68 => ?_
            simp only [bL]
            refine dRun_chunk 2 fun C69 hC69 => ?_
            simp only [bL, ↓dRun, ↓dOp, ↓aops, ↓aop, ↓aWant, ↓aVal, bS, bA, AV.flat, AV.cl, AV.one, Value.oneCell', thenQ, blockQ, noGotoQ, ↓reduceIte, Nat.reduceEqDiff, reduceCtorEq, aBin, tyX, Bd.take1, Bd.drop1, Bd.cells_len, Bd.one]
            refine hC69 _ ?_
            try clear hC69 C69
            simp only [bL]
            refine dRun_chunk 1 fun C70 hC70 => ?_
            simp only [bL, ↓dRun, ↓dOp, ↓aops, ↓aop, ↓aWant, ↓aVal, bS, bA, AV.flat, AV.cl, AV.one, Value.oneCell', thenQ, blockQ, noGotoQ, ↓reduceIte, Nat.reduceEqDiff, reduceCtorEq, tyX, Bd.take1, Bd.drop1, Bd.cells_len, Bd.one]
            refine hC70 _ ?_
            try clear hC70 C70
            simp only [bL]
            refine dRun_case 74 rfl (fun hc74 => ?_) (fun hc74 => ?_)
            · simp only [List.set_cons_zero, List.set_cons_succ]
              refine dRun_chunk 2 fun C71 hC71 => ?_
              simp only [bL, ↓dRun, ↓dOp, ↓aops, ↓aop, ↓aWant, ↓aVal, bS, bA, AV.flat, AV.cl, AV.one, Value.oneCell', thenQ, blockQ, noGotoQ, ↓reduceIte, Nat.reduceEqDiff, reduceCtorEq, undef, tyX, Bd.take1, Bd.drop1, Bd.cells_len, Bd.one]
              refine hC71 _ ?_
              try clear hC71 C71
              simp only [bL]
              refine dRun_chunk 1 fun C72 hC72 => ?_
              simp only [bL, ↓dRun, ↓dOp, ↓aops, ↓aop, ↓aWant, ↓aVal, bS, bA, AV.flat, AV.cl, AV.one, Value.oneCell', thenQ, blockQ, noGotoQ, ↓reduceIte, Nat.reduceEqDiff, reduceCtorEq, undef, aCallV, tyX, Bd.take1, Bd.drop1, Bd.cells_len, Bd.one]
              refine ⟨_, SameB_pure (wantB T U) (wantB T U), ?_⟩
              try simp only [bS, bA, thenQ, blockQ, noGotoQ]
              refine hC72 _ ?_
              try clear hC72 C72
              simp only [bL]
              refine dRun_chunk 2 fun C73 hC73 => ?_
              simp only [bL, ↓dRun, ↓dOp, ↓aops, ↓aop, ↓aWant, ↓aVal, bS, bA, AV.flat, AV.cl, AV.one, Value.oneCell', thenQ, blockQ, noGotoQ, ↓reduceIte, Nat.reduceEqDiff, reduceCtorEq, aBool, tyX, Bd.take1, Bd.drop1, Bd.cells_len, Bd.one]
              refine hC73 _ ?_
              try clear hC73 C73
              simp only [bL]
              refine dRun_case 79 rfl (fun hc79 => ?_) (fun hc79 => ?_)
              · simp only [List.set_cons_zero, List.set_cons_succ]
                refine dRun_chunk 2 fun C74 hC74 => ?_
                simp only [bL, ↓dRun, ↓dOp, ↓aops, ↓aop, ↓aWant, ↓aVal, bS, bA, AV.flat, AV.cl, AV.one, Value.oneCell', thenQ, blockQ, noGotoQ, ↓reduceIte, Nat.reduceEqDiff, reduceCtorEq, undef, aLoad, ti32, getO, pack, Nat.reduceAdd, Nat.reduceLeDiff, tyX, Bd.take1, Bd.drop1, Bd.cells_len, Bd.one]
                refine hC74 _ ?_
                try clear hC74 C74
                simp only [bL]
                refine dRun_chunk 1 fun C75 hC75 => ?_
                simp only [bL, ↓dRun, ↓dOp, ↓aops, ↓aop, ↓aWant, ↓aVal, bS, bA, AV.flat, AV.cl, AV.one, Value.oneCell', thenQ, blockQ, noGotoQ, ↓reduceIte, Nat.reduceEqDiff, reduceCtorEq, undef, aCallV, tyX, Bd.take1, Bd.drop1, Bd.cells_len, Bd.one]
                refine ⟨_, Apply_pure T (wantB T U) (by omega), ?_⟩
                try simp only [bS, bA, thenQ, blockQ, noGotoQ]
                refine hC75 _ ?_
                try clear hC75 C75
                simp only [bL]
                refine dRun_chunk 1 fun C76 hC76 => ?_
                simp only [bL, ↓dRun, ↓dOp, ↓aops, ↓aop, ↓aWant, ↓aVal, bS, bA, AV.flat, AV.cl, AV.one, Value.oneCell', thenQ, blockQ, noGotoQ, ↓reduceIte, Nat.reduceEqDiff, reduceCtorEq, undef, aLoad, ti32, getO, pack, Nat.reduceAdd, Nat.reduceLeDiff, tyX, Bd.take1, Bd.drop1, Bd.cells_len, Bd.one]
                refine hC76 _ ?_
                try clear hC76 C76
                simp only [bL]
                refine dRun_chunk 1 fun C77 hC77 => ?_
                simp only [bL, ↓dRun, ↓dOp, ↓aops, ↓aop, ↓aWant, ↓aVal, bS, bA, AV.flat, AV.cl, AV.one, Value.oneCell', thenQ, blockQ, noGotoQ, ↓reduceIte, Nat.reduceEqDiff, reduceCtorEq, undef, aCallV, tyX, Bd.take1, Bd.drop1, Bd.cells_len, Bd.one]
                refine ⟨_, Same_pure (T.sub (wantB T U)) U, ?_⟩
                try simp only [bS, bA, thenQ, blockQ, noGotoQ]
                refine hC77 _ ?_
                try clear hC77 C77
                simp only [bL]
                refine dRun_chunk 2 fun C78 hC78 => ?_
                simp only [bL, ↓dRun, ↓dOp, ↓aops, ↓aop, ↓aWant, ↓aVal, bS, bA, AV.flat, AV.cl, AV.one, Value.oneCell', thenQ, blockQ, noGotoQ, ↓reduceIte, Nat.reduceEqDiff, reduceCtorEq, aBool, tyX, Bd.take1, Bd.drop1, Bd.cells_len, Bd.one]
                refine hC78 _ ?_
                try clear hC78 C78
                simp only [bL]
                refine dRun_case 86 rfl (fun hc86 => ?_) (fun hc86 => ?_)
                · simp only [List.set_cons_zero, List.set_cons_succ]
                  refine dRun_chunk 2 fun C79 hC79 => ?_
                  simp only [bL, ↓dRun, ↓dOp, ↓aops, ↓aop, ↓aWant, ↓aVal, bS, bA, AV.flat, AV.cl, AV.one, Value.oneCell', thenQ, blockQ, noGotoQ, ↓reduceIte, Nat.reduceEqDiff, reduceCtorEq, undef, aBin, tyX, Bd.take1, Bd.drop1, Bd.cells_len, Bd.one]
                  refine hC79 _ ?_
                  try clear hC79 C79
                  simp only [bL]
                  refine dRun_chunk 2 fun C80 hC80 => ?_
                  simp only [bL, ↓dRun, ↓dOp, ↓aops, ↓aop, ↓aWant, ↓aVal, bS, bA, AV.flat, AV.cl, AV.one, Value.oneCell', thenQ, blockQ, noGotoQ, ↓reduceIte, Nat.reduceEqDiff, reduceCtorEq, undef, aBin, bt4, tyX, Bd.take1, Bd.drop1, Bd.cells_len, Bd.one]
                  refine hC80 _ ?_
                  try clear hC80 C80
                  simp only [bL]
                  refine dRun_chunk 2 fun C81 hC81 => ?_
                  simp only [bL, ↓dRun, ↓dOp, ↓aops, ↓aop, ↓aWant, ↓aVal, bS, bA, AV.flat, AV.cl, AV.one, Value.oneCell', thenQ, blockQ, noGotoQ, ↓reduceIte, Nat.reduceEqDiff, reduceCtorEq, aBool, tyX, Bd.take1, Bd.drop1, Bd.cells_len, Bd.one]
                  refine hC81 _ ?_
                  try clear hC81 C81
                  simp only [bL]
                  refine dRun_case 92 rfl (fun hc92 => ?_) (fun hc92 => ?_)
                  · simp only [List.set_cons_zero, List.set_cons_succ]
                    refine dRun_chunk 1 fun C82 hC82 => ?_
                    simp only [bL, ↓dRun, ↓dOp, ↓aops, ↓aop, ↓aWant, ↓aVal, bS, bA, AV.flat, AV.cl, AV.one, Value.oneCell', thenQ, blockQ, noGotoQ, ↓reduceIte, Nat.reduceEqDiff, reduceCtorEq, undef, aCallV, tyX, Bd.take1, Bd.drop1, Bd.cells_len, Bd.one]
                    refine ⟨_, awake15_pure, ?_⟩
                    try simp only [bS, bA, thenQ, blockQ, noGotoQ]
                    refine hC82 _ ?_
                    try clear hC82 C82
                    simp only [bL]
                    simp only [↓dRun, ↓dOp, bL, ↓aops, ↓aop, ↓aWant, ↓aVal, bS, bA, AV.flat, AV.cl, AV.one, Value.oneCell', thenQ, blockQ, noGotoQ, ↓reduceIte, Nat.reduceEqDiff, reduceCtorEq, aBool, tyX, Bd.take1, Bd.drop1, Bd.cells_len, Bd.one]
                    refine hK68 _ ?_
                    try clear hK68 K68
                    simp only [bL]
                    simp only [↓aops, ↓aop, ↓aWant, ↓aVal, bS, bA, AV.flat, AV.cl, AV.one, Value.oneCell', thenQ, blockQ, noGotoQ, ↓reduceIte, Nat.reduceEqDiff, reduceCtorEq, tyX, Bd.take1, Bd.drop1, Bd.cells_len, Bd.one]
                    refine hK67 _ ?_
                    try clear hK67 K67
                    refine AWp_ret ?_
                    try simp only [thenQ, blockQ, noGotoQ, retQ, aRes, tupOf, bS, bA]
                    exact Le.refl _
                  · simp only [List.set_cons_zero, List.set_cons_succ]
                    exact absurd hc92 (by rw [hM2]; cases T.canon.same U.canon <;> simp)
                · simp only [List.set_cons_zero, List.set_cons_succ]
                  exact absurd hc86 (by rw [hW]; simp)
              · simp only [List.set_cons_zero, List.set_cons_succ]
                exact absurd hc79 (by rw [(sameB_iff (a := wantB T U) (b := wantB T U)).2 rfl]; simp)
            · simp only [List.set_cons_zero, List.set_cons_succ]
              exact absurd hc74 (by decide)
end Go.Proofs.Ytohdoloalolpfaa
